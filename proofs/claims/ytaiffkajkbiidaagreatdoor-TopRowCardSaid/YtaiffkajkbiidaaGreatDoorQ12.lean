/- What this claim leans on, part 12: laws of the model, and what functions of the program compute. No condition but what each law states. -/
import Derived.Test.YtaiffkajkbiidaaGreatDoorQ11
namespace Go.Proofs.YtaiffkajkbiidaaGreatDoor
set_option linter.unusedSimpArgs false
set_option linter.unusedVariables false
set_option linter.unusedSectionVars false
set_option maxRecDepth 100000
set_option maxHeartbeats 40000000
open Go.Proofs.Tryz
open Tryz
section
open Go.RowKit
theorem nR (n:Nat)(W:World):(convert 3 194 (.int .i64 (n:Int))).run prog W=.ok (.float .f64 (FL n)) W:=by kernel_rfl
theorem Dr {n:Nat}(h:n<208)(W:World):(convert 194 3 (.float .f64 (FL n))).run prog W=.ok (.int .i64 (n:Int)) W:=by
 have h1:=abw h
 have h2:(IntKind.i64.min<=(n:Int)/\(n:Int)<=IntKind.i64.max):=⟨by have:IntKind.i64.min=-9223372036854775808:=rfl;omega,by have:IntKind.i64.max=9223372036854775807:=rfl;omega⟩
 unfold convert
 simp[run_underlying underlying3,run_underlying underlying194,Conv.floatToInt,h1,h2]
 intro h3
 exfalso
 omega
theorem Mx (x m g:Nat)(hx:x<=m)(hm:m<208)(w:World)(hc:w.cell? ⟨g,0,none⟩=some (.int .i64 (m:Int))) :
  Calls prog 126 #[.float .f64 (FL x),.pointer (some ⟨g,0,none⟩)] w λe w'=>e=.returned (.bool true)/\w=w':=by
 have Mh:x<208:=by omega
 have c1:=λW=>nR m W
 have c2:=λW=>nR x W
 have c3:=λW=>Dr Mh W
 have e1:=afZ Mh
 have e2:=afY hx hm
 have e3:=aga Mh
 generalize FL x=fx at *
 generalize FL m=fm at *
 clear hx hm Mh
 obtain⟨p1,E1⟩:∃p,Hid (FloatKind.f64.format.order fx 0=p):=⟨_,aR rfl⟩
 obtain⟨p2,E2⟩:∃p,Hid (FloatKind.f64.format.order fx fm=p):=⟨_,aR rfl⟩
 obtain⟨p3,E3⟩:∃p,Hid (FloatKind.f64.format.order fx fx=p):=⟨_,aR rfl⟩
 have o1:=E1.out
 have o2:=E2.out
 have o3:=E3.out
 rw[o1] at e1
 rw[o2] at e2
 rw[o3] at e3
 have e1':p1=some .gt∨p1=some .eq:=by simpa using e1
 have e2':p2=some .lt∨p2=some .eq:=by simpa using e2
 have e3':p3=some .eq:=by simpa using e3
 subst e3'
 clear e1 e2 e3 E1 E2 E3
 rcases e1' with rfl|rfl<;>rcases e2' with rfl|rfl
 all_goals
  go_enter func126,ntmps126
  go_wp2
  go_ret
  exact⟨rfl,rfl⟩
theorem Eo (at_ n m:Nat)(h:at_+n<=m)(hm:m<208)(w:World) :
  Calls prog 116 #[.complex .f64 (FL at_) (FL n),.int .i64 (m:Int)] w λe w'=>e=.returned (.tuple #[.int .i64 (at_:Int),.int .i64 (n:Int),.bool true])/\Below w.heap.size w w':=by
 have hmf:∀(fn:Fn) (first cap:Array Value) (w:World),(Instr.makeFunc fn first cap).run prog w=.ok (.func fn first cap) w:=λ_ _ _ _=>rfl
 have hnot:∀(x:Bool) (w:World),(Op.unary .not (.bool x)).run prog w=.ok (.bool (!x)) w:=λ_ _=>rfl
 have d3:=λW=>Dr (show at_<208 by omega) W
 have d4:=λW=>Dr (show n<208 by omega) W
 have M0:=aA.new w 3 #[.int .i64 (m:Int)]
 have hbel:=bN w (.cells #[.int .i64 (m:Int)] 3)
 have hc:(w.alloc (.cells #[.int .i64 (m:Int)] 3)).cell? ⟨w.heap.size,0,none⟩=some (.int .i64 (m:Int)):=by rw[M0.cell];rfl
 have hf0:=Mx at_ m w.heap.size (by omega) hm _ hc
 have hf1:=Mx n m w.heap.size (by omega) hm _ hc
 obtain⟨k,Hk⟩:=bD (m-at_)
 have hk:(m:Int)-(at_:Int)=(k:Int):=by rw[←Hk.out];omega
 have hle:(n:Int)<=(k:Int):=by rw[←Hk.out];omega
 have hd:decide ((k:Int)<(n:Int))=false:=by simp;omega
 have hw:IntKind.i64.wrap (k:Int)=(k:Int):=IntWalk.i64_in _ (by rw[←Hk.out];omega)
 generalize FL at_=fa at *
 generalize FL n=fn at *
 clear h hm Hk
 go_enter func116,ntmps116
 go_wp2_with fail
 refine hf0.mono ?_
 rintro e w1 ⟨rfl,rfl⟩
 go_wp2_with fail
 refine hf1.mono ?_
 rintro e w1 ⟨rfl,rfl⟩
 go_wp2_with fail
 refine bodyPost_ret (v:=.tuple #[.int .i64 (at_:Int),.int .i64 (n:Int),.bool true]) ?_ rfl ⟨rfl,hbel⟩
 simp[results,results116]
theorem uD (at_ n:Nat)(xs:List Nat)(h:at_+n<=xs.length)(hm:xs.length<208)(a:Option Addr)(c:Nat)(hc:xs.length<=c)(w:World)(hs:Sl w a .u8 xs) :
  Calls prog 107 #[.slice a xs.length c,.complex .f64 (FL at_) (FL n)] w λe w'=>∃v,e=.returned (.tuple #[v,.bool true])/\Own w' w.heap.size 5 .u8 v ((xs.drop at_).take n)/\Below w.heap.size w w':=by
 obtain⟨N,HN⟩:=bD (xs.length)
 rw[HN.out] at h hm hc ⊢
 have hwh:=Eo at_ n N h hm w
 have hcl:=λad cd W (hs:Sl W ad .u8 ((xs.drop at_).take n))=>yO ad cd n ((xs.drop at_).take n) (by rw[List.length_take,List.length_drop,HN.out];omega) (by rw[List.length_take];omega) W hs
 go_enter func107,ntmps107
 go_wp2_with fail
 refine hwh.mono ?_
 rintro e w1 ⟨rfl,hb1⟩
 have hs1:=hs.below hb1
 obtain⟨k,Hk⟩:=bD (at_+n)
 have hk:(at_:Int)+(n:Int)=(k:Int):=by rw[←Hk.out];omega
 have hkn:k-at_=n:=by rw[←Hk.out];omega
 have hak:at_<=k:=by rw[←Hk.out];omega
 have hkc:k<=c:=by rw[←Hk.out];omega
 have hw:IntKind.i64.wrap (k:Int)=(k:Int):=IntWalk.i64_in _ (by rw[←Hk.out];omega)
 have adT:xs.length<=c:=by rw[HN.out];exact hc
 clear hwh h hm
 go_wp2_with (refine xy (m:=at_) (n:=k) rfl rfl underlying23 s15 rfl rfl rfl hak hkc adT hs1 ?_;intro sI hsl2;rw[hkn] at hsl2 ⊢;(try simp only[nn,Nat.reduceAdd]))
 refine(hcl sI (c-at_) w1 hsl2).mono ?_
 rintro e w2 ⟨v,rfl,O,hb2⟩
 obtain⟨av,cv,rfl,-,-,-⟩:=O.mZ
 go_wp2_with fail
 refine bodyPost_ret (v:=.tuple #[.slice av ((xs.drop at_).take n).length cv,.bool true]) (by simp[results,results107]) rfl ⟨_,rfl,O.mono hb1.size,bC hb1 hb2⟩
end
section
open Go.RowKit
theorem TQ (g a:Nat)(L:List Nat)(ha:a<256)(hL:L.length=512)(w:World)(B0:aA w g 69 (ints .u8 L)) :
  Calls prog 96 #[.pointer (some ⟨g,0,none⟩),.int .u8 (a:Int)] w λe w'=>e=.returned (.int .u8 (L.getD (256+a) 0:Nat))/\w=w':=by
 have hai:(a:Int)<256:=by omega
 have c0:=B0.int (i:=256+a) (by omega)
 generalize L.getD (256+a) 0=v at *
 go_enter func96,ntmps96
 go_wp2
 go_ret
 exact⟨rfl,rfl⟩
theorem rA (x k:List Nat)(hx:x.length=16)(hxb:∀y∈x,y<256)(hk:k.length=16)(hkb:∀y∈k,y<256)(w:World) :
  Calls prog 64 #[.agg (ints .u8 x),.agg (ints .u8 k)] w λe w'=>e=.returned (.agg (ints .u8 (eT x k)))/\Below w.heap.size w w':=by
 have A0:=((aA.new w 96 (ints .u8 x)).alloc (.cells (ints .u8 k) 96)).alloc (.cells (ints .u8 (zeros 16)) 96)
 have A1:=(aA.new (w.alloc (.cells (ints .u8 x) 96)) 96 (ints .u8 k)).alloc (.cells (ints .u8 (zeros 16)) 96)
 have A2:=aA.new ((w.alloc (.cells (ints .u8 x) 96)).alloc (.cells (ints .u8 k) 96)) 96 (ints .u8 (zeros 16))
 have hbel0:=((bN w (.cells (ints .u8 x) 96)).alloc (by simp) (.cells (ints .u8 k) 96)).alloc (by simp;omega) (.cells (ints .u8 (zeros 16)) 96)
 simp only[World.size_alloc,Nat.add_assoc,Nat.reduceAdd] at A1 A2
 go_enter func64,ntmps64
 go_wp2_with ((first|(refine ae rfl 96 rfl fw ?_));(try simp only[nn,Nat.reduceAdd]))
 generalize (((w.alloc (.cells (ints .u8 x) 96)).alloc (.cells (ints .u8 k) 96)).alloc (.cells (ints .u8 (zeros 16)) 96))=w0 at *
 go_loopw [6] (λt wr=>∃q:Nat,q<=16/\t=.int .i64 (q:Int)/\aA wr w.heap.size 96 (ints .u8 (qI x k q))/\aA wr (w.heap.size+1) 96 (ints .u8 k)/\aA wr (w.heap.size+2) 96 (ints .u8 (zeros 16))/\Below w.heap.size w wr) (λt wr=>16-(intOf t).toNat)
 case atStart=>exact⟨0,by omega,rfl,by rw[mh];exact A0,A1,A2,hbel0⟩
 case round =>
  clear A0 A1 A2 hbel0
  obtain⟨q,hq,rfl,M0,M1,M2,hbel⟩:=hrel
  by_cases hlq:q<16
  ·have hd2:decide ((q:Int)<16)=true:=by simp;omega
   have hxl:=oq (ys:=k) hx hq
   have c0:=M0.int (i:=q) (by omega)
   rw[ow hx hlq] at c0
   have c1:=M1.int (i:=q) (by omega)
   have z0:=M0.frozen q
   have hqi:(q:Int)<16:=by omega
   have zn:=M0.dw q (x.getD q 0^^^k.getD q 0)
   rw[oo hx hlq] at zn
   have HX:=aR (tC (aC hxb (by decide) q) (aC hkb (by decide) q))
   have P0:=aR zn.drew
   have P1:=aR (M1.far (p:=⟨w.heap.size,q,none⟩) (show w.heap.size+1≠w.heap.size by omega) (.int .u8 ((x.getD q 0^^^k.getD q 0:Nat):Int))).drew
   have P2:=aR (M2.far (p:=⟨w.heap.size,q,none⟩) (show w.heap.size+2≠w.heap.size by omega) (.int .u8 ((x.getD q 0^^^k.getD q 0:Nat):Int))).drew
   have R2:=aR (hbel.setCell (p:=⟨w.heap.size,q,none⟩) dM (.int .u8 ((x.getD q 0^^^k.getD q 0:Nat):Int))).drew
   clear M0 M1 M2 zn hbel hxl
   generalize x.getD q 0=xv at *
   generalize k.getD q 0=kv at *
   go_wp2_with fail
   go_region
   rw[HX.out]
   go_wp2_with fail
   exact⟨⟨q+1,by omega,by go_num,P0.out,P1.out,P2.out,R2.out⟩,by simp[intOf]<;>omega⟩
  ·have eq:q=16:=by omega
   have hd2:decide ((q:Int)<16)=false:=by simp;omega
   rw[eq,mi hx] at M0
   clear eq
   have hzl:=cK x k
   go_wp2_with ((first|(refine ag rfl 96 _ rfl _ rfl M0 aD hzl ?_)|(refine aa rfl 96 _ _ rfl _ rfl rfl M2 (ah _ _) aD hzl ?_));(try simp only[nn,Nat.reduceAdd]))
   refine aO rfl rfl (M2.row _) aD hzl ⟨rfl,?_⟩
   exact az hbel (by omega) _
def tu (L b:List Nat):Nat->List Nat
 | 0=>zeros 16
 | q+1=>(tu L b q).set (qJ (q%4) (q/4)) (L.getD (256+b.getD q 0) 0)
def PU (L b:List Nat):List Nat:=tu L b 16
theorem kQ (L b:List Nat):∀q,(tu L b q).length=16
 | 0=>aH _
 | q+1=>by unfold tu;rw[List.length_set,kQ L b q]
theorem BZ {L:List Nat}(hL:∀x∈L,x<256)(b:List Nat):∀q,∀x∈tu L b q,x<256
 | 0=>dh 16 (by decide)
 | q+1=>by unfold tu;exact oL (BZ hL b q) (aC hL (by decide) _)
theorem Tryz.pB:prog.underlying 50=some (.pointer 69):=underlying50
theorem Am (g gb:Nat)(L b:List Nat)(hL:L.length=512)(DZ:∀x∈L,x<256)(hb:b.length=16)(hbb:∀x∈b,x<256)(w:World)(hT:ng w g gb L 1024)(hB:aA w gb 69 (ints .u8 L)) :
  Calls prog 125 #[.pointer (some ⟨g,0,none⟩),.agg (ints .u8 b)] w λe w'=>e=.returned (.agg (ints .u8 (PU L b)))/\Below w.heap.size w w':=by
 have A0:=((aA.new w 96 (ints .u8 b)).alloc (.cells (ints .u8 (zeros 16)) 96)).alloc (.cells (ints .u8 (zeros 16)) 96)
 have A1:=(aA.new (w.alloc (.cells (ints .u8 b) 96)) 96 (ints .u8 (zeros 16))).alloc (.cells (ints .u8 (zeros 16)) 96)
 have A2:=aA.new ((w.alloc (.cells (ints .u8 b) 96)).alloc (.cells (ints .u8 (zeros 16)) 96)) 96 (ints .u8 (zeros 16))
 have hbel0:=((bN w (.cells (ints .u8 b) 96)).alloc (by simp) (.cells (ints .u8 (zeros 16)) 96)).alloc (by simp;omega) (.cells (ints .u8 (zeros 16)) 96)
 simp only[World.size_alloc,Nat.add_assoc,Nat.reduceAdd] at A1 A2
 go_enter func125,ntmps125
 go_wp2_with ((first|(refine ae rfl 96 rfl fw ?_));(try simp only[nn,Nat.reduceAdd]))
 generalize (((w.alloc (.cells (ints .u8 b) 96)).alloc (.cells (ints .u8 (zeros 16)) 96)).alloc (.cells (ints .u8 (zeros 16)) 96))=w0 at *
 go_loopw [8] (λt wr=>∃c:Nat,c<=4/\t=.int .i64 (c:Int)/\aA wr w.heap.size 96 (ints .u8 b)/\aA wr (w.heap.size+1) 96 (ints .u8 (zeros 16))/\aA wr (w.heap.size+2) 96 (ints .u8 (tu L b (4*c)))/\Below w.heap.size w wr) (λt wr=>4-(intOf t).toNat)
 case atStart=>exact⟨0,by omega,rfl,A0,A1,A2,hbel0⟩
 case round =>
  clear A0 A1 A2 hbel0
  obtain⟨c,hc,rfl,A0,A1,A2,hbel⟩:=hrel
  by_cases hlt:c<4
  ·have hd:decide ((c:Int)<4)=true:=by simp;omega
   obtain⟨p,Hp⟩:=bD (4*c)
   have hp:4*(c:Int)=(p:Int):=by rw[←Hp.out];omega
   have SH:p+4<=16:=by rw[←Hp.out];omega
   rw[Hp.out] at A2
   go_wp2_with fail
   go_loopw [11] (λt wr'=>∃r:Nat,r<=4/\t=.int .i64 (r:Int)/\aA wr' w.heap.size 96 (ints .u8 b)/\aA wr' (w.heap.size+1) 96 (ints .u8 (zeros 16))/\aA wr' (w.heap.size+2) 96 (ints .u8 (tu L b (p+r)))/\Below w.heap.size w wr') (λt wr'=>4-(intOf t).toNat)
   case atStart=>exact⟨0,by omega,rfl,A0,A1,A2,hbel⟩
   case round =>
    clear A0 A1 A2 hbel
    obtain⟨r,hr,rfl,A0,A1,A2,hbel⟩:=hrel
    by_cases hlr:r<4
    ·have hd2:decide ((r:Int)<4)=true:=by simp;omega
     have hsc:=uZ r c hlr hlt
     have hsh:=Ja (c:=c) hlr
     have HU:Hid (tu L b (p+(r+1))=(tu L b (p+r)).set (qJ r c) (L.getD (256+b.getD (p+r) 0) 0)):=aR (by
      rw[show p+(r+1)=(p+r)+1 from rfl,tu]
      rw[show (p+r)%4=r by rw[←Hp.out];omega,show (p+r)/4=c by rw[←Hp.out];omega])
     have Mi:=kQ L b (p+r)
     have c0:=A0.int (i:=p+r) (by omega)
     have hx:=aC hbb (by decide) (p+r)
     generalize b.getD (p+r) 0=x at *
     have hq:IntKind.i64.wrap ((r:Int)+(p:Int))=((p+r:Nat):Int):=(IntWalk.i64_in _ (by omega)).trans (by omega)
     have hqi:((p+r:Nat):Int)<16:=by omega
     generalize p+r=q at *
     generalize qJ r c=j at *
     have hji:(j:Int)<16:=by omega
     have hbk:=λ(W:World) (h:Below wr.heap.size wr W)=>TQ gb x L hx hL W ((hB.below' hbel).below' h)
     have T2:=hT.below hbel
     have cb:=T2.box
     have tl:=T2.lt
     have al:=A0.lt
     have hyb:L.getD (256+x) 0<256:=aC DZ (by decide) _
     generalize L.getD (256+x) 0=y at *
     go_wp2_with fail
     refine bR 14 (by kernel_rfl) (by kernel_rfl) ?_
     simp only[List.take_succ_cons,List.take_zero,List.drop_succ_cons,List.drop_zero]
     go_big_quiet_step (fail)
     go_big_quiet_step (fail)
     refine di 63 rfl rfl func63 (by kernel_rfl) (by kernel_rfl) (λW hQ=>tN (hsc W)) ?_
     (try simp only[nn,Nat.reduceAdd])
     go_big_quiet_step (fail)
     go_big_quiet_step ((intro _;rfl))
     go_big_quiet_step ((intro _;rfl))
     refine fA rfl (λW hQ=>vg rfl rfl pB ((hQ.cell (p:=⟨g,0,none⟩) tl).trans cb)) ?_
     (try simp only[nn,Nat.reduceAdd])
     go_big_quiet_step (fail)
     go_big_quiet_step (fail)
     go_big_quiet_step ((intro _;rfl))
     go_big_quiet_step ((intro _;rfl))
     go_big_quiet_step ((intro _;rfl))
     refine fH rfl rfl rfl underlying5 al c0 ?_
     (try simp only[nn,Nat.reduceAdd])
     refine di 96 rfl rfl func96 (by kernel_rfl) (by kernel_rfl) (λW hQ=>tN (hbk W hQ)) ?_
     (try simp only[nn,Nat.reduceAdd])
     refine wpQuiet_nil ?_
     intro w' hw'
     have C0:=A0.below' hw'
     have C1:=A1.below' hw'
     have C2:=A2.below' hw'
     have aB:=bC hbel hw'
     have c2:=C2.int (i:=j) (by omega)
     have z2:=C2.frozen j
     have D0:=C0.far (p:=⟨w.heap.size+2,j,none⟩) (show w.heap.size≠w.heap.size+2 by omega) (.int .u8 ((y:Nat):Int))
     have D1:=C1.far (p:=⟨w.heap.size+2,j,none⟩) (show w.heap.size+1≠w.heap.size+2 by omega) (.int .u8 ((y:Nat):Int))
     have D2:=C2.dw j y
     rw[←HU.out] at D2
     have aG:=aB.setCell (p:=⟨w.heap.size+2,j,none⟩) (by show w.heap.size<=w.heap.size+2;omega) (.int .u8 ((y:Nat):Int))
     clear A0 A1 A2 hbel aB C0 C1 C2 Mi HU hbk T2 cb c0 hw' hsc
     generalize (tu L b q).getD j 0=y0 at *
     go_wp2_with fail
     exact⟨⟨r+1,by omega,by go_num,D0,D1,D2,aG⟩,by simp[intOf]<;>omega⟩
    ·have er:r=4:=by omega
     have hd2:decide ((r:Int)<4)=false:=by simp;omega
     rw[er,show p+4=4*(c+1) by rw[←Hp.out];omega] at A2
     clear er
     go_wp2_with fail
     exact⟨⟨c+1,by omega,by go_num,A0,A1,A2,hbel⟩,by simp[intOf]<;>omega⟩
  ·have ec:c=4:=by omega
   have hd:decide ((c:Int)<4)=false:=by simp;omega
   rw[ec] at A2
   clear ec
   have hzl:(PU L b).length=16:=kQ L b 16
   have A3:aA wr (w.heap.size+2) 96 (ints .u8 (PU L b)):=A2
   clear A2
   go_wp2_with ((first|(refine ag rfl 96 _ rfl _ rfl A3 aD hzl ?_)|(refine aa rfl 96 _ _ rfl _ rfl rfl A1 (ah _ _) aD hzl ?_));(try simp only[nn,Nat.reduceAdd]))
   refine aO rfl rfl (A1.row _) aD hzl ⟨rfl,?_⟩
   exact az hbel (by omega) _
end
section
open Go.RowKit
def uh (L b:List Nat):Nat->List Nat
 | 0=>zeros 16
 | q+1=>(uh L b q).set q (L.getD (b.getD (qJ (q%4) (q/4)) 0) 0)
def Ij (L b:List Nat):List Nat:=uh L b 16
theorem ug (L b:List Nat):∀q,(uh L b q).length=16
 | 0=>aH _
 | q+1=>by unfold uh;rw[List.length_set,ug L b q]
theorem CX {L:List Nat}(hL:∀x∈L,x<256)(b:List Nat):∀q,∀x∈uh L b q,x<256
 | 0=>dh 16 (by decide)
 | q+1=>by unfold uh;exact oL (CX hL b q) (aC hL (by decide) _)
def pF (L b key:List Nat):List Nat:=eT (Ij L b) key
theorem qA (L b key:List Nat):(pF L b key).length=16:=cK _ _
theorem Sd {L key:List Nat}(hL:∀x∈L,x<256)(b:List Nat)(hk:∀x∈key,x<256):∀x∈pF L b key,x<256:=jJ (CX hL b 16) hk
theorem IG (g gb:Nat)(L b key:List Nat)(hL:L.length=512)(DZ:∀x∈L,x<256)(hb:b.length=16)(hbb:∀x∈b,x<256)(hk:key.length=16)(hkb:∀x∈key,x<256)(w:World)(hT:ng w g gb L 1024)(hB:aA w gb 69 (ints .u8 L)) :
  Calls prog 52 #[.pointer (some ⟨g,0,none⟩),.agg (ints .u8 b),.agg (ints .u8 key)] w λe w'=>e=.returned (.agg (ints .u8 (pF L b key)))/\Below w.heap.size w w':=by
 have hb0:=((bN w (.cells (ints .u8 b) 96)).alloc (by simp) (.cells (ints .u8 key) 96))
 have A0:=(((aA.new w 96 (ints .u8 b)).alloc (.cells (ints .u8 key) 96)).alloc (.cells (ints .u8 (zeros 16)) 96)).alloc (.cells (ints .u8 (zeros 16)) 96)
 have A1:=((aA.new (w.alloc (.cells (ints .u8 b) 96)) 96 (ints .u8 key)).alloc (.cells (ints .u8 (zeros 16)) 96)).alloc (.cells (ints .u8 (zeros 16)) 96)
 have A2:=(aA.new ((w.alloc (.cells (ints .u8 b) 96)).alloc (.cells (ints .u8 key) 96)) 96 (ints .u8 (zeros 16))).alloc (.cells (ints .u8 (zeros 16)) 96)
 have A3:=aA.new (((w.alloc (.cells (ints .u8 b) 96)).alloc (.cells (ints .u8 key) 96)).alloc (.cells (ints .u8 (zeros 16)) 96)) 96 (ints .u8 (zeros 16))
 have hbel0:=(hb0.alloc (by simp;omega) (.cells (ints .u8 (zeros 16)) 96)).alloc (by simp;omega) (.cells (ints .u8 (zeros 16)) 96)
 simp only[World.size_alloc,Nat.add_assoc,Nat.reduceAdd] at A1 A2 A3
 clear hb0
 go_enter func52,ntmps52
 go_wp2_with ((first|(refine ae rfl 96 rfl fw ?_));(try simp only[nn,Nat.reduceAdd]))
 generalize ((((w.alloc (.cells (ints .u8 b) 96)).alloc (.cells (ints .u8 key) 96)).alloc (.cells (ints .u8 (zeros 16)) 96)).alloc (.cells (ints .u8 (zeros 16)) 96))=w0 at *
 go_loopw [13] (λt wr=>∃c:Nat,c<=4/\t=.int .i64 (c:Int)/\aA wr w.heap.size 96 (ints .u8 b)/\aA wr (w.heap.size+1) 96 (ints .u8 key)/\aA wr (w.heap.size+2) 96 (ints .u8 (zeros 16))/\aA wr (w.heap.size+3) 96 (ints .u8 (uh L b (4*c)))/\Below w.heap.size w wr) (λt wr=>4-(intOf t).toNat)
 case atStart=>exact⟨0,by omega,rfl,A0,A1,A2,A3,hbel0⟩
 case round =>
  clear A0 A1 A2 A3 hbel0
  obtain⟨c,hc,rfl,A0,A1,A2,A3,hbel⟩:=hrel
  by_cases hlt:c<4
  ·have hd:decide ((c:Int)<4)=true:=by simp;omega
   obtain⟨p,Hp⟩:=bD (4*c)
   have hp:4*(c:Int)=(p:Int):=by rw[←Hp.out];omega
   have SH:p+4<=16:=by rw[←Hp.out];omega
   rw[Hp.out] at A3
   go_wp2_with fail
   go_loopw [16] (λt wr'=>∃r:Nat,r<=4/\t=.int .i64 (r:Int)/\aA wr' w.heap.size 96 (ints .u8 b)/\aA wr' (w.heap.size+1) 96 (ints .u8 key)/\aA wr' (w.heap.size+2) 96 (ints .u8 (zeros 16))/\aA wr' (w.heap.size+3) 96 (ints .u8 (uh L b (p+r)))/\Below w.heap.size w wr') (λt wr'=>4-(intOf t).toNat)
   case atStart=>exact⟨0,by omega,rfl,A0,A1,A2,A3,hbel⟩
   case round =>
    clear A0 A1 A2 A3 hbel
    obtain⟨r,hr,rfl,A0,A1,A2,A3,hbel⟩:=hrel
    by_cases hlr:r<4
    ·have hd2:decide ((r:Int)<4)=true:=by simp;omega
     have hsc:=uZ r c hlr hlt
     have hsh:=Ja (c:=c) hlr
     have HU:Hid (uh L b (p+(r+1))=(uh L b (p+r)).set (p+r) (L.getD (b.getD (qJ r c) 0) 0)):=aR (by
      rw[show p+(r+1)=(p+r)+1 from rfl,uh]
      rw[show (p+r)%4=r by rw[←Hp.out];omega,show (p+r)/4=c by rw[←Hp.out];omega])
     have Mi:=ug L b (p+r)
     have c0:=A0.int (i:=qJ r c) (by omega)
     have hx:=aC hbb (by decide) (qJ r c)
     generalize b.getD (qJ r c) 0=x at *
     have hq:IntKind.i64.wrap ((r:Int)+(p:Int))=((p+r:Nat):Int):=(IntWalk.i64_in _ (by omega)).trans (by omega)
     have hqi:((p+r:Nat):Int)<16:=by omega
     generalize p+r=q at *
     generalize qJ r c=j at *
     have hji:(j:Int)<16:=by omega
     have hbk:=λ(W:World) (h:Below wr.heap.size wr W)=>Ki gb x L hx hL W ((hB.below' hbel).below' h)
     have T2:=hT.below hbel
     have cb:=T2.box
     have tl:=T2.lt
     have al:=A0.lt
     have hyb:L.getD x 0<256:=aC DZ (by decide) _
     generalize L.getD x 0=y at *
     go_wp2_with fail
     refine bR 14 (by kernel_rfl) (by kernel_rfl) ?_
     simp only[List.take_succ_cons,List.take_zero,List.drop_succ_cons,List.drop_zero]
     go_big_quiet_step (fail)
     go_big_quiet_step (fail)
     go_big_quiet_step ((intro _;rfl))
     go_big_quiet_step ((intro _;rfl))
     go_big_quiet_step (fail)
     go_big_quiet_step ((intro _;rfl))
     go_big_quiet_step ((intro _;rfl))
     refine fA rfl (λW hQ=>vg rfl rfl pB ((hQ.cell (p:=⟨g,0,none⟩) tl).trans cb)) ?_
     (try simp only[nn,Nat.reduceAdd])
     go_big_quiet_step (fail)
     go_big_quiet_step (fail)
     refine di 63 rfl rfl func63 (by kernel_rfl) (by kernel_rfl) (λW hQ=>tN (hsc W)) ?_
     (try simp only[nn,Nat.reduceAdd])
     go_big_quiet_step ((intro _;rfl))
     refine fH rfl rfl rfl underlying5 al c0 ?_
     (try simp only[nn,Nat.reduceAdd])
     refine di 21 rfl rfl func21 (by kernel_rfl) (by kernel_rfl) (λW hQ=>tN (hbk W hQ)) ?_
     (try simp only[nn,Nat.reduceAdd])
     refine wpQuiet_nil ?_
     intro w' hw'
     have C0:=A0.below' hw'
     have C1:=A1.below' hw'
     have C2:=A2.below' hw'
     have C3:=A3.below' hw'
     have aB:=bC hbel hw'
     have c3:=C3.int (i:=q) (by omega)
     have z3:=C3.frozen q
     have D0:=C0.far (p:=⟨w.heap.size+3,q,none⟩) (show w.heap.size≠w.heap.size+3 by omega) (.int .u8 ((y:Nat):Int))
     have D1:=C1.far (p:=⟨w.heap.size+3,q,none⟩) (show w.heap.size+1≠w.heap.size+3 by omega) (.int .u8 ((y:Nat):Int))
     have D2:=C2.far (p:=⟨w.heap.size+3,q,none⟩) (show w.heap.size+2≠w.heap.size+3 by omega) (.int .u8 ((y:Nat):Int))
     have D3:=C3.dw q y
     rw[←HU.out] at D3
     have aG:=aB.setCell (p:=⟨w.heap.size+3,q,none⟩) (by show w.heap.size<=w.heap.size+3;omega) (.int .u8 ((y:Nat):Int))
     clear A0 A1 A2 A3 hbel aB C0 C1 C2 C3 Mi HU hbk T2 cb c0 hw' hsc
     generalize (uh L b q).getD q 0=y0 at *
     go_wp2_with fail
     exact⟨⟨r+1,by omega,by go_num,D0,D1,D2,D3,aG⟩,by simp[intOf]<;>omega⟩
    ·have er:r=4:=by omega
     have hd2:decide ((r:Int)<4)=false:=by simp;omega
     rw[er,show p+4=4*(c+1) by rw[←Hp.out];omega] at A3
     clear er
     go_wp2_with fail
     exact⟨⟨c+1,by omega,by go_num,A0,A1,A2,A3,hbel⟩,by simp[intOf]<;>omega⟩
  ·have ec:c=4:=by omega
   have hd:decide ((c:Int)<4)=false:=by simp;omega
   rw[ec] at A3
   clear ec
   have hzl:(Ij L b).length=16:=ug L b 16
   have hzb:∀x∈Ij L b,x<256:=CX DZ b 16
   have A4:aA wr (w.heap.size+3) 96 (ints .u8 (Ij L b)):=A3
   have DX:=rA (Ij L b) key hzl hzb hk hkb wr
   have HL:Hid (eT (Ij L b) key=pF L b key):=aR rfl
   have hll:=qA L b key
   rw[HL.out] at DX
   clear A3 HL
   go_wp2_with ((first|(refine ag rfl 96 _ rfl _ rfl A4 aD hzl ?_)|(refine ag rfl 96 _ rfl _ rfl A1 aD hk ?_));(try simp only[nn,Nat.reduceAdd]))
   refine DX.mono ?_
   clear DX
   rintro e w5 ⟨rfl,hb5⟩
   have E2:=A2.below' hb5
   have bA:=bC hbel hb5
   go_wp2_with (refine aa rfl 96 _ _ rfl _ rfl rfl E2 (ah _ _) aD hll ?_;(try simp only[nn,Nat.reduceAdd]))
   refine aO rfl rfl (E2.row _) aD hll ⟨rfl,?_⟩
   exact az bA (by omega) _
def zK (L b key:List Nat):List Nat:=PU L (eT b key)
theorem Ca (g gb:Nat)(L b key:List Nat)(hL:L.length=512)(DZ:∀x∈L,x<256)(hb:b.length=16)(hbb:∀x∈b,x<256)(hk:key.length=16)(hkb:∀x∈key,x<256)(w:World)(hT:ng w g gb L 1024)(hB:aA w gb 69 (ints .u8 L)) :
  Calls prog 113 #[.pointer (some ⟨g,0,none⟩),.agg (ints .u8 b),.agg (ints .u8 key)] w λe w'=>e=.returned (.agg (ints .u8 (zK L b key)))/\Below w.heap.size w w':=by
 have hb0:=((bN w (.cells (ints .u8 b) 96)).alloc (by simp) (.cells (ints .u8 key) 96))
 have A0:=((aA.new w 96 (ints .u8 b)).alloc (.cells (ints .u8 key) 96)).alloc (.cells (ints .u8 (zeros 16)) 96)
 have A1:=(aA.new (w.alloc (.cells (ints .u8 b) 96)) 96 (ints .u8 key)).alloc (.cells (ints .u8 (zeros 16)) 96)
 have A2:=aA.new ((w.alloc (.cells (ints .u8 b) 96)).alloc (.cells (ints .u8 key) 96)) 96 (ints .u8 (zeros 16))
 have hbel:=hb0.alloc (by simp;omega) (.cells (ints .u8 (zeros 16)) 96)
 simp only[World.size_alloc,Nat.add_assoc,Nat.reduceAdd] at A1 A2
 clear hb0
 have DX:=λW=>rA b key hb hbb hk hkb W
 have hxl:=cK b key
 have hxb:=jJ hbb hkb
 have hub:=λW (h1:ng W g gb L 1024) (h2:aA W gb 69 (ints .u8 L))=>Am g gb L (eT b key) hL DZ hxl hxb W h1 h2
 have HL:Hid (PU L (eT b key)=zK L b key):=aR rfl
 have hll:(zK L b key).length=16:=kQ _ _ _
 rw[HL.out] at hub
 generalize eT b key=x at *
 generalize zK L b key=z at *
 clear HL
 go_enter func113,ntmps113
 go_wp2_with ((first
  | (refine ae rfl 96 rfl fw ?_)
  | (refine ag rfl 96 _ rfl _ rfl A0 aD hb ?_)
  | (refine ag rfl 96 _ rfl _ rfl A1 aD hk ?_));(try simp only[nn,Nat.reduceAdd]))
 generalize (((w.alloc (.cells (ints .u8 b) 96)).alloc (.cells (ints .u8 key) 96)).alloc (.cells (ints .u8 (zeros 16)) 96))=w0 at *
 refine(DX w0).mono ?_
 clear DX
 rintro e w1 ⟨rfl,hb1⟩
 have aK:=bC hbel hb1
 have E2:=A2.below' hb1
 go_wp2_with fail
 refine(hub w1 (hT.below aK) (hB.below' aK)).mono ?_
 clear hub
 rintro e w2 ⟨rfl,hb2⟩
 have aB:=bC aK hb2
 have F2:=E2.below' hb2
 clear A0 A1 A2 E2 hbel aK
 go_wp2_with (refine aa rfl 96 _ _ rfl _ rfl rfl F2 (ah _ _) aD hll ?_;(try simp only[nn,Nat.reduceAdd]))
 refine aO rfl rfl (F2.row _) aD hll ⟨rfl,?_⟩
 exact az aB (by omega) _
end
section
open Go.RowKit
theorem ng.adl {w:World}{g gb n k:Nat}{L:List Nat}(h:ng w g gb L n)(hk:k<n):w.cell? ⟨g,1025+k,none⟩=some (.int .u32 ((Nz k:Nat):Int)):=by
 obtain⟨cs,h1,-,-,h2⟩:=h
 rw[h1.cell,(h2 k hk).2]
theorem QA (n:Nat):Nz n<4294967296:=DC (by decide) _ _ 4 dM
def BS (b:List Nat)(c:Nat):Nat->Nat
 | 0=>0
 | r+1=>BS b c r^^^Nz (256*r+b.getD (4*c+r) 0)
theorem IA (b:List Nat)(c:Nat):∀r,BS b c r<4294967296
 | 0=>(by decide:0<4294967296)
 | r+1=>Nat.xor_lt_two_pow (n:=32) (IA b c r) (QA _)
def BX (b:List Nat):Nat->List Nat
 | 0=>[]
 | c+1=>BX b c++cZ 256 4 (BS b c 4)
theorem ni (b:List Nat):∀c,(BX b c).length=4*c
 | 0=>rfl
 | c+1=>by unfold BX;rw[List.length_append,ni b c,bn];omega
theorem IE (b:List Nat):∀c,∀x∈BX b c,x<256
 | 0=>λx hx=>by cases hx
 | c+1=>λx hx=>by
  unfold BX at hx
  rcases List.mem_append.1 hx with h|h
  ·exact IE b c x h
  ·exact dU (by decide) _ _ x h
def xC (L b key:List Nat):List Nat:=PU L (BX (eT b key) 4)
theorem Er (L b key:List Nat):(xC L b key).length=16:=kQ _ _ _
theorem zL (g gb:Nat)(L b key:List Nat)(hL:L.length=512)(DZ:∀x∈L,x<256)(hb:b.length=16)(hbb:∀x∈b,x<256)(hk:key.length=16)(hkb:∀x∈key,x<256)(w:World)(hT:ng w g gb L 1024)(hB:aA w gb 69 (ints .u8 L)) :
  Calls prog 114 #[.pointer (some ⟨g,0,none⟩),.agg (ints .u8 b),.agg (ints .u8 key)] w λe w'=>e=.returned (.agg (ints .u8 (xC L b key)))/\Below w.heap.size w w':=by
 have hb0:=((bN w (.cells (ints .u8 b) 96)).alloc (by simp) (.cells (ints .u8 key) 96))
 have A0:=(((aA.new w 96 (ints .u8 b)).alloc (.cells (ints .u8 key) 96)).alloc (.cells (ints .u8 (zeros 16)) 96)).alloc (.cells (ints .u8 (zeros 16)) 96)
 have A1:=((aA.new (w.alloc (.cells (ints .u8 b) 96)) 96 (ints .u8 key)).alloc (.cells (ints .u8 (zeros 16)) 96)).alloc (.cells (ints .u8 (zeros 16)) 96)
 have A2:=(aA.new ((w.alloc (.cells (ints .u8 b) 96)).alloc (.cells (ints .u8 key) 96)) 96 (ints .u8 (zeros 16))).alloc (.cells (ints .u8 (zeros 16)) 96)
 have A3:=aA.new (((w.alloc (.cells (ints .u8 b) 96)).alloc (.cells (ints .u8 key) 96)).alloc (.cells (ints .u8 (zeros 16)) 96)) 96 (ints .u8 (zeros 16))
 have hbel0:=(hb0.alloc (by simp;omega) (.cells (ints .u8 (zeros 16)) 96)).alloc (by simp;omega) (.cells (ints .u8 (zeros 16)) 96)
 simp only[World.size_alloc,Nat.add_assoc,Nat.reduceAdd] at A1 A2 A3
 clear hb0
 have DX:=λW=>rA b key hb hbb hk hkb W
 have hxl:=cK b key
 have hxb:=jJ hbb hkb
 obtain⟨z,HZ⟩:=bD (PU L (BX (eT b key) 4))
 have hub:=λW (h1:ng W g gb L 1024) (h2:aA W gb 69 (ints .u8 L))=>Am g gb L (BX (eT b key) 4) hL DZ (ni _ 4) (IE _ 4) W h1 h2
 have hll:=Er L b key
 unfold xC at hll ⊢
 rw[HZ.out] at hub hll ⊢
 clear HZ
 generalize eT b key=x at *
 go_enter func114,ntmps114
 go_wp2_with ((first
  | (refine ae rfl 96 rfl fw ?_)
  | (refine ag rfl 96 _ rfl _ rfl A0 aD hb ?_)
  | (refine ag rfl 96 _ rfl _ rfl A1 aD hk ?_));(try simp only[nn,Nat.reduceAdd]))
 generalize ((((w.alloc (.cells (ints .u8 b) 96)).alloc (.cells (ints .u8 key) 96)).alloc (.cells (ints .u8 (zeros 16)) 96)).alloc (.cells (ints .u8 (zeros 16)) 96))=w0 at *
 refine(DX w0).mono ?_
 clear DX
 rintro e w1 ⟨rfl,hb1⟩
 have aK:=bC hbel0 hb1
 have X0:=(A0.below' hb1).row (ints .u8 x)
 have X1:=(A1.below' hb1).aM (show w.heap.size+1≠w.heap.size by omega) (ints .u8 x)
 have X2:=(A2.below' hb1).aM (show w.heap.size+2≠w.heap.size by omega) (ints .u8 x)
 have X3:=(A3.below' hb1).aM (show w.heap.size+3≠w.heap.size by omega) (ints .u8 x)
 have E0:=A0.below' hb1
 have aB:=az aK dM (ints .u8 x)
 clear A0 A1 A2 A3 hbel0 aK hb1
 go_wp2_with (refine aa rfl 96 _ _ rfl _ rfl rfl E0 (by rw[aF];exact hb) aD hxl ?_;clear E0;generalize w1.setRow w.heap.size (ints .u8 x)=w2 at *;(try simp only[nn,Nat.reduceAdd]))
 go_loopw [18] (λt wr=>∃c:Nat,c<=4/\t=.int .i64 (c:Int)/\aA wr w.heap.size 96 (ints .u8 x)/\aA wr (w.heap.size+1) 96 (ints .u8 key)/\aA wr (w.heap.size+2) 96 (ints .u8 (zeros 16))/\aA wr (w.heap.size+3) 96 (ints .u8 (BX x c++zeros (16-4*c)))/\Below w.heap.size w wr) (λt wr=>4-(intOf t).toNat)
 case atStart=>exact⟨0,by omega,rfl,X0,X1,X2,X3,aB⟩
 case round =>
  clear X0 X1 X2 X3 aB
  obtain⟨c,hc,rfl,A0,A1,A2,A3,hbel⟩:=hrel
  by_cases hlt:c<4
  ·have hd:decide ((c:Int)<4)=true:=by simp;omega
   obtain⟨p,Hp⟩:=bD (4*c)
   have hp:4*(c:Int)=(p:Int):=by rw[←Hp.out];omega
   have SH:p+4<=16:=by rw[←Hp.out];omega
   go_wp2_with fail
   generalize wr=w3 at *
   go_loopw [9,21] (λs t wr'=>∃r:Nat,r<=4/\t=.int .i64 (r:Int)/\s=.int .u32 ((BS x c r:Nat):Int)/\Below w3.heap.size w3 wr') (λs t wr'=>4-(intOf t).toNat)
   case atStart=>exact⟨0,by omega,rfl,rfl,Below.refl _ _⟩
   case round =>
    obtain⟨r,hr,rfl,rfl,hb2⟩:=hrel
    by_cases hlr:r<4
    ·have hd2:decide ((r:Int)<4)=true:=by simp;omega
     have hri:(r:Int)<4:=by omega
     have D0:=A0.below' hb2
     have T2:=(hT.below hbel).below hb2
     have c0:=D0.int (i:=p+r) (by omega)
     have hx:=aC hxb (by decide) (p+r)
     have HR:Hid (BS x c (r+1)=BS x c r^^^Nz (256*r+x.getD (p+r) 0)):=aR (by rw[←Hp.out];rfl)
     generalize x.getD (p+r) 0=y at *
     have hq:IntKind.i64.wrap ((r:Int)+(p:Int))=((p+r:Nat):Int):=(IntWalk.i64_in _ (by omega)).trans (by omega)
     have hqi:((p+r:Nat):Int)<16:=by omega
     generalize p+r=q at *
     have hyi:(y:Int)<256:=by omega
     have c1:=T2.adl (k:=256*r+y) (by omega)
     have hoff:1025+(256*r+y)=1025+r*256+y:=by omega
     rw[hoff] at c1
     have HX:=aR (u32_xor_nat (BS x c r) (Nz (256*r+y)) (IA x c r) (QA _))
     generalize Nz (256*r+y)=mv at *
     generalize BS x c r=kv at *
     have hg0:=D0.lt
     have hg1:=T2.lt
     go_wp2_with fail
     refine nV (by kernel_rfl) (by kernel_rfl) ?_
     go_big_quiet_step (fail)
     go_big_quiet_step (fail)
     go_big_quiet_step (fail)
     go_big_quiet_step (fail)
     go_big_quiet_step (fail)
     go_big_quiet_step ((intro _;rfl))
     go_big_quiet_step ((intro _;rfl))
     go_big_quiet_step ((intro _;rfl))
     refine fH rfl rfl rfl underlying5 hg0 c0 ?_
     (try simp only[nn,Nat.reduceAdd])
     refine bE (v:=.pointer (some ⟨g,0,none⟩)) rfl (λW=>by kernel_rfl) ?_
     (try simp only[nn,Nat.reduceAdd])
     refine bE (v:=.pointer (some ⟨g,1025,none⟩)) rfl (λW=>by kernel_rfl) ?_
     (try simp only[nn,Nat.reduceAdd])
     go_big_quiet_step ((intro _;rfl))
     go_big_quiet_step ((intro _;rfl))
     refine fH rfl rfl rfl underlying52 hg1 c1 ?_
     (try simp only[nn,Nat.reduceAdd])
     refine bE (v:=.int .u32 (bits BinOp.xor IntKind.u32 (kv:Int) (mv:Int))) rfl (λW=>by kernel_rfl) ?_;rw[HX.out]
     (try simp only[nn,Nat.reduceAdd])
     go_big_quiet_step (fail)
     refine wpQuiet_nil ?_
     intro w' hw'
     go_wp2_with fail
     exact⟨⟨r+1,by omega,by go_num,by rw[HR.out],bC hb2 hw'⟩,by simp[intOf]<;>omega⟩
    ·have er:r=4:=by omega
     have hd2:decide ((r:Int)<4)=false:=by simp;omega
     have aB:=bC hbel hb2
     have D0:=A0.below' hb2
     have D1:=A1.below' hb2
     have D2:=A2.below' hb2
     have D3:=A3.below' hb2
     have hpw:=qm (BS x c r) (IA x c r)
     have HRD:Hid (BX x (c+1)=BX x c++cZ 256 4 (BS x c r)):=aR (by rw[er];rfl)
     clear A0 A1 A2 A3 hbel hb2 er
     go_wp2_with fail
     refine(hpw _).mono ?_
     clear hpw
     rintro e w4 ⟨rfl,hb3⟩
     have aG:=bC aB hb3
     have E0:=(D0.below' hb3).alloc (.cells (ints .u8 (zeros 4)) 65)
     have E1:=(D1.below' hb3).alloc (.cells (ints .u8 (zeros 4)) 65)
     have E2:=(D2.below' hb3).alloc (.cells (ints .u8 (zeros 4)) 65)
     have E3:=(D3.below' hb3).alloc (.cells (ints .u8 (zeros 4)) 65)
     have E4:=aA.new w4 65 (ints .u8 (zeros 4))
     have hl3:=(D3.below' hb3).lt
     have dl:(cZ 256 4 (BS x c r)).length=4:=bn _ _ _
     generalize cZ 256 4 (BS x c r)=zs at *
     have F0:=E0.aM (show w.heap.size≠w4.heap.size by omega) (ints .u8 zs)
     have F1:=E1.aM (show w.heap.size+1≠w4.heap.size by omega) (ints .u8 zs)
     have F2:=E2.aM (show w.heap.size+2≠w4.heap.size by omega) (ints .u8 zs)
     have F3:=E3.aM (show w.heap.size+3≠w4.heap.size by omega) (ints .u8 zs)
     have F4:=E4.row (ints .u8 zs)
     have aY:=az (aG.alloc aG.size (.cells (ints .u8 (zeros 4)) 65)) aG.size (ints .u8 zs)
     clear D0 D1 D2 D3 aB hb3 E0 E1 E2 E3 aG
     go_wp2_with ((first|(refine ae rfl 65 rfl Vp ?_)|(refine aa rfl 65 _ _ rfl w4.heap.size rfl rfl E4 (ah _ _) vZ dl ?_));(try simp only[nn,Nat.reduceAdd]))
     clear E4
     have hl5:w.heap.size+3<w4.heap.size:=hl3
     generalize ((w4.alloc (.cells (ints .u8 (zeros 4)) 65)).setRow w4.heap.size (ints .u8 zs))=w5 at *
     generalize w4.heap.size=s5 at *
     have hpi:(0:Int)<=(p:Int):=by omega
     have acA:(p:Int)<=16:=by omega
     have hne16:¬(16=p):=by omega
     have hwp:IntKind.i64.wrap (p:Int)=(p:Int):=IntWalk.i64_in _ (by omega)
     refine wp_region_still_tail 4 (by kernel_rfl) (by kernel_rfl) ?_
     simp only[List.take_succ_cons,List.take_zero,List.drop_succ_cons,List.drop_zero]
     repeat still_step
     refine wpStill_nil ?_
     change wpList _ _ _ _ _ w5.drew
     have hal:(BX x c).length=p:=by rw[ni,Hp.out]
     have G3:=F3.drew
     rw[show 16-4*c=4+(16-4*(c+1)) by omega] at G3
     have hRl:(BX x c++zeros (4+(16-4*(c+1)))).length=16:=by rw[List.length_append,hal,aH,←Hp.out];omega
     have hsp:=qf (m:=16-4*(c+1)) hal dl
     refine bM (off:=p) (dLen:=16-p) (sLen:=4) rfl rfl underlying23 s15 rfl rfl G3 (Sl.blk F4.drew) (by rw[dl];exact(Nat.min_eq_left (by omega:4<=16-p)).symm) (λ_=>rfl) (by rw[hRl,dl];omega) ?_
     intro w6 G4 ho
     rw[hsp,←HRD.out] at G4
     have G0:=F0.drew.only ho (by omega)
     have G1:=F1.drew.only ho (by omega)
     have G2:=F2.drew.only ho (by omega)
     have bK:=ho.below _ _ aY.drew (by omega)
     clear F0 F1 F2 F3 F4 G3 aY hsp hRl hal ho hwp hne16 hpi acA
     go_wp2_with fail
     exact⟨⟨c+1,by omega,by go_num,G0,G1,G2,G4,bK⟩,by simp[intOf]<;>omega⟩
  ·have ec:c=4:=by omega
   have hd:decide ((c:Int)<4)=false:=by simp;omega
   have hz:BX x c++zeros (16-4*c)=BX x 4:=by rw[ec];simp[zeros]
   rw[hz] at A3
   clear hz ec
   have TF:=hT.below hbel
   have hB3:=hB.below' hbel
   have Mi:=ni x 4
   have hun:=hub wr TF hB3
   generalize BX x 4=u at *
   go_wp2_with (refine ag rfl 96 _ rfl _ rfl A3 aD Mi ?_;(try simp only[nn,Nat.reduceAdd]))
   refine hun.mono ?_
   clear hun hub
   rintro e w5 ⟨rfl,hb5⟩
   have E2:=A2.below' hb5
   have bA:=bC hbel hb5
   go_wp2_with (refine aa rfl 96 _ _ rfl _ rfl rfl E2 (ah _ _) aD hll ?_;(try simp only[nn,Nat.reduceAdd]))
   refine aO rfl rfl (E2.row _) aD hll ⟨rfl,?_⟩
   exact az bA (by omega) _
end
end Go.Proofs.YtaiffkajkbiidaaGreatDoor
