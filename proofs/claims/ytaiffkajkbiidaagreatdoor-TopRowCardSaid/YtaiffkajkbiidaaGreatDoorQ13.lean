/- What this claim leans on, part 13: laws of the model, and what functions of the program compute. No condition but what each law states. -/
import Derived.Test.YtaiffkajkbiidaaGreatDoorQ12
namespace Go.Proofs.YtaiffkajkbiidaaGreatDoor
set_option linter.unusedSimpArgs false
set_option linter.unusedVariables false
set_option linter.unusedSectionVars false
set_option maxRecDepth 100000
set_option maxHeartbeats 40000000
open Go.Proofs.Tryz
open Tryz
section
open Go.RowKit
theorem VR (n:Nat)(hn:n=16∨n=24∨n=32)(w:World):Calls prog 43 #[.int .i64 (n:Int)] w λe w'=>e=.returned (.tuple #[.int .i64 ((n/4:Nat):Int),.bool (n==32),.int .i64 0])/\w=w':=by
 rcases hn with rfl|rfl|rfl
 all_goals
  go_enter func43,ntmps43
  go_wp2
  refine bodyPost_ret (v:=.tuple #[.int .i64 _,.bool _,.int .i64 0]) ?_ rfl ⟨rfl,rfl⟩
  simp[results,results43]
theorem Tryz.gZ:dG prog 116 4:=jH underlying116 (by kernel_rfl)
theorem Tryz.KH:IsZero prog 116 4 .u8:=isZero (by kernel_rfl)
def pV (L w4:List Nat):List Nat:=(List.range 4).map λi=>L.getD (w4.getD i 0) 0
theorem pU (L w4:List Nat):(pV L w4).length=4:=by simp[pV]
theorem Po (L w4:List Nat){i:Nat}(hi:i<4):(pV L w4).getD i 0=L.getD (w4.getD i 0) 0:=by
 unfold pV
 rw[List.getD_eq_getElem?_getD,List.getElem?_map,List.getElem?_range hi];rfl
theorem wX {L:List Nat}(hL:∀x∈L,x<256)(w4:List Nat):∀x∈pV L w4,x<256:=λx hx=>by
 unfold pV at hx
 obtain⟨i,-,rfl⟩:=List.mem_map.1 hx
 exact aC hL (by decide) _
def xn (a b:List Nat):List Nat:=(List.range 4).map λi=>a.getD i 0^^^b.getD i 0
theorem xm (a b:List Nat):(xn a b).length=4:=by simp[xn]
theorem Nq (a b:List Nat){i:Nat}(hi:i<4):(xn a b).getD i 0=a.getD i 0^^^b.getD i 0:=by
 unfold xn
 rw[List.getD_eq_getElem?_getD,List.getElem?_map,List.getElem?_range hi];rfl
theorem Vs {a b:List Nat}(ha:∀x∈a,x<256)(hb:∀x∈b,x<256):∀x∈xn a b,x<256:=λx hx=>by
 unfold xn at hx
 obtain⟨i,-,rfl⟩:=List.mem_map.1 hx
 exact Nat.xor_lt_two_pow (n:=8) (aC ha (by decide) i) (aC hb (by decide) i)
theorem MR (g gb:Nat)(L x:List Nat)(hL:L.length=512)(DZ:∀x∈L,x<256)(hx:x.length=4)(hxb:∀y∈x,y<256)(w:World)(hT:ng w g gb L 1024)(hB:aA w gb 69 (ints .u8 L)) :
  Calls prog 46 #[.pointer (some ⟨g,0,none⟩),.agg (ints .u8 x)] w λe w'=>e=.returned (.agg (ints .u8 (pV L x)))/\Below w.heap.size w w':=by
 have A0:=(aA.new w 116 (ints .u8 x)).alloc (.cells (ints .u8 (zeros 4)) 116)
 have A1:=aA.new (w.alloc (.cells (ints .u8 x) 116)) 116 (ints .u8 (zeros 4))
 rw[World.size_alloc] at A1
 have hbel0:=(bN w (.cells (ints .u8 x) 116)).alloc (by simp) (.cells (ints .u8 (zeros 4)) 116)
 have hyl:=pU L x
 go_enter func46,ntmps46
 go_wp2_with ((first|(refine ae rfl 116 rfl KH ?_)|(refine ag rfl 116 _ rfl _ rfl A0 gZ hx ?_));(try simp only[nn,Nat.reduceAdd]))
 generalize ((w.alloc (.cells (ints .u8 x) 116)).alloc (.cells (ints .u8 (zeros 4)) 116))=w0 at *
 go_loopw [8] (λt wr=>∃q:Nat,q<=4/\t=.int .i64 (q:Int)/\aA wr w.heap.size 116 (ints .u8 (mix (pV L x) x q))/\aA wr (w.heap.size+1) 116 (ints .u8 (zeros 4))/\Below w.heap.size w wr) (λt wr=>4-(intOf t).toNat)
 case atStart=>exact⟨0,by omega,rfl,by rw[Fz];exact A0,A1,hbel0⟩
 case round =>
  clear A0 A1 hbel0
  obtain⟨q,hq,rfl,M0,M1,hbel⟩:=hrel
  have gq:=LQ hyl hx hq
  by_cases hlq:q<4
  ·have hd2:decide ((q:Int)<4)=true:=by simp;omega
   have hix:=gT underlying116 underlying5 s15 hx hlq
   have hqi:(q:Int)<4:=by omega
   have hbv:=aC hxb (by decide) q
   have hms:=LP hyl hx hlq
   rw[Po L x hlq] at hms
   have HM:=aR hms
   have hbx:=uW g gb (x.getD q 0) L hbv hL wr (hT.below hbel) (hB.below' hbel)
   clear hms
   generalize L.getD (x.getD q 0) 0=y at *
   generalize x.getD q 0=xq at *
   have c0:=M0.int (i:=q) (by omega)
   have z0:=M0.frozen q
   have N0:=M0.dw q y
   rw[HM.out] at N0
   have N1:=M1.far (p:=⟨w.heap.size,q,none⟩) (show w.heap.size+1≠w.heap.size by omega) (.int .u8 ((y:Nat):Int))
   have aB:=hbel.setCell (p:=⟨w.heap.size,q,none⟩) dM (.int .u8 ((y:Nat):Int))
   clear M0 M1 hbel HM gq
   generalize (mix (pV L x) x q).getD q 0=y0 at *
   go_wp2_with fail
   refine hbx.mono ?_
   clear hbx
   rintro e w3 ⟨rfl,rfl⟩
   go_wp2_with fail
   exact⟨⟨q+1,by omega,by go_num,N0,N1,aB⟩,by simp[intOf]<;>omega⟩
  ·have eq:q=4:=by omega
   have hd2:decide ((q:Int)<4)=false:=by simp;omega
   rw[eq,LU hyl hx] at M0
   clear eq gq
   go_wp2_with ((first|(refine ag rfl 116 _ rfl _ rfl M0 gZ hyl ?_)|(refine aa rfl 116 _ _ rfl _ rfl rfl M1 (ah _ _) gZ hyl ?_));(try simp only[nn,Nat.reduceAdd]))
   refine aO rfl rfl (M1.row _) gZ hyl ⟨rfl,?_⟩
   exact az hbel (by omega) _
theorem Pt (x k:List Nat)(hx:x.length=4)(hxb:∀y∈x,y<256)(hk:k.length=4)(hkb:∀y∈k,y<256)(w:World) :
  Calls prog 47 #[.agg (ints .u8 x),.agg (ints .u8 k)] w λe w'=>e=.returned (.agg (ints .u8 (xn x k)))/\Below w.heap.size w w':=by
 have A0:=((aA.new w 116 (ints .u8 x)).alloc (.cells (ints .u8 k) 116)).alloc (.cells (ints .u8 (zeros 4)) 116)
 have A1:=(aA.new (w.alloc (.cells (ints .u8 x) 116)) 116 (ints .u8 k)).alloc (.cells (ints .u8 (zeros 4)) 116)
 have A2:=aA.new ((w.alloc (.cells (ints .u8 x) 116)).alloc (.cells (ints .u8 k) 116)) 116 (ints .u8 (zeros 4))
 have hbel0:=((bN w (.cells (ints .u8 x) 116)).alloc (by simp) (.cells (ints .u8 k) 116)).alloc (by simp;omega) (.cells (ints .u8 (zeros 4)) 116)
 simp only[World.size_alloc,Nat.add_assoc,Nat.reduceAdd] at A1 A2
 have hyl:=xm x k
 go_enter func47,ntmps47
 go_wp2_with ((first|(refine ae rfl 116 rfl KH ?_));(try simp only[nn,Nat.reduceAdd]))
 generalize (((w.alloc (.cells (ints .u8 x) 116)).alloc (.cells (ints .u8 k) 116)).alloc (.cells (ints .u8 (zeros 4)) 116))=w0 at *
 go_loopw [6] (λt wr=>∃q:Nat,q<=4/\t=.int .i64 (q:Int)/\aA wr w.heap.size 116 (ints .u8 (mix (xn x k) x q))/\aA wr (w.heap.size+1) 116 (ints .u8 k)/\aA wr (w.heap.size+2) 116 (ints .u8 (zeros 4))/\Below w.heap.size w wr) (λt wr=>4-(intOf t).toNat)
 case atStart=>exact⟨0,by omega,rfl,by rw[Fz];exact A0,A1,A2,hbel0⟩
 case round =>
  clear A0 A1 A2 hbel0
  obtain⟨q,hq,rfl,M0,M1,M2,hbel⟩:=hrel
  have gq:=LQ hyl hx hq
  by_cases hlq:q<4
  ·have hd2:decide ((q:Int)<4)=true:=by simp;omega
   have c0:=M0.int (i:=q) (by omega)
   rw[Wx hyl hq q dM] at c0
   have c1:=M1.int (i:=q) (by omega)
   have z0:=M0.frozen q
   have hqi:(q:Int)<4:=by omega
   have zn:=M0.dw q (x.getD q 0^^^k.getD q 0)
   have hms:=LP hyl hx hlq
   rw[Nq x k hlq] at hms
   rw[hms] at zn
   have HX:=aR (tC (aC hxb (by decide) q) (aC hkb (by decide) q))
   have P0:=aR zn.drew
   have P1:=aR (M1.far (p:=⟨w.heap.size,q,none⟩) (show w.heap.size+1≠w.heap.size by omega) (.int .u8 ((x.getD q 0^^^k.getD q 0:Nat):Int))).drew
   have P2:=aR (M2.far (p:=⟨w.heap.size,q,none⟩) (show w.heap.size+2≠w.heap.size by omega) (.int .u8 ((x.getD q 0^^^k.getD q 0:Nat):Int))).drew
   have R2:=aR (hbel.setCell (p:=⟨w.heap.size,q,none⟩) dM (.int .u8 ((x.getD q 0^^^k.getD q 0:Nat):Int))).drew
   clear M0 M1 M2 zn hbel gq hms
   generalize x.getD q 0=xv at *
   generalize k.getD q 0=kv at *
   go_wp2_with fail
   go_region
   rw[HX.out]
   go_wp2_with fail
   exact⟨⟨q+1,by omega,by go_num,P0.out,P1.out,P2.out,R2.out⟩,by simp[intOf]<;>omega⟩
  ·have eq:q=4:=by omega
   have hd2:decide ((q:Int)<4)=false:=by simp;omega
   rw[eq,LU hyl hx] at M0
   clear eq gq
   go_wp2_with ((first|(refine ag rfl 116 _ rfl _ rfl M0 gZ hyl ?_)|(refine aa rfl 116 _ _ rfl _ rfl rfl M2 (ah _ _) gZ hyl ?_));(try simp only[nn,Nat.reduceAdd]))
   refine aO rfl rfl (M2.row _) gZ hyl ⟨rfl,?_⟩
   exact az hbel (by omega) _
theorem BJ (x y:List Nat)(hx:x.length=16)(hy:y.length=16)(hxb:∀z∈x,z<256)(hyb:∀z∈y,z<256)(w:World) :
  Calls prog 51 #[.agg (ints .u8 x),.agg (ints .u8 y)] w λe w'=>e=.returned (.agg (ints .u8 (qR x y)))/\Below w.heap.size w w':=by
 have X0:=((aA.new w 96 (ints .u8 x)).alloc (.cells (ints .u8 y) 96)).alloc (.cells (ints .u8 (zeros 16)) 96)
 have Y0:=(aA.new (w.alloc (.cells (ints .u8 x) 96)) 96 (ints .u8 y)).alloc (.cells (ints .u8 (zeros 16)) 96)
 have R0:=aA.new ((w.alloc (.cells (ints .u8 x) 96)).alloc (.cells (ints .u8 y) 96)) 96 (ints .u8 (zeros 16))
 simp only[World.size_alloc,Nat.add_assoc,Nat.reduceAdd] at Y0 R0
 have hbel0:=((bN w (.cells (ints .u8 x) 96)).alloc (by simp) (.cells (ints .u8 y) 96)).alloc (by simp;omega) (.cells (ints .u8 (zeros 16)) 96)
 go_enter func51,ntmps51
 go_wp2_with ((first|(refine ae rfl 96 rfl fw ?_));(try simp only[nn,Nat.reduceAdd]))
 generalize (((w.alloc (.cells (ints .u8 x) 96)).alloc (.cells (ints .u8 y) 96)).alloc (.cells (ints .u8 (zeros 16)) 96))=w0 at *
 have LX:∀W,Below w0.heap.size w0 W->Calls prog 42 #[.slice (some ⟨w.heap.size,0,none⟩) 16 16,.slice (some ⟨w.heap.size+1,0,none⟩) 16 16] W λe w'=>e=.returned (.slice (some ⟨W.heap.size,0,none⟩) 16 16)/\Below W.heap.size W w'/\aA w' W.heap.size 5 (ints .u8 (dS x y 16)):=λW hW=>by
  have h:=Qk (some ⟨w.heap.size,0,none⟩) (some ⟨w.heap.size+1,0,none⟩) 16 16 16 x y (by decide) hx (by omega) (by omega) hxb hyb W ((Sl.blk X0).below hW) ((Sl.blk Y0).below hW)
  rw[hy] at h
  exact h
 have Vi:=dJ x y 16
 have LB:∀(g:Nat) (W:World),aA W g 5 (ints .u8 (dS x y 16))->Calls prog 38 #[.slice (some ⟨g,0,none⟩) 16 16] W λe w'=>e=.returned (.agg (ints .u8 (qR x y)))/\Below W.heap.size W w':=λg W hB=>by
  have h:=fB (some ⟨g,0,none⟩) 16 (dS x y 16) W (Sl.blk hB)
  rw[Vi] at h
  exact h
 have Dg:=gP x y
 obtain⟨Q,HQ⟩:=bD (qR x y)
 rw[HQ.out] at LB Dg
 generalize dS x y 16=X at *
 refine bW 4 (by kernel_rfl) (by kernel_rfl) (by kernel_rfl) (by kernel_rfl) (λD bP W=>∃u5 u6 u7 u8:Value,bP={ tmps:=#[.agg (ints .u8 x),.agg (ints .u8 y),.pointer (some ⟨w.heap.size,0,none⟩),.pointer (some ⟨w.heap.size+1,0,none⟩),.pointer (some ⟨w.heap.size+2,0,none⟩),u5,u6,u7,u8],defers:=[] }/\Below w0.heap.size w0 W/\(D 0->u5=.slice (some ⟨w.heap.size,0,none⟩) 16 16)/\(D 1->u6=.slice (some ⟨w.heap.size+1,0,none⟩) 16 16)/\(D 2->KG W w0.heap.size u7 5 16 .u8 (X))/\(D 3->u8=.agg (ints .u8 Q))) ?_ ?_ ?_
 ·exact(⟨_,_,_,_,rfl,⟨rfl,rfl,rfl,Nat.le_refl _,λ_ _=>rfl⟩,nofun,nofun,nofun,nofun⟩)
 ·intro i o hilt hi D bP W hI hnD hall
  obtain⟨u5,u6,u7,u8,rfl,hW,f0,f1,f2,f3⟩:=hI
  rcases i with _|_|_|_|i<;>try cases hi
  ·refine af (v:=.slice (some ⟨w.heap.size,0,none⟩) 16 16) rfl rfl (by kernel_rfl) ?_
   exact(⟨_,_,_,_,rfl,hW,λ_=>rfl,ro f1,ro f2,ro f3⟩)
  ·refine af (v:=.slice (some ⟨w.heap.size+1,0,none⟩) 16 16) rfl rfl (by kernel_rfl) ?_
   exact(⟨_,_,_,_,rfl,hW,ro f0,λ_=>rfl,ro f2,ro f3⟩)
  ·obtain rfl:=f0 (aj hall 0 rfl)
   obtain rfl:=f1 (aj hall 1 rfl)
   refine iE 42 rfl rfl rfl func42 (by kernel_rfl) (by kernel_rfl) (LX W hW) ?_
   intro W' hW' hT
   exact(⟨_,_,_,_,rfl,bC hW hW',ro f0,ro f1,(λ_=>⟨_,rfl,by have:=hW.size;omega,Vi,hT⟩),ro f3⟩)
  ·obtain⟨g_,rfl,Td,Tc,Ea⟩:=f2 (aj hall 2 rfl)
   refine aV 38 rfl rfl rfl func38 (by kernel_rfl) (by kernel_rfl) (LB g_ W Ea) ?_
   intro W' hW'
   have q2:KG W w0.heap.size (.slice (some ⟨g_,0,none⟩) _ _) _ _ _ _:=⟨g_,rfl,Td,Tc,Ea⟩
   exact(⟨_,_,_,_,rfl,bC hW hW',ro f0,ro f1,(λ_=>q2.below hW'),λ_=>rfl⟩)
  ·exfalso;omega
 ·rintro D bP W ⟨u5,u6,u7,u8,rfl,hW,f0,f1,f2,f3⟩ hall
  obtain rfl:=f0 (hall 0 (by decide))
  obtain rfl:=f1 (hall 1 (by decide))
  obtain rfl:=f3 (hall 3 (by decide))
  obtain⟨g7,rfl,hg7,aeD,acI⟩:=f2 (hall 2 (by decide))
  clear f0 f1 f2 f3 hall
  simp only[List.drop_succ_cons,List.drop_zero]
  have R1:=R0.below' hW
  have aK:=bC hbel0 hW
  go_wp2_with (refine aa rfl 96 _ _ rfl _ rfl rfl R1 (ah _ _) aD Dg ?_;(try simp only[nn,Nat.reduceAdd]))
  exact aO rfl rfl (R1.row _) aD Dg ⟨by rw[HQ.out],az aK (by omega) _⟩
theorem qi {w:World}{g off:Nat}{ks:List (List Nat)}(h:Sl w (some ⟨g,off,none⟩) .u8 ks.flatten)(hl:∀k∈ks,k.length=16){i:Nat}(hi:i<ks.length):Sl w (some ⟨g,off+i*16,none⟩) .u8 (ks.getD i []):=λhne=>by
 have hfl:=TT hl
 have h16:(ks.getD i []).length=16:=bQ (p:=λk=>k.length=16) hl hi
 obtain⟨g',off',e,hg,hc⟩:=h (λe=>by rw[e] at hfl;simp at hfl;omega)
 cases e
 refine⟨g,off+i*16,rfl,hg,λj hj=>?_⟩
 have h1:=hc (16*i+j) (by rw[hfl];omega)
 rw[Bl hl hi (by omega),Nat.mul_comm 16 i,←Nat.add_assoc] at h1
 exact h1
theorem NZ (g gb gk ok:Nat)(L b:List Nat)(ks:List (List Nat))(hL:∀x∈L,x<256)(hb:b.length=16)(hbb:∀x∈b,x<256)(hk:∀k∈ks,k.length=16)(hkb:∀k∈ks,∀x∈k,x<256)(hn:ks.length<2^31)(w:World)(hT:ng w g gb L 1024)(hK:Sl w (some ⟨gk,ok,none⟩) .u8 ks.flatten)(c:Nat) :
  Calls prog 50 #[.pointer (some ⟨g,0,none⟩),.agg (ints .u8 b),.slice (some ⟨gk,ok,none⟩) ks.length c] w λe w'=>e=.returned (.agg (ints .u8 (jN L b ks)))/\Below w.heap.size w w':=by
 obtain⟨m,HM⟩:=bD (ks.length)
 rw[HM.out] at hn ⊢
 have A0:=(aA.new w 96 (ints .u8 b)).alloc (.cells (ints .u8 (zeros 16)) 96)
 have A1:=aA.new (w.alloc (.cells (ints .u8 b) 96)) 96 (ints .u8 (zeros 16))
 rw[World.size_alloc] at A1
 have hbel0:=(bN w (.cells (ints .u8 b) 96)).alloc (by simp) (.cells (ints .u8 (zeros 16)) 96)
 go_enter func50,ntmps50
 go_wp2_with ((first|(refine ae rfl 96 rfl fw ?_));(try simp only[nn,Nat.reduceAdd]))
 generalize ((w.alloc (.cells (ints .u8 b) 96)).alloc (.cells (ints .u8 (zeros 16)) 96))=w0 at *
 go_loopw [14] (λt wr=>∃i:Nat,i<=m/\t=.int .i64 (i:Int)/\aA wr w.heap.size 96 (ints .u8 (jN L b (ks.take i)))/\aA wr (w.heap.size+1) 96 (ints .u8 (zeros 16))/\Below w.heap.size w wr) (λt wr=>m-(intOf t).toNat)
 case atStart=>exact⟨0,by omega,rfl,A0,A1,hbel0⟩
 case round =>
  clear A0 A1 hbel0
  obtain⟨i,hi,rfl,A0,A1,hbel⟩:=hrel
  have hln:=kz L (ks.take i) b hb
  have hlb:=nE L (ks.take i) b hbb
  by_cases hlt:i<m
  ·have hd:decide ((i:Int)<(m:Int))=true:=by simp;omega
   have hik:i<ks.length:=by rw[HM.out];exact hlt
   have hS:=qi (hK.below hbel) hk hik
   have fI:(ks.getD i []).length=16:=bQ (p:=λk=>k.length=16) hk hik
   have pK:∀x∈ks.getD i [],x<256:=bQ (p:=λk=>∀x∈k,x<256) hkb hik
   have HF:Hid (jN L b (ks.take (i+1))=Od L (jN L b (ks.take i)) (ks.getD i [])):=aR (iF _ _ _ _ hik)
   have hii:(i:Int)<(m:Int):=by omega
   generalize ks.getD i []=k at *
   generalize jN L b (ks.take i)=x at *
   have hkne:k≠[]:=λe=>by rw[e] at fI;simp at fI
   have K0:=A0.alloc (.cells (ints .u8 (zeros 16)) 96)
   have K1:=A1.alloc (.cells (ints .u8 (zeros 16)) 96)
   have K2:=aA.new wr 96 (ints .u8 (zeros 16))
   have hl1:=A1.lt
   have M0:=K0.aM (show w.heap.size≠wr.heap.size by omega) (ints .u8 k)
   have M1:=K1.aM (show w.heap.size+1≠wr.heap.size by omega) (ints .u8 k)
   have M2:=K2.row (ints .u8 k)
   have aB:=az (hbel.alloc hbel.size (.cells (ints .u8 (zeros 16)) 96)) hbel.size (ints .u8 k)
   clear A0 A1 hbel K0 K1
   go_wp2_with ((first
    | (refine aZ rfl (bq rfl rfl hS aD fI hkne) ?_)
    | (refine ae rfl 96 rfl fw ?_)
    | (refine aa rfl 96 _ _ rfl wr.heap.size rfl rfl K2 (ah _ _) aD fI ?_)
    | (refine ag rfl 96 _ rfl w.heap.size rfl M0 aD hln ?_)
    | (refine ag rfl 96 _ rfl wr.heap.size rfl M2 aD fI ?_));(try simp only[nn,Nat.reduceAdd]))
   refine(Lj g gb L x k hL hln hlb fI pK _ (hT.below aB)).mono ?_
   rintro e w3 ⟨rfl,hb3⟩
   have N0:=M0.below' hb3
   have N1:=M1.below' hb3
   have aG:=bC aB hb3
   have hrl:=nG L x k
   clear M0 M1 M2 aB hb3 K2
   go_wp2_with (refine aa rfl 96 _ _ rfl w.heap.size rfl rfl N0 (by rw[aF];exact hln) aD hrl ?_;(try simp only[nn,Nat.reduceAdd]))
   exact⟨⟨i+1,by omega,by go_num,by rw[HF.out];exact N0.row _,N1.aM (by omega) _,az aG dM _⟩,by simp[intOf]<;>omega⟩
  ·obtain rfl:i=m:=by omega
   have hd:decide ((i:Int)<(i:Int))=false:=by simp
   have he:ks.take i=ks:=List.take_of_length_le (by rw[HM.out];omega)
   rw[he] at A0 hln
   clear he
   go_wp2_with ((first|(refine ag rfl 96 _ rfl _ rfl A0 aD hln ?_)|(refine aa rfl 96 _ _ rfl _ rfl rfl A1 (ah _ _) aD hln ?_));(try simp only[nn,Nat.reduceAdd]))
   refine aO rfl rfl (A1.row _) aD hln ⟨rfl,?_⟩
   exact az hbel (by omega) _
end
section
open Go.RowKit
theorem Si (gw off cw:Nat)(x:List Nat)(hx:x.length=16)(w:World)(hS:Sl w (some ⟨gw,off,none⟩) .u8 x) :
  Calls prog 48 #[.slice (some ⟨gw,off,none⟩) 4 cw] w λe w'=>e=.returned (.agg (ints .u8 x))/\Below w.heap.size w w':=by
 have A0:=(aA.new w 96 (ints .u8 (zeros 16))).alloc (.cells (ints .u8 (zeros 16)) 96)
 have A1:=aA.new (w.alloc (.cells (ints .u8 (zeros 16)) 96)) 96 (ints .u8 (zeros 16))
 rw[World.size_alloc] at A1
 have hbel0:=(bN w (.cells (ints .u8 (zeros 16)) 96)).alloc (by simp) (.cells (ints .u8 (zeros 16)) 96)
 go_enter func48,ntmps48
 go_wp2_with ((first|(refine ae rfl 96 rfl fw ?_));(try simp only[nn,Nat.reduceAdd]))
 generalize ((w.alloc (.cells (ints .u8 (zeros 16)) 96)).alloc (.cells (ints .u8 (zeros 16)) 96))=w0 at *
 go_loopw [8] (λt wr=>∃i:Nat,i<=4/\t=.int .i64 (i:Int)/\aA wr w.heap.size 96 (ints .u8 (zeros 16))/\aA wr (w.heap.size+1) 96 (ints .u8 (x.take (4*i)++zeros (16-4*i)))/\Below w.heap.size w wr) (λt wr=>4-(intOf t).toNat)
 case atStart=>exact⟨0,by omega,rfl,A0,A1,hbel0⟩
 case round =>
  clear A0 A1 hbel0
  obtain⟨i,hi,rfl,A0,A1,hbel⟩:=hrel
  by_cases hlt:i<4
  ·have hd:decide ((i:Int)<4)=true:=by simp;omega
   have hii:(i:Int)<4:=by omega
   obtain⟨p,Hp⟩:=bD (4*i)
   have hp:4*(i:Int)=(p:Int):=by rw[←Hp.out];omega
   have SH:p+4<=16:=by rw[←Hp.out];omega
   have S1:=((hS.below hbel).drop (i*4)).take 4
   rw[show i*4=4*i by omega,Hp.out] at S1
   have hwl:((x.drop p).take 4).length=4:=by rw[List.length_take,List.length_drop];omega
   have hwn:(x.drop p).take 4≠[]:=λe=>by rw[e] at hwl;simp at hwl
   have HX:Hid (x.take p++(x.drop p).take 4=x.take (4*(i+1))):=aR (by rw[show 4*(i+1)=p+4 by rw[←Hp.out];omega,List.take_add])
   have hal:(x.take p).length=p:=by rw[List.length_take];omega
   rw[Hp.out] at A1
   rw[show off+p=off+i*4 by rw[←Hp.out];omega] at S1
   generalize (x.drop p).take 4=zs at *
   generalize x.take p=X at *
   have hb3:=bN wr (.cells (ints .u8 (zeros 4)) 116)
   have E4:=aA.new wr 116 (ints .u8 (zeros 4))
   have hl3:=A1.lt
   have F0:=(A0.below' hb3).aM (show w.heap.size≠wr.heap.size by omega) (ints .u8 zs)
   have F1:=(A1.below' hb3).aM (show w.heap.size+1≠wr.heap.size by omega) (ints .u8 zs)
   have F4:=E4.row (ints .u8 zs)
   have aY:=az (bC hbel hb3) hbel.size (ints .u8 zs)
   clear A0 A1 hbel hb3
   go_wp2_with ((first
    | (refine aZ rfl (bq rfl rfl S1 gZ hwl hwn) ?_)
    | (refine ae rfl 116 rfl KH ?_)
    | (refine aa rfl 116 _ _ rfl wr.heap.size rfl rfl E4 (ah _ _) gZ hwl ?_));(try simp only[nn,Nat.reduceAdd]))
   clear E4 S1
   have hl5:w.heap.size+1<wr.heap.size:=hl3
   generalize ((wr.alloc (.cells (ints .u8 (zeros 4)) 116)).setRow wr.heap.size (ints .u8 zs))=w5 at *
   generalize wr.heap.size=s5 at *
   have hpi:(0:Int)<=(p:Int):=by omega
   have acA:(p:Int)<=16:=by omega
   have hne16:¬(16=p):=by omega
   have hwp:IntKind.i64.wrap (p:Int)=(p:Int):=IntWalk.i64_in _ (by omega)
   refine wp_region_still_tail 4 (by kernel_rfl) (by kernel_rfl) ?_
   simp only[List.take_succ_cons,List.take_zero,List.drop_succ_cons,List.drop_zero]
   repeat still_step
   refine wpStill_nil ?_
   change wpList _ _ _ _ _ w5.drew
   have G3:=F1.drew
   rw[show 16-p=4+(16-4*(i+1)) by rw[←Hp.out];omega] at G3
   have hRl:(X++zeros (4+(16-4*(i+1)))).length=16:=by rw[List.length_append,hal,aH,←Hp.out];omega
   have hsp:=qf (m:=16-4*(i+1)) hal hwl
   refine bM (off:=p) (dLen:=16-p) (sLen:=4) rfl rfl underlying23 s15 rfl rfl G3 (Sl.blk F4.drew) (by rw[hwl];exact(Nat.min_eq_left (by omega:4<=16-p)).symm) (λ_=>rfl) (by rw[hRl,hwl];omega) ?_
   intro w6 G4 ho
   rw[hsp,HX.out] at G4
   have G0:=F0.drew.only ho (by omega)
   have bK:=ho.below _ _ aY.drew (by omega)
   clear F0 F1 F4 G3 aY hsp hRl hal ho hwp hne16 hpi acA
   go_wp2_with fail
   exact⟨⟨i+1,by omega,by go_num,G0,G4,bK⟩,by simp[intOf]<;>omega⟩
  ·have ei:i=4:=by omega
   have hd:decide ((i:Int)<4)=false:=by simp;omega
   have hz:x.take (4*i)++zeros (16-4*i)=x:=by rw[ei,List.take_of_length_le (by omega)];simp[zeros]
   rw[hz] at A1
   clear hz ei
   go_wp2_with ((first|(refine ag rfl 96 _ rfl _ rfl A1 aD hx ?_)|(refine aa rfl 96 _ _ rfl _ rfl rfl A0 (ah _ _) aD hx ?_));(try simp only[nn,Nat.reduceAdd]))
   refine aO rfl rfl (A0.row _) aD hx ⟨rfl,?_⟩
   exact az hbel dM _
end
section
open Go.RowKit
def dD (w:World)(B:Nat)(e m:Nat)(k:IntKind)(v:Value)(n:Nat)(xs:List Nat):Prop:=w.ownsRow B e m v n (vals k xs)
section
variable {w w':World}{B B' e m n:Nat}{k:IntKind}{v:Value}{xs:List Nat}
theorem dD.len (h:dD w B e m k v n xs):xs.length=n*m:=by have h1:=h.1;rwa [bg] at h1
theorem dD.nil (w:World)(B e m:Nat)(k:IntKind):dD w B e m k (.slice none 0 0) 0 []:=World.ownsRow_nil w B e m
theorem dD.below (h:dD w B e m k v n xs)(hb:Below w.heap.size w w'):dD w' B e m k v n xs:=by
 obtain⟨h1,h2⟩:=h
 refine⟨h1,h2.imp id ?_⟩
 rintro ⟨g,cap,cur,hv,hg,hh,r⟩
 exact⟨g,cap,cur,hv,hg,(hb.block g (aA.lt hh)).trans hh,r⟩
theorem dD.mono (h:dD w B e m k v n xs)(hB:B'<=B):dD w B' e m k v n xs:=by
 obtain⟨h1,h2⟩:=h
 refine⟨h1,h2.imp id ?_⟩
 rintro ⟨g,cap,cur,hv,hg,r⟩
 exact⟨g,cap,cur,hv,Nat.le_trans hB hg,r⟩
theorem dD.afX (h:dD w B e m k v n xs):∀g,v.ownBlock=some g->B<=g:=λg hg=>(World.ownsRow.lt h g hg).1
theorem dD.lt_ (h:dD w B e m k v n xs):∀g,v.ownBlock=some g->g<w.heap.size:=λg hg=>(World.ownsRow.lt h g hg).2
theorem dD.KA (h:dD w B e m k v n xs){g t:Nat}{cs:Array Value}(hb:aA w g t cs)(hne:t≠e):v.ownBlock≠some g:=λhv=>by
 obtain⟨-,h2⟩:=h
 rcases h2 with ⟨rfl,-⟩|⟨g',cap,cur,rfl,q2,q3,-⟩
 ·cases hv
 ·have:g'=g:=Option.some.inj hv
  subst this
  unfold aA at hb
  rw[hb] at q3
  injection q3 with q3
  injection q3 with _ q3
  exact hne q3
theorem dD.ch (h:dD w B e m k v n xs){g:Nat}(hc:Ch g w w')(hn:v.ownBlock≠some g):dD w' B e m k v n xs:=by
 obtain⟨h1,h2⟩:=h
 refine⟨h1,?_⟩
 rcases h2 with h2|⟨g',cap,cur,rfl,q2,q3,q4⟩
 ·exact .inl h2
 ·refine .inr ⟨g',cap,cur,rfl,q2,?_,q4⟩
  rw[hc.heap g' (Array.getElem?_eq_some_iff.1 q3).1 (λe1=>hn (by rw[e1];rfl))]
  exact q3
theorem dD.Gi (h:dD w B e m k v n xs)(hgr:w.grownBy w' v.ownBlock){g t:Nat}{cs:Array Value}(hb:aA w g t cs)(hne:t≠e):aA w' g t cs :=
 hb.grown hgr (λe1=>h.KA hb hne e1.symm)
theorem dD.gI (h:dD w B e m k v n xs){a:World}{B0:Nat}(hb:Below B0 a w)(hgr:w.grownBy w' v.ownBlock)(hB:B0<=w.heap.size)(hB':B0<=B):Below B0 a w' :=
 hb.grown hgr hB λg hg=>Nat.le_trans hB' (World.ownsRow.lt h g hg).1
theorem dD.mZ (h:dD w B e m k v n xs):∃a c,v=.slice a n c/\Sl w a k xs/\n<=c/\(a=none->c=0):=by
 obtain⟨h1,h2⟩:=h
 rw[bg] at h1
 rcases h2 with ⟨rfl,rfl⟩|⟨g,cap,cur,rfl,hg,hh,hc,hm,hs,ht⟩
 ·rw[Nat.zero_mul] at h1
  obtain rfl:=List.eq_nil_of_length_eq_zero h1
  exact⟨none,0,rfl,Sl.nil _ _ _,Nat.le_refl _,λ_=>rfl⟩
 ·refine⟨_,cap,rfl,λ_=>⟨g,0,rfl,aA.lt hh,λi hi=>?_⟩,hc,λe=>by cases e⟩
  rw[Nat.zero_add,cell_of_row w g i cur e _ hh,←Array.getElem?_toList]
  have h3:(cur.toList.take (n*m))[i]?=(vals k xs)[i]?:=by rw[ht]
  unfold vals at h3
  rw[List.getElem?_take,if_pos (by omega),List.getElem?_map,getD_lt hi] at h3
  exact h3
theorem dD.sl2 (h:dD w B e m k v n xs)(hn:0<n):∃g c,v=.slice (some ⟨g,0,none⟩) n c/\B<=g/\g<w.heap.size/\Sl w (some ⟨g,0,none⟩) k xs/\n<=c:=by
 obtain⟨a,c,rfl,hsl,h3,h4⟩:=h.mZ
 obtain⟨h1,h2⟩:=h
 rcases h2 with ⟨hv,h2⟩|⟨g,cap,cur,hv,hg,hh,hc,hm,hs,ht⟩
 ·omega
 ·injection hv with e1 e2 e3
  subst e1
  exact⟨g,c,rfl,hg,aA.lt hh,hsl,h3⟩
end
theorem iR {P:Program}{ops:Array Oper}{rest:List Oper}{o:Oper}{a:Act}{w:World}{Q:Exit->Act->World->Prop}{B e t m n c g bytes:Nat}{k:IntKind}{z:Value}{v:Value}{xs zs:List Nat}{s x:Operand}(hgd:o.guard=none)
  (ho:o.op=.call { callee:=.builtin .append,args:=#[s,x],argTypes:=#[t,t] }) (ht:P.underlying t=some (.slice e)) (Da:(P.info? e).map (λi=>(i.zero,i.size,i.bytes))=some (some z,m,bytes)) (hz:z.cells.size=m) (hm:0<m) (hby:bytes<=256)
  (hs:a.eval s=v) (hown:dD w B e m k v n xs) (hx:a.eval x=.slice (some ⟨g,0,none⟩) 1 c) (hzl:zs.length=m) (hsl:Sl w (some ⟨g,0,none⟩) k zs) (hl:n+1<2^32) (hB:B<=w.heap.size)
  (h:∀v' w',dD w' B e m k v' (n+1) (xs++zs)->w.grownBy w' v.ownBlock->wpList P ops Q rest (a.put o.dst v') w'):wpList P ops Q (o::rest) a w:=by
 obtain⟨i,hi,hz0,hz1,hz2⟩:=info_parts Da
 refine wpList_append_own w hgd s x t ho B e i z m bytes ht hi hz0 hz1 hz2 hz hm v n _ hs hown ⟨g,0,none⟩ 1 c (vals k zs) hx (by rw[bg,hzl,Nat.one_mul]) ?_ (dX _ _) (by simp only[maxLen];omega) ?_ hB ?_
 ·intro j u hj
  unfold vals at hj
  rw[List.getElem?_map] at hj
  obtain⟨y,hy,rfl⟩:=Option.map_eq_some_iff.1 hj
  obtain⟨hjl,-⟩:=List.getElem?_eq_some_iff.1 hy
  have h3:=hsl.eq hjl
  rw[Addr.add_mid]
  rw[h3,List.getD_eq_getElem?_getD,hy];rfl
 ·calc (n+1)*bytes<=2^32*256:=Nat.mul_le_mul (by omega) hby
   _<=_:=by decide
 ·intro v' w' h1 h2 _
  refine h v' w' ?_ h2
  unfold dD vals at *
  rw[List.map_append]
  exact h1
theorem sO {P:Program}{ops:Array Oper}{o:Oper}{a:Act}{w:World}{Q:Exit->Act->World->Prop}{K:Act->World->Prop}{j B e t m n c g bytes:Nat}{k:IntKind}{z:Value}{v:Value}{xs zs:List Nat}{s x:Operand}(hij:ops[j]?=some o)(hw:Region.wanted o (yielded ops a.tmps)=true)
  (ho:o.op=.call { callee:=.builtin .append,args:=#[s,x],argTypes:=#[t,t] }) (ht:P.underlying t=some (.slice e)) (Da:(P.info? e).map (λi=>(i.zero,i.size,i.bytes))=some (some z,m,bytes)) (hz:z.cells.size=m) (hm:0<m) (hby:bytes<=256)
  (hs:a.eval s=v) (hown:dD w B e m k v n xs) (hx:a.eval x=.slice (some ⟨g,0,none⟩) 1 c) (hzl:zs.length=m) (hsl:Sl w (some ⟨g,0,none⟩) k zs) (hl:n+1<2^32) (hB:B<=w.heap.size)
  (h:∀v' w',dD w' B e m k v' (n+1) (xs++zs)->w.grownBy w' v.ownBlock->K (a.put o.dst v') w'):wpOp P ops Q j K a w:=by
 obtain⟨f,hf,hz0,hz1,hz2⟩:=info_parts Da
 have hnews:∀j u,(vals k zs)[j]?=some u->w.cell? ((⟨g,0,none⟩:Addr).add j)=some u:=by
  intro j u hj
  unfold vals at hj
  rw[List.getElem?_map] at hj
  obtain⟨y,hy,rfl⟩:=Option.map_eq_some_iff.1 hj
  obtain⟨hjl,-⟩:=List.getElem?_eq_some_iff.1 hy
  have h3:=hsl.eq hjl
  rw[Addr.add_mid,h3,List.getD_eq_getElem?_getD,hy];rfl
 have hbb:(n+1)*bytes<=140737488355328:=calc (n+1)*bytes<=2^32*256:=Nat.mul_le_mul (by omega) hby
   _<=_:=by decide
 obtain⟨v',w',hr,h2,h3,-,-⟩:=run_append_own_at (P:=P) w B t o.type e f z m bytes ht hf hz0 hz1 hz2 hz hm v n _ hown ⟨g,0,none⟩ 1 c (vals k zs) (by rw[bg,hzl,Nat.one_mul]) hnews (dX _ _) (by simp only[maxLen];omega) hbb hB
 refine wpOp_step (v:=v') (w':=w') hij hw ?_ (h v' w' (by unfold dD vals at *;rw[List.map_append];exact h2) h3)
 unfold execOp
 simp only[ho,resolve,invoke,builtin,Sem.run_bind,Sem.run_pure,Result.andThen_ok,List.map_toArray,List.map_cons,List.map_nil,hs,hx,hr]
end
end Go.Proofs.YtaiffkajkbiidaaGreatDoor
