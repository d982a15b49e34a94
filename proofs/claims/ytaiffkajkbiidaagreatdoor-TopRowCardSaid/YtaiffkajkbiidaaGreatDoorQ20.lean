/- What this claim leans on, part 20: laws of the model, and what functions of the program compute. No condition but what each law states. -/
import Derived.Test.YtaiffkajkbiidaaGreatDoorQ18
import Derived.Test.YtaiffkajkbiidaaGreatDoorQ19
namespace Go.Proofs.YtaiffkajkbiidaaGreatDoor
set_option linter.unusedSimpArgs false
set_option linter.unusedVariables false
set_option linter.unusedSectionVars false
set_option maxRecDepth 100000
set_option maxHeartbeats 40000000
open Go.Proofs.Tryz
open Tryz
section
open Go.RowKit
open zG (fJ jb iN dO le xk)
theorem Cx {P:Program}{fn:Func}{p q T:Nat}(h:fn.results=#[.tmp q,.cell p T]){R:Ending->World->Prop}{tmps:Array Value}{w:World}{g n t:Nat}{k:IntKind}{xs:List Nat}{v:Value}(hp:tmps.getD p undef=.pointer (some ⟨g,0,none⟩))(hq:tmps.getD q undef=v)
  (hb:aA w g t (ints k xs)) (ha:dG P T n) (hl:xs.length=n) (hR:R (.returned (.tuple #[v,.agg (ints k xs)])) w):bodyPost P fn R .ret { tmps:=tmps,defers:=[] } w:=by
 obtain⟨⟨d,h1,hd⟩,h2⟩:=ha
 refine bodyPost_ret ?_ rfl hR
 have hp':tmps[p]?.getD undef=.pointer (some ⟨g,0,none⟩):=by simpa using hp
 have hq':tmps[q]?.getD undef=v:=by simpa using hq
 simp[results,h,hp',hq',asAddr,run_loadVar_row w g t T _ _ _ hb h1 (by cases d<;>first|rfl|cases hd) (by rw[aF,hl];exact h2)]
theorem FL0:FL 0=0:=by kernel_rfl
theorem Yy:FL 16=4625196817309499392:=by kernel_rfl
theorem Lx (m:List Nat)(hm:∀x∈m,x<256)(h16:16<=m.length)(hl:m.length<208)(a:Option Addr)(c:Nat)(hc:m.length<=c)(w:World)(hs:Sl w a .u8 m) :
  Calls prog 100 #[.slice a m.length c] w λe w'=>∃v,e=.returned (.tuple #[v,.agg (ints .u64 (fJ (le (m.drop (m.length-16)))))])/\Own w' w.heap.size 5 .u8 v (m.take (m.length-16))/\Below w.heap.size w w':=by
 obtain⟨k,Hk⟩:=bD (m.length-16)
 have hk:(m.length:Int)-16=(k:Int):=by rw[←Hk.out];omega
 have ho1:=λW (h:Sl W a .u8 m)=>uD 0 k m (by rw[←Hk.out];omega) hl a c hc W h
 have ho2:=λW (h:Sl W a .u8 m)=>uD k 16 m (by rw[←Hk.out];omega) hl a c hc W h
 have SE:(m.drop k).length=16:=by rw[List.length_drop,←Hk.out];omega
 rw[List.drop_zero] at ho1
 rw[List.take_of_length_le (Nat.le_of_eq SE)] at ho2
 rw[FL0] at ho1
 rw[Yy] at ho2
 have hrb:∀x∈m.drop k,x<256:=λx hx=>hm x (List.mem_of_mem_drop hx)
 have hcv:=λW=>nR k W
 rw[Hk.out]
 generalize FL k=fk at *
 have hld:=λW ad cd (h:Sl W ad .u8 (m.drop k))=>yg ad cd (m.drop k) hrb (by rw[SE];decide) W h
 rw[SE,jb SE hrb] at hld
 have abm:=dO (le (m.drop k))
 generalize fJ (le (m.drop k))=R at *
 have htl:(m.take k).length=k:=by rw[List.length_take,←Hk.out];omega
 generalize m.drop k=mr at *
 generalize m.take k=ml at *
 obtain⟨N,HN⟩:=bD (m.length)
 rw[HN.out] at hk hl hc h16 ho1 ho2 ⊢
 have hw:IntKind.i64.wrap (k:Int)=(k:Int):=IntWalk.i64_in _ (by omega)
 have Z:=aA.new w 149 (ints .u64 (zeros 2))
 have hbel:=bN w (.cells (ints .u64 (zeros 2)) 149)
 have hs1:=hs.below hbel
 clear HN Hk hm
 go_enter func100,ntmps100
 go_wp2_with (refine ae rfl 149 rfl zW ?_;(try simp only[nn,Nat.reduceAdd]))
 generalize (w.alloc (.cells (ints .u64 (zeros 2)) 149))=w0 at *
 refine(ho1 w0 hs1).mono ?_
 rintro e w1 ⟨v1,rfl,O1,hb1⟩
 obtain⟨a1,c1,rfl,-,-,-⟩:=O1.mZ
 have hs2:=hs1.below hb1
 have Z1:=Z.below' hb1
 have aK:=bC hbel hb1
 clear hs1 Z
 go_wp2_with fail
 refine(ho2 w1 hs2).mono ?_
 rintro e w2 ⟨v2,rfl,O2,hb2⟩
 obtain⟨a2,c2,rfl,S2,-,-⟩:=O2.mZ
 have Z2:=Z1.below' hb2
 have P2:=O1.below hb2
 have aB:=bC aK hb2
 rw[SE]
 rw[htl] at P2
 clear Z1 O1 hb2 hb1 aK
 go_wp2_with fail
 refine(hld w2 a2 c2 S2).mono ?_
 rintro e w3 ⟨rfl,hb3⟩
 have Z3:=Z2.below' hb3
 have P3:=P2.below hb3
 have aG:=bC aB hb3
 clear hld O2 S2 Z2 P2 aB hb3
 go_wp2_with (refine aa rfl 149 _ _ rfl _ rfl rfl Z3 (ah _ _) sF abm ?_;(try simp only[nn,Nat.reduceAdd]))
 exact Cx (v:=.slice a1 k c1) rfl rfl rfl (Z3.row _) sF abm ⟨_,rfl,(P3.ch (Ch.qp (Only.row _ w.heap.size (ints .u64 R))) Z3 (by decide)).mono hbel.size,az aG dM _⟩
theorem uV (n:Nat)(w:World):Calls prog 111 #[.agg (ints .u64 (fJ n))] w λe w'=>e=.returned (.agg (ints .u8 (cZ 256 16 n)))/\Below w.heap.size w w':=by
 have h:=mo (n%18446744073709551616) (n/18446744073709551616%18446744073709551616) (Nat.mod_lt _ (by decide)) (Nat.mod_lt _ (by decide)) w
 rw[iN] at h
 exact h
theorem Fj (f:Nat)(hf:f=36∨f=105)(p:Option Addr)(n:Nat)(y:List Nat)(hy:y.length=16)(hyb:∀x∈y,x<256)(w:World)(hdo:∀W,Below w.heap.size w W->Calls prog f #[.pointer p,.agg (ints .u8 (cZ 256 16 n))] W λe w'=>e=.returned (.agg (ints .u8 y))/\Below W.heap.size W w') :
  Calls prog 104 #[.func (.func f) #[.pointer p] #[],.agg (ints .u64 (fJ n))] w λe w'=>e=.returned (.agg (ints .u64 (fJ (le y))))/\Below w.heap.size w w':=by
 have A0:=(aA.new w 149 (ints .u64 (fJ n))).alloc (.cells (ints .u64 (zeros 2)) 149)
 have A1:=aA.new (w.alloc (.cells (ints .u64 (fJ n)) 149)) 149 (ints .u64 (zeros 2))
 rw[World.size_alloc] at A1
 have hbel:=(bN w (.cells (ints .u64 (fJ n)) 149)).alloc (by simp) (.cells (ints .u64 (zeros 2)) 149)
 have afo:=dO n
 have hby:=λW=>uV n W
 have hld:=λW ad cd (h:Sl W ad .u8 y)=>yg ad cd y hyb (by rw[hy];decide) W h
 rw[hy,jb hy hyb] at hld
 have hWy:=dO (le y)
 generalize fJ (le y)=R at *
 generalize fJ n=Wn at *
 generalize cZ 256 16 n=dn at *
 replace hdo:=aR hdo
 rcases hf with rfl|rfl
 all_goals
  go_enter func104,ntmps104
  go_wp2_with ((first|(refine ae rfl 149 rfl zW ?_)|(refine ag rfl 149 _ rfl _ rfl A0 sF afo ?_));(try simp only[nn,Nat.reduceAdd]))
  generalize ((w.alloc (.cells (ints .u64 Wn) 149)).alloc (.cells (ints .u64 (zeros 2)) 149))=w0 at *
  refine(hby w0).mono ?_
  rintro e w1 ⟨rfl,hb1⟩
  have B1:=A1.below' hb1
  have aK:=bC hbel hb1
  clear A0 A1 hby
  go_wp2_with fail
  refine(hdo.out w1 aK).mono ?_
  rintro e w2 ⟨rfl,hb2⟩
  have C1:=(B1.below' hb2).alloc (.cells (ints .u8 (zeros 16)) 96)
  have hl1:=(B1.below' hb2).lt
  have C2:=aA.new w2 96 (ints .u8 (zeros 16))
  have aB:=bC aK hb2
  have D1:=C1.aM (show w.heap.size+1≠w2.heap.size by omega) (ints .u8 y)
  have D2:=C2.row (ints .u8 y)
  have aG:=az (aB.alloc aB.size (.cells (ints .u8 (zeros 16)) 96)) aB.size (ints .u8 y)
  clear B1 C1 hl1 hb2 aB aK hb1
  go_wp2_with ((first|(refine ae rfl 96 rfl fw ?_)|(refine aa rfl 96 _ _ rfl w2.heap.size rfl rfl C2 (ah _ _) aD hy ?_));(try simp only[nn,Nat.reduceAdd]))
  clear C2
  generalize ((w2.alloc (.cells (ints .u8 (zeros 16)) 96)).setRow w2.heap.size (ints .u8 y))=w3 at *
  refine(hld w3 (some ⟨w2.heap.size,0,none⟩) 16 (Sl.blk D2)).mono ?_
  rintro e w4 ⟨rfl,hb4⟩
  have E1:=D1.below' hb4
  have aY:=bC aG hb4
  go_wp2_with (refine aa rfl 149 _ _ rfl _ rfl rfl E1 (ah _ _) sF hWy ?_;(try simp only[nn,Nat.reduceAdd]))
  exact aO rfl rfl (E1.row _) sF hWy ⟨rfl,az aY (by omega) _⟩
theorem BK (p:Addr)(a:Option Addr)(n c:Nat)(h:16<=n)(w:World) :
  Calls prog 99 #[.pointer (some p),.slice a n c] w λe w'=>e=.returned (.int .i64 0)/\w=w':=by
 have hd:decide ((n:Int)<16)=false:=by simp;omega
 go_enter func99,ntmps99
 go_wp2
 go_ret
 exact⟨rfl,rfl⟩
end
section
open Go.RowKit
open zG (fJ jb iN dO le xk)
theorem YJ {w:World}{a1 a2:Option Addr}{c1 c2:Nat}{x y:List Nat}(h1:Sl w a1 .u8 x)(h2:Sl w a2 .u8 y)(n1:a1=none->c1=0)(n2:a2=none->c2=0) :
  ∀i,i<[x,y].length->∃ai ci,[Value.slice a1 x.length c1,Value.slice a2 y.length c2][i]?=some (.slice ai (([x,y]:List (List Nat)).getD i []).length ci)/\Sl w ai .u8 (([x,y]:List (List Nat)).getD i [])/\(ai=none->ci=0)
 | 0,_=>⟨a1,c1,rfl,h1,n1⟩
 | 1,_=>⟨a2,c2,rfl,h2,n2⟩
 | i+2,h=>by simp at h;omega
theorem zi (b:List Nat)(hbl:b.length<2^30)(n:Nat)(a1:Option Addr)(c1:Nat)(hn1:a1=none->c1=0)(w:World)(hs:Sl w a1 .u8 b) :
  Calls prog 103 #[.slice a1 b.length c1,.agg (ints .u64 (fJ n))] w λe w'=>∃v,e=.returned v/\Own w' w.heap.size 5 .u8 v (b++cZ 256 16 n)/\Below w.heap.size w w':=by
 have A0:=aA.new w 149 (ints .u64 (fJ n))
 have hbel:=bN w (.cells (ints .u64 (fJ n)) 149)
 have hs1:=hs.below hbel
 have afo:=dO n
 have hby:=λW=>uV n W
 have dl:(cZ 256 16 n).length=16:=bn _ _ _
 obtain⟨Y,HY⟩:=bD (b++cZ 256 16 n)
 rw[HY.out]
 generalize fJ n=Wn at *
 generalize cZ 256 16 n=y at *
 obtain⟨N,HN⟩:=bD (b.length)
 rw[HN.out] at hbl ⊢
 go_enter func103,ntmps103
 go_wp2_with (refine ag rfl 149 _ rfl _ rfl A0 sF afo ?_;(try simp only[nn,Nat.reduceAdd]))
 generalize (w.alloc (.cells (ints .u64 Wn) 149))=w0 at *
 refine(hby w0).mono ?_
 rintro e w2 ⟨rfl,hb2⟩
 have hs2:=hs1.below hb2
 have C2:=aA.new w2 96 (ints .u8 (zeros 16))
 have aB:=bC hbel hb2
 have D2:=C2.row (ints .u8 y)
 have hb3:Below w2.heap.size w2 ((w2.alloc (.cells (ints .u8 (zeros 16)) 96)).setRow w2.heap.size (ints .u8 y)):=az (bN w2 (.cells (ints .u8 (zeros 16)) 96)) dM (ints .u8 y)
 have hs3:=hs2.below hb3
 have aG:=bC aB hb3
 clear hs1 hs2 hb2 hbel aB hby A0
 go_wp2_with ((first|(refine ae rfl 96 rfl fw ?_)|(refine aa rfl 96 _ _ rfl w2.heap.size rfl rfl C2 (ah _ _) aD dl ?_));(try simp only[nn,Nat.reduceAdd]))
 have hz3:((w2.alloc (.cells (ints .u8 (zeros 16)) 96)).setRow w2.heap.size (ints .u8 y)).heap.size=w2.heap.size+1:=by rw[setRow_size,World.size_alloc]
 clear C2 hb3
 generalize ((w2.alloc (.cells (ints .u8 (zeros 16)) 96)).setRow w2.heap.size (ints .u8 y))=w3 at *
 refine(yN (some ⟨w2.heap.size+1,0,none⟩) 2 [b,y] (show 2<2^31 by omega) (by have:=HN.out;simp;omega) _ ?_).mono ?_
 ·rw[←hz3]
  have hb4:=bN w3 (.cells [Value.slice a1 N c1,.slice (some ⟨w2.heap.size,0,none⟩) 16 16].toArray 23)
  have h3:=YJ (hs3.below hb4) ((Sl.blk D2).below hb4) (c1:=c1) (c2:=16) hn1 (λh=>by cases h)
  rw[HN.out,dl] at h3
  exact Cn (aA.new w3 23 [Value.slice a1 N c1,.slice (some ⟨w2.heap.size,0,none⟩) 16 16].toArray) h3
 ·rintro e w4 ⟨v3,rfl,hown3,hb4⟩
  have hz:=aG.size
  have aY:=dx (aG.alloc hz (.cells #[Value.slice a1 N c1,.slice (some ⟨w2.heap.size,0,none⟩) 16 16] 23)) hb4 (by rw[World.size_alloc];omega)
  have YW:=hown3.mono (B':=w.heap.size) (by rw[World.size_alloc];omega)
  have HE:[b,y].flatten=Y:=by rw[←HY.out];simp
  rw[HE] at YW
  go_wp2_with fail
  exact bodyPost_ret (v:=v3) (by simp[results,results103]) rfl ⟨v3,rfl,YW,aY⟩
def Qj (w:World)(gc ga gs:Nat)(key:List Nat):Prop:=aA w gc 89 (ints .u8 key++#[.pointer (some ⟨ga,0,none⟩),.pointer (some ⟨gs,0,none⟩)])/\key.length=32
theorem Qj.below {w w':World}{gc ga gs:Nat}{key:List Nat}(h:Qj w gc ga gs key)(hb:Below w.heap.size w w'):Qj w' gc ga gs key:=⟨h.1.below' hb,h.2⟩
theorem Qj.sl {w:World}{gc ga gs:Nat}{key:List Nat}(h:Qj w gc ga gs key):Sl w (some ⟨gc,0,none⟩) .u8 key:=λ_ =>
 ⟨gc,0,rfl,h.1.lt,λi hi=>by rw[h.1.cell,Nat.zero_add,Array.getElem?_append_left (by rw[aF];exact hi),iC,getD_lt hi];rfl⟩
theorem Qj.c0 {w:World}{gc ga gs:Nat}{key:List Nat}(h:Qj w gc ga gs key):w.cell? ⟨gc,32,none⟩=some (.pointer (some ⟨ga,0,none⟩)):=by
 rw[h.1.cell,Array.getElem?_append_right (by rw[aF,h.2];exact Nat.le_refl _),aF,h.2];rfl
theorem Qj.c1 {w:World}{gc ga gs:Nat}{key:List Nat}(h:Qj w gc ga gs key):w.cell? ⟨gc,33,none⟩=some (.pointer (some ⟨gs,0,none⟩)):=by
 rw[h.1.cell,Array.getElem?_append_right (by rw[aF,h.2];decide),aF,h.2];rfl
def ig:List Nat:=[1,0,0,0,0,0,0,0]
theorem Tryz.adg:IsZero prog 91 24 .u8:=isZero (by kernel_rfl)
theorem EF (gc ga gs:Nat)(key b:List Nat)(hkb:∀x∈key,x<256)(hb:∀x∈b,x<256)(hbl:b.length<2^31)(n:Nat)(a1:Option Addr)(c1:Nat)(hc1:b.length<=c1)(w:World)(hs:Sl w a1 .u8 b)(hC:Qj w gc ga gs key) :
  Calls prog 102 #[.pointer (some ⟨gc,0,none⟩),.agg (ints .u64 (fJ n)),.slice a1 b.length c1] w λe w'=>∃v,e=.returned v/\Own w' w.heap.size 5 .u8 v (xu key (cZ 256 16 n++ig) b)/\Below w.heap.size w w':=by
 have A0:=(aA.new w 149 (ints .u64 (fJ n))).alloc (.cells (ints .u8 (zeros 24)) 91)
 have A1:=aA.new (w.alloc (.cells (ints .u64 (fJ n)) 149)) 91 (ints .u8 (zeros 24))
 rw[World.size_alloc] at A1
 have hbel:=(bN w (.cells (ints .u64 (fJ n)) 149)).alloc (by simp) (.cells (ints .u8 (zeros 24)) 91)
 have afo:=dO n
 have hby:=λW=>uV n W
 have dl:(cZ 256 16 n).length=16:=bn _ _ _
 have abE:∀x∈cZ 256 16 n,x<256:=dU (by decide) _ _
 obtain⟨Y,HY⟩:=bD (xu key (cZ 256 16 n++ig) b)
 have hcr:=λW ad cd (hc:b.length<=cd) (h:Sl W ad .u8 b)=>BB key (cZ 256 16 n++ig) b hC.2 hkb (by rw[List.length_append,dl];rfl) (λx hx=>(List.mem_append.1 hx).elim (abE x) (λh=>(by decide:∀x∈ig,x<256) x h)) hb hbl ad cd hc W h
 rw[HY.out] at hcr ⊢
 generalize fJ n=Wn at *
 have hsp:=jM (cZ 256 16 n) 8
 rw[dl] at hsp
 have hset:(cZ 256 16 n++zeros 8).set 16 1=cZ 256 16 n++ig:=by
  rw[List.set_append_right _ _ (by rw[dl];exact Nat.le_refl _),dl];rfl
 have hll:(cZ 256 16 n++ig).length=24:=by rw[List.length_append,dl];rfl
 generalize cZ 256 16 n=y at *
 obtain⟨N,HN⟩:=bD (b.length)
 rw[HN.out] at hbl hc1 hcr ⊢
 go_enter func102,ntmps102
 go_wp2_with ((first|(refine ae rfl 91 rfl adg ?_)|(refine ag rfl 149 _ rfl _ rfl A0 sF afo ?_));(try simp only[nn,Nat.reduceAdd]))
 generalize ((w.alloc (.cells (ints .u64 Wn) 149)).alloc (.cells (ints .u8 (zeros 24)) 91))=w0 at *
 refine(hby w0).mono ?_
 rintro e w2 ⟨rfl,hb2⟩
 have B1:=A1.below' hb2
 have aB:=bC hbel hb2
 have hl1:=B1.lt
 have C1:=(B1.alloc (.cells (ints .u8 (zeros 16)) 96)).aM (show w.heap.size+1≠w2.heap.size by omega) (ints .u8 y)
 have C2:=aA.new w2 96 (ints .u8 (zeros 16))
 have D2:=C2.row (ints .u8 y)
 have aG:=az (aB.alloc aB.size (.cells (ints .u8 (zeros 16)) 96)) aB.size (ints .u8 y)
 clear A0 A1 hbel hby hb2 B1 aB
 go_wp2_with ((first|(refine ae rfl 96 rfl fw ?_)|(refine aa rfl 96 _ _ rfl w2.heap.size rfl rfl C2 (ah _ _) aD dl ?_));(try simp only[nn,Nat.reduceAdd]))
 clear C2
 have hl2:w.heap.size+1<w2.heap.size:=hl1
 generalize ((w2.alloc (.cells (ints .u8 (zeros 16)) 96)).setRow w2.heap.size (ints .u8 y))=w3 at *
 obtain⟨gm,Hgm⟩:=bD (w2.heap.size)
 rw[Hgm.out] at D2 hl2 ⊢
 clear Hgm hl1
 refine wp_region_still_tail 2 (by kernel_rfl) (by kernel_rfl) ?_
 simp only[List.take_succ_cons,List.take_zero,List.drop_succ_cons,List.drop_zero]
 repeat still_step
 refine wpStill_nil ?_
 change wpList _ _ _ _ _ w3.drew
 have aY:=aG.drew
 refine bM (off:=0) (dLen:=24) (sLen:=16) rfl rfl underlying23 s15 rfl rfl C1.drew (Sl.blk D2.drew) (by rw[dl];rfl) (λ_=>rfl) (by rw[aH,dl];decide) ?_
 intro w4 E1 ho
 rw[hsp] at E1
 have bA:=ho.below _ _ aY (by omega)
 clear C1 D2 aG aY ho
 have hyl:(y++zeros 8).length=24:=by rw[List.length_append,dl];rfl
 go_wp2_with (refine wpList_store_one rfl 5 _ _ rfl adB E1 16 1 rfl rfl (by rw[hyl];decide) ?_;intro w5 F1 OG;rw[hset] at F1;have bK:=OG.below bA (by omega);clear E1 bA OG;(try simp only[nn,Nat.reduceAdd]))
 generalize y++ig=r24 at *
 have hC6:=hC.below bK
 have hs6:=hs.below bK
 have DV:=bK.size
 have hkn:key≠[]:=λe=>by have:=hC.2;rw[e] at this;simp at this
 have aI:=oJ (S:=(λ_ _ W=>Below w5.heap.size w5 W)) (λ_ _ _ _ h hb=>bC h hb)
 refine aS (n:=28) (T:=?_) [(18,.pointer (some ⟨gc,0,none⟩)),(19,.pointer (some ⟨gc,0,none⟩)),(20,.pointer (some ⟨gc,0,none⟩)),(21,.agg (ints .u8 key)),(22,.agg (ints .u8 r24)),(23,.slice a1 N c1),(26,.int .i64 0),(10,.int .i64 0)] [24,17,25,9] (λs W u=>(s=24->(∃v,u=.tuple #[v,.int .i64 0]/\Own W w.heap.size 5 .u8 v Y))/\(s=17->(∃v,u=.tuple #[v,.int .i64 0]/\Own W w.heap.size 5 .u8 v Y))/\(s=25->Own W w.heap.size 5 .u8 u Y)/\(s=9->Own W w.heap.size 5 .u8 u Y)) (λW W'=>Below W.heap.size W W') [] _ aI (by kernel_rfl) (by kernel_rfl) rfl (by kernel_rfl) (by kernel_rfl) (by kernel_rfl) (λs W W' v hR h=>⟨λe=>(λ⟨v,h,ho⟩ hR=>⟨v,h,ho.below hR⟩) (h.1 e) hR,λe=>(λ⟨v,h,ho⟩ hR=>⟨v,h,ho.below hR⟩) (h.2.1 e) hR,λe=>(λh hR=>h.below hR) (h.2.2.1 e) hR,λe=>(λh hR=>h.below hR) (h.2.2.2 e) hR⟩) (dQ _) ?_ ?_ ?_ ?_
 rotate_left
 ·intro e;simp only[tv,nn,Nat.reduceAdd];exact rfl
 ·exact λe=>rfl
 ·intro i o il k qB hst e W hS hla
  rcases i with _|_|_|_|_|_|_|_|_|_|_|_|i<;>try cases il
  ·exact kv 18 rfl rfl rfl rfl rfl rfl fo hS
  ·exact kv 19 rfl rfl (by kernel_rfl) rfl rfl rfl fo hS
  ·exact kv 20 rfl rfl (by kernel_rfl) rfl rfl rfl fo hS
  ·exact kv 21 rfl rfl (bq rfl rfl (hC6.sl.below hS) pW hC.2 hkn) rfl rfl rfl fo hS
  ·refine bf rfl rfl rfl rfl (F1.below' hS) ags hll ?_
   exact KL.at_ 22 rfl rfl rfl fo hS
  ·exact kv 23 rfl rfl rfl rfl rfl rfl fo hS
  ·refine fV (Pv:=λu W'=>∃v,u=.tuple #[v,.int .i64 0]/\Own W' W.heap.size 5 .u8 v Y/\Below W.heap.size W W') 33 rfl rfl rfl func33 (by kernel_rfl) (by kernel_rfl) ((hcr W a1 c1 hc1 (hs6.below hS)).mono λe w' ⟨v,he,ho,hb⟩=>⟨_,he,v,rfl,ho,hb⟩) ?_;rintro u W' ⟨v,rfl,hO,hW'⟩
   exact KL.lt 24 rfl rfl ⟨λ_=>(⟨v,rfl,hO.mono (Nat.le_trans DV (show Below w5.heap.size w5 W from hS).size)⟩),λe=>absurd e (by decide),λe=>absurd e (by decide),λe=>absurd e (by decide)⟩ (hW') (aI k e _ _ hS hW')
  ·exact af (v:=e 24) rfl rfl rfl (KL.lt 17 rfl rfl ⟨λe=>absurd e (by decide),λ_=>(((hla 24 rfl (by kernel_rfl)).1 rfl)),λe=>absurd e (by decide),λe=>absurd e (by decide)⟩ fo hS)
  ·obtain⟨v,h,ho⟩:=((hla 17 rfl (by kernel_rfl)).2.1 rfl);refine af (v:=v) rfl rfl (eD rfl h rfl) ?_
   exact KL.lt 25 rfl rfl ⟨λe=>absurd e (by decide),λe=>absurd e (by decide),λ_=>(ho),λe=>absurd e (by decide)⟩ fo (hS)
  ·obtain⟨v,h,ho⟩:=((hla 17 rfl (by kernel_rfl)).2.1 rfl);refine af (v:=.int .i64 0) rfl rfl (eD rfl h rfl) ?_
   exact KL.at_ 26 rfl rfl rfl fo (hS)
  ·exact af (v:=e 25) rfl rfl rfl (KL.lt 9 rfl rfl ⟨λe=>absurd e (by decide),λe=>absurd e (by decide),λe=>absurd e (by decide),λ_=>(((hla 25 rfl (by kernel_rfl)).2.2.1 rfl))⟩ fo hS)
  ·exact kv 10 rfl rfl rfl rfl rfl rfl fo hS
 ·intro e W hS hla
  have l24:=(hla 24 rfl).1 rfl
  have l17:=(hla 17 rfl).2.1 rfl
  have l25:=(hla 25 rfl).2.2.1 rfl
  have l9:=(hla 9 rfl).2.2.2 rfl
  clear hla aI
  have hSW:Below w5.heap.size w5 W:=hS
  obtain⟨av,cv,hv9,S9,-,-⟩:=l9.mZ
  generalize e 9=u9 at hv9 l9 ⊢
  subst hv9
  clear l24 l17 l25
  go_wp2_with fail
  exact bodyPost_ret (v:=.slice av Y.length cv) (by simp[results,results102]) rfl ⟨_,rfl,l9,dx bK hSW DV⟩
end
section
open Go.RowKit
open zG (fJ jb iN dO le xk)
theorem BI {L key:List Nat}(hl:L.length=512)(hL:∀x∈L,x<256)(hk:key.length=16∨key.length=24∨key.length=32):lI L (jC L key):=by
 have hw:(Ad L key).length=16*(key.length/4+7):=by unfold Ad;rw[wM];omega
 have hb:∀x∈Ad L key,x<256:=(Ip hL _ key _).1
 refine⟨hl,hL,by rw[jR];omega,by rw[jR];omega,?_,?_⟩
 ·intro k h
  unfold jC at h
  obtain⟨i,hi,rfl⟩:=List.mem_map.1 h
  rw[List.mem_range] at hi
  rw[List.length_take,List.length_drop]
  omega
 ·intro k h x hx
  unfold jC at h
  obtain⟨i,hi,rfl⟩:=List.mem_map.1 h
  exact hb x (List.mem_of_mem_drop (List.mem_of_mem_take hx))
theorem agr (g off c:Nat)(w:World):(Instr.arrayAt 85 (.slice (some ⟨g,off,none⟩) 32 c)).run prog w=.ok (.pointer (some ⟨g,off,none⟩)) w:=by kernel_rfl
theorem NY {o:Oper}{a:Act}{x:Operand}{g off c:Nat}{w:World}(ho:o.op=.sliceToArrayPointer 85 x)(hx:a.eval x=.slice (some ⟨g,off,none⟩) 32 c):(execOp a.eval o).run prog w=.ok (.value (.pointer (some ⟨g,off,none⟩))) w:=by
 unfold execOp
 simp only[ho,hx,Sem.run_bind,agr,Result.andThen_ok]
 rfl
theorem CV (k:List Nat)(h:k.length=32):∃x0 x1 x2 x3 x4 x5 x6 x7 x8 x9 Qo PS PR PQ Va UZ acy acx acw acv x20 acu acs YC x24 x25 acr x27 x28 x29 x30 x31,k=[x0,x1,x2,x3,x4,x5,x6,x7,x8,x9,Qo,PS,PR,PQ,Va,UZ,acy,acx,acw,acv,x20,acu,acs,YC,x24,x25,acr,x27,x28,x29,x30,x31]:=by
 match k,h with
 | [x0,x1,x2,x3,x4,x5,x6,x7,x8,x9,Qo,PS,PR,PQ,Va,UZ,acy,acx,acw,acv,x20,acu,acs,YC,x24,x25,acr,x27,x28,x29,x30,x31],_=>exact⟨_,_,_,_,_,_,_,_,_,_,_,_,_,_,_,_,_,_,_,_,_,_,_,_,_,_,_,_,_,_,_,_,rfl⟩
theorem bldC (key:List Nat)(h:key.length=32)(W:World):(Instr.build 89 #[(0,.agg (ints .u8 key))]).run prog W=.ok (.agg (ints .u8 key++#[.pointer none,.pointer none])) W:=by
 obtain⟨x0,x1,x2,x3,x4,x5,x6,x7,x8,x9,Qo,PS,PR,PQ,Va,UZ,acy,acx,acw,acv,x20,acu,acs,YC,x24,x25,acr,x27,x28,x29,x30,x31,rfl⟩:=CV key h
 kernel_rfl
theorem Re {o:Oper}{a:Act}{x:Operand}{key:List Nat}{w:World}(h:key.length=32)(ho:o.op=.build 89 #[(0,x)])(hx:a.eval x=.agg (ints .u8 key)):(execOp a.eval o).run prog w=.ok (.value (.agg (ints .u8 key++#[.pointer none,.pointer none]))) w:=by
 unfold execOp
 simp only[ho,List.map_toArray,List.map_cons,List.map_nil,hx]
 simp only[Sem.run_bind,bldC key h,Result.andThen_ok]
 rfl
theorem VU {o:Oper}{a:Act}{x y:Operand}{n:Nat}{w:World}(hn:n<2^40)(ho:o.op=.makeSlice 23 x y)(hx:a.eval x=.int .i64 (n:Int))(hy:a.eval y=.int .i64 (n:Int)):(execOp a.eval o).run prog w=.ok (.value (.slice (some ⟨w.heap.size,0,none⟩) n n)) (w.alloc (.cells (ints .u8 (zeros n)) 5)):=by
 unfold execOp
 simp only[ho,hx,hy,Sem.run_bind,xZ n hn,Result.andThen_ok]
 rfl
theorem adu {key:List Nat}(h:key.length=32)(v0 v1 u:Value):(ints .u8 key++#[v0,v1]).setIfInBounds 32 u=ints .u8 key++#[u,v1]:=by
 obtain⟨x0,x1,x2,x3,x4,x5,x6,x7,x8,x9,Qo,PS,PR,PQ,Va,UZ,acy,acx,acw,acv,x20,acu,acs,YC,x24,x25,acr,x27,x28,x29,x30,x31,rfl⟩:=CV key h
 rfl
theorem adt {key:List Nat}(h:key.length=32)(v0 v1 u:Value):(ints .u8 key++#[v0,v1]).setIfInBounds 33 u=ints .u8 key++#[v0,u]:=by
 obtain⟨x0,x1,x2,x3,x4,x5,x6,x7,x8,x9,Qo,PS,PR,PQ,Va,UZ,acy,acx,acw,acv,x20,acu,acs,YC,x24,x25,acr,x27,x28,x29,x30,x31,rfl⟩:=CV key h
 rfl
theorem at32 {key:List Nat}(h:key.length=32)(v0 v1:Value):(ints .u8 key++#[v0,v1])[32]?=some v0/\(ints .u8 key++#[v0,v1])[33]?=some v1:=by
 obtain⟨x0,x1,x2,x3,x4,x5,x6,x7,x8,x9,Qo,PS,PR,PQ,Va,UZ,acy,acx,acw,acv,x20,acu,acs,YC,x24,x25,acr,x27,x28,x29,x30,x31,rfl⟩:=CV key h
 exact⟨rfl,rfl⟩
theorem adq {w:World}{g t:Nat}{key:List Nat}{v0 v1:Value}(h:aA w g t (ints .u8 key++#[v0,v1])):Sl w (some ⟨g,0,none⟩) .u8 key:=λ_ =>
 ⟨g,0,rfl,h.lt,λi hi=>by rw[h.cell,Nat.zero_add,Array.getElem?_append_left (by rw[aF];exact hi),iC,getD_lt hi];rfl⟩
theorem Ag.ch {w w':World}{ga gt gb gk ck g t:Nat}{L:List Nat}{ks:List (List Nat)}{cs:Array Value}(h:Ag w ga gt gb gk ck L ks)(hc:Ch g w w')(hb:aA w g t cs)(h1:123≠t)(h2:56≠t)(h3:69≠t)(hk:gk≠g):Ag w' ga gt gb gk ck L ks:=by
 obtain⟨a1,a2,a3,⟨cs',b1,b2⟩,a5⟩:=h
 exact⟨hc.blk a1 (a1.LJ hb h1),hc.sl a2 (λb off e=>by cases e;exact hk),a3,⟨cs',hc.blk b1 (b1.LJ hb h2),b2⟩,hc.blk a5 (a5.LJ hb h3)⟩
theorem pX {L key:List Nat}(hl:L.length=512)(hL:∀x∈L,x<256)(hk:key.length=16∨key.length=24∨key.length=32):(jC L key).flatten.length=16*(key.length/4+7):=by
 have ok:=BI hl hL hk
 have h:=pQ (ks:=jC L key) (jC L key).length ok.len
 rw[List.take_length] at h
 have e:(jC L key).flatten=Ad L key:=by
  have h2:=rX (Ad L key) (key.length/4+7)
  have hw:(Ad L key).length=16*(key.length/4+7):=by unfold Ad;rw[wM];omega
  rw[List.take_of_length_le (Nat.le_of_eq hw)] at h2
  exact h2
 rw[e]
 unfold Ad
 rw[wM]
 omega
def xU:List Nat:=1::zeros 23
def lC (key:List Nat):List Nat:=xu key xU (zeros 1136)
def qM (key:List Nat):List (List Nat):=jC (dW 255) ((lC key).take 32)
def zk (key:List Nat):List Nat:=(lC key).drop 32
theorem Yg (gt gb:Nat)(key:List Nat)(hkl:key.length=32)(hkb:∀x∈key,x<256)(a:Option Addr)(c:Nat)(hc:32<=c)(w:World)(hT:lJ w gt gb)(hs:Sl w a .u8 key) :
  Calls prog 28 #[.pointer (some ⟨gt,0,none⟩),.slice a 32 c] w λe w'=>∃gc,e=.returned (.tuple #[.pointer (some ⟨gc,0,none⟩),.int .i64 0])/\w.heap.size<=gc/\(∃ga gs gk ck gw,Qj w' gc ga gs key/\Ag w' ga gt gb gk ck (dW 255) (qM key)/\xk w' gs gw (zk key))/\Below w.heap.size w w':=by
 have hkn:key≠[]:=λe=>by rw[e] at hkl;simp at hkl
 obtain⟨g0,o0,rfl,hg0,-⟩:=hs hkn
 go_enter func28,ntmps28
 go_wp2_with ((first|(refine aZ rfl (NY rfl rfl) ?_)|(refine aZ rfl (bq rfl rfl hs pW hkl hkn) ?_)|(refine aZ rfl (Re hkl rfl rfl) ?_));(try simp only[nn,Nat.reduceAdd]))
 have A0:=aA.new w 89 (ints .u8 key++#[.pointer none,.pointer none])
 have hbel:=bN w (.cells (ints .u8 key++#[.pointer none,.pointer none]) 89)
 have hT1:=hT.below hbel
 generalize (w.alloc (.cells (ints .u8 key++#[.pointer none,.pointer none]) 89))=w0 at *
 have DV:=hbel.size
 have hcr:=λW ad cd (hc:1136<=cd) (h:Sl W ad .u8 (zeros 1136))=>BB key xU (zeros 1136) hkl hkb (by decide) (by decide) (dh 1136 (by decide)) (by rw[aH];decide) ad cd (by rw[aH];exact hc) W h
 rw[aH] at hcr
 have hol:(lC key).length=1136:=by unfold lC xu;rw[gN,aH]
 have FT:∀x∈lC key,x<256:=by unfold lC xu;exact vH (λq=>yR _ _) (dh 1136 (by decide))
 have HKS:Hid (qM key=jC (dW 255) ((lC key).take 32)):=aR rfl
 have HHK:Hid (zk key=(lC key).drop 32):=aR rfl
 change ∀W ad cd,1136<=cd->Sl W ad .u8 (zeros 1136)->Calls prog 33 #[.agg (ints .u8 key),.agg (ints .u8 xU),.int .i64 12,.slice ad 1136 cd] W λe w'=>∃v,e=.returned (.tuple #[v,.int .i64 0])/\Own w' W.heap.size 5 .u8 v (lC key)/\Below W.heap.size W w' at hcr
 generalize lC key=Y at *
 have hz0:=aH 1136
 obtain⟨Z,HZ⟩:=bD (zeros 1136)
 rw[HZ.out] at hz0
 simp only[HZ.out] at hcr
 have aI:=oJ (S:=(λ_ _ W=>Below w0.heap.size w0 W)) (λ_ _ _ _ h hb=>bC h hb)
 refine aS (n:=51) (T:=?_) [(22,.pointer (some ⟨w.heap.size,0,none⟩)),(23,.pointer (some ⟨w.heap.size,0,none⟩)),(24,.pointer (some ⟨w.heap.size,0,none⟩)),(25,.agg (ints .u8 key)),(26,.agg (ints .u8 xU)),(30,.int .i64 0),(8,.int .i64 0)] [27,28,21,29,7] (λs W u=>(s=27->NS w.heap.size 5 1136 (ints .u8 Z) W u)/\(s=28->(∃v,u=.tuple #[v,.int .i64 0]/\Own W w.heap.size 5 .u8 v Y))/\(s=21->(∃v,u=.tuple #[v,.int .i64 0]/\Own W w.heap.size 5 .u8 v Y))/\(s=29->Own W w.heap.size 5 .u8 u Y)/\(s=7->Own W w.heap.size 5 .u8 u Y)) (λW W'=>Below W.heap.size W W') [] _ aI (by kernel_rfl) (by kernel_rfl) rfl (by kernel_rfl) (by kernel_rfl) (by kernel_rfl) (λs W W' v hR h=>⟨λe=>(λh hR=>h.below hR) (h.1 e) hR,λe=>(λ⟨v,h,ho⟩ hR=>⟨v,h,ho.below hR⟩) (h.2.1 e) hR,λe=>(λ⟨v,h,ho⟩ hR=>⟨v,h,ho.below hR⟩) (h.2.2.1 e) hR,λe=>(λh hR=>h.below hR) (h.2.2.2.1 e) hR,λe=>(λh hR=>h.below hR) (h.2.2.2.2 e) hR⟩) (dQ _) ?_ ?_ ?_ ?_
 rotate_left
 ·intro e;simp only[tv,nn,Nat.reduceAdd];exact rfl
 ·exact λe=>rfl
 ·intro i o il k qB hst e W hS hla
  rcases i with _|_|_|_|_|_|_|_|_|_|_|_|i<;>try cases il
  ·exact kv 22 rfl rfl rfl rfl rfl rfl fo hS
  ·exact kv 23 rfl rfl (by kernel_rfl) rfl rfl rfl fo hS
  ·exact kv 24 rfl rfl (by kernel_rfl) rfl rfl rfl fo hS
  ·exact kv 25 rfl rfl (bq rfl rfl ((adq A0).below hS) pW hkl hkn) rfl rfl rfl fo hS
  ·exact kv 26 rfl rfl (by kernel_rfl) rfl rfl rfl fo hS
  ·refine cz rfl rfl (VU (n:=1136) (by decide) rfl rfl rfl) ?_;rw[HZ.out]
   exact KL.lt 27 rfl rfl ⟨λ_=>(⟨W.heap.size,rfl,Nat.le_trans DV (show Below w0.heap.size w0 W from hS).size,aA.new _ _ _⟩),λe=>absurd e (by decide),λe=>absurd e (by decide),λe=>absurd e (by decide),λe=>absurd e (by decide)⟩ ((bN _ _)) (aI k e _ _ hS (bN _ _))
  ·obtain⟨g,h,hg,hB⟩:=((hla 27 rfl (by kernel_rfl)).1 rfl);refine fV (Pv:=λu W'=>∃v,u=.tuple #[v,.int .i64 0]/\Own W' W.heap.size 5 .u8 v Y/\Below W.heap.size W W') 33 rfl rfl rfl func33 (by kernel_rfl) (by kernel_rfl) (by show Calls _ _ #[.agg (ints .u8 key),.agg (ints .u8 xU),.int .i64 12,e 27] W _;rw[h];exact(hcr W _ 1136 dM (Sl.blk hB)).mono λe w' ⟨v,he,ho,hb⟩=>⟨_,he,v,rfl,ho,hb⟩) ?_;rintro u W' ⟨v,rfl,hO,hW'⟩
   exact KL.lt 28 rfl rfl ⟨λe=>absurd e (by decide),λ_=>(⟨v,rfl,hO.mono (Nat.le_trans DV (show Below w0.heap.size w0 W from hS).size)⟩),λe=>absurd e (by decide),λe=>absurd e (by decide),λe=>absurd e (by decide)⟩ (hW') (aI k e _ _ hS hW')
  ·exact af (v:=e 28) rfl rfl rfl (KL.lt 21 rfl rfl ⟨λe=>absurd e (by decide),λe=>absurd e (by decide),λ_=>(((hla 28 rfl (by kernel_rfl)).2.1 rfl)),λe=>absurd e (by decide),λe=>absurd e (by decide)⟩ fo hS)
  ·obtain⟨v,h,ho⟩:=((hla 21 rfl (by kernel_rfl)).2.2.1 rfl);refine af (v:=v) rfl rfl (eD rfl h rfl) ?_
   exact KL.lt 29 rfl rfl ⟨λe=>absurd e (by decide),λe=>absurd e (by decide),λe=>absurd e (by decide),λ_=>(ho),λe=>absurd e (by decide)⟩ fo (hS)
  ·obtain⟨v,h,ho⟩:=((hla 21 rfl (by kernel_rfl)).2.2.1 rfl);refine af (v:=.int .i64 0) rfl rfl (eD rfl h rfl) ?_
   exact KL.at_ 30 rfl rfl rfl fo (hS)
  ·exact af (v:=e 29) rfl rfl rfl (KL.lt 7 rfl rfl ⟨λe=>absurd e (by decide),λe=>absurd e (by decide),λe=>absurd e (by decide),λe=>absurd e (by decide),λ_=>(((hla 29 rfl (by kernel_rfl)).2.2.2.1 rfl))⟩ fo hS)
  ·exact kv 8 rfl rfl rfl rfl rfl rfl fo hS
 ·intro e W hS hla
  have l27:=(hla 27 rfl).1 rfl
  have l28:=(hla 28 rfl).2.1 rfl
  have l21:=(hla 21 rfl).2.2.1 rfl
  have l29:=(hla 29 rfl).2.2.2.1 rfl
  have l7:=(hla 7 rfl).2.2.2.2 rfl
  clear hla aI
  have hSW:Below w0.heap.size w0 W:=hS
  obtain⟨av,cv,hv7,S7,hcv,-⟩:=l7.mZ
  generalize e 7=u7 at hv7 l7 ⊢
  subst hv7
  have O7:Own W w.heap.size 5 .u8 (.slice av Y.length cv) Y:=l7
  clear l27 l28 l21 l29 l7 hcr
  rw[hol] at hcv
  have A1:=A0.below' hSW
  have aK:=dx hbel hSW DV
  have Zd:=hT1.below hSW
  have htl:(Y.take 32).length=32:=by rw[List.length_take];omega
  have htb:∀x∈Y.take 32,x<256:=λx hx=>FT x (List.mem_of_mem_take hx)
  rw[hol]
  go_wp2_with (refine kg (n:=32) rfl rfl underlying23 s15 rfl rfl (by omega) S7 ?_;intro sI hsl2 hnn2;(try simp only[nn,Nat.reduceAdd]))
  have hex:=Gw gt gb (dW 255) (Y.take 32) (gB 255) (gH 255) (.inr (.inr htl)) htb sI cv W Zd.1 Zd.2 hsl2
  rw[htl] at hex
  refine hex.mono ?_
  clear hex
  rintro e2 w2 ⟨ga,gk,ck,rfl,hga,K1,K2,hck,hb2⟩
  have A2:=A1.below' hb2
  have hlt:=A1.lt
  have O8:=O7.below hb2
  have TF:=Zd.below hb2
  have aB:=bC aK hb2
  have hc0:w2.cell? ⟨w.heap.size,32,none⟩=some (.pointer none):=by rw[A2.cell];exact(at32 hkl _ _).1
  have hz0:=A2.frozen 32
  have aaZ:gk≠w.heap.size:=by
   intro e
   obtain⟨g',o',he,-,hce⟩:=K2 (by intro e;have:=pX (gB 255) (gH 255) (.inr (.inr htl));rw[e,htl] at this;simp at this)
   cases he
   have h2:=hce 32 (by rw[pX (gB 255) (gH 255) (.inr (.inr htl)),htl];decide)
   rw[e,Nat.zero_add,hc0] at h2
   cases h2
  have hks:(qM key).length=15:=by rw[HKS.out,jR,htl]
  have KI:Ag w2 ga gt gb gk ck (dW 255) (qM key):=⟨by rw[hks];exact K1,by rw[HKS.out];exact K2,by rw[hks];exact hck,TF.1,TF.2⟩
  have hch:=Ch.bX (iG.set w2 w.heap.size 32 (.pointer (some ⟨ga,0,none⟩)))
  have A3:=A2.kL 32 (.pointer (some ⟨ga,0,none⟩))
  rw[adu hkl] at A3
  have KI3:=KI.ch hch A2 (by decide) (by decide) (by decide) aaZ
  have O9:=O8.ch hch A2 (by decide)
  have aG:=hch.below aB dM aB.size
  clear A1 A2 K1 K2 hck hb2 Zd TF O7 O8 KI hch aK aB S7 hsl2 hlt
  go_wp2_with (refine iD (n:=32) rfl rfl underlying23 s15 rfl rfl (by decide) ?_;intro ad3 c3 OB hc3;(try simp only[nn,Nat.reduceAdd]))
  generalize w2.setCell ⟨w.heap.size,32,none⟩ (.pointer (some ⟨ga,0,none⟩))=w3 at *
  have hS9:Sl w3 av .u8 Y:=by
   obtain⟨a',c',he,hsl,-,-⟩:=O9.mZ
   cases he
   exact hsl
  have hdl:(Y.drop 32).length=1104:=by rw[List.length_drop];omega
  refine(zG.Wt (Y.drop 32) (λx hx=>FT x (List.mem_of_mem_drop hx)) hdl ad3 c3 (hc3 (by omega)) w3 (OB w3 .u8 Y hS9 (by omega))).mono ?_
  rintro e4 w4 ⟨gs,gw,rfl,hgs,hgw,IK,hb4⟩
  have A4:=A3.below' hb4
  have KI4:=KI3.below hb4
  have aY:=bC aG hb4
  have hc1:w4.cell? ⟨w.heap.size,33,none⟩=some (.pointer none):=by rw[A4.cell];exact(at32 hkl _ _).2
  have hz1:=A4.frozen 33
  have hch:=Ch.bX (iG.set w4 w.heap.size 33 (.pointer (some ⟨gs,0,none⟩)))
  have A5:=A4.kL 33 (.pointer (some ⟨gs,0,none⟩))
  rw[adt hkl] at A5
  have KI5:=KI4.ch hch A4 (by decide) (by decide) (by decide) aaZ
  have IK5:=IK.ch hch A4 (by decide) (by decide)
  have bA:=hch.below aY dM aY.size
  rw[←HHK.out] at IK5
  clear A3 A4 KI3 KI4 IK O9 hS9 OB aG aY hch hb4
  go_wp2_with fail
  exact bodyPost_ret (v:=.tuple #[.pointer (some ⟨w.heap.size,0,none⟩),.int .i64 0]) (by simp[results,results28]) rfl ⟨w.heap.size,rfl,Nat.le_refl _,⟨ga,gs,gk,ck,gw,⟨A5,hkl⟩,KI5,IK5⟩,bA⟩
end
section
open Go.RowKit
open zG (fJ jb iN dO le xk)
def sJ (key t b:List Nat):Nat:=zG.Mk (aU (zk key)) t b.length+zG.MS (aU ((zk key).drop 16)) (zG.eu ((zk key).drop 32)) b
def mg:Nat:=340282366920938463463374607431768211456
def lG (key t m:List Nat):List Nat:=jA (dW 255) (qM key) (cZ 256 16 (le (m.drop (m.length-16))+sJ key t (m.take (m.length-16))))
def qO (key t m:List Nat):List Nat:=xu key (cZ 256 16 (le (lG key t m))++ig) (m.take (m.length-16))
def kK (key t m:List Nat):List Nat:=qO key t m++cZ 256 16 (le (lG key t m)+mg-sJ key t (qO key t m)%mg)
structure acp (w:World)(gc ga gs gt gb gk ck gw:Nat)(key:List Nat):Prop where
 c:Qj w gc ga gs key
 k:Ag w ga gt gb gk ck (dW 255) (qM key)
 h:xk w gs gw (zk key)
 kb:∀x∈key,x<256
theorem acp.below {w w':World}{gc ga gs gt gb gk ck gw:Nat}{key:List Nat}(h:acp w gc ga gs gt gb gk ck gw key)(hb:Below w.heap.size w w'):acp w' gc ga gs gt gb gk ck gw key:=⟨h.c.below hb,h.k.below hb,h.h.below hb,h.kb⟩
theorem Pw (key:List Nat):(lC key).length=1136:=by unfold lC xu;rw[gN,aH]
theorem UK (key:List Nat):∀x∈lC key,x<256:=by unfold lC xu;exact vH (λq=>yR _ _) (dh 1136 (by decide))
theorem Nf (key:List Nat):∀x∈zk key,x<256:=λx hx=>UK key x (List.mem_of_mem_drop hx)
theorem Px (key:List Nat):lI (dW 255) (qM key):=BI (gB 255) (gH 255) (.inr (.inr (by rw[List.length_take,Pw];decide)))
theorem BL (key t m:List Nat):(lG key t m).length=16:=iY _ _ _
theorem GZ (key t m:List Nat):∀x∈lG key t m,x<256:=nO (Px key) _
theorem Ia (key t m:List Nat):(qO key t m).length=(m.take (m.length-16)).length:=by unfold qO xu;rw[gN]
theorem Nh (key t m:List Nat)(hm:∀x∈m,x<256):∀x∈qO key t m,x<256:=by unfold qO xu;exact vH (λq=>yR _ _) (λx hx=>hm x (List.mem_of_mem_take hx))
theorem Yh (gc ga gs gt gb gk ck gw:Nat)(key t m:List Nat)(ht:∀x∈t,x<256)(htl:t.length<2^30)(hm:∀x∈m,x<256)(h16:16<=m.length)(gq:m.length<208)(a1 a2:Option Addr)(c1 c2:Nat)(hc1:t.length<=c1)(hc2:m.length<=c2)(w:World)(hs1:Sl w a1 .u8 t)(hs2:Sl w a2 .u8 m)(hC:acp w gc ga gs gt gb gk ck gw key) :
  Calls prog 98 #[.pointer (some ⟨gc,0,none⟩),.slice a1 t.length c1,.slice a2 m.length c2] w λe w'=>∃v,e=.returned (.tuple #[v,.int .i64 0])/\Own w' w.heap.size 5 .u8 v (kK key t m)/\Below w.heap.size w w':=by
 have hpt:=λW (h:Sl W a2 .u8 m)=>Lx m hm h16 gq a2 c2 hc2 W h
 obtain⟨mb,KF⟩:=bD (m.take (m.length-16))
 have hbb:∀x∈mb,x<256:=by rw[←KF.out];exact λx hx=>hm x (List.mem_of_mem_take hx)
 have hbl:mb.length<208:=by rw[←KF.out,List.length_take];omega
 obtain⟨rn,ZA⟩:=bD (le (m.drop (m.length-16)))
 simp only[KF.out,ZA.out] at hpt
 have ack:Hid (lG key t m=jA (dW 255) (qM key) (cZ 256 16 (rn+sJ key t mb))):=aR (by rw[←KF.out,←ZA.out];rfl)
 have aaU:=BL key t m
 have aaV:=GZ key t m
 have HB2:Hid (qO key t m=xu key (cZ 256 16 (le (lG key t m))++ig) mb):=aR (by rw[←KF.out];rfl)
 have rV:=Ia key t m
 rw[KF.out] at rV
 have Tz:=Nh key t m hm
 have Yw:Hid (kK key t m=qO key t m++cZ 256 16 (le (lG key t m)+mg-sJ key t (qO key t m)%mg)):=aR rfl
 generalize qO key t m=b2 at *
 generalize lG key t m=md at *
 have hwr:=λW=>BK ⟨gc,0,none⟩ a2 m.length c2 h16 W
 have hsum:=λW ad cd (b:List Nat) (hb:∀x∈b,x<256) (hbl:b.length<2^30) (h0:xk W gs gw (zk key)) (h1:Sl W a1 .u8 t) (h2:Sl W ad .u8 b)=>zG.Lb gs gw (zk key) t b (Nf key) ht htl hb hbl a1 ad c1 cd hc1 W h0 h1 h2
 obtain⟨S1,Qi⟩:=bD (sJ key t mb)
 obtain⟨S2,HS2⟩:=bD (sJ key t b2)
 have mM:=λW ad cd h0 h1 h2=>hsum W ad cd mb hbb (by omega) h0 h1 h2
 have pJ:=λW ad cd h0 h1 h2=>hsum W ad cd b2 Tz (by omega) h0 h1 h2
 change ∀W ad cd,_->_->_->Calls prog _ _ W λe w'=>e=.returned (.agg (ints .u64 (fJ (sJ key t mb))))/\Below W.heap.size W w' at mM
 change ∀W ad cd,_->_->_->Calls prog _ _ W λe w'=>e=.returned (.agg (ints .u64 (fJ (sJ key t b2))))/\Below W.heap.size W w' at pJ
 simp only[Qi.out] at mM
 simp only[HS2.out] at pJ
 rw[Qi.out] at ack
 rw[HS2.out] at Yw
 clear hsum
 obtain⟨T,Yr⟩:=bD (t.length)
 obtain⟨N,HN⟩:=bD (m.length)
 obtain⟨K,HK⟩:=bD (mb.length)
 rw[Yr.out] at htl hc1 mM pJ ⊢
 rw[HN.out] at h16 gq hc2 hpt hwr ⊢
 rw[HK.out] at hbl rV mM
 rw[rV] at pJ
 clear KF ZA Qi HS2
 obtain⟨EE,ZC⟩:=bD (kK key t m)
 rw[ZC.out] at Yw ⊢
 clear ZC
 go_enter func98,ntmps98
 go_wp2_with fail
 refine(hwr _).mono ?_
 clear hwr
 rintro e w1 ⟨rfl,rfl⟩
 go_wp2_with fail
 refine(hpt _ hs2).mono ?_
 clear hpt
 rintro e w1 ⟨v1,rfl,O1,hb1⟩
 obtain⟨ab,cb,rfl,Sb,hcb,hnb⟩:=O1.mZ
 rw[HK.out] at hcb ⊢
 have C1:=hC.below hb1
 have JP:=hs1.below hb1
 have Z0:=aA.new w1 149 (ints .u64 (zeros 2))
 have afn:=dO rn
 have Z1:=Z0.row (ints .u64 (fJ rn))
 have hb2:=az (bN w1 (.cells (ints .u64 (zeros 2)) 149)) dM (ints .u64 (fJ rn))
 have C2:=C1.below hb2
 have JO:=JP.below hb2
 have abU:=Sb.below hb2
 have aB:=bC hb1 hb2
 clear C1 JP O1 Sb hs2 hs1 hC hb1 hb2
 go_wp2_with ((first|(refine ae rfl 149 rfl zW ?_)|(refine aa rfl 149 _ _ rfl w1.heap.size rfl rfl Z0 (ah _ _) sF afn ?_));(try simp only[nn,Nat.reduceAdd]))
 clear Z0
 generalize ((w1.alloc (.cells (ints .u64 (zeros 2)) 149)).setRow w1.heap.size (ints .u64 (fJ rn)))=w2 at *
 obtain⟨g10,Yx⟩:=bD (w1.heap.size)
 rw[Yx.out] at Z1 ⊢
 clear Yx
 have WW:=λW (h:Ag W ga gt gb gk ck (dW 255) (qM key))=>Fj 36 (.inl rfl) (some ⟨ga,0,none⟩) (rn+S1) md aaU aaV W (λW' hb'=>by
  have he:=mQ ga gt gb gk ck (dW 255) (qM key) (cZ 256 16 (rn+S1)) (Px key) (bn _ _ _) (dU (by decide) _ _) W' (h.below hb')
  rw[←ack.out] at he
  exact he)
 have hpl:=λW=>zG.BP rn S1 W
 have Xt:=dO (le md)
 have aI:=oJ (S:=(λk e W=>Below w2.heap.size w2 W/\(0<k->∃g,e 11=.pointer (some ⟨g,0,none⟩)/\w2.heap.size<=g/\aA W g 149 (ints .u64 (fJ (le md)))))) (λk e W W' h hb=>⟨dx h.1 hb h.1.size,λhk=>let ⟨g,h1,h2,h3⟩:=h.2 hk;⟨g,h1,h2,h3.below' hb⟩⟩)
 refine aS (n:=53) (T:=?_) [(23,.pointer (some ⟨gc,0,none⟩)),(24,.pointer (some ⟨gc,0,none⟩)),(25,.pointer (some ⟨gc,32,none⟩)),(26,.pointer (some ⟨ga,0,none⟩)),(27,.func (.func 36) #[.pointer (some ⟨ga,0,none⟩)] #[]),(28,.agg (ints .u64 (fJ rn))),(29,.pointer (some ⟨gc,0,none⟩)),(30,.pointer (some ⟨gc,0,none⟩)),(31,.pointer (some ⟨gc,33,none⟩)),(32,.pointer (some ⟨gs,0,none⟩)),(33,.slice a1 T c1),(34,.slice ab K cb),(35,.agg (ints .u64 (fJ S1))),(36,.agg (ints .u64 (fJ (rn+S1)))),(37,.agg (ints .u64 (fJ (le md))))] [11] (λs W u=>(s=11->NP w2.heap.size 149 2 W u)) (RS 149 2) [16] _ aI (by kernel_rfl) (by kernel_rfl) rfl (by kernel_rfl) (by kernel_rfl) (by kernel_rfl) (λs W W' v hR h=>λe=>(λh hR=>NP.rs h hR) (h e) hR) (⟨dQ _,λh=>absurd h (Nat.lt_irrefl _)⟩) ?_ ?_ ?_ ?_
 rotate_left
 ·intro e;simp only[tv,nn,Nat.reduceAdd];exact rfl
 ·exact λe=>rfl
 ·intro i o il k qB hst e W hS hla
  rcases i with _|_|_|_|_|_|_|_|_|_|_|_|_|_|_|_|_|i<;>try cases il
  ·exact kv 23 rfl rfl rfl rfl rfl rfl (RS.refl _ _ _) hS
  ·exact kv 24 rfl rfl (by kernel_rfl) rfl rfl rfl (RS.refl _ _ _) hS
  ·exact kv 25 rfl rfl (by kernel_rfl) rfl rfl rfl (RS.refl _ _ _) hS
  ·exact kv 26 rfl rfl (dH rfl rfl underlying86 (C2.below hS.1).c.c0) rfl rfl rfl (RS.refl _ _ _) hS
  ·exact kv 27 rfl rfl (by kernel_rfl) rfl rfl rfl (RS.refl _ _ _) hS
  ·refine bf rfl rfl rfl rfl (Z1.below' hS.1) sF afn ?_
   exact KL.at_ 28 rfl rfl rfl (RS.refl _ _ _) hS
  ·exact kv 29 rfl rfl rfl rfl rfl rfl (RS.refl _ _ _) hS
  ·exact kv 30 rfl rfl (by kernel_rfl) rfl rfl rfl (RS.refl _ _ _) hS
  ·exact kv 31 rfl rfl (by kernel_rfl) rfl rfl rfl (RS.refl _ _ _) hS
  ·exact kv 32 rfl rfl (dH rfl rfl underlying87 (C2.below hS.1).c.c1) rfl rfl rfl (RS.refl _ _ _) hS
  ·exact kv 33 rfl rfl rfl rfl rfl rfl (RS.refl _ _ _) hS
  ·exact kv 34 rfl rfl rfl rfl rfl rfl (RS.refl _ _ _) hS
  ·exact kc 35 101 rfl rfl rfl func101 (mM W ab cb (C2.below hS.1).h (JO.below hS.1) (abU.below hS.1)) rfl rfl rfl (λ_ hW'=>(RS.below hW')) λ_ hW'=>aI k e _ _ hS hW'
  ·exact kc 36 70 rfl rfl rfl func70 (hpl W) rfl rfl rfl (λ_ hW'=>(RS.below hW')) λ_ hW'=>aI k e _ _ hS hW'
  ·exact kc 37 104 rfl rfl rfl func104 (WW W (C2.below hS.1).k) rfl rfl rfl (λ_ hW'=>(RS.below hW')) λ_ hW'=>aI k e _ _ hS hW'
  ·obtain rfl:k=0:=Nat.le_zero.1 (aQ hst 0 16 rfl (by kernel_rfl))
   refine bZ rfl rfl rfl zW ?_
   exact KL.lt 11 rfl rfl (λ_=>(NP.new (hS.1.size))) (((RS.below (bN _ _)))) (⟨hS.1.alloc hS.1.size _,λh=>absurd h (Nat.lt_irrefl _)⟩)
  ·obtain rfl:k=0:=Nat.le_zero.1 (aQ hst 0 16 rfl (by kernel_rfl))
   obtain⟨g,cs,hg,hBg,hcs,iy⟩:=((hla 11 rfl (by kernel_rfl)) rfl);refine bJ rfl rfl rfl hg rfl iy hcs sF Xt ?_
   exact KL.none rfl (RS.row iy hcs ((aF _ _).trans (Eq.trans Xt hcs.symm))) (⟨az hS.1 hBg _,λ_=>⟨g,hg,hBg,iy.row _⟩⟩)
 ·intro e W hS hla
  have YR:=(hla 11 rfl) rfl
  clear hla aI
  obtain⟨hbelW,hx⟩:=hS
  obtain⟨g11,FV,hBg,Nj⟩:=hx (by decide)
  clear hx YR WW hpl mM
  generalize e 11=u11 at FV ⊢
  subst FV
  have C3:=C2.below hbelW
  have FR:=JO.below hbelW
  have Zw:=abU.below hbelW
  have aG:=bC aB hbelW
  clear C2 JO abU aB Z1
  have hst:=EF gc ga gs key mb C3.kb hbb (by rw[HK.out];omega) (le md) ab cb (by rw[HK.out];exact hcb) W Zw C3.c
  rw[HK.out,←HB2.out] at hst
  go_wp2_with (refine ag rfl 149 _ rfl _ rfl Nj sF Xt ?_;(try simp only[nn,Nat.reduceAdd]))
  refine hst.mono ?_
  clear hst
  rintro e3 w3 ⟨v3,rfl,O3,hb3⟩
  obtain⟨a3,c3,rfl,S3,hc3,-,SS⟩:=O3.mZ
  have C4:=C3.below hb3
  have OC:=FR.below hb3
  have Yj:=Nj.below' hb3
  have aY:=bC aG hb3
  clear C3 FR Nj aG hb3 Zw O3 hbelW
  rw[rV] at hc3 ⊢
  go_wp2_with fail
  have WY:∀W,Calls prog 106 #[.agg (ints .u64 (fJ (le md))),.agg (ints .u64 (fJ S2))] W λe w'=>e=.returned (.agg (ints .u64 (fJ (le md+mg-S2%mg))))/\Below W.heap.size W w':=λW=>zG.En (le md) S2 W
  have hjn:∀W,Sl W a3 .u8 b2->Calls prog 103 #[.slice a3 K c3,.agg (ints .u64 (fJ (le md+mg-S2%mg)))] W λe w'=>∃v,e=.returned v/\Own w' W.heap.size 5 .u8 v EE/\Below W.heap.size W w':=λW h=>by
   have:=zi b2 (by omega) (le md+mg-S2%mg) a3 c3 SS W h
   rw[rV,←Yw.out] at this
   exact this
  generalize fJ (le md+mg-S2%mg)=WD at *
  clear Yw HB2 ack
  have DV:=aY.size
  have aI:=oJ (S:=(λ_ _ W=>Below w3.heap.size w3 W)) (λ_ _ _ _ h hb=>bC h hb)
  refine aS (n:=53) (T:=?_) [(42,.slice a3 K c3),(43,.agg (ints .u64 (fJ (le md)))),(44,.pointer (some ⟨gc,0,none⟩)),(45,.pointer (some ⟨gc,0,none⟩)),(46,.pointer (some ⟨gc,33,none⟩)),(47,.pointer (some ⟨gs,0,none⟩)),(48,.slice a1 T c1),(49,.slice a3 K c3),(50,.agg (ints .u64 (fJ S2))),(51,.agg (ints .u64 WD)),(7,.int .i64 0)] [52,6] (λs W u=>(s=52->Own W w.heap.size 5 .u8 u EE)/\(s=6->Own W w.heap.size 5 .u8 u EE)) (λW W'=>Below W.heap.size W W') [] _ aI (by kernel_rfl) (by kernel_rfl) rfl (by kernel_rfl) (by kernel_rfl) (by kernel_rfl) (λs W W' v hR h=>⟨λe=>(λh hR=>h.below hR) (h.1 e) hR,λe=>(λh hR=>h.below hR) (h.2 e) hR⟩) (dQ _) ?_ ?_ ?_ ?_
  rotate_left
  ·intro e;simp only[tv,nn,Nat.reduceAdd];exact rfl
  ·exact λe=>rfl
  ·intro i o il k qB hst e W hS hla
   rcases i with _|_|_|_|_|_|_|_|_|_|_|_|_|i<;>try cases il
   ·exact kv 42 rfl rfl rfl rfl rfl rfl fo hS
   ·refine bf rfl rfl rfl rfl (Yj.below' hS) sF Xt ?_
    exact KL.at_ 43 rfl rfl rfl fo hS
   ·exact kv 44 rfl rfl rfl rfl rfl rfl fo hS
   ·exact kv 45 rfl rfl (by kernel_rfl) rfl rfl rfl fo hS
   ·exact kv 46 rfl rfl (by kernel_rfl) rfl rfl rfl fo hS
   ·exact kv 47 rfl rfl (dH rfl rfl underlying87 (C4.below hS).c.c1) rfl rfl rfl fo hS
   ·exact kv 48 rfl rfl rfl rfl rfl rfl fo hS
   ·exact kv 49 rfl rfl rfl rfl rfl rfl fo hS
   ·exact kc 50 101 rfl rfl rfl func101 (pJ W a3 c3 (C4.below hS).h (OC.below hS) (S3.below hS)) rfl rfl rfl (λ_ hW'=>hW') λ_ hW'=>aI k e _ _ hS hW'
   ·exact kc 51 106 rfl rfl rfl func106 (WY W) rfl rfl rfl (λ_ hW'=>hW') λ_ hW'=>aI k e _ _ hS hW'
   ·refine fV (Pv:=λu W'=>Own W' W.heap.size 5 .u8 u EE/\Below W.heap.size W W') 103 rfl rfl rfl func103 (by kernel_rfl) (by kernel_rfl) (hjn W (S3.below hS)) ?_;rintro u W' ⟨hO,hW'⟩
    exact KL.lt 52 rfl rfl ⟨λ_=>(hO.mono (Nat.le_trans DV (show Below w3.heap.size w3 W from hS).size)),λe=>absurd e (by decide)⟩ (hW') (aI k e _ _ hS hW')
   ·exact af (v:=e 52) rfl rfl rfl (KL.lt 6 rfl rfl ⟨λe=>absurd e (by decide),λ_=>(((hla 52 rfl (by kernel_rfl)).1 rfl))⟩ fo hS)
   ·exact kv 7 rfl rfl rfl rfl rfl rfl fo hS
  ·intro e W hS hla
   have l52:=(hla 52 rfl).1 rfl
   have l6:=(hla 6 rfl).2 rfl
   clear hla aI
   have hSW:Below w3.heap.size w3 W:=hS
   obtain⟨av,cv,hv6,-,-,-⟩:=l6.mZ
   generalize e 6=u6 at hv6 l6 ⊢
   subst hv6
   clear l52
   go_wp2_with fail
   exact bodyPost_ret (v:=.tuple #[.slice av EE.length cv,.int .i64 0]) (by simp[results,results98]) rfl ⟨_,rfl,l6,dx aY hSW DV⟩
end
end Go.Proofs.YtaiffkajkbiidaaGreatDoor
