/- What this claim leans on, part 21: laws of the model, and what functions of the program compute. No condition but what each law states. -/
import Derived.Test.YtaiffkajkbiidaaGreatDoorQ20
namespace Go.Proofs.YtaiffkajkbiidaaGreatDoor
set_option linter.unusedSimpArgs false
set_option linter.unusedVariables false
set_option linter.unusedSectionVars false
set_option maxRecDepth 100000
set_option maxHeartbeats 40000000
open Go.Proofs.Tryz
open Tryz
section
open Go.RowKit
open zG (fJ jb iN dO le xk)
def GY (key t m:List Nat):Nat:=le (m.drop (m.length-16))+sJ key t (m.take (m.length-16))
def qN (key t m:List Nat):List Nat:=xu key (cZ 256 16 (GY key t m)++ig) (m.take (m.length-16))
def zh (key t m:List Nat):List Nat:=ma (dW 255) (qM key) (cZ 256 16 (GY key t m))
def lH (key t m:List Nat):List Nat:=qN key t m++cZ 256 16 (le (zh key t m)+mg-sJ key t (qN key t m)%mg)
theorem Dp {L:List Nat}{ks:List (List Nat)}(ok:lI L ks)(b:List Nat):∀x∈ma L ks b,x<256 :=
 vL (Dq ok.bL ks b _) (bQ (p:=λk=>∀x∈k,x<256) ok.byt (by have:=ok.two;omega))
theorem uB (L:List Nat)(ks:List (List Nat))(b:List Nat):(ma L ks b).length=16:=gP _ _
theorem GX (key t m:List Nat):(zh key t m).length=16:=uB _ _ _
theorem Nb (key t m:List Nat):∀x∈zh key t m,x<256:=Dp (Px key) _
theorem Hw (key t m:List Nat):(qN key t m).length=(m.take (m.length-16)).length:=by unfold qN xu;rw[gN]
theorem Ng (key t m:List Nat)(hm:∀x∈m,x<256):∀x∈qN key t m,x<256:=by unfold qN xu;exact vH (λq=>yR _ _) (λx hx=>hm x (List.mem_of_mem_take hx))
theorem Yi (gc ga gs gt gb gk ck gw:Nat)(key t m:List Nat)(ht:∀x∈t,x<256)(htl:t.length<2^30)(hm:∀x∈m,x<256)(h16:16<=m.length)(gq:m.length<208)(a1 a2:Option Addr)(c1 c2:Nat)(hc1:t.length<=c1)(hc2:m.length<=c2)(w:World)(hs1:Sl w a1 .u8 t)(hs2:Sl w a2 .u8 m)(hC:acp w gc ga gs gt gb gk ck gw key) :
  Calls prog 97 #[.pointer (some ⟨gc,0,none⟩),.slice a1 t.length c1,.slice a2 m.length c2] w λe w'=>∃v,e=.returned (.tuple #[v,.int .i64 0])/\Own w' w.heap.size 5 .u8 v (lH key t m)/\Below w.heap.size w w':=by
 have hpt:=λW (h:Sl W a2 .u8 m)=>Lx m hm h16 gq a2 c2 hc2 W h
 obtain⟨mb,KF⟩:=bD (m.take (m.length-16))
 have hbb:∀x∈mb,x<256:=by rw[←KF.out];exact λx hx=>hm x (List.mem_of_mem_take hx)
 have hbl:mb.length<208:=by rw[←KF.out,List.length_take];omega
 obtain⟨rn,ZA⟩:=bD (le (m.drop (m.length-16)))
 simp only[KF.out,ZA.out] at hpt
 have ack:Hid (zh key t m=ma (dW 255) (qM key) (cZ 256 16 (rn+sJ key t mb))):=aR (by rw[←KF.out,←ZA.out];rfl)
 have aaU:=GX key t m
 have aaV:=Nb key t m
 have HB2:Hid (qN key t m=xu key (cZ 256 16 (rn+sJ key t mb)++ig) mb):=aR (by rw[←KF.out,←ZA.out];rfl)
 have rV:=Hw key t m
 rw[KF.out] at rV
 have Tz:=Ng key t m hm
 have Yw:Hid (lH key t m=qN key t m++cZ 256 16 (le (zh key t m)+mg-sJ key t (qN key t m)%mg)):=aR rfl
 generalize qN key t m=b2 at *
 generalize zh key t m=md at *
 have hwr:=λW=>BK ⟨gc,0,none⟩ a2 m.length c2 h16 W
 have hsum:=λW ad cd (b:List Nat) (hb:∀x∈b,x<256) (hbl:b.length<2^30) (h0:xk W gs gw (zk key)) (h1:Sl W a1 .u8 t) (h2:Sl W ad .u8 b)=>zG.Lb gs gw (zk key) t b (Nf key) ht htl hb hbl a1 ad c1 cd hc1 W h0 h1 h2
 obtain⟨S1,Qi⟩:=bD (sJ key t mb)
 obtain⟨S2,HS2⟩:=bD (sJ key t b2)
 have mM:=λW ad cd h0 h1 h2=>hsum W ad cd mb hbb (by omega) h0 h1 h2
 have pJ:=λW ad cd h0 h1 h2=>hsum W ad cd b2 Tz (by omega) h0 h1 h2
 change ∀W ad cd,_->_->_->Calls prog _ _ W λe w'=>e=.returned (.agg (ints .u64 (fJ (sJ key t mb))))/\Below W.heap.size W w' at mM
 change ∀W ad cd,_->_->_->Calls prog _ _ W λe w'=>e=.returned (.agg (ints .u64 (fJ (sJ key t b2))))/\Below W.heap.size W w' at pJ
 simp only[Qi.out] at mM
 simp only[HS2.out] at pJ
 rw[Qi.out] at ack HB2
 rw[HS2.out] at Yw
 clear hsum
 obtain⟨T,Yr⟩:=bD (t.length)
 obtain⟨N,HN⟩:=bD (m.length)
 obtain⟨K,HK⟩:=bD (mb.length)
 rw[Yr.out] at htl hc1 mM pJ ⊢
 rw[HN.out] at h16 gq hc2 hpt hwr ⊢
 rw[HK.out] at hbl rV mM
 rw[rV] at pJ
 clear KF ZA Qi HS2
 obtain⟨EE,ZC⟩:=bD (lH key t m)
 rw[ZC.out] at Yw ⊢
 clear ZC
 go_enter func97,ntmps97
 go_wp2_with fail
 refine(hwr _).mono ?_
 clear hwr
 rintro e w1 ⟨rfl,rfl⟩
 go_wp2_with fail
 refine(hpt _ hs2).mono ?_
 clear hpt
 rintro e w1 ⟨v1,rfl,O1,hb1⟩
 obtain⟨ab,cb,rfl,Sb,hcb,hnb⟩:=O1.mZ
 rw[HK.out] at hcb ⊢
 have C1:=hC.below hb1
 have JP:=hs1.below hb1
 have Z0:=aA.new w1 149 (ints .u64 (zeros 2))
 have afn:=dO rn
 have Z1:=Z0.row (ints .u64 (fJ rn))
 have hb2:=az (bN w1 (.cells (ints .u64 (zeros 2)) 149)) dM (ints .u64 (fJ rn))
 have C2:=C1.below hb2
 have JO:=JP.below hb2
 have abU:=Sb.below hb2
 have aB:=bC hb1 hb2
 clear C1 JP O1 Sb hs2 hs1 hC hb1 hb2
 go_wp2_with ((first|(refine ae rfl 149 rfl zW ?_)|(refine aa rfl 149 _ _ rfl w1.heap.size rfl rfl Z0 (ah _ _) sF afn ?_));(try simp only[nn,Nat.reduceAdd]))
 clear Z0
 generalize ((w1.alloc (.cells (ints .u64 (zeros 2)) 149)).setRow w1.heap.size (ints .u64 (fJ rn)))=w2 at *
 obtain⟨g10,Yx⟩:=bD (w1.heap.size)
 rw[Yx.out] at Z1 ⊢
 clear Yx
 have WW:=λW (h:Ag W ga gt gb gk ck (dW 255) (qM key))=>Fj 105 (.inr rfl) (some ⟨ga,0,none⟩) (rn+S1) md aaU aaV W (λW' hb'=>by
  have he:=Bv ga gt gb gk ck (dW 255) (qM key) (cZ 256 16 (rn+S1)) (Px key) (bn _ _ _) (dU (by decide) _ _) W' (h.below hb')
  rw[←ack.out] at he
  exact he)
 have hpl:=λW=>zG.BP rn S1 W
 have Xt:=dO (rn+S1)
 have aI:=oJ (S:=(λk e W=>Below w2.heap.size w2 W/\(0<k->∃g,e 11=.pointer (some ⟨g,0,none⟩)/\w2.heap.size<=g/\aA W g 149 (ints .u64 (fJ (rn+S1)))))) (λk e W W' h hb=>⟨dx h.1 hb h.1.size,λhk=>let ⟨g,h1,h2,h3⟩:=h.2 hk;⟨g,h1,h2,h3.below' hb⟩⟩)
 refine aS (n:=53) (T:=?_) [(23,.agg (ints .u64 (fJ rn))),(24,.pointer (some ⟨gc,0,none⟩)),(25,.pointer (some ⟨gc,0,none⟩)),(26,.pointer (some ⟨gc,33,none⟩)),(27,.pointer (some ⟨gs,0,none⟩)),(28,.slice a1 T c1),(29,.slice ab K cb),(30,.agg (ints .u64 (fJ S1))),(31,.agg (ints .u64 (fJ (rn+S1))))] [11] (λs W u=>(s=11->NP w2.heap.size 149 2 W u)) (RS 149 2) [10] _ aI (by kernel_rfl) (by kernel_rfl) rfl (by kernel_rfl) (by kernel_rfl) (by kernel_rfl) (λs W W' v hR h=>λe=>(λh hR=>NP.rs h hR) (h e) hR) (⟨dQ _,λh=>absurd h (Nat.lt_irrefl _)⟩) ?_ ?_ ?_ ?_
 rotate_left
 ·intro e;simp only[tv,nn,Nat.reduceAdd];exact rfl
 ·exact λe=>rfl
 ·intro i o il k qB hst e W hS hla
  rcases i with _|_|_|_|_|_|_|_|_|_|_|i<;>try cases il
  ·refine bf rfl rfl rfl rfl (Z1.below' hS.1) sF afn ?_
   exact KL.at_ 23 rfl rfl rfl (RS.refl _ _ _) hS
  ·exact kv 24 rfl rfl rfl rfl rfl rfl (RS.refl _ _ _) hS
  ·exact kv 25 rfl rfl (by kernel_rfl) rfl rfl rfl (RS.refl _ _ _) hS
  ·exact kv 26 rfl rfl (by kernel_rfl) rfl rfl rfl (RS.refl _ _ _) hS
  ·exact kv 27 rfl rfl (dH rfl rfl underlying87 (C2.below hS.1).c.c1) rfl rfl rfl (RS.refl _ _ _) hS
  ·exact kv 28 rfl rfl rfl rfl rfl rfl (RS.refl _ _ _) hS
  ·exact kv 29 rfl rfl rfl rfl rfl rfl (RS.refl _ _ _) hS
  ·exact kc 30 101 rfl rfl rfl func101 (mM W ab cb (C2.below hS.1).h (JO.below hS.1) (abU.below hS.1)) rfl rfl rfl (λ_ hW'=>(RS.below hW')) λ_ hW'=>aI k e _ _ hS hW'
  ·exact kc 31 70 rfl rfl rfl func70 (hpl W) rfl rfl rfl (λ_ hW'=>(RS.below hW')) λ_ hW'=>aI k e _ _ hS hW'
  ·obtain rfl:k=0:=Nat.le_zero.1 (aQ hst 0 10 rfl (by kernel_rfl))
   refine bZ rfl rfl rfl zW ?_
   exact KL.lt 11 rfl rfl (λ_=>(NP.new (hS.1.size))) (((RS.below (bN _ _)))) (⟨hS.1.alloc hS.1.size _,λh=>absurd h (Nat.lt_irrefl _)⟩)
  ·obtain rfl:k=0:=Nat.le_zero.1 (aQ hst 0 10 rfl (by kernel_rfl))
   obtain⟨g,cs,hg,hBg,hcs,iy⟩:=((hla 11 rfl (by kernel_rfl)) rfl);refine bJ rfl rfl rfl hg rfl iy hcs sF Xt ?_
   exact KL.none rfl (RS.row iy hcs ((aF _ _).trans (Eq.trans Xt hcs.symm))) (⟨az hS.1 hBg _,λ_=>⟨g,hg,hBg,iy.row _⟩⟩)
 ·intro e W hS hla
  have YR:=(hla 11 rfl) rfl
  clear hla aI
  obtain⟨hbelW,hx⟩:=hS
  obtain⟨g11,FV,hBg,Nj⟩:=hx (by decide)
  clear hx YR hpl mM
  generalize e 11=u11 at FV ⊢
  subst FV
  have C3:=C2.below hbelW
  have FR:=JO.below hbelW
  have Zw:=abU.below hbelW
  have aG:=bC aB hbelW
  clear C2 JO abU aB Z1
  have hst:=EF gc ga gs key mb C3.kb hbb (by rw[HK.out];omega) (rn+S1) ab cb (by rw[HK.out];exact hcb) W Zw C3.c
  rw[HK.out,←HB2.out] at hst
  go_wp2_with (refine ag rfl 149 _ rfl _ rfl Nj sF Xt ?_;(try simp only[nn,Nat.reduceAdd]))
  refine hst.mono ?_
  clear hst
  rintro e3 w3 ⟨v3,rfl,O3,hb3⟩
  obtain⟨a3,c3,rfl,S3,hc3,-,SS⟩:=O3.mZ
  have C4:=C3.below hb3
  have OC:=FR.below hb3
  have Yj:=Nj.below' hb3
  have aY:=bC aG hb3
  clear C3 FR Nj aG hb3 Zw O3 hbelW
  rw[rV] at hc3 ⊢
  go_wp2_with fail
  have WY:∀W,Calls prog 106 #[.agg (ints .u64 (fJ (le md))),.agg (ints .u64 (fJ S2))] W λe w'=>e=.returned (.agg (ints .u64 (fJ (le md+mg-S2%mg))))/\Below W.heap.size W w':=λW=>zG.En (le md) S2 W
  have hjn:∀W,Sl W a3 .u8 b2->Calls prog 103 #[.slice a3 K c3,.agg (ints .u64 (fJ (le md+mg-S2%mg)))] W λe w'=>∃v,e=.returned v/\Own w' W.heap.size 5 .u8 v EE/\Below W.heap.size W w':=λW h=>by
   have:=zi b2 (by omega) (le md+mg-S2%mg) a3 c3 SS W h
   rw[rV,←Yw.out] at this
   exact this
  generalize fJ (le md+mg-S2%mg)=WD at *
  clear Yw HB2 ack
  have DV:=aY.size
  have aI:=oJ (S:=(λ_ _ W=>Below w3.heap.size w3 W)) (λ_ _ _ _ h hb=>bC h hb)
  refine aS (n:=53) (T:=?_) [(36,.slice a3 K c3),(37,.pointer (some ⟨gc,0,none⟩)),(38,.pointer (some ⟨gc,0,none⟩)),(39,.pointer (some ⟨gc,32,none⟩)),(40,.pointer (some ⟨ga,0,none⟩)),(41,.func (.func 105) #[.pointer (some ⟨ga,0,none⟩)] #[]),(42,.agg (ints .u64 (fJ (rn+S1)))),(43,.agg (ints .u64 (fJ (le md)))),(44,.pointer (some ⟨gc,0,none⟩)),(45,.pointer (some ⟨gc,0,none⟩)),(46,.pointer (some ⟨gc,33,none⟩)),(47,.pointer (some ⟨gs,0,none⟩)),(48,.slice a1 T c1),(49,.slice a3 K c3),(50,.agg (ints .u64 (fJ S2))),(51,.agg (ints .u64 WD)),(7,.int .i64 0)] [52,6] (λs W u=>(s=52->Own W w.heap.size 5 .u8 u EE)/\(s=6->Own W w.heap.size 5 .u8 u EE)) (λW W'=>Below W.heap.size W W') [] _ aI (by kernel_rfl) (by kernel_rfl) rfl (by kernel_rfl) (by kernel_rfl) (by kernel_rfl) (λs W W' v hR h=>⟨λe=>(λh hR=>h.below hR) (h.1 e) hR,λe=>(λh hR=>h.below hR) (h.2 e) hR⟩) (dQ _) ?_ ?_ ?_ ?_
  rotate_left
  ·intro e;simp only[tv,nn,Nat.reduceAdd];exact rfl
  ·exact λe=>rfl
  ·intro i o il k qB hst e W hS hla
   rcases i with _|_|_|_|_|_|_|_|_|_|_|_|_|_|_|_|_|_|_|i<;>try cases il
   ·exact kv 36 rfl rfl rfl rfl rfl rfl fo hS
   ·exact kv 37 rfl rfl rfl rfl rfl rfl fo hS
   ·exact kv 38 rfl rfl (by kernel_rfl) rfl rfl rfl fo hS
   ·exact kv 39 rfl rfl (by kernel_rfl) rfl rfl rfl fo hS
   ·exact kv 40 rfl rfl (dH rfl rfl underlying86 (C4.below hS).c.c0) rfl rfl rfl fo hS
   ·exact kv 41 rfl rfl (by kernel_rfl) rfl rfl rfl fo hS
   ·refine bf rfl rfl rfl rfl (Yj.below' hS) sF Xt ?_
    exact KL.at_ 42 rfl rfl rfl fo hS
   ·exact kc 43 104 rfl rfl rfl func104 (WW W (C4.below hS).k) rfl rfl rfl (λ_ hW'=>hW') λ_ hW'=>aI k e _ _ hS hW'
   ·exact kv 44 rfl rfl rfl rfl rfl rfl fo hS
   ·exact kv 45 rfl rfl (by kernel_rfl) rfl rfl rfl fo hS
   ·exact kv 46 rfl rfl (by kernel_rfl) rfl rfl rfl fo hS
   ·exact kv 47 rfl rfl (dH rfl rfl underlying87 (C4.below hS).c.c1) rfl rfl rfl fo hS
   ·exact kv 48 rfl rfl rfl rfl rfl rfl fo hS
   ·exact kv 49 rfl rfl rfl rfl rfl rfl fo hS
   ·exact kc 50 101 rfl rfl rfl func101 (pJ W a3 c3 (C4.below hS).h (OC.below hS) (S3.below hS)) rfl rfl rfl (λ_ hW'=>hW') λ_ hW'=>aI k e _ _ hS hW'
   ·exact kc 51 106 rfl rfl rfl func106 (WY W) rfl rfl rfl (λ_ hW'=>hW') λ_ hW'=>aI k e _ _ hS hW'
   ·refine fV (Pv:=λu W'=>Own W' W.heap.size 5 .u8 u EE/\Below W.heap.size W W') 103 rfl rfl rfl func103 (by kernel_rfl) (by kernel_rfl) (hjn W (S3.below hS)) ?_;rintro u W' ⟨hO,hW'⟩
    exact KL.lt 52 rfl rfl ⟨λ_=>(hO.mono (Nat.le_trans DV (show Below w3.heap.size w3 W from hS).size)),λe=>absurd e (by decide)⟩ (hW') (aI k e _ _ hS hW')
   ·exact af (v:=e 52) rfl rfl rfl (KL.lt 6 rfl rfl ⟨λe=>absurd e (by decide),λ_=>(((hla 52 rfl (by kernel_rfl)).1 rfl))⟩ fo hS)
   ·exact kv 7 rfl rfl rfl rfl rfl rfl fo hS
  ·intro e W hS hla
   have l52:=(hla 52 rfl).1 rfl
   have l6:=(hla 6 rfl).2 rfl
   clear hla aI
   have hSW:Below w3.heap.size w3 W:=hS
   obtain⟨av,cv,hv6,-,-,-⟩:=l6.mZ
   generalize e 6=u6 at hv6 l6 ⊢
   subst hv6
   clear l52
   go_wp2_with fail
   exact bodyPost_ret (v:=.tuple #[.slice av EE.length cv,.int .i64 0]) (by simp[results,results97]) rfl ⟨_,rfl,l6,dx aY hSW DV⟩
end
section
open Go.RowKit
theorem yx (gk c:Nat)(ks:List (List Nat))(hk:∀k∈ks,k.length=16)(hkb:∀k∈ks,∀x∈k,x<256)(hn:ks.length<2^31)(w:World)(hK:Sl w (some ⟨gk,0,none⟩) .u8 ks.flatten) :
  Calls prog 146 #[.slice (some ⟨gk,0,none⟩) ks.length c] w λe w'=>e=.returned (.agg (ints .u8 (dR (zeros 16) ks)))/\Below w.heap.size w w':=by
 obtain⟨m,HM⟩:=bD (ks.length)
 rw[HM.out] at hn ⊢
 have hb:(zeros 16).length=16:=aH _
 have hbb:∀x∈zeros 16,x<256:=λx hx=>by unfold zeros at hx;rw[List.mem_replicate] at hx;omega
 have A1:=(aA.new w 96 (ints .u8 (zeros 16))).alloc (.cells (ints .u8 (zeros 16)) 96)
 have A0:=aA.new (w.alloc (.cells (ints .u8 (zeros 16)) 96)) 96 (ints .u8 (zeros 16))
 rw[World.size_alloc] at A0
 have hbel0:=(bN w (.cells (ints .u8 (zeros 16)) 96)).alloc (by simp) (.cells (ints .u8 (zeros 16)) 96)
 go_enter func146,ntmps146
 go_wp2_with ((first|(refine ae rfl 96 rfl fw ?_));(try simp only[nn,Nat.reduceAdd]))
 generalize ((w.alloc (.cells (ints .u8 (zeros 16)) 96)).alloc (.cells (ints .u8 (zeros 16)) 96))=w0 at *
 go_loopw [9] (λt wr=>∃i:Nat,i<=m/\t=.int .i64 (i:Int)/\aA wr (w.heap.size+1) 96 (ints .u8 (dR (zeros 16) (ks.take i)))/\aA wr w.heap.size 96 (ints .u8 (zeros 16))/\Below w.heap.size w wr) (λt wr=>m-(intOf t).toNat)
 case atStart=>exact⟨0,by omega,rfl,A0,A1,hbel0⟩
 case round =>
  clear A0 A1 hbel0
  obtain⟨i,hi,rfl,A0,A1,hbel⟩:=hrel
  have hln:=fC (ks.take i) (zeros 16) hb
  have hlb:=dE (ks.take i) (zeros 16) hbb λk h=>hkb k (List.mem_of_mem_take h)
  by_cases hlt:i<m
  ·have hd:decide ((i:Int)<(m:Int))=true:=by simp;omega
   have hik:i<ks.length:=by rw[HM.out];exact hlt
   have hS:=xI (hK.below hbel) hk hik
   have fI:(ks.getD i []).length=16:=bQ (p:=λk=>k.length=16) hk hik
   have pK:∀x∈ks.getD i [],x<256:=bQ (p:=λk=>∀x∈k,x<256) hkb hik
   have HF:Hid (dR (zeros 16) (ks.take (i+1))=eT (dR (zeros 16) (ks.take i)) (ks.getD i [])):=aR (iF _ _ _ _ hik)
   have hii:(i:Int)<(m:Int):=by omega
   generalize ks.getD i []=k at *
   generalize dR (zeros 16) (ks.take i)=x at *
   have hkne:k≠[]:=λe=>by rw[e] at fI;simp at fI
   have K0:=A0.alloc (.cells (ints .u8 (zeros 16)) 96)
   have K1:=A1.alloc (.cells (ints .u8 (zeros 16)) 96)
   have K2:=aA.new wr 96 (ints .u8 (zeros 16))
   have hl1:=A0.lt
   have M0:=K0.aM (show w.heap.size+1≠wr.heap.size by omega) (ints .u8 k)
   have M1:=K1.aM (show w.heap.size≠wr.heap.size by omega) (ints .u8 k)
   have M2:=K2.row (ints .u8 k)
   have aB:=az (hbel.alloc hbel.size (.cells (ints .u8 (zeros 16)) 96)) hbel.size (ints .u8 k)
   clear A0 A1 hbel K0 K1
   go_wp2_with ((first
    | (refine aZ rfl (bq rfl rfl hS aD fI hkne) ?_)
    | (refine ae rfl 96 rfl fw ?_)
    | (refine aa rfl 96 _ _ rfl wr.heap.size rfl rfl K2 (ah _ _) aD fI ?_));(try simp only[nn,Nat.reduceAdd]))
   generalize ((wr.alloc (.cells (ints .u8 (zeros 16)) 96)).setRow wr.heap.size (ints .u8 k))=w2 at *
   have hnb:w.heap.size+1<wr.heap.size:=hl1
   clear K2 hS
   generalize wr.heap.size=nb at *
   go_loopw [13] (λt wr'=>∃q:Nat,q<=16/\t=.int .i64 (q:Int)/\aA wr' (w.heap.size+1) 96 (ints .u8 (qI x k q))/\aA wr' w.heap.size 96 (ints .u8 (zeros 16))/\aA wr' nb 96 (ints .u8 k)/\Below w.heap.size w wr') (λt wr'=>16-(intOf t).toNat)
   case atStart=>exact⟨0,by omega,rfl,by rw[mh];exact M0,M1,M2,aB⟩
   case round =>
    clear M0 M1 M2 aB
    obtain⟨q,hq,rfl,M0,M1,M2,aB⟩:=hrel
    by_cases hlq:q<16
    ·have hd2:decide ((q:Int)<16)=true:=by simp;omega
     have hxl:=oq (ys:=k) hln hq
     have c0:=M0.int (i:=q) (by omega)
     rw[ow hln hlq] at c0
     have c1:=M2.int (i:=q) (by omega)
     have z0:=M0.frozen q
     have hqi:(q:Int)<16:=by omega
     have zn:=M0.dw q (x.getD q 0^^^k.getD q 0)
     rw[oo hln hlq] at zn
     have HX:=aR (tC (aC hlb (by decide) q) (aC pK (by decide) q))
     have P0:=aR zn.drew
     have P1:=(M1.far (p:=⟨w.heap.size+1,q,none⟩) (show w.heap.size≠w.heap.size+1 by omega) (.int .u8 ((x.getD q 0^^^k.getD q 0:Nat):Int))).drew
     have P2:=(M2.far (p:=⟨w.heap.size+1,q,none⟩) (show nb≠w.heap.size+1 by omega) (.int .u8 ((x.getD q 0^^^k.getD q 0:Nat):Int))).drew
     have aG:=(aB.setCell (p:=⟨w.heap.size+1,q,none⟩) (by show w.heap.size<=w.heap.size+1;omega) (.int .u8 ((x.getD q 0^^^k.getD q 0:Nat):Int))).drew
     have R0:=aR P1
     have R1:=aR P2
     have R2:=aR aG
     clear M0 M1 M2 zn P1 P2 aB aG hxl
     generalize x.getD q 0=xv at *
     generalize k.getD q 0=kv at *
     go_wp2_with fail
     go_region
     rw[HX.out]
     go_wp2_with fail
     exact⟨⟨q+1,by omega,by go_num,P0.out,R0.out,R1.out,R2.out⟩,by simp[intOf]<;>omega⟩
    ·obtain rfl:q=16:=by omega
     have hd2:decide (((16:Nat):Int)<16)=false:=by simp
     rw[mi hln] at M0
     go_wp2_with fail
     exact⟨⟨i+1,by omega,by go_num,by rw[HF.out];exact M0,M1,aB⟩,by simp[intOf]<;>omega⟩
  ·obtain rfl:i=m:=by omega
   have hd:decide ((i:Int)<(i:Int))=false:=by simp
   have he:ks.take i=ks:=List.take_of_length_le (by rw[HM.out];omega)
   rw[he] at A0 hln
   clear he
   go_wp2_with ((first|(refine ag rfl 96 _ rfl _ rfl A0 aD hln ?_)|(refine aa rfl 96 _ _ rfl _ rfl rfl A1 (ah _ _) aD hln ?_));(try simp only[nn,Nat.reduceAdd]))
   refine aO rfl rfl (A1.row _) aD hln ⟨rfl,?_⟩
   exact az hbel dM _
def rT (key:List Nat):List (List Nat):=jC (dW 255) key
def Xj (key:List Nat):List Nat:=jA (dW 255) (rT key) (zeros 16)
def Xi (key:List Nat):List Nat:=jA (dW 255) (rT key) (1::zeros 15)
def hcA (p:Value)(h l:List Nat):List Value:=[p]++vals .u8 h++vals .u8 l
theorem agl (ga:Nat)(W:World):(Instr.build 98 #[(0,.pointer (some ⟨ga,0,none⟩))]).run prog W=.ok (.agg (hcA (.pointer (some ⟨ga,0,none⟩)) (zeros 16) (zeros 16)).toArray) W:=by kernel_rfl
theorem NW {o:Oper}{a:Act}{x:Operand}{ga:Nat}{w:World}(ho:o.op=.build 98 #[(0,x)])(hx:a.eval x=.pointer (some ⟨ga,0,none⟩)):(execOp a.eval o).run prog w=.ok (.value (.agg (hcA (.pointer (some ⟨ga,0,none⟩)) (zeros 16) (zeros 16)).toArray)) w:=by
 unfold execOp
 simp only[ho,List.map_toArray,List.map_cons,List.map_nil,hx]
 simp only[Sem.run_bind,agl ga,Result.andThen_ok]
 rfl
theorem Xh (gt gb:Nat)(key:List Nat)(hkl:key.length=16∨key.length=24∨key.length=32)(hkb:∀x∈key,x<256)(a:Option Addr)(c:Nat)(w:World)(hT:lJ w gt gb)(hs:Sl w a .u8 key) :
  Calls prog 29 #[.pointer (some ⟨gt,0,none⟩),.slice a key.length c] w λe w'=>∃gc ga gk ck,e=.returned (.tuple #[.pointer (some ⟨gc,0,none⟩),.int .i64 0])/\w.heap.size<=gc/\aA w' gc 98 (hcA (.pointer (some ⟨ga,0,none⟩)) (Xj key) (Xi key)).toArray/\Ag w' ga gt gb gk ck (dW 255) (rT key)/\Below w.heap.size w w':=by
 have hex:=Gw gt gb (dW 255) key (gB 255) (gH 255) hkl hkb a c w hT.1 hT.2 hs
 have hok:=BI (gB 255) (gH 255) hkl
 have hfl:=pX (gB 255) (gH 255) hkl
 have hkn:=jR (dW 255) key
 have HH:Hid (Xj key=jA (dW 255) (rT key) (zeros 16)):=aR rfl
 have HL:Hid (Xi key=jA (dW 255) (rT key) (1::zeros 15)):=aR rfl
 have HK:Hid (rT key=jC (dW 255) key):=aR rfl
 have Mj:(Xj key).length=16:=iY _ _ _
 have hll:(Xi key).length=16:=iY _ _ _
 rw[←HK.out] at hex hok hfl hkn
 generalize Xj key=hh at *
 generalize Xi key=hl at *
 generalize rT key=ks at *
 obtain⟨N,HN⟩:=bD (key.length)
 rw[HN.out] at hkl hex hfl hkn ⊢
 go_enter func29,ntmps29
 go_wp2_with fail
 refine hex.mono ?_
 clear hex
 rintro e w2 ⟨ga,gk,ck,rfl,hga,K1,K2,hck,hb2⟩
 have Zd:=hT.below hb2
 have KI:Ag w2 ga gt gb gk ck (dW 255) ks:=⟨by rw[hkn];exact K1,K2,by rw[hkn];exact hck,Zd.1,Zd.2⟩
 have hb3:=bN w2 (.cells (hcA (.pointer (some ⟨ga,0,none⟩)) (zeros 16) (zeros 16)).toArray 98)
 have B3:=aA.new w2 98 (hcA (.pointer (some ⟨ga,0,none⟩)) (zeros 16) (zeros 16)).toArray
 have aaZ:gk<w2.heap.size:=by
  obtain⟨g',o',he,hlt,-⟩:=K2 (by intro e;rw[e] at hfl;simp at hfl)
  cases he
  exact hlt
 have KI3:=KI.below hb3
 have aG:=bC hb2 hb3
 clear hT Zd hs K1 K2 KI hb3
 go_wp2_with (refine aZ rfl (NW rfl rfl) ?_;(try simp only[nn,Nat.reduceAdd]))
 generalize (w2.alloc (.cells (hcA (.pointer (some ⟨ga,0,none⟩)) (zeros 16) (zeros 16)).toArray 98))=w3 at *
 have hz2:=hb2.size
 obtain⟨g8,H8⟩:=bD (w2.heap.size)
 rw[H8.out] at B3 aaZ hz2 ⊢
 clear H8
 have hKW:∀W,Ch g8 w3 W->Ag W ga gt gb gk ck (dW 255) ks:=λW h=>KI3.ch h B3 (by decide) (by decide) (by decide) (by omega)
 have he1:=λW h=>mQ ga gt gb gk ck (dW 255) ks (zeros 16) hok (aH 16) (dh 16 (by decide)) W h
 have he2:=λW h=>mQ ga gt gb gk ck (dW 255) ks (1::zeros 15) hok rfl (by decide) W h
 rw[←HH.out] at he1
 rw[←HL.out] at he2
 obtain⟨p,Hp⟩:∃p:Value,Hid (p=.pointer (some ⟨ga,0,none⟩)):=⟨_,aR rfl⟩
 have aI:=oJ (S:=(λk _ W=>Ch g8 w3 W/\aA W g8 98 ([(hcA (.pointer (some ⟨ga,0,none⟩)) (zeros 16) (zeros 16)).toArray,(hcA (.pointer (some ⟨ga,0,none⟩)) hh (zeros 16)).toArray,(hcA (.pointer (some ⟨ga,0,none⟩)) hh hl).toArray].getD k #[]))) (λ_ _ _ _ h hb=>⟨h.1.trans (Ch.of_below hb),h.2.below' hb⟩)
 refine aS (n:=40) (T:=?_) [(21,.pointer (some ⟨g8,0,none⟩)),(22,.pointer (some ⟨g8,0,none⟩)),(23,.pointer (some ⟨g8,0,none⟩)),(24,.pointer (some ⟨g8,0,none⟩)),(25,.pointer (some ⟨g8,0,none⟩)),(26,.pointer (some ⟨ga,0,none⟩)),(27,.agg (ints .u8 (zeros 16))),(28,.agg (ints .u8 hh)),(29,.pointer (some ⟨g8,0,none⟩)),(30,.pointer (some ⟨g8,0,none⟩)),(31,.pointer (some ⟨g8,0,none⟩)),(32,.pointer (some ⟨ga,0,none⟩)),(33,.agg (ints .u8 (1::zeros 15))),(34,.agg (ints .u8 hl)),(35,.pointer (some ⟨g8,0,none⟩)),(36,.pointer (some ⟨g8,1,none⟩)),(37,.pointer (some ⟨g8,0,none⟩)),(38,.pointer (some ⟨g8,17,none⟩))] [] (λs W u=>True) (λ_ _=>True) [16,19] _ aI (by kernel_rfl) (by kernel_rfl) rfl (by kernel_rfl) (by kernel_rfl) (by kernel_rfl) (λs W W' v hR h=>trivial) ((⟨Ch.of_below (dQ _),B3.drew⟩:Ch g8 w3 w3.drew/\aA w3.drew g8 98 (hcA (.pointer (some ⟨ga,0,none⟩)) (zeros 16) (zeros 16)).toArray)) ?_ ?_ ?_ ?_
 rotate_left
 ·intro e;simp only[tv,nn,Nat.reduceAdd];exact rfl
 ·exact λe=>rfl
 ·intro i o il k qB hst e W hS hla
  rcases i with _|_|_|_|_|_|_|_|_|_|_|_|_|_|_|_|_|_|_|_|i<;>try cases il
  ·exact kv 21 rfl rfl rfl rfl rfl rfl trivial hS
  ·exact kv 22 rfl rfl rfl rfl rfl rfl trivial hS
  ·exact kv 23 rfl rfl rfl rfl rfl rfl trivial hS
  ·exact kv 24 rfl rfl (by kernel_rfl) rfl rfl rfl trivial hS
  ·exact kv 25 rfl rfl (by kernel_rfl) rfl rfl rfl trivial hS
  ·obtain rfl:k=0:=Nat.le_zero.1 (aQ hst 0 16 rfl (by kernel_rfl))
   exact kv 26 rfl rfl (dH rfl rfl underlying86 (hS.2.cell 0)) rfl rfl rfl trivial hS
  ·exact kv 27 rfl rfl (by kernel_rfl) rfl rfl rfl trivial hS
  ·exact kc 28 36 rfl rfl rfl func36 (he1 W (hKW W hS.1)) rfl rfl rfl (λ_ hW'=>trivial) λ_ hW'=>aI k e _ _ hS hW'
  ·exact kv 29 rfl rfl rfl rfl rfl rfl trivial hS
  ·exact kv 30 rfl rfl (by kernel_rfl) rfl rfl rfl trivial hS
  ·exact kv 31 rfl rfl (by kernel_rfl) rfl rfl rfl trivial hS
  ·obtain rfl:k=0:=Nat.le_zero.1 (aQ hst 0 16 rfl (by kernel_rfl))
   exact kv 32 rfl rfl (dH rfl rfl underlying86 (hS.2.cell 0)) rfl rfl rfl trivial hS
  ·exact kv 33 rfl rfl (by kernel_rfl) rfl rfl rfl trivial hS
  ·exact kc 34 36 rfl rfl rfl func36 (he2 W (hKW W hS.1)) rfl rfl rfl (λ_ hW'=>trivial) λ_ hW'=>aI k e _ _ hS hW'
  ·exact kv 35 rfl rfl (by kernel_rfl) rfl rfl rfl trivial hS
  ·exact kv 36 rfl rfl (by kernel_rfl) rfl rfl rfl trivial hS
  ·obtain rfl:k=0:=Nat.le_zero.1 (aQ hst 0 16 rfl (by kernel_rfl))
   refine eO (pre:=[.pointer (some ⟨ga,0,none⟩)]) (old:=vals .u8 (zeros 16)) (post:=vals .u8 (zeros 16)) (vs:=vals .u8 hh) rfl rfl 96 _ _ rfl 1 rfl rfl hS.2 rfl aD rfl (by rw[bg];exact Mj) (dX _ _) ?_;intro W' hB' OG
   exact KL.none rfl (trivial) (⟨hS.1.trans (Ch.bX OG),hB'⟩)
  ·exact kv 37 rfl rfl (by kernel_rfl) rfl rfl rfl trivial hS
  ·exact kv 38 rfl rfl (by kernel_rfl) rfl rfl rfl trivial hS
  ·obtain rfl:k=1:=Nat.le_antisymm (aQ hst 1 19 rfl (by kernel_rfl)) (gG hst 0 16 rfl (by kernel_rfl))
   refine eO (pre:=[.pointer (some ⟨ga,0,none⟩)]++vals .u8 hh) (old:=vals .u8 (zeros 16)) (post:=[]) (vs:=vals .u8 hl) rfl rfl 96 _ _ rfl 17 rfl rfl (by rw[List.append_nil];exact hS.2) (by rw[List.length_append,bg,Mj];rfl) aD rfl (by rw[bg];exact hll) (dX _ _) ?_;intro W' hB' OG;rw[List.append_nil] at hB'
   exact KL.none rfl (trivial) (⟨hS.1.trans (Ch.bX OG),hB'⟩)
 ·intro e W hS hla
  clear hla aI
  obtain⟨hch,B4⟩:=hS
  have aY:=hch.below aG hz2 aG.size
  have KI4:=hKW W hch
  go_wp2_with fail
  exact bodyPost_ret (v:=.tuple #[.pointer (some ⟨g8,0,none⟩),.int .i64 0]) (by simp[results,results29]) rfl ⟨g8,ga,gk,ck,rfl,hz2,B4,KI4,aY⟩
end
end Go.Proofs.YtaiffkajkbiidaaGreatDoor
