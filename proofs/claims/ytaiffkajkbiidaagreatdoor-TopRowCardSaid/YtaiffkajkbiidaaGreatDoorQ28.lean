/- What this claim leans on, part 28: laws of the model, and what functions of the program compute. No condition but what each law states. -/
import Derived.Test.YtaiffkajkbiidaaGreatDoorQ27
namespace Go.Proofs.YtaiffkajkbiidaaGreatDoor
set_option linter.unusedSimpArgs false
set_option linter.unusedVariables false
set_option linter.unusedSectionVars false
set_option maxRecDepth 100000
set_option maxHeartbeats 40000000
open Go.Proofs.Tryz
open Tryz
section
open Go.RowKit
def lT (f:Nat->List Nat×List Nat)(F:List Nat)(i:Nat):List Nat:=jd f i++F.drop (32*i)
theorem tZ {f:Nat->List Nat×List Nat}{F:List Nat}{n i:Nat}(h:∀i,(f i).1.length=16/\(f i).2.length=16)(hF:F.length=32*n)(hi:i<=n):(lT f F i).length=32*n:=by
 unfold lT
 rw[List.length_append,jP h,List.length_drop];omega
theorem FC {f:Nat->List Nat×List Nat}{F:List Nat}{n:Nat}(hF:F.length=32*n):lT f F n=jd f n:=by
 unfold lT
 rw[List.drop_of_length_le (by omega),List.append_nil]
theorem FB {f:Nat->List Nat×List Nat}{F:List Nat}{n i:Nat}(hF:F.length=32*n)(hi:i<n):lT f F i=jd f i++(pA F i++pB F i)++F.drop (32*(i+1)):=by
 unfold lT pA pB
 rw[←List.drop_drop,←List.take_add,List.append_assoc]
 congr 1
 rw[show 32*(i+1)=32*i+(16+16) by omega,←List.drop_drop,List.take_append_drop]
theorem RL {f:Nat->List Nat×List Nat}{F:List Nat}{n i:Nat}(h:∀i,(f i).1.length=16/\(f i).2.length=16)(hF:F.length=32*n)(hi:i<n):((lT f F i).drop (32*i)).take 16=pA F i/\((lT f F i).drop (32*i+16)).take 16=pB F i:=by
 have hl:=jP h i
 have h1:(lT f F i).drop (32*i)=F.drop (32*i):=by unfold lT;rw[←hl,List.drop_left]
 refine⟨by rw[h1];rfl,?_⟩
 rw[←List.drop_drop,h1,List.drop_drop];rfl
theorem AV (f:Nat->List Nat×List Nat)(F:List Nat)(i:Nat):lT f F (i+1)=jd f i++((f i).1++(f i).2)++F.drop (32*(i+1)):=rfl
theorem rD:(prog.info? 269).map (·.size)=some 32:=by kernel_rfl
theorem Ey:(prog.info? 96).map (·.size)=some 16:=by kernel_rfl
theorem Ye (gk gt gb:Nat)(I J Z:List Nat)(wb w:World)(hbb:Below wb.heap.size wb w)(hK:IsKey wb gk gt gb I J Z)(ps us vs:Value)(n:Nat)(F x y:List Nat)(O:dD w wb.heap.size 269 32 .u8 ps n F)(TH:∀x∈F,x<256)(hn:n<2^20) :
  Calls prog 178 #[.agg (iA ps us vs x y).toArray,.pointer (some ⟨gk,0,none⟩)] w λe w'=>e=.returned (.agg (ints .u8 (jc (aX (eE I J Z) F) n)))/\dD w' wb.heap.size 269 32 .u8 ps n (jd (λi=>(aW (eE I J Z) F i,aX (eE I J Z) F i)) n)/\Below wb.heap.size wb w'/\mW 269 w w':=by
 have hF:F.length=32*n:=by have h1:=O.len;omega
 obtain⟨ap,cp,rfl,-,-,-⟩:=O.mZ
 have hf:∀i,(aW (eE I J Z) F i).length=16/\(aX (eE I J Z) F i).length=16:=λi=>⟨bI _,bI _⟩
 have A0:=((aA.new w 259 (iA (.slice ap n cp) us vs x y).toArray).alloc (.cells (ints .u8 (zeros 16)) 96)).alloc (.cells (ints .u8 (zeros 16)) 96)
 have k0:=A0.cell 0
 rw[show (iA (.slice ap n cp) us vs x y).toArray[0]?=some (.slice ap n cp) from rfl] at k0
 have hb0:=((bN w (.cells (iA (.slice ap n cp) us vs x y).toArray 259)).alloc (by simp) (.cells (ints .u8 (zeros 16)) 96)).alloc (by simp;omega) (.cells (ints .u8 (zeros 16)) 96)
 have A1:=(aA.new (w.alloc (.cells (iA (.slice ap n cp) us vs x y).toArray 259)) 96 (ints .u8 (zeros 16))).alloc (.cells (ints .u8 (zeros 16)) 96)
 rw[World.size_alloc] at A1
 have A2:=aA.new ((w.alloc (.cells (iA (.slice ap n cp) us vs x y).toArray 259)).alloc (.cells (ints .u8 (zeros 16)) 96)) 96 (ints .u8 (zeros 16))
 rw[World.size_alloc,World.size_alloc] at A2
 generalize (iA (.slice ap n cp) us vs x y).toArray=MC at *
 have O0:=O.below hb0
 have hbel0:=bC hbb hb0
 have hc0:mW 269 w _:=mW.of_below hb0
 go_enter func178,ntmps178
 go_wp2_with ((first|(refine ae rfl 96 rfl fw ?_));(try simp only[nn,Nat.reduceAdd]))
 generalize (((w.alloc (.cells MC 259)).alloc (.cells (ints .u8 (zeros 16)) 96)).alloc (.cells (ints .u8 (zeros 16)) 96))=w0 at *
 have hwz:w.heap.size+3<=w0.heap.size:=A2.lt
 go_loopw [12] (λt wr=>∃i:Nat,i<=n/\t=.int .i64 (i:Int)/\dD wr wb.heap.size 269 32 .u8 (.slice ap n cp) n (lT (λi=>(aW (eE I J Z) F i,aX (eE I J Z) F i)) F i)/\aA wr w.heap.size 259 MC/\aA wr (w.heap.size+1) 96 (ints .u8 (zeros 16))/\aA wr (w.heap.size+2) 96 (ints .u8 (jc (aX (eE I J Z) F) i))/\w.heap.size+3<=wr.heap.size/\Below wb.heap.size wb wr/\mW 269 w wr) (λt wr=>n-(intOf t).toNat)
 case atStart=>exact⟨0,by omega,rfl,O0,A0,A1,A2,hwz,hbel0,hc0⟩
 case round =>
  obtain⟨Ze,-⟩:MC[0]?=some (.slice ap n cp)/\True:=⟨(A0.cell 0).symm.trans k0,trivial⟩
  clear A0 A1 A2 hwz hbel0 hc0 k0 O0 hb0 O
  obtain⟨i,hi,rfl,O,A0,A1,A2,hwz,hbel,hct⟩:=hrel
  have k0:=(A0.cell 0).trans Ze
  by_cases hlt:i<n
  ·have hd0:decide ((i:Int)<(n:Int))=true:=by simp;omega
   obtain⟨gp,cp',rest,hv,hgp,iy,hmk⟩:=O.open_ (by omega)
   cases hv
   obtain⟨ePA,ePB⟩:=RL (f:=λi=>(aW (eE I J Z) F i,aX (eE I J Z) F i)) hf hF hlt
   obtain⟨_,_,hvv,SF,_,_⟩:=O.mZ
   cases hvv
   have SA:=(SF.off (32*i)).take 16
   have SB:=(SF.off (32*i+16)).take 16
   rw[ePA,Nat.zero_add] at SA
   rw[ePB,Nat.zero_add] at SB
   have Kh:=Jt hF hlt
   have hBl:=Js hF hlt
   have acJ:=Ff TH i
   have hBb:=AL TH i
   have K0:=hK.below hbel
   have hl2:=iZ I J Z 1 (i+1) hBl
   have hb2:=fT I J Z 1 (i+1) hBb
   have hE1:=λW (k:IsKey W gk gt gb I J Z)=>rq gk gt gb I J Z (pB F i) 1 (i+1) (by decide) (by omega) hBl hBb W k
   have hbs:=λW=>gY _ _ Kh hl2 W
   have hpl:∀g W,Sl W (some ⟨g,0,none⟩) .u8 [pA F i,eE I J Z 1 (i+1) (pB F i)].flatten->Calls prog 177 #[.slice (some ⟨g,0,none⟩) 2 2] W λe w'=>e=.returned (.agg (ints .u8 (aW (eE I J Z) F i)))/\Below W.heap.size W w':=λg W s=>jW g 2 [pA F i,eE I J Z 1 (i+1) (pB F i)] (dz (p:=λk=>k.length=16) Kh hl2) (dz (p:=λk=>∀y∈k,y<256) acJ hb2) (show 2<2^31 by decide) W s
   have hbs':[pA F i,eE I J Z 1 (i+1) (pB F i)].flatten.length=32:=by simp;omega
   have hk0:w.heap.size<wr.heap.size:=by omega
   go_wp2_with fail
   generalize hX1:[pA F i,eE I J Z 1 (i+1) (pB F i)].flatten=fl at *
   have hwl:(aW (eE I J Z) F i).length=16:=bI _
   have aI:=oJ (S:=(λk e W=>Below wr.heap.size wr W/\(0<k->∃g,e 7=.pointer (some ⟨g,0,none⟩)/\wr.heap.size<=g/\aA W g 96 (ints .u8 (aW (eE I J Z) F i))))) (λk e W W' h hb=>⟨dx h.1 hb h.1.size,λhk=>let ⟨g,h1,h2,h3⟩:=h.2 hk;⟨g,h1,h2,h3.below' hb⟩⟩)
   refine aS (n:=57) (T:=?_) [(15,.pointer (some ⟨w.heap.size,0,none⟩)),(16,.slice (some ⟨gp,0,none⟩) n cp),(17,.int .i64 (i:Int)),(18,.pointer (some ⟨gp,32*i,none⟩)),(19,.pointer (some ⟨gp,32*i,none⟩)),(20,.agg (ints .u8 (pA F i))),(21,.pointer (some ⟨gk,0,none⟩)),(22,.int .i64 (i:Int)),(23,.int .i64 ((i+1:Nat):Int)),(24,.pointer (some ⟨w.heap.size,0,none⟩)),(25,.slice (some ⟨gp,0,none⟩) n cp),(26,.int .i64 (i:Int)),(27,.pointer (some ⟨gp,32*i,none⟩)),(28,.pointer (some ⟨gp,32*i+16,none⟩)),(29,.agg (ints .u8 (pB F i))),(30,.agg (ints .u8 (eE I J Z 1 (i+1) (pB F i)))),(32,.agg (ints .u8 (aW (eE I J Z) F i)))] [7,31] (λs W u=>(s=7->NP wr.heap.size 96 16 W u)/\(s=31->NS wr.heap.size 96 2 (ints .u8 fl) W u)) (RS 96 16) [19] _ aI (by kernel_rfl) (by kernel_rfl) rfl (by kernel_rfl) (by kernel_rfl) (by kernel_rfl) (λs W W' v hR h=>⟨λe=>(λh hR=>NP.rs h hR) (h.1 e) hR,λe=>(λh hR=>h.rs hR (λhc=>by rw[aF,hbs'] at hc;exact absurd hc.2 (by decide))) (h.2 e) hR⟩) (⟨dQ _,λh=>absurd h (Nat.lt_irrefl _)⟩) ?_ ?_ ?_ ?_
   rotate_left
   ·intro e;simp only[tv,nn,Nat.reduceAdd];exact rfl
   ·exact λe=>rfl
   ·intro i o il k qB hst e W hS hla
    rcases i with _|_|_|_|_|_|_|_|_|_|_|_|_|_|_|_|_|_|_|_|i<;>try cases il
    ·exact kv 15 rfl rfl (by kernel_rfl) rfl rfl rfl (RS.refl _ _ _) hS
    ·exact kv 16 rfl rfl (bO rfl rfl underlying257 ((hS.1.cell (p:=⟨w.heap.size,0,none⟩) hk0).trans k0)) rfl rfl rfl (RS.refl _ _ _) hS
    ·exact kv 17 rfl rfl rfl rfl rfl rfl (RS.refl _ _ _) hS
    ·exact kv 18 rfl rfl (dP (z:=32*i) (by omega) rfl rfl rfl hlt underlying257 rD) rfl rfl rfl (RS.refl _ _ _) hS
    ·exact kv 19 rfl rfl (ku (j:=0) rfl rfl (by decide) underlying269 Ey) rfl rfl rfl (RS.refl _ _ _) hS
    ·exact kv 20 rfl rfl (bq rfl rfl (SA.below hS.1) aD Kh (rP Kh)) rfl rfl rfl (RS.refl _ _ _) hS
    ·exact kv 21 rfl rfl rfl rfl rfl rfl (RS.refl _ _ _) hS
    ·exact kv 22 rfl rfl rfl rfl rfl rfl (RS.refl _ _ _) hS
    ·exact kv 23 rfl rfl (xK rfl rfl rfl (by omega) (by omega)) rfl rfl rfl (RS.refl _ _ _) hS
    ·exact kv 24 rfl rfl (by kernel_rfl) rfl rfl rfl (RS.refl _ _ _) hS
    ·exact kv 25 rfl rfl (bO rfl rfl underlying257 ((hS.1.cell (p:=⟨w.heap.size,0,none⟩) hk0).trans k0)) rfl rfl rfl (RS.refl _ _ _) hS
    ·exact kv 26 rfl rfl rfl rfl rfl rfl (RS.refl _ _ _) hS
    ·exact kv 27 rfl rfl (dP (z:=32*i) (by omega) rfl rfl rfl hlt underlying257 rD) rfl rfl rfl (RS.refl _ _ _) hS
    ·exact kv 28 rfl rfl (ku (j:=1) rfl rfl (by decide) underlying269 Ey) rfl rfl rfl (RS.refl _ _ _) hS
    ·exact kv 29 rfl rfl (bq rfl rfl (SB.below hS.1) aD hBl (rP hBl)) rfl rfl rfl (RS.refl _ _ _) hS
    ·exact kc 30 180 rfl rfl rfl func180 (hE1 W (K0.below hS.1)) rfl rfl rfl (λ_ hW'=>(RS.below hW')) λ_ hW'=>aI k e _ _ hS hW'
    ·refine cz rfl rfl (fE (u0:=.agg (ints .u8 (pA F i))) (u1:=.agg (ints .u8 (eE I J Z 1 (i+1) (pB F i)))) rfl rfl rfl (hbs W)) ?_
     exact KL.lt 31 rfl rfl ⟨λe=>absurd e (by decide),λ_=>(⟨W.heap.size,rfl,hS.1.size,aA.new _ _ _⟩)⟩ (RS.below (bN _ _)) (aI k e _ _ hS (bN _ _))
    ·obtain⟨g,hg,hgB,pM⟩:=((hla 31 rfl (by kernel_rfl)).2 rfl);refine aV 177 rfl rfl rfl func177 (by kernel_rfl) (by kernel_rfl) (by show Calls _ _ #[e 31] W _;rw[hg];exact hpl g W (Sl.blk pM)) ?_;intro W' hW'
     exact KL.at_ 32 rfl rfl rfl (RS.below hW') (aI k e _ _ hS hW')
    ·obtain rfl:k=0:=Nat.le_zero.1 (aQ hst 0 19 rfl (by kernel_rfl))
     refine bZ rfl rfl rfl fw ?_
     exact KL.lt 7 rfl rfl ⟨λ_=>(NP.new (hS.1.size)),λe=>absurd e (by decide)⟩ (((RS.below (bN _ _)))) (⟨hS.1.alloc hS.1.size _,λh=>absurd h (Nat.lt_irrefl _)⟩)
    ·obtain rfl:k=0:=Nat.le_zero.1 (aQ hst 0 19 rfl (by kernel_rfl))
     obtain⟨g,cs,hg,hBg,hcs,iy⟩:=((hla 7 rfl (by kernel_rfl)).1 rfl);refine bJ rfl rfl rfl hg rfl iy hcs aD hwl ?_
     exact KL.none rfl (RS.row iy hcs ((aF _ _).trans (Eq.trans hwl hcs.symm))) (⟨az hS.1 hBg _,λ_=>⟨g,hg,hBg,iy.row _⟩⟩)
   ·intro e5 w5 hS hla
    have l7:=(hla 7 rfl).1 rfl
    have adJ:=(hla 31 rfl).2 rfl
    clear hla aI
    obtain⟨hbelW,hx⟩:=hS
    obtain⟨g7,hg7,hBg7,Z7⟩:=hx (by decide)
    clear hx l7 adJ hpl hbs hE1
    generalize e5 31=u31' at *
    generalize e5 7=u7' at hg7 ⊢
    subst hg7
    have O2:=O.below hbelW
    have A02:=A0.below' hbelW
    have A12:=A1.below' hbelW
    have A22:=A2.below' hbelW
    have aB:=bC hbel hbelW
    have afd:=hct.trans (mW.of_below hbelW)
    have aeb:w.heap.size+3<=w5.heap.size:=Nat.le_trans hwz hbelW.size
    have SB2:=SB.below hbelW
    have K2:=hK.below aB
    have afQ:=iy.below' hbelW
    have k02:=(A02.cell 0).trans Ze
    clear A0 A1 A2 hbel hct hwz SA SB SF K0 iy k0 O
    have hE2:=λW (k:IsKey W gk gt gb I J Z)=>rq gk gt gb I J Z (aW (eE I J Z) F i) 0 0 (by decide) (by decide) hwl (dE _ _ (gJ 16) (dz (p:=λk=>∀y∈k,y<256) acJ hb2)) W k
    have hl3:=iZ I J Z 0 0 hwl
    have hb3:=fT I J Z 0 0 (x:=aW (eE I J Z) F i) (dE _ _ (gJ 16) (dz (p:=λk=>∀y∈k,y<256) acJ hb2))
    have wK:=λW=>gY _ _ hBl hl3 W
    have um:∀g W,Sl W (some ⟨g,0,none⟩) .u8 [pB F i,eE I J Z 0 0 (aW (eE I J Z) F i)].flatten->Calls prog 177 #[.slice (some ⟨g,0,none⟩) 2 2] W λe w'=>e=.returned (.agg (ints .u8 (aX (eE I J Z) F i)))/\Below W.heap.size W w':=λg W s=>jW g 2 [pB F i,eE I J Z 0 0 (aW (eE I J Z) F i)] (dz (p:=λk=>k.length=16) hBl hl3) (dz (p:=λk=>∀y∈k,y<256) hBb hb3) (show 2<2^31 by decide) W s
    have Mo:[pB F i,eE I J Z 0 0 (aW (eE I J Z) F i)].flatten.length=32:=by simp;omega
    have hk02:w.heap.size<w5.heap.size:=by omega
    have zT:(aX (eE I J Z) F i).length=16:=bI _
    go_wp2_with fail
    generalize hX2:[pB F i,eE I J Z 0 0 (aW (eE I J Z) F i)].flatten=XC at *
    have aI:=oJ (S:=(λk e W=>Below w5.heap.size w5 W/\(0<k->∃g,e 8=.pointer (some ⟨g,0,none⟩)/\w5.heap.size<=g/\aA W g 96 (ints .u8 (aX (eE I J Z) F i))))) (λk e W W' h hb=>⟨dx h.1 hb h.1.size,λhk=>let ⟨g,h1,h2,h3⟩:=h.2 hk;⟨g,h1,h2,h3.below' hb⟩⟩)
    refine aS (n:=57) (T:=?_) [(33,.pointer (some ⟨w.heap.size,0,none⟩)),(34,.slice (some ⟨gp,0,none⟩) n cp),(35,.int .i64 (i:Int)),(36,.pointer (some ⟨gp,32*i,none⟩)),(37,.pointer (some ⟨gp,32*i+16,none⟩)),(38,.agg (ints .u8 (pB F i))),(39,.pointer (some ⟨gk,0,none⟩)),(40,.agg (ints .u8 (aW (eE I J Z) F i))),(41,.agg (ints .u8 (eE I J Z 0 0 (aW (eE I J Z) F i)))),(43,.agg (ints .u8 (aX (eE I J Z) F i)))] [8,42] (λs W u=>(s=8->NP w5.heap.size 96 16 W u)/\(s=42->NS w5.heap.size 96 2 (ints .u8 XC) W u)) (RS 96 16) [12] _ aI (by kernel_rfl) (by kernel_rfl) rfl (by kernel_rfl) (by kernel_rfl) (by kernel_rfl) (λs W W' v hR h=>⟨λe=>(λh hR=>NP.rs h hR) (h.1 e) hR,λe=>(λh hR=>h.rs hR (λhc=>by rw[aF,Mo] at hc;exact absurd hc.2 (by decide))) (h.2 e) hR⟩) (⟨dQ _,λh=>absurd h (Nat.lt_irrefl _)⟩) ?_ ?_ ?_ ?_
    rotate_left
    ·intro e;simp only[tv,nn,Nat.reduceAdd];exact rfl
    ·exact λe=>rfl
    ·intro i o il k qB hst e W hS hla
     rcases i with _|_|_|_|_|_|_|_|_|_|_|_|_|i<;>try cases il
     ·exact kv 33 rfl rfl (by kernel_rfl) rfl rfl rfl (RS.refl _ _ _) hS
     ·exact kv 34 rfl rfl (bO rfl rfl underlying257 ((hS.1.cell (p:=⟨w.heap.size,0,none⟩) hk02).trans k02)) rfl rfl rfl (RS.refl _ _ _) hS
     ·exact kv 35 rfl rfl rfl rfl rfl rfl (RS.refl _ _ _) hS
     ·exact kv 36 rfl rfl (dP (z:=32*i) (by omega) rfl rfl rfl hlt underlying257 rD) rfl rfl rfl (RS.refl _ _ _) hS
     ·exact kv 37 rfl rfl (ku (j:=1) rfl rfl (by decide) underlying269 Ey) rfl rfl rfl (RS.refl _ _ _) hS
     ·exact kv 38 rfl rfl (bq rfl rfl (SB2.below hS.1) aD hBl (rP hBl)) rfl rfl rfl (RS.refl _ _ _) hS
     ·exact kv 39 rfl rfl rfl rfl rfl rfl (RS.refl _ _ _) hS
     ·refine bf rfl rfl rfl rfl (Z7.below' hS.1) aD hwl ?_
      exact KL.at_ 40 rfl rfl rfl (RS.refl _ _ _) hS
     ·exact kc 41 180 rfl rfl rfl func180 (hE2 W (K2.below hS.1)) rfl rfl rfl (λ_ hW'=>(RS.below hW')) λ_ hW'=>aI k e _ _ hS hW'
     ·refine cz rfl rfl (fE (u0:=.agg (ints .u8 (pB F i))) (u1:=.agg (ints .u8 (eE I J Z 0 0 (aW (eE I J Z) F i)))) rfl rfl rfl (wK W)) ?_
      exact KL.lt 42 rfl rfl ⟨λe=>absurd e (by decide),λ_=>(⟨W.heap.size,rfl,hS.1.size,aA.new _ _ _⟩)⟩ (RS.below (bN _ _)) (aI k e _ _ hS (bN _ _))
     ·obtain⟨g,hg,hgB,pM⟩:=((hla 42 rfl (by kernel_rfl)).2 rfl);refine aV 177 rfl rfl rfl func177 (by kernel_rfl) (by kernel_rfl) (by show Calls _ _ #[e 42] W _;rw[hg];exact um g W (Sl.blk pM)) ?_;intro W' hW'
      exact KL.at_ 43 rfl rfl rfl (RS.below hW') (aI k e _ _ hS hW')
     ·obtain rfl:k=0:=Nat.le_zero.1 (aQ hst 0 12 rfl (by kernel_rfl))
      refine bZ rfl rfl rfl fw ?_
      exact KL.lt 8 rfl rfl ⟨λ_=>(NP.new (hS.1.size)),λe=>absurd e (by decide)⟩ (((RS.below (bN _ _)))) (⟨hS.1.alloc hS.1.size _,λh=>absurd h (Nat.lt_irrefl _)⟩)
     ·obtain rfl:k=0:=Nat.le_zero.1 (aQ hst 0 12 rfl (by kernel_rfl))
      obtain⟨g,cs,hg,hBg,hcs,iy⟩:=((hla 8 rfl (by kernel_rfl)).1 rfl);refine bJ rfl rfl rfl hg rfl iy hcs aD zT ?_
      exact KL.none rfl (RS.row iy hcs ((aF _ _).trans (Eq.trans zT hcs.symm))) (⟨az hS.1 hBg _,λ_=>⟨g,hg,hBg,iy.row _⟩⟩)
    ·intro e6 W6 hS hla
     have l8:=(hla 8 rfl).1 rfl
     have adI:=(hla 42 rfl).2 rfl
     clear hla aI
     obtain⟨eX,hx⟩:=hS
     obtain⟨g8,hg8,hBg8,Z8⟩:=hx (by decide)
     clear hx l8 adI um wK hE2
     generalize e6 42=u42' at *
     generalize e6 8=u8' at hg8 ⊢
     subst hg8
     have O3:=O2.below eX
     have A03:=A02.below' eX
     have A13:=A12.below' eX
     have A23:=A22.below' eX
     have Z73:=Z7.below' eX
     have aG:=bC aB eX
     have afc:=afd.trans (mW.of_below eX)
     have aea:w.heap.size+3<=W6.heap.size:=Nat.le_trans aeb eX.size
     have Kg:=afQ.below' eX
     have k03:=(A03.cell 0).trans Ze
     clear A02 A12 A22 aB afd aeb SB2 K2 afQ k02 O2 Z7
     have afP:aA W6 gp 269 (vals .u8 (jd (λi=>(aW (eE I J Z) F i,aX (eE I J Z) F i)) i)++vals .u8 (pA F i++pB F i)++(vals .u8 (F.drop (32*(i+1)))++rest)).toArray:=by
      have h:=Kg
      rw[FB hF hlt,jq,jq,List.append_assoc (vals .u8 (jd _ i)++_)] at h
      exact h
     have hfl:32*i=(vals .u8 (jd (λi=>(aW (eE I J Z) F i,aX (eE I J Z) F i)) i)).length:=by rw[bg,jP hf i]
     have hold:(vals .u8 (pA F i++pB F i)).length=32:=by rw[bg,List.length_append,Kh,hBl]
     have hnew:(vals .u8 (aW (eE I J Z) F i++aX (eE I J Z) F i)).length=32:=by rw[bg,List.length_append,hwl,zT]
     have hn0:=A03.gU Kg (by decide)
     have hn1:=A13.gU Kg (by decide)
     have hn2:=A23.gU Kg (by decide)
     have hn8:=Z8.gU Kg (by decide)
     have gq:(lT (λi=>(aW (eE I J Z) F i,aX (eE I J Z) F i)) F (i+1)).length=(lT (λi=>(aW (eE I J Z) F i,aX (eE I J Z) F i)) F i).length:=by rw[tZ hf hF (by omega),tZ hf hF (by omega)]
     have afD:∀w',aA w' gp 269 (vals .u8 (jd (λi=>(aW (eE I J Z) F i,aX (eE I J Z) F i)) i)++vals .u8 (aW (eE I J Z) F i++aX (eE I J Z) F i)++(vals .u8 (F.drop (32*(i+1)))++rest)).toArray->dD w' wb.heap.size 269 32 .u8 (.slice (some ⟨gp,0,none⟩) n cp) n (lT (λi=>(aW (eE I J Z) F i,aX (eE I J Z) F i)) F (i+1)):=λw' h=>by
      refine hmk w' (lT (λi=>(aW (eE I J Z) F i,aX (eE I J Z) F i)) F (i+1)) gq ?_
      rw[AV,jq,jq,List.append_assoc (vals .u8 (jd _ i)++_)]
      exact h
     have hl4:(jc (aX (eE I J Z) F) i).length=16:=kR _ _
     have hb4:∀x∈jc (aX (eE I J Z) F) i,x<256:=rF (λi=>dE _ _ (gJ 16) (dz (p:=λk=>∀y∈k,y<256) (AL TH i) (fT I J Z 0 0 (dE _ _ (gJ 16) (dz (p:=λk=>∀y∈k,y<256) (Ff TH i) (fT I J Z 1 (i+1) (AL TH i))))))) i
     have hb5:∀x∈aX (eE I J Z) F i,x<256:=dE _ _ (gJ 16) (dz (p:=λk=>∀y∈k,y<256) hBb hb3)
     have JY:=λW=>gY _ _ hl4 zT W
     have CZ:∀g W,Sl W (some ⟨g,0,none⟩) .u8 [jc (aX (eE I J Z) F) i,aX (eE I J Z) F i].flatten->Calls prog 177 #[.slice (some ⟨g,0,none⟩) 2 2] W λe w'=>e=.returned (.agg (ints .u8 (jc (aX (eE I J Z) F) (i+1))))/\Below W.heap.size W w':=λg W s=>jW g 2 [jc (aX (eE I J Z) F) i,aX (eE I J Z) F i] (dz (p:=λk=>k.length=16) hl4 zT) (dz (p:=λk=>∀y∈k,y<256) hb4 hb5) (show 2<2^31 by decide) W s
     have hl5:(jc (aX (eE I J Z) F) (i+1)).length=16:=kR _ _
     generalize hX3:[jc (aX (eE I J Z) F) i,aX (eE I J Z) F i].flatten=acK at *
     go_wp2_with ((first
      | (refine ag rfl 96 _ rfl _ rfl Z73 aD hwl ?_)
      | (refine ag rfl 96 _ rfl _ rfl Z8 aD zT ?_)
      | (refine aZ rfl (vk rfl rfl rfl hwl zT) ?_)
      | (refine aZ rfl (dP (z:=32*i) (by omega) rfl rfl rfl hlt underlying257 rD) ?_)
      | (refine iO rfl 269 _ _ rfl (32*i) rfl (vs:=vals .u8 (aW (eE I J Z) F i++aX (eE I J Z) F i)) rfl afP hfl Yc hold hnew (dX _ _) ?_;intro w7 acI Vj;(have A04:=Vj.blk A03 hn0);(have A14:=Vj.blk A13 hn1);(have A24:=Vj.blk A23 hn2);(have Z84:=Vj.blk Z8 hn8);(have O4:=afD w7 acI);(have aY:=Vj.below aG hgp);(have afb:=afc.trans (mW.YN (Ch.bX Vj) Kg));(have adZ:w.heap.size+3<=w7.heap.size:=by rw[Vj.size];exact aea);(clear A03 A13 A23 Z8 aG afc aea Kg afP afD hmk acI Vj Z73))
      | (refine ag rfl 96 _ rfl _ rfl A24 aD hl4 ?_)
      | (refine ag rfl 96 _ rfl _ rfl Z84 aD zT ?_)
      | (refine fP rfl (fE (u0:=.agg (ints .u8 (jc (aX (eE I J Z) F) i))) (u1:=.agg (ints .u8 (aX (eE I J Z) F i))) rfl rfl rfl (JY _)) ?_));(try simp only[nn,Nat.reduceAdd]))
     refine(CZ w7.heap.size _ (Sl.blk (aA.new w7 96 (ints .u8 acK)))).mono ?_
     rintro e w8 ⟨rfl,FY⟩
     have wL:Below w7.heap.size w7 w8:=by
      have h:=bN w7 (.cells (ints .u8 acK) 96)
      exact bC h FY
     have A05:=A04.below' wL
     have A15:=A14.below' wL
     have A25:=A24.below' wL
     have O6:=(O4.below wL).aM A25 (by decide) (ints .u8 (jc (aX (eE I J Z) F) (i+1)))
     have agQ:=A05.aM (show w.heap.size≠w.heap.size+2 by omega) (ints .u8 (jc (aX (eE I J Z) F) (i+1)))
     have A16:=A15.aM (show w.heap.size+1≠w.heap.size+2 by omega) (ints .u8 (jc (aX (eE I J Z) F) (i+1)))
     have A26:=A25.row (ints .u8 (jc (aX (eE I J Z) F) (i+1)))
     have Xn:=hbb.size
     have bK:=az (bC aY wL) (show wb.heap.size<=w.heap.size+2 by omega) (ints .u8 (jc (aX (eE I J Z) F) (i+1)))
     have Xe:=(afb.trans (mW.of_below wL)).xL (show w.heap.size<=w.heap.size+2 by omega) (ints .u8 (jc (aX (eE I J Z) F) (i+1)))
     have WS:w.heap.size+3<=(w8.setRow (w.heap.size+2) (ints .u8 (jc (aX (eE I J Z) F) (i+1)))).heap.size:=by rw[setRow_size];exact Nat.le_trans adZ wL.size
     clear A04 A14 A24 O4 aY afb adZ wL FY Z84
     have hsz5:(ints .u8 (jc (aX (eE I J Z) F) i)).size=16:=by rw[aF];exact hl4
     have hii:(i:Int)<4611686018427387904:=by omega
     go_wp2_with (refine aa rfl 96 _ _ rfl _ rfl rfl A25 hsz5 aD hl5 ?_;(try simp only[nn,Nat.reduceAdd]))
     exact⟨⟨i+1,by omega,by go_num,O6,agQ,A16,A26,WS,bK,Xe⟩,by simp[intOf]<;>omega⟩
  ·obtain rfl:i=n:=by omega
   have hd0:decide ((i:Int)<(i:Int))=false:=by simp
   rw[FC hF] at O
   have hl4:(jc (aX (eE I J Z) F) i).length=16:=kR _ _
   go_wp2_with ((first|(refine ag rfl 96 _ rfl _ rfl A2 aD hl4 ?_)|(refine aa rfl 96 _ _ rfl _ rfl rfl A1 (ah _ _) aD hl4 ?_));(try simp only[nn,Nat.reduceAdd]))
   refine aO rfl rfl (A1.row _) aD hl4 ⟨rfl,O.aM A1 (by decide) _,?_,hct.xL (show w.heap.size<=w.heap.size+1 by omega) _⟩
   have Xn:=hbb.size
   exact az hbel (show wb.heap.size<=w.heap.size+1 by omega) _
end
end Go.Proofs.YtaiffkajkbiidaaGreatDoor
