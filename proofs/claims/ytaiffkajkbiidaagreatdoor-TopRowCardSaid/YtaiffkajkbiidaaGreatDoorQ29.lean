/- What this claim leans on, part 29: laws of the model, and what functions of the program compute. No condition but what each law states. -/
import Derived.Test.YtaiffkajkbiidaaGreatDoorQ28
namespace Go.Proofs.YtaiffkajkbiidaaGreatDoor
set_option linter.unusedSimpArgs false
set_option linter.unusedVariables false
set_option linter.unusedSectionVars false
set_option maxRecDepth 100000
set_option maxHeartbeats 40000000
open Go.Proofs.Tryz
open Tryz
section
open Go.RowKit
def sD (E:Nat->Nat->List Nat->List Nat)(z F:List Nat)(i:Nat):List Nat:=fK [bY E z i (pA F i),E 0 0 (bY E z i (pB F i))]
def Ac (E:Nat->Nat->List Nat->List Nat)(z F:List Nat)(i:Nat):List Nat:=fK [bY E z i (pB F i),E 1 (i+1) (sD E z F i)]
def qL (E:Nat->Nat->List Nat->List Nat)(z F:List Nat)(i:Nat):List Nat:=bY E z i (pA F i)
def Io (E:Nat->Nat->List Nat->List Nat)(z F:List Nat)(i:Nat):List Nat:=bY E z i (pB F i)
theorem XY (E:Nat->Nat->List Nat->List Nat)(z F:List Nat)(i:Nat):qL E z F i=fK [pA F i,E 2 (i+1) z]:=rfl
theorem XX (E:Nat->Nat->List Nat->List Nat)(z F:List Nat)(i:Nat):Io E z F i=fK [pB F i,E 2 (i+1) z]:=rfl
theorem XZ (E:Nat->Nat->List Nat->List Nat)(z F:List Nat)(i:Nat):sD E z F i=fK [qL E z F i,E 0 0 (Io E z F i)]:=rfl
theorem Ya (E:Nat->Nat->List Nat->List Nat)(z F:List Nat)(i:Nat):Ac E z F i=fK [Io E z F i,E 1 (i+1) (sD E z F i)]:=rfl
theorem jm (a b:List Nat)(ha:a.length=16)(hb:b.length=16)(hab:∀x∈a,x<256)(hbb:∀x∈b,x<256)(g:Nat)(W:World)(s:Sl W (some ⟨g,0,none⟩) .u8 [a,b].flatten) :
  Calls prog 177 #[.slice (some ⟨g,0,none⟩) 2 2] W λe w'=>e=.returned (.agg (ints .u8 (fK [a,b])))/\Below W.heap.size W w' :=
 jW g 2 [a,b] (dz (p:=λk=>k.length=16) ha hb) (dz (p:=λk=>∀y∈k,y<256) hab hbb) (show 2<2^31 by decide) W s
theorem wV {a b:List Nat}(hab:∀x∈a,x<256)(hbb:∀x∈b,x<256):∀x∈fK [a,b],x<256:=dE _ _ (gJ 16) (dz (p:=λk=>∀y∈k,y<256) hab hbb)
theorem UD (gk gt gb:Nat)(I J Z:List Nat)(wb w:World)(hbb:Below wb.heap.size wb w)(hK:IsKey wb gk gt gb I J Z)(ps us vs:Value)(n:Nat)(F x y z:List Nat)(hzl:z.length=16)(hzb:∀x∈z,x<256)(O:dD w wb.heap.size 269 32 .u8 ps n F)(TH:∀x∈F,x<256)(hn:n<2^20) :
  Calls prog 181 #[.agg (iA ps us vs x y).toArray,.pointer (some ⟨gk,0,none⟩),.agg (ints .u8 z)] w λe w'=>e=.returned (.agg (ints .u8 (jc (qL (eE I J Z) z F) n)))/\dD w' wb.heap.size 269 32 .u8 ps n (jd (λi=>(Ac (eE I J Z) z F i,sD (eE I J Z) z F i)) n)/\Below wb.heap.size wb w'/\mW 269 w w':=by
 have hF:F.length=32*n:=by have h1:=O.len;omega
 obtain⟨ap,cp,rfl,-,-,-⟩:=O.mZ
 have hf:∀i,(Ac (eE I J Z) z F i).length=16/\(sD (eE I J Z) z F i).length=16:=λi=>⟨bI _,bI _⟩
 have A0:=(((aA.new w 259 (iA (.slice ap n cp) us vs x y).toArray).alloc (.cells (ints .u8 z) 96)).alloc (.cells (ints .u8 (zeros 16)) 96)).alloc (.cells (ints .u8 (zeros 16)) 96)
 have k0:=A0.cell 0
 rw[show (iA (.slice ap n cp) us vs x y).toArray[0]?=some (.slice ap n cp) from rfl] at k0
 have hb0:=(((bN w (.cells (iA (.slice ap n cp) us vs x y).toArray 259)).alloc (by simp) (.cells (ints .u8 z) 96)).alloc (by simp;omega) (.cells (ints .u8 (zeros 16)) 96)).alloc (by simp;omega) (.cells (ints .u8 (zeros 16)) 96)
 have AZ:=((aA.new (w.alloc (.cells (iA (.slice ap n cp) us vs x y).toArray 259)) 96 (ints .u8 z)).alloc (.cells (ints .u8 (zeros 16)) 96)).alloc (.cells (ints .u8 (zeros 16)) 96)
 rw[World.size_alloc] at AZ
 have A1:=(aA.new ((w.alloc (.cells (iA (.slice ap n cp) us vs x y).toArray 259)).alloc (.cells (ints .u8 z) 96)) 96 (ints .u8 (zeros 16))).alloc (.cells (ints .u8 (zeros 16)) 96)
 rw[World.size_alloc,World.size_alloc] at A1
 have A2:=aA.new (((w.alloc (.cells (iA (.slice ap n cp) us vs x y).toArray 259)).alloc (.cells (ints .u8 z) 96)).alloc (.cells (ints .u8 (zeros 16)) 96)) 96 (ints .u8 (zeros 16))
 rw[World.size_alloc,World.size_alloc,World.size_alloc] at A2
 generalize (iA (.slice ap n cp) us vs x y).toArray=MC at *
 have O0:=O.below hb0
 have hbel0:=bC hbb hb0
 have hc0:mW 269 w _:=mW.of_below hb0
 go_enter func181,ntmps181
 go_wp2_with ((first|(refine ae rfl 96 rfl fw ?_));(try simp only[nn,Nat.reduceAdd]))
 generalize ((((w.alloc (.cells MC 259)).alloc (.cells (ints .u8 z) 96)).alloc (.cells (ints .u8 (zeros 16)) 96)).alloc (.cells (ints .u8 (zeros 16)) 96))=w0 at *
 have hwz:w.heap.size+4<=w0.heap.size:=A2.lt
 go_loopw [16] (λt wr=>∃i:Nat,i<=n/\t=.int .i64 (i:Int)/\dD wr wb.heap.size 269 32 .u8 (.slice ap n cp) n (lT (λi=>(Ac (eE I J Z) z F i,sD (eE I J Z) z F i)) F i)/\aA wr w.heap.size 259 MC/\aA wr (w.heap.size+1) 96 (ints .u8 z)/\aA wr (w.heap.size+2) 96 (ints .u8 (zeros 16))/\aA wr (w.heap.size+3) 96 (ints .u8 (jc (qL (eE I J Z) z F) i))/\w.heap.size+4<=wr.heap.size/\Below wb.heap.size wb wr/\mW 269 w wr) (λt wr=>n-(intOf t).toNat)
 case atStart=>exact⟨0,by omega,rfl,O0,A0,AZ,A1,A2,hwz,hbel0,hc0⟩
 case round =>
  obtain⟨Ze,-⟩:MC[0]?=some (.slice ap n cp)/\True:=⟨(A0.cell 0).symm.trans k0,trivial⟩
  clear A0 A1 A2 AZ hwz hbel0 hc0 k0 O0 hb0 O
  obtain⟨i,hi,rfl,O,A0,AZ,A1,A2,hwz,hbel,hct⟩:=hrel
  have k0:=(A0.cell 0).trans Ze
  by_cases hlt:i<n
  ·have hd0:decide ((i:Int)<(n:Int))=true:=by simp;omega
   obtain⟨gp,cp',rest,hv,hgp,iy,hmk⟩:=O.open_ (by omega)
   cases hv
   obtain⟨ePA,ePB⟩:=RL (f:=λi=>(Ac (eE I J Z) z F i,sD (eE I J Z) z F i)) hf hF hlt
   obtain⟨_,_,hvv,SF,_,_⟩:=O.mZ
   cases hvv
   have SA:=(SF.off (32*i)).take 16
   have SB:=(SF.off (32*i+16)).take 16
   rw[ePA,Nat.zero_add] at SA
   rw[ePB,Nat.zero_add] at SB
   have Kh:=Jt hF hlt
   have hBl:=Js hF hlt
   have acJ:=Ff TH i
   have hBb:=AL TH i
   have K0:=hK.below hbel
   have hl2:=iZ I J Z 2 (i+1) hzl
   have hb2:=fT I J Z 2 (i+1) hzb
   have hE1:=λW (k:IsKey W gk gt gb I J Z)=>rq gk gt gb I J Z z 2 (i+1) (by decide) (by omega) hzl hzb W k
   have Xr:=bI [pA F i,eE I J Z 2 (i+1) z]
   have Xq:=wV acJ hb2
   have Xp:=bI [pB F i,eE I J Z 2 (i+1) z]
   have Xo:=wV hBb hb2
   have Dc:=λW=>gY _ _ Kh hl2 W
   have wK:=λW=>gY _ _ hBl hl2 W
   have uo:=jm _ _ Kh hl2 acJ hb2
   have um:=jm _ _ hBl hl2 hBb hb2
   have Za:[pA F i,eE I J Z 2 (i+1) z].flatten.length=32:=by simp;omega
   have Mo:[pB F i,eE I J Z 2 (i+1) z].flatten.length=32:=by simp;omega
   rw[←XY] at Xr Xq uo
   rw[←XX] at Xp Xo um
   generalize hXe:eE I J Z 2 (i+1) z=ze at *
   have hk0:w.heap.size<wr.heap.size:=by omega
   go_wp2_with ((first|(refine ag rfl 96 _ rfl _ rfl AZ aD hzl ?_));(try simp only[nn,Nat.reduceAdd]))
   refine(hE1 wr K0).mono ?_
   rintro e w5 ⟨rfl,hb5⟩
   have X5:=aA.new w5 96 (ints .u8 (zeros 16))
   have hb6:=dx hb5 (az (bN w5 (.cells (ints .u8 (zeros 16)) 96)) dM (ints .u8 ze)) hb5.size
   have Z9:=X5.row (ints .u8 ze)
   have h59:=hb5.size
   go_wp2_with ((first
    | (refine ae rfl 96 rfl fw ?_)
    | (refine aa rfl 96 _ _ rfl _ rfl rfl X5 (ah _ _) aD hl2 ?_;(generalize ((w5.alloc (.cells (ints .u8 (zeros 16)) 96)).setRow w5.heap.size (ints .u8 ze))=w6 at *);(generalize w5.heap.size=g9 at *)));(try simp only[nn,Nat.reduceAdd]))
   clear X5 hb5
   have O6:=O.below hb6
   have agQ:=A0.below' hb6
   have AZ6:=AZ.below' hb6
   have A16:=A1.below' hb6
   have A26:=A2.below' hb6
   have bK:=bC hbel hb6
   have Xe:=hct.trans (mW.of_below hb6)
   have WS:w.heap.size+4<=w6.heap.size:=Nat.le_trans hwz hb6.size
   have SA6:=SA.below hb6
   have SB6:=SB.below hb6
   have afO:=iy.below' hb6
   have k06:=(agQ.cell 0).trans Ze
   have aaX:w.heap.size<w6.heap.size:=by omega
   clear A0 AZ A1 A2 hbel hct hwz SA SB SF K0 iy k0 O hb6 hE1
   generalize hX1:[pA F i,ze].flatten=Zk at *
   generalize hX2:[pB F i,ze].flatten=XC at *
   have aI:=oJ (S:=(qQ w6 96 10 11 (ints .u8 (qL (eE I J Z) z F i)) (ints .u8 (Io (eE I J Z) z F i)))) (λk e W W' h hb=>qQ.lN k e W W' h hb)
   refine aS (n:=68) (T:=?_) [(24,.pointer (some ⟨w.heap.size,0,none⟩)),(25,.slice (some ⟨gp,0,none⟩) n cp),(26,.int .i64 (i:Int)),(27,.pointer (some ⟨gp,32*i,none⟩)),(28,.pointer (some ⟨gp,32*i,none⟩)),(29,.agg (ints .u8 (pA F i))),(30,.agg (ints .u8 ze)),(32,.agg (ints .u8 (qL (eE I J Z) z F i))),(33,.pointer (some ⟨w.heap.size,0,none⟩)),(34,.slice (some ⟨gp,0,none⟩) n cp),(35,.int .i64 (i:Int)),(36,.pointer (some ⟨gp,32*i,none⟩)),(37,.pointer (some ⟨gp,32*i+16,none⟩)),(38,.agg (ints .u8 (pB F i))),(39,.agg (ints .u8 ze)),(41,.agg (ints .u8 (Io (eE I J Z) z F i)))] [10,11,31,40] (λs W u=>(s=10->NP w6.heap.size 96 16 W u)/\(s=11->NP w6.heap.size 96 16 W u)/\(s=31->NS w6.heap.size 96 2 (ints .u8 Zk) W u)/\(s=40->NS w6.heap.size 96 2 (ints .u8 XC) W u)) (RS 96 16) [20,21] _ aI (by kernel_rfl) (by kernel_rfl) rfl (by kernel_rfl) (by kernel_rfl) (by kernel_rfl) (λs W W' v hR h=>⟨λe=>(λh hR=>NP.rs h hR) (h.1 e) hR,λe=>(λh hR=>NP.rs h hR) (h.2.1 e) hR,λe=>(λh hR=>h.rs hR (λhc=>by rw[aF,Za] at hc;exact absurd hc.2 (by decide))) (h.2.2.1 e) hR,λe=>(λh hR=>h.rs hR (λhc=>by rw[aF,Mo] at hc;exact absurd hc.2 (by decide))) (h.2.2.2 e) hR⟩) (qQ.start _ _ _ _ _ _) ?_ ?_ ?_ ?_
   rotate_left
   ·intro e;simp only[tv,nn,Nat.reduceAdd];exact rfl
   ·exact λe=>rfl
   ·intro i o il k qB hst e W hS hla
    rcases i with _|_|_|_|_|_|_|_|_|_|_|_|_|_|_|_|_|_|_|_|_|_|i<;>try cases il
    ·exact kv 24 rfl rfl (by kernel_rfl) rfl rfl rfl (RS.refl _ _ _) hS
    ·exact kv 25 rfl rfl (bO rfl rfl underlying257 ((hS.1.cell (p:=⟨w.heap.size,0,none⟩) aaX).trans k06)) rfl rfl rfl (RS.refl _ _ _) hS
    ·exact kv 26 rfl rfl rfl rfl rfl rfl (RS.refl _ _ _) hS
    ·exact kv 27 rfl rfl (dP (z:=32*i) (by omega) rfl rfl rfl hlt underlying257 rD) rfl rfl rfl (RS.refl _ _ _) hS
    ·exact kv 28 rfl rfl (ku (j:=0) rfl rfl (by decide) underlying269 Ey) rfl rfl rfl (RS.refl _ _ _) hS
    ·exact kv 29 rfl rfl (bq rfl rfl (SA6.below hS.1) aD Kh (rP Kh)) rfl rfl rfl (RS.refl _ _ _) hS
    ·refine bf rfl rfl rfl rfl (Z9.below' hS.1) aD hl2 ?_
     exact KL.at_ 30 rfl rfl rfl (RS.refl _ _ _) hS
    ·refine cz rfl rfl (fE (u0:=.agg (ints .u8 (pA F i))) (u1:=.agg (ints .u8 ze)) rfl rfl rfl (Dc W)) ?_
     exact KL.lt 31 rfl rfl ⟨λe=>absurd e (by decide),λe=>absurd e (by decide),λ_=>(⟨W.heap.size,rfl,hS.1.size,aA.new _ _ _⟩),λe=>absurd e (by decide)⟩ (RS.below (bN _ _)) (aI k e _ _ hS (bN _ _))
    ·obtain⟨g,hg,hgB,pM⟩:=((hla 31 rfl (by kernel_rfl)).2.2.1 rfl);refine aV 177 rfl rfl rfl func177 (by kernel_rfl) (by kernel_rfl) (by show Calls _ _ #[e 31] W _;rw[hg];exact uo g W (Sl.blk pM)) ?_;intro W' hW'
     exact KL.at_ 32 rfl rfl rfl (RS.below hW') (aI k e _ _ hS hW')
    ·exact kv 33 rfl rfl (by kernel_rfl) rfl rfl rfl (RS.refl _ _ _) hS
    ·exact kv 34 rfl rfl (bO rfl rfl underlying257 ((hS.1.cell (p:=⟨w.heap.size,0,none⟩) aaX).trans k06)) rfl rfl rfl (RS.refl _ _ _) hS
    ·exact kv 35 rfl rfl rfl rfl rfl rfl (RS.refl _ _ _) hS
    ·exact kv 36 rfl rfl (dP (z:=32*i) (by omega) rfl rfl rfl hlt underlying257 rD) rfl rfl rfl (RS.refl _ _ _) hS
    ·exact kv 37 rfl rfl (ku (j:=1) rfl rfl (by decide) underlying269 Ey) rfl rfl rfl (RS.refl _ _ _) hS
    ·exact kv 38 rfl rfl (bq rfl rfl (SB6.below hS.1) aD hBl (rP hBl)) rfl rfl rfl (RS.refl _ _ _) hS
    ·refine bf rfl rfl rfl rfl (Z9.below' hS.1) aD hl2 ?_
     exact KL.at_ 39 rfl rfl rfl (RS.refl _ _ _) hS
    ·refine cz rfl rfl (fE (u0:=.agg (ints .u8 (pB F i))) (u1:=.agg (ints .u8 ze)) rfl rfl rfl (wK W)) ?_
     exact KL.lt 40 rfl rfl ⟨λe=>absurd e (by decide),λe=>absurd e (by decide),λe=>absurd e (by decide),λ_=>(⟨W.heap.size,rfl,hS.1.size,aA.new _ _ _⟩)⟩ (RS.below (bN _ _)) (aI k e _ _ hS (bN _ _))
    ·obtain⟨g,hg,hgB,pM⟩:=((hla 40 rfl (by kernel_rfl)).2.2.2 rfl);refine aV 177 rfl rfl rfl func177 (by kernel_rfl) (by kernel_rfl) (by show Calls _ _ #[e 40] W _;rw[hg];exact um g W (Sl.blk pM)) ?_;intro W' hW'
     exact KL.at_ 41 rfl rfl rfl (RS.below hW') (aI k e _ _ hS hW')
    ·obtain rfl:k=0:=Nat.le_zero.1 (aQ hst 0 20 rfl (by kernel_rfl))
     refine bZ rfl rfl rfl fw ?_
     exact KL.lt 10 rfl rfl ⟨λ_=>(NP.new (hS.1.size)),λe=>absurd e (by decide),λe=>absurd e (by decide),λe=>absurd e (by decide)⟩ (((RS.below (bN _ _)))) ((qQ.Ws hS rfl rfl))
    ·obtain rfl:k=0:=Nat.le_zero.1 (aQ hst 0 20 rfl (by kernel_rfl))
     refine bZ rfl rfl rfl fw ?_
     exact KL.lt 11 rfl rfl ⟨λe=>absurd e (by decide),λ_=>(NP.new (hS.1.size)),λe=>absurd e (by decide),λe=>absurd e (by decide)⟩ (((RS.below (bN _ _)))) ((qQ.Wq hS rfl rfl))
    ·obtain rfl:k=0:=Nat.le_zero.1 (aQ hst 0 20 rfl (by kernel_rfl))
     obtain⟨g,cs,hg,hBg,hcs,iy⟩:=((hla 10 rfl (by kernel_rfl)).1 rfl);obtain⟨g',cs',hg',TI,hcs',Dk⟩:=((hla 11 rfl (by kernel_rfl)).2.1 rfl);refine bJ rfl rfl rfl hg rfl iy hcs aD Xr ?_
     exact KL.none rfl (RS.row iy hcs ((aF _ _).trans (Eq.trans Xr hcs.symm))) (qQ.ads hS hg hg' hBg TI iy)
    ·obtain rfl:k=1:=Nat.le_antisymm (aQ hst 1 21 rfl (by kernel_rfl)) (gG hst 0 20 rfl (by kernel_rfl))
     obtain⟨g',cs',hg',TI,hcs',Dk⟩:=((hla 11 rfl (by kernel_rfl)).2.1 rfl);refine bJ rfl rfl rfl hg' rfl Dk hcs' aD Xp ?_
     exact KL.none rfl (RS.row Dk hcs' ((aF _ _).trans (Eq.trans Xp hcs'.symm))) (qQ.adr hS hg' Dk)
   ·intro e7 w7 hS hla
    have l10:=(hla 10 rfl).1 rfl
    have YR:=(hla 11 rfl).2.1 rfl
    have adJ:=(hla 31 rfl).2.2.1 rfl
    have l40:=(hla 40 rfl).2.2.2 rfl
    clear hla aI
    obtain⟨eX,g10,g11,aeR,FV,hgne,hBg10,hBg11,abQ,Nj⟩:=hS.done
    clear hS l10 YR adJ l40 uo um Dc wK Za Mo
    generalize e7 31=u31' at *
    generalize e7 40=u40' at *
    generalize e7 10=u10' at aeR ⊢
    generalize e7 11=u11' at FV ⊢
    subst aeR
    subst FV
    have O7:=O6.below eX
    have A07:=agQ.below' eX
    have AZ7:=AZ6.below' eX
    have A17:=A16.below' eX
    have A27:=A26.below' eX
    have dm:=bC bK eX
    have afa:=Xe.trans (mW.of_below eX)
    have adY:w.heap.size+4<=w7.heap.size:=Nat.le_trans WS eX.size
    have afN:=afO.below' eX
    have k07:=(A07.cell 0).trans Ze
    have K7:=hK.below dm
    clear agQ AZ6 A16 A26 bK Xe WS SA6 SB6 afO k06 aaX O6 eX Z9
    have hE2:=λW (k:IsKey W gk gt gb I J Z)=>rq gk gt gb I J Z (Io (eE I J Z) z F i) 0 0 (by decide) (by decide) Xp Xo W k
    have hl3:=iZ I J Z 0 0 Xp
    have hb3:=fT I J Z 0 0 Xo
    have JY:=λW=>gY _ _ Xr hl3 W
    have CZ:=jm _ _ Xr hl3 Xq hb3
    have YZ:[qL (eE I J Z) z F i,eE I J Z 0 0 (Io (eE I J Z) z F i)].flatten.length=32:=by simp;omega
    have oh:=bI [qL (eE I J Z) z F i,eE I J Z 0 0 (Io (eE I J Z) z F i)]
    have hSb:=wV Xq hb3
    rw[←XZ] at CZ oh hSb
    go_wp2_with fail
    generalize hX3:[qL (eE I J Z) z F i,eE I J Z 0 0 (Io (eE I J Z) z F i)].flatten=acK at *
    have aI:=oJ (S:=(λk e W=>Below w7.heap.size w7 W/\(0<k->∃g,e 12=.pointer (some ⟨g,0,none⟩)/\w7.heap.size<=g/\aA W g 96 (ints .u8 (sD (eE I J Z) z F i))))) (λk e W W' h hb=>⟨dx h.1 hb h.1.size,λhk=>let ⟨g,h1,h2,h3⟩:=h.2 hk;⟨g,h1,h2,h3.below' hb⟩⟩)
    refine aS (n:=68) (T:=?_) [(42,.agg (ints .u8 (qL (eE I J Z) z F i))),(43,.pointer (some ⟨gk,0,none⟩)),(44,.agg (ints .u8 (Io (eE I J Z) z F i))),(45,.agg (ints .u8 (eE I J Z 0 0 (Io (eE I J Z) z F i)))),(47,.agg (ints .u8 (sD (eE I J Z) z F i)))] [12,46] (λs W u=>(s=12->NP w7.heap.size 96 16 W u)/\(s=46->NS w7.heap.size 96 2 (ints .u8 acK) W u)) (RS 96 16) [7] _ aI (by kernel_rfl) (by kernel_rfl) rfl (by kernel_rfl) (by kernel_rfl) (by kernel_rfl) (λs W W' v hR h=>⟨λe=>(λh hR=>NP.rs h hR) (h.1 e) hR,λe=>(λh hR=>h.rs hR (λhc=>by rw[aF,YZ] at hc;exact absurd hc.2 (by decide))) (h.2 e) hR⟩) (⟨dQ _,λh=>absurd h (Nat.lt_irrefl _)⟩) ?_ ?_ ?_ ?_
    rotate_left
    ·intro e;simp only[tv,nn,Nat.reduceAdd];exact rfl
    ·exact λe=>rfl
    ·intro i o il k qB hst e W hS hla
     rcases i with _|_|_|_|_|_|_|_|i<;>try cases il
     ·refine bf rfl rfl rfl rfl (abQ.below' hS.1) aD Xr ?_
      exact KL.at_ 42 rfl rfl rfl (RS.refl _ _ _) hS
     ·exact kv 43 rfl rfl rfl rfl rfl rfl (RS.refl _ _ _) hS
     ·refine bf rfl rfl rfl rfl (Nj.below' hS.1) aD Xp ?_
      exact KL.at_ 44 rfl rfl rfl (RS.refl _ _ _) hS
     ·exact kc 45 180 rfl rfl rfl func180 (hE2 W (K7.below hS.1)) rfl rfl rfl (λ_ hW'=>(RS.below hW')) λ_ hW'=>aI k e _ _ hS hW'
     ·refine cz rfl rfl (fE (u0:=.agg (ints .u8 (qL (eE I J Z) z F i))) (u1:=.agg (ints .u8 (eE I J Z 0 0 (Io (eE I J Z) z F i)))) rfl rfl rfl (JY W)) ?_
      exact KL.lt 46 rfl rfl ⟨λe=>absurd e (by decide),λ_=>(⟨W.heap.size,rfl,hS.1.size,aA.new _ _ _⟩)⟩ (RS.below (bN _ _)) (aI k e _ _ hS (bN _ _))
     ·obtain⟨g,hg,hgB,pM⟩:=((hla 46 rfl (by kernel_rfl)).2 rfl);refine aV 177 rfl rfl rfl func177 (by kernel_rfl) (by kernel_rfl) (by show Calls _ _ #[e 46] W _;rw[hg];exact CZ g W (Sl.blk pM)) ?_;intro W' hW'
      exact KL.at_ 47 rfl rfl rfl (RS.below hW') (aI k e _ _ hS hW')
     ·obtain rfl:k=0:=Nat.le_zero.1 (aQ hst 0 7 rfl (by kernel_rfl))
      refine bZ rfl rfl rfl fw ?_
      exact KL.lt 12 rfl rfl ⟨λ_=>(NP.new (hS.1.size)),λe=>absurd e (by decide)⟩ (((RS.below (bN _ _)))) (⟨hS.1.alloc hS.1.size _,λh=>absurd h (Nat.lt_irrefl _)⟩)
     ·obtain rfl:k=0:=Nat.le_zero.1 (aQ hst 0 7 rfl (by kernel_rfl))
      obtain⟨g,cs,hg,hBg,hcs,iy⟩:=((hla 12 rfl (by kernel_rfl)).1 rfl);refine bJ rfl rfl rfl hg rfl iy hcs aD oh ?_
      exact KL.none rfl (RS.row iy hcs ((aF _ _).trans (Eq.trans oh hcs.symm))) (⟨az hS.1 hBg _,λ_=>⟨g,hg,hBg,iy.row _⟩⟩)
    ·intro e8 w8 hS hla
     have aaz:=(hla 12 rfl).1 rfl
     have l46:=(hla 46 rfl).2 rfl
     clear hla aI
     obtain⟨eX,hx⟩:=hS
     obtain⟨g12,OE,hBg12,Yj⟩:=hx (by decide)
     clear hx aaz l46 CZ JY YZ hE2
     generalize e8 46=u46' at *
     generalize e8 12=u12' at OE ⊢
     subst OE
     have O8:=O7.below eX
     have A08:=A07.below' eX
     have AZ8:=AZ7.below' eX
     have A18:=A17.below' eX
     have A28:=A27.below' eX
     have abP:=abQ.below' eX
     have agx:=Nj.below' eX
     have gL:=bC dm eX
     have aeZ:=afa.trans (mW.of_below eX)
     have adX:w.heap.size+4<=w8.heap.size:=Nat.le_trans adY eX.size
     have Dj:=afN.below' eX
     have k08:=(A08.cell 0).trans Ze
     have K8:=hK.below gL
     have hk08:w.heap.size<w8.heap.size:=by omega
     clear A07 AZ7 A17 A27 dm afa adY afN k07 O7 eX abQ Nj K7
     have acH:=λW (k:IsKey W gk gt gb I J Z)=>rq gk gt gb I J Z (sD (eE I J Z) z F i) 1 (i+1) (by decide) (by omega) oh hSb W k
     have hl4:=iZ I J Z 1 (i+1) oh
     have hb4:=fT I J Z 1 (i+1) hSb
     have Db:=λW=>gY _ _ Xp hl4 W
     have yt:=jm _ _ Xp hl4 Xo hb4
     have Zf:=bI [Io (eE I J Z) z F i,eE I J Z 1 (i+1) (sD (eE I J Z) z F i)]
     rw[←Ya] at yt Zf
     have afM:aA w8 gp 269 (vals .u8 (jd (λi=>(Ac (eE I J Z) z F i,sD (eE I J Z) z F i)) i)++vals .u8 (pA F i++pB F i)++(vals .u8 (F.drop (32*(i+1)))++rest)).toArray:=by
      have h:=Dj
      rw[FB hF hlt,jq,jq,List.append_assoc (vals .u8 (jd _ i)++_)] at h
      exact h
     have hfl:32*i=(vals .u8 (jd (λi=>(Ac (eE I J Z) z F i,sD (eE I J Z) z F i)) i)).length:=by rw[bg,jP hf i]
     have hold:(vals .u8 (pA F i++pB F i)).length=32:=by rw[bg,List.length_append,Kh,hBl]
     have hnew:(vals .u8 (Ac (eE I J Z) z F i++sD (eE I J Z) z F i)).length=32:=by rw[bg,List.length_append,Zf,oh]
     have gq:(lT (λi=>(Ac (eE I J Z) z F i,sD (eE I J Z) z F i)) F (i+1)).length=(lT (λi=>(Ac (eE I J Z) z F i,sD (eE I J Z) z F i)) F i).length:=by rw[tZ hf hF (by omega),tZ hf hF (by omega)]
     have afD:∀w',aA w' gp 269 (vals .u8 (jd (λi=>(Ac (eE I J Z) z F i,sD (eE I J Z) z F i)) i)++vals .u8 (Ac (eE I J Z) z F i++sD (eE I J Z) z F i)++(vals .u8 (F.drop (32*(i+1)))++rest)).toArray->dD w' wb.heap.size 269 32 .u8 (.slice (some ⟨gp,0,none⟩) n cp) n (lT (λi=>(Ac (eE I J Z) z F i,sD (eE I J Z) z F i)) F (i+1)):=λw' h=>by
      refine hmk w' (lT (λi=>(Ac (eE I J Z) z F i,sD (eE I J Z) z F i)) F (i+1)) gq ?_
      rw[AV,jq,jq,List.append_assoc (vals .u8 (jd _ i)++_)]
      exact h
     have hgp8:gp<w8.heap.size:=Dj.lt
     go_wp2_with fail
     generalize hX4:[Io (eE I J Z) z F i,eE I J Z 1 (i+1) (sD (eE I J Z) z F i)].flatten=Zj at *
     generalize hP9:(vals .u8 (jd (λi=>(Ac (eE I J Z) z F i,sD (eE I J Z) z F i)) i)++vals .u8 (Ac (eE I J Z) z F i++sD (eE I J Z) z F i)++(vals .u8 (F.drop (32*(i+1)))++rest)).toArray=P9 at *
     have aI:=oJ (S:=(uN w8 gp 269 P9)) (λk e W W' h hb=>uN.lN k e W W' h hb)
     refine aS (n:=68) (T:=?_) [(48,.pointer (some ⟨w.heap.size,0,none⟩)),(49,.slice (some ⟨gp,0,none⟩) n cp),(50,.int .i64 (i:Int)),(51,.agg (ints .u8 (Io (eE I J Z) z F i))),(52,.pointer (some ⟨gk,0,none⟩)),(53,.int .i64 (i:Int)),(54,.int .i64 ((i+1:Nat):Int)),(55,.agg (ints .u8 (sD (eE I J Z) z F i))),(56,.agg (ints .u8 (eE I J Z 1 (i+1) (sD (eE I J Z) z F i)))),(58,.agg (ints .u8 (Ac (eE I J Z) z F i))),(59,.agg (ints .u8 (sD (eE I J Z) z F i))),(60,.agg (ints .u8 (Ac (eE I J Z) z F i++sD (eE I J Z) z F i))),(61,.pointer (some ⟨gp,32*i,none⟩))] [57] (λs W u=>(s=57->NS w8.heap.size 96 2 (ints .u8 Zj) W u)) (RB w8.heap.size) [14] _ aI (by kernel_rfl) (by kernel_rfl) rfl (by kernel_rfl) (by kernel_rfl) (by kernel_rfl) (λs W W' v hR h=>λe=>(λh hR=>h.rb hR) (h e) hR) (uN.start _ _ _ _ _) ?_ ?_ ?_ ?_
     rotate_left
     ·intro e;simp only[tv,nn,Nat.reduceAdd];exact rfl
     ·exact λe=>rfl
     ·intro i o il k qB hst e W hS hla
      rcases i with _|_|_|_|_|_|_|_|_|_|_|_|_|_|_|i<;>try cases il
      ·obtain rfl:k=0:=Nat.le_zero.1 (aQ hst 0 14 rfl (by kernel_rfl))
       exact kv 48 rfl rfl (by kernel_rfl) rfl rfl rfl (RB.refl _ _) hS
      ·obtain rfl:k=0:=Nat.le_zero.1 (aQ hst 0 14 rfl (by kernel_rfl))
       exact kv 49 rfl rfl (bO rfl rfl underlying257 ((hS.z.cell (p:=⟨w.heap.size,0,none⟩) hk08).trans k08)) rfl rfl rfl (RB.refl _ _) hS
      ·exact kv 50 rfl rfl rfl rfl rfl rfl (RB.refl _ _) hS
      ·obtain rfl:k=0:=Nat.le_zero.1 (aQ hst 0 14 rfl (by kernel_rfl))
       refine bf rfl rfl rfl rfl (agx.below' hS.z) aD Xp ?_
       exact KL.at_ 51 rfl rfl rfl (RB.refl _ _) hS
      ·exact kv 52 rfl rfl rfl rfl rfl rfl (RB.refl _ _) hS
      ·exact kv 53 rfl rfl rfl rfl rfl rfl (RB.refl _ _) hS
      ·exact kv 54 rfl rfl (xK rfl rfl rfl (by omega) (by omega)) rfl rfl rfl (RB.refl _ _) hS
      ·obtain rfl:k=0:=Nat.le_zero.1 (aQ hst 0 14 rfl (by kernel_rfl))
       refine bf rfl rfl rfl rfl (Yj.below' hS.z) aD oh ?_
       exact KL.at_ 55 rfl rfl rfl (RB.refl _ _) hS
      ·obtain rfl:k=0:=Nat.le_zero.1 (aQ hst 0 14 rfl (by kernel_rfl))
       exact kc 56 180 rfl rfl rfl func180 (acH W (K8.below hS.z)) rfl rfl rfl (λ_ hW'=>(RB.below hW')) λ_ hW'=>aI 0 e _ _ hS hW'
      ·obtain rfl:k=0:=Nat.le_zero.1 (aQ hst 0 14 rfl (by kernel_rfl))
       refine cz rfl rfl (fE (u0:=.agg (ints .u8 (Io (eE I J Z) z F i))) (u1:=.agg (ints .u8 (eE I J Z 1 (i+1) (sD (eE I J Z) z F i)))) rfl rfl rfl (Db W)) ?_
       exact KL.lt 57 rfl rfl (λ_=>(⟨W.heap.size,rfl,hS.z.size,aA.new _ _ _⟩)) (RB.below (bN _ _)) (aI _ e _ _ hS (bN _ _))
      ·obtain rfl:k=0:=Nat.le_zero.1 (aQ hst 0 14 rfl (by kernel_rfl))
       obtain⟨g,hg,hgB,pM⟩:=((hla 57 rfl (by kernel_rfl)) rfl);refine aV 177 rfl rfl rfl func177 (by kernel_rfl) (by kernel_rfl) (by show Calls _ _ #[e 57] W _;rw[hg];exact yt g W (Sl.blk pM)) ?_;intro W' hW'
       exact KL.at_ 58 rfl rfl rfl (RB.below hW') (aI _ e _ _ hS hW')
      ·obtain rfl:k=0:=Nat.le_zero.1 (aQ hst 0 14 rfl (by kernel_rfl))
       refine bf rfl rfl rfl rfl (Yj.below' hS.z) aD oh ?_
       exact KL.at_ 59 rfl rfl rfl (RB.refl _ _) hS
      ·exact kv 60 rfl rfl (vk rfl rfl rfl Zf oh) rfl rfl rfl (RB.refl _ _) hS
      ·exact kv 61 rfl rfl (dP (z:=32*i) (by omega) rfl rfl rfl hlt underlying257 rD) rfl rfl rfl (RB.refl _ _) hS
      ·obtain rfl:k=0:=Nat.le_zero.1 (aQ hst 0 14 rfl (by kernel_rfl))
       refine eO (vs:=vals .u8 (Ac (eE I J Z) z F i++sD (eE I J Z) z F i)) rfl rfl 269 _ _ rfl (32*i) rfl rfl (afM.below' hS.z) hfl Yc hold hnew (dX _ _) ?_;intro W' hB' hF'
       exact KL.none rfl (RB.far hF' hgp8) (uN.mk hS (by rw[←hP9];exact hB') hF')
     ·intro e9 w9 hS hla
      have l57:=(hla 57 rfl) rfl
      clear hla aI
      obtain⟨Ms,Mr⟩:=hS.done
      clear hS l57 yt Db acH
      generalize e9 57=u57' at *
      have O9:=afD w9 Ms
      have A09:=Mr.blk A08 (A08.gU Dj (by decide))
      have AZ9:=Mr.blk AZ8 (AZ8.gU Dj (by decide))
      have A19:=Mr.blk A18 (A18.gU Dj (by decide))
      have A29:=Mr.blk A28 (A28.gU Dj (by decide))
      have agy:=Mr.blk abP (abP.gU Dj (by decide))
      have mO:=Mr.below gL hgp gL.size
      have aeY:=aeZ.trans (mW.YN Mr Dj)
      have adW:w.heap.size+4<=w9.heap.size:=Nat.le_trans adX Mr.size
      clear A08 AZ8 A18 A28 abP agx gL aeZ adX Dj afM afD hmk Ms Mr Yj k08 O8 hP9 K8
      have hl5:(jc (qL (eE I J Z) z F) i).length=16:=kR _ _
      have hb5:∀x∈jc (qL (eE I J Z) z F) i,x<256:=rF (λi=>wV (Ff TH i) (fT I J Z 2 (i+1) hzb)) i
      have Xn:=λW=>gY _ _ hl5 Xr W
      have aeu:=jm _ _ hl5 Xr hb5 Xq
      have hl6:(jc (qL (eE I J Z) z F) (i+1)).length=16:=kR _ _
      rw[show fK [jc (qL (eE I J Z) z F) i,qL (eE I J Z) z F i]=jc (qL (eE I J Z) z F) (i+1) from rfl] at aeu
      generalize hX5:[jc (qL (eE I J Z) z F) i,qL (eE I J Z) z F i].flatten=fl5 at *
      go_wp2_with ((first
       | (refine ag rfl 96 _ rfl _ rfl A29 aD hl5 ?_)
       | (refine ag rfl 96 _ rfl _ rfl agy aD Xr ?_)
       | (refine fP rfl (fE (u0:=.agg (ints .u8 (jc (qL (eE I J Z) z F) i))) (u1:=.agg (ints .u8 (qL (eE I J Z) z F i))) rfl rfl rfl (Xn _)) ?_));(try simp only[nn,Nat.reduceAdd]))
      refine(aeu w9.heap.size _ (Sl.blk (aA.new w9 96 (ints .u8 fl5)))).mono ?_
      rintro e w10 ⟨rfl,afl⟩
      have Df:Below w9.heap.size w9 w10:=by
       have h:=bN w9 (.cells (ints .u8 fl5) 96)
       exact bC h afl
      have A0a:=A09.below' Df
      have AZa:=AZ9.below' Df
      have A1a:=A19.below' Df
      have A2a:=A29.below' Df
      have Ob:=(O9.below Df).aM A2a (by decide) (ints .u8 (jc (qL (eE I J Z) z F) (i+1)))
      have A0b:=A0a.aM (show w.heap.size≠w.heap.size+3 by omega) (ints .u8 (jc (qL (eE I J Z) z F) (i+1)))
      have AZb:=AZa.aM (show w.heap.size+1≠w.heap.size+3 by omega) (ints .u8 (jc (qL (eE I J Z) z F) (i+1)))
      have A1b:=A1a.aM (show w.heap.size+2≠w.heap.size+3 by omega) (ints .u8 (jc (qL (eE I J Z) z F) (i+1)))
      have A2b:=A2a.row (ints .u8 (jc (qL (eE I J Z) z F) (i+1)))
      have abe:=hbb.size
      have afj:=az (bC mO Df) (show wb.heap.size<=w.heap.size+3 by omega) (ints .u8 (jc (qL (eE I J Z) z F) (i+1)))
      have hctb:=(aeY.trans (mW.of_below Df)).xL (show w.heap.size<=w.heap.size+3 by omega) (ints .u8 (jc (qL (eE I J Z) z F) (i+1)))
      have hwzb:w.heap.size+4<=(w10.setRow (w.heap.size+3) (ints .u8 (jc (qL (eE I J Z) z F) (i+1)))).heap.size:=by rw[setRow_size];exact Nat.le_trans adW Df.size
      clear A09 AZ9 A19 A29 O9 mO aeY adW Df afl agy A0a AZa A1a
      have hsz5:(ints .u8 (jc (qL (eE I J Z) z F) i)).size=16:=by rw[aF];exact hl5
      have hii:(i:Int)<4611686018427387904:=by omega
      go_wp2_with (refine aa rfl 96 _ _ rfl _ rfl rfl A2a hsz5 aD hl6 ?_;(try simp only[nn,Nat.reduceAdd]))
      exact⟨⟨i+1,by omega,by go_num,Ob,A0b,AZb,A1b,A2b,hwzb,afj,hctb⟩,by simp[intOf]<;>omega⟩
  ·obtain rfl:i=n:=by omega
   have hd0:decide ((i:Int)<(i:Int))=false:=by simp
   rw[FC hF] at O
   have hl4:(jc (qL (eE I J Z) z F) i).length=16:=kR _ _
   go_wp2_with ((first|(refine ag rfl 96 _ rfl _ rfl A2 aD hl4 ?_)|(refine aa rfl 96 _ _ rfl _ rfl rfl A1 (ah _ _) aD hl4 ?_));(try simp only[nn,Nat.reduceAdd]))
   refine aO rfl rfl (A1.row _) aD hl4 ⟨rfl,O.aM A1 (by decide) _,?_,hct.xL (show w.heap.size<=w.heap.size+2 by omega) _⟩
   have Xn:=hbb.size
   exact az hbel (show wb.heap.size<=w.heap.size+2 by omega) _
end
end Go.Proofs.YtaiffkajkbiidaaGreatDoor
