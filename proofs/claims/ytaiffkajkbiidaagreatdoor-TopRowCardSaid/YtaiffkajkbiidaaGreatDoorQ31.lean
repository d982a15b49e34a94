/- What this claim leans on, part 31: laws of the model, and what functions of the program compute. No condition but what each law states. -/
import Derived.Test.YtaiffkajkbiidaaGreatDoorQ27
namespace Go.Proofs.YtaiffkajkbiidaaGreatDoor
set_option linter.unusedSimpArgs false
set_option linter.unusedVariables false
set_option linter.unusedSectionVars false
set_option maxRecDepth 100000
set_option maxHeartbeats 40000000
open Go.Proofs.Tryz
open Tryz
section
open Go.RowKit
def tX (H:List Nat)(j:Nat)(h:List Nat):List Nat:=dR (zeros 16) [aU (Ik (h++[8])),H,zZ j]
def tS (I J Z H:List Nat)(j:Nat)(h:List Nat):List Nat:=zw (eE I J Z 0 6 (tX H j h)) 0 h.length
theorem QJ (I J Z H:List Nat)(j:Nat)(h:List Nat):(tS I J Z H j h).length=h.length:=gK _ _ _
theorem ZT {H:List Nat}(j:Nat)(h:List Nat):(tX H j h).length=16:=fC _ _ (aH _)
theorem MX {h:List Nat}(hb:∀x∈h,x<16):∀x∈h++[8],x<16:=λx hx=>by
 rcases List.mem_append.1 hx with hx|hx
 ·exact hb x hx
 ·rw[List.mem_singleton.1 hx];decide
theorem YE {H:List Nat}(Dh:∀y∈H,y<256)(j:Nat){h:List Nat}(hb:∀x∈h,x<16):∀y∈tX H j h,y<256 :=
 dE _ _ (gJ 16) (uX (p:=λk=>∀y∈k,y<256) (dN (JH (MX hb))) Dh (Dt _ _))
theorem Ex (I J Z:List Nat){H:List Nat}(Dh:∀y∈H,y<256)(j:Nat){h:List Nat}(hb:∀x∈h,x<16):∀y∈tS I J Z H j h,y<16:=JK (fT I J Z 0 6 (YE Dh j hb)) _ _
theorem vQ (gk gt gb:Nat)(I J Z H:List Nat)(hH:H.length=16)(Dh:∀y∈H,y<256)(hf:List Nat)(hl:hf.length<=31)(hb:∀x∈hf,x<16)(j:Nat)(hj:j<2^31)(a:Option Addr)(c:Nat)(w:World)(hs:Sl w a .u8 hf)(hK:IsKey w gk gt gb I J Z) :
  Calls prog 174 #[.pointer (some ⟨gk,0,none⟩),.agg (ints .u8 H),.int .i64 6,.int .i64 (j:Int),.slice a hf.length c] w λe w'=>∃v,e=.returned v/\Own w' w.heap.size 5 .u8 v (tS I J Z H j hf)/\Below w.heap.size w w':=by
 have hd1:decide ((j:Int)<0)=false:=by simp
 have H0:=aA.new w 96 (ints .u8 H)
 have hb0:=bN w (.cells (ints .u8 H) 96)
 have hs0:=hs.below hb0
 have hX:=ZT (H:=H) j hf
 have hXb:=YE Dh j hb
 have hTS:Hid (tS I J Z H j hf=zw (eE I J Z 0 6 (tX H j hf)) 0 hf.length):=aR rfl
 have HTX:Hid (tX H j hf=dR (zeros 16) [aU (Ik (hf++[8])),H,zZ j]):=aR rfl
 have h8:=MX hb
 have hjl:=ui (hf++[8])
 have hjb:=JH h8
 have hBl:=bG (Ik (hf++[8]))
 have hBb:=dN hjb
 obtain⟨N,HN⟩:=bD (hf.length)
 have hjo:=λad cd W (s:Sl W ad .u8 (hf++[8]))=>rY (hf++[8]) h8 (by rw[List.length_append];simp;omega) ad cd W s
 have h8l:(hf++[8]).length=N+1:=by rw[List.length_append,HN.out];rfl
 rw[h8l] at hjo hjl
 have hcl:=yO a c N hf HN.out.symm (by omega) _ hs0
 obtain⟨T,HT⟩:=bD (tS I J Z H j hf)
 rw[HT.out] at hTS ⊢
 rw[HN.out] at hl hTS ⊢
 have hdl:decide ((N:Int)>31)=false:=by simp;omega
 go_enter func174,ntmps174
 go_wp2_with fail
 generalize (w.alloc (.cells (ints .u8 H) 96))=w0 at *
 refine hcl.mono ?_
 clear hcl
 rintro e w1 ⟨v,rfl,ov,hb1⟩
 have H1:=(H0.below' hb1).alloc (.cells (ints .u8 [8]) 5)
 have hb2:=bN w1 (.cells (ints .u8 [8]) 5)
 have aK:=bC hb0 hb1
 have aB:=bC aK hb2
 have hl0:=H0.lt
 have hl1:=hb1.size
 have Ol:=ov.below hb2
 have E2:Sl (w1.alloc (.cells (ints .u8 [8]) 5)) (some ⟨w1.heap.size,0,none⟩) .u8 [8]:=Sl.blk (aA.new w1 5 (ints .u8 [8]))
 have hsz:=aB.size
 have hap:hf.length+[8].length<2^40:=by rw[HN.out];simp;omega
 clear hs0 ov hb1 aK hb2
 go_wp2_with (refine dA (zs:=[8]) rfl rfl underlying23 nY rfl (by omega) rfl Ol rfl rfl (λq=>by cases q) E2 hap (by simp;omega) ?_;intro v' w' hown' hgr;have iX:=gI aB hgr (by simp;omega) Ol (by omega);have H2:=H1.TK hgr Ol hl0;clear Ol E2 H1 hgr aB;(try simp only[nn,Nat.reduceAdd]))
 obtain⟨a2,c2,rfl,s2,-,-⟩:=hown'.sl
 rw[h8l]
 refine(hjo a2 c2 _ s2).mono ?_
 clear hjo
 rintro e w3 ⟨v3,rfl,Ig,hb3⟩
 have H3:=H2.below' hb3
 have aG:=bC iX hb3
 obtain⟨a3,c3,rfl,s3,-,-⟩:=Ig.sl
 have hbk:=fB a3 c3 _ w3 s3
 rw[hjl] at hbk
 obtain⟨Bk,HBk⟩:=bD (aU (Ik (hf++[8])))
 rw[HBk.out] at hbk hBl hBb HTX
 clear H2 hown' iX s2 hb3 Ig H0 hb0
 go_wp2_with fail
 refine hbk.mono ?_
 rintro e w4 ⟨rfl,hb4⟩
 have H4:=(H3.below' hb4).alloc (.cells (ints .u8 (zeros 16)) 96)
 have aY:=bC aG hb4
 have hl4:=(H3.below' hb4).lt
 have X4:=aA.new w4 96 (ints .u8 (zeros 16))
 have hb5:=az (bN w4 (.cells (ints .u8 (zeros 16)) 96)) dM (ints .u8 Bk)
 have H5:=H4.aM (show w.heap.size≠w4.heap.size by omega) (ints .u8 Bk)
 have X5:=X4.row (ints .u8 Bk)
 have bA:=bC aY hb5
 clear H3 hbk hb4 aG aY H4 hb5 s3
 go_wp2_with ((first
  | (refine ae rfl 96 rfl fw ?_)
  | (refine aa rfl 96 _ _ rfl _ rfl rfl X4 (ah _ _) aD hBl ?_;(generalize ((w4.alloc (.cells (ints .u8 (zeros 16)) 96)).setRow w4.heap.size (ints .u8 Bk))=w5 at *);(generalize w4.heap.size=nb at *)));(try simp only[nn,Nat.reduceAdd]))
 have K5:=hK.below bA
 clear X4
 have hcl:(zZ j).length=16:=mR j 8
 have hcb:=Dt j 8
 obtain⟨fl,acV⟩:∃fl,Hid ([Bk,H,zZ j].flatten=fl):=⟨_,aR rfl⟩
 have hfl:fl.length=48:=by rw[←acV.out];simp;omega
 have hpl:=λg W (s:Sl W (some ⟨g,0,none⟩) .u8 [Bk,H,zZ j].flatten)=>IL g 3 [Bk,H,zZ j] (uX (p:=λk=>k.length=16) hBl hH hcl) (uX (p:=λk=>∀x∈k,x<256) hBb Dh hcb) (show 3<2^31 by decide) W s
 have hbs:=λW=>Ut Bk H (zZ j) hBl hH hcl W
 rw[←HTX.out] at hpl
 simp only[acV.out] at hpl hbs
 have hEl:=iZ I J Z 0 6 hX
 have afK:=fT I J Z 0 6 hXb
 have hE:=λ(W:World) (i:IsKey W gk gt gb I J Z)=>rq gk gt gb I J Z (tX H j hf) 0 6 (by decide) (by decide) hX hXb W i
 generalize tX H j hf=X at *
 have hct:=λW=>Pe j hj W
 generalize zZ j=C at *
 generalize eE I J Z 0 6 X=E at *
 have h16n:H≠[]:=λe=>by rw[e] at hH;simp at hH
 have hcv:=λW=>nR N W
 obtain⟨T2,HT2⟩:=bD (zw E 0 N)
 have hhv:=λad cd W (s:Sl W ad .u8 E)=>nQ 0 N E (by omega) (by omega) afK ad cd W s
 rw[FL0,hEl,HT2.out] at hhv
 rw[HT2.out] at hTS
 generalize FL N=fN at *
 generalize w1.heap.size=nc at *
 have aI:=oJ (S:=(λk e W=>Below w5.heap.size w5 W/\(0<k->∃g,e 12=.pointer (some ⟨g,0,none⟩)/\w5.heap.size<=g/\aA W g 96 (ints .u8 (E))))) (λk e W W' h hb=>⟨dx h.1 hb h.1.size,λhk=>let ⟨g,h1,h2,h3⟩:=h.2 hk;⟨g,h1,h2,h3.below' hb⟩⟩)
 refine aS (n:=55) (T:=?_) [(36,.pointer (some ⟨gk,0,none⟩)),(37,.int .i64 6),(38,.agg (ints .u8 Bk)),(39,.agg (ints .u8 H)),(40,.int .i64 (j:Int)),(41,.agg (ints .u8 C)),(43,.agg (ints .u8 X)),(44,.agg (ints .u8 E))] [12,42] (λs W u=>(s=12->NP w5.heap.size 96 16 W u)/\(s=42->NS w5.heap.size 96 3 (ints .u8 fl) W u)) (RS 96 16) [10] _ aI (by kernel_rfl) (by kernel_rfl) rfl (by kernel_rfl) (by kernel_rfl) (by kernel_rfl) (λs W W' v hR h=>⟨λe=>(λh hR=>NP.rs h hR) (h.1 e) hR,λe=>(λh hR=>h.rs hR (λhc=>by rw[aF,hfl] at hc;exact absurd hc.2 (by decide))) (h.2 e) hR⟩) (⟨dQ _,λh=>absurd h (Nat.lt_irrefl _)⟩) ?_ ?_ ?_ ?_
 rotate_left
 ·intro e;simp only[tv,nn,Nat.reduceAdd];exact rfl
 ·exact λe=>rfl
 ·intro i o il k qB hst e W hS hla
  rcases i with _|_|_|_|_|_|_|_|_|_|_|i<;>try cases il
  ·exact kv 36 rfl rfl rfl rfl rfl rfl (RS.refl _ _ _) hS
  ·exact kv 37 rfl rfl rfl rfl rfl rfl (RS.refl _ _ _) hS
  ·refine bf rfl rfl rfl rfl (X5.below' hS.1) aD hBl ?_
   exact KL.at_ 38 rfl rfl rfl (RS.refl _ _ _) hS
  ·refine bf rfl rfl rfl rfl (H5.below' hS.1) aD hH ?_
   exact KL.at_ 39 rfl rfl rfl (RS.refl _ _ _) hS
  ·exact kv 40 rfl rfl rfl rfl rfl rfl (RS.refl _ _ _) hS
  ·exact kc 41 188 rfl rfl rfl func188 (hct W) rfl rfl rfl (λ_ hW'=>(RS.below hW')) λ_ hW'=>aI k e _ _ hS hW'
  ·refine cz rfl rfl (Lh (u0:=.agg (ints .u8 Bk)) (u1:=.agg (ints .u8 H)) (u2:=.agg (ints .u8 C)) rfl rfl rfl rfl (hbs W)) ?_
   exact KL.lt 42 rfl rfl ⟨λe=>absurd e (by decide),λ_=>(⟨W.heap.size,rfl,hS.1.size,aA.new _ _ _⟩)⟩ (RS.below (bN _ _)) (aI k e _ _ hS (bN _ _))
  ·obtain⟨g,hg,hgB,pM⟩:=((hla 42 rfl (by kernel_rfl)).2 rfl);refine aV 186 rfl rfl rfl func186 (by kernel_rfl) (by kernel_rfl) (by show Calls _ _ #[e 42] W _;rw[hg];exact hpl g W (Sl.blk pM)) ?_;intro W' hW'
   exact KL.at_ 43 rfl rfl rfl (RS.below hW') (aI k e _ _ hS hW')
  ·exact kc 44 180 rfl rfl rfl func180 (hE W (K5.below hS.1)) rfl rfl rfl (λ_ hW'=>(RS.below hW')) λ_ hW'=>aI k e _ _ hS hW'
  ·obtain rfl:k=0:=Nat.le_zero.1 (aQ hst 0 10 rfl (by kernel_rfl))
   refine bZ rfl rfl rfl fw ?_
   exact KL.lt 12 rfl rfl ⟨λ_=>(NP.new (hS.1.size)),λe=>absurd e (by decide)⟩ (((RS.below (bN _ _)))) (⟨hS.1.alloc hS.1.size _,λh=>absurd h (Nat.lt_irrefl _)⟩)
  ·obtain rfl:k=0:=Nat.le_zero.1 (aQ hst 0 10 rfl (by kernel_rfl))
   obtain⟨g,cs,hg,hBg,hcs,iy⟩:=((hla 12 rfl (by kernel_rfl)).1 rfl);refine bJ rfl rfl rfl hg rfl iy hcs aD hEl ?_
   exact KL.none rfl (RS.row iy hcs ((aF _ _).trans (Eq.trans hEl hcs.symm))) (⟨az hS.1 hBg _,λ_=>⟨g,hg,hBg,iy.row _⟩⟩)
 ·intro e W hS hla
  have aaz:=(hla 12 rfl).1 rfl
  have adI:=(hla 42 rfl).2 rfl
  clear hla aI
  obtain⟨hbelW,hx⟩:=hS
  obtain⟨g12,OE,hBg,Yj⟩:=hx (by decide)
  clear hx aaz adI hpl hbs hct hE
  generalize e 12=u12 at OE ⊢
  subst OE
  generalize e 42=u42
  have Tw:=bC bA hbelW
  have s6:Sl W (some ⟨g12,0,none⟩) .u8 E:=Sl.blk Yj
  have aeG:=hhv (some ⟨g12,0,none⟩) 16 W s6
  clear hhv hbelW
  go_wp2_with fail
  refine aeG.mono ?_
  rintro e w7 ⟨v7,rfl,adz,yA⟩
  have dm:=bC Tw yA
  have Ve:=adz.mono (B':=w.heap.size) Tw.size
  rw[←hTS.out] at Ve
  clear aeG yA adz
  go_wp2_with fail
  go_ret
  exact⟨_,rfl,Ve,dm⟩
end
section
open Go.RowKit
theorem lM (m:List Nat)(hm:∀x∈m,x<256)(hl:m.length<100)(a:Option Addr)(c:Nat)(w:World)(hs:Sl w a .u8 m) :
  Calls prog 173 #[.slice a m.length c] w λe w'=>∃u v,e=.returned (.agg #[u,v])/\Own w' w.heap.size 5 .u8 u (nX m).1/\Own w' w.heap.size 5 .u8 v (nX m).2/\Below w.heap.size w w':=by
 have e1:(nX m).1=zw m 0 m.length:=rfl
 have e2:(nX m).2=zw m m.length m.length:=rfl
 have h1:=λW (s:Sl W a .u8 m)=>nQ 0 m.length m (by omega) (by omega) hm a c W s
 have h2:=λW (s:Sl W a .u8 m)=>nQ m.length m.length m (by omega) (by omega) hm a c W s
 have g1:=gK m 0 m.length
 have g2:=gK m m.length m.length
 rw[FL0,←e1] at h1
 rw[←e2] at h2
 rw[←e1] at g1
 rw[←e2] at g2
 generalize (nX m).1=L at *
 generalize (nX m).2=R at *
 clear e1 e2
 have c4:=λW=>nR m.length W
 generalize FL m.length=fN at *
 obtain⟨N,HN⟩:=bD (m.length)
 rw[HN.out] at h1 h2 g1 g2 c4 hl ⊢
 have A0:=aA.new w 254 #[.slice none 0 0,.slice none 0 0]
 have hbel0:=bN w (.cells #[.slice none 0 0,.slice none 0 0] 254)
 have hs0:=hs.below hbel0
 go_enter func173,ntmps173
 go_wp2_with fail
 generalize (w.alloc (.cells #[.slice none 0 0,.slice none 0 0] 254))=w0 at *
 refine(h1 _ hs0).mono ?_
 rintro e w1 ⟨u,rfl,ou,abj⟩
 have A1:=A0.below' abj
 have aK:=bC hbel0 abj
 have hs1:=hs0.below abj
 have YM:=ou.mono (B':=w.heap.size) hbel0.size
 go_wp2_with fail
 refine(h2 _ hs1).mono ?_
 rintro e w2 ⟨v,rfl,ov,abh⟩
 have A2:=A1.below' abh
 have aB:=bC aK abh
 have YL:=YM.below abh
 have Ol:=ov.mono (B':=w.heap.size) aK.size
 obtain⟨au,cu,rfl,-,-,-,-⟩:=YL.mZ
 obtain⟨av,cv,rfl,-,-,-,-⟩:=Ol.mZ
 rw[g1] at YL ⊢
 rw[g2] at Ol ⊢
 clear h1 h2 hs0 hs1 A0 A1 ou ov YM hbel0 aK
 have k0:w2.cell? ⟨w.heap.size,0,none⟩=some (.slice none 0 0):=by rw[A2.cell];rfl
 have k1:w2.cell? ⟨w.heap.size,1,none⟩=some (.slice none 0 0):=by rw[A2.cell];rfl
 have z0:=A2.frozen 0
 have z1:=A2.frozen 1
 have A3:aA ((w2.setCell ⟨w.heap.size,0,none⟩ (.slice au N cu)).setCell ⟨w.heap.size,1,none⟩ (.slice av N cv)) w.heap.size 254 #[.slice au N cu,.slice av N cv]:=(A2.kL 0 (.slice au N cu)).kL 1 (.slice av N cv)
 have hch:Ch w.heap.size w2 ((w2.setCell ⟨w.heap.size,0,none⟩ (.slice au N cu)).setCell ⟨w.heap.size,1,none⟩ (.slice av N cv)):=(Ch.bX (iG.set w2 w.heap.size 0 _)).trans (Ch.bX (iG.set _ w.heap.size 1 _))
 have Wj:=YL.ch hch A2 (by decide)
 have Ig:=Ol.ch hch A2 (by decide)
 have aG:=hch.below aB dM aB.size
 clear YL Ol A2 hch
 go_wp2_with fail
 exact Ay (cs:=#[.slice au N cu,.slice av N cv]) rfl rfl A3 agt rfl ⟨_,_,rfl,Wj,Ig,aG⟩
theorem vR (k:Nat)(H:List Nat)(m:List Nat)(h16:16<=m.length)(hl:m.length<100)(a:Option Addr)(c:Nat)(w:World)(hs:Sl w a .u8 m) :
  Calls prog 172 #[.pointer (some ⟨k,0,none⟩),.agg (ints .u8 H),.slice a m.length c] w λe w'=>∃v,e=.returned v/\Own w' w.heap.size 5 .u8 v m/\Below w.heap.size w w':=by
 obtain⟨N,HN⟩:=bD (m.length)
 have hcl:=λW (s:Sl W a .u8 m)=>yO a c N m HN.out.symm (by omega) W s
 rw[HN.out] at h16 hl ⊢
 have hb0:=bN w (.cells (ints .u8 H) 96)
 have hs0:=hs.below hb0
 have hd0:((N:Int)==0)=false:=by simp;omega
 have hd1:decide ((N:Int)≥16)=true:=by simp;omega
 go_enter func172,ntmps172
 go_wp2_with fail
 generalize (w.alloc (.cells (ints .u8 H) 96))=w0 at *
 refine(hcl _ hs0).mono ?_
 rintro e w1 ⟨v,rfl,ov,hb1⟩
 have aK:=bC hb0 hb1
 have zu:=ov.mono (B':=w.heap.size) hb0.size
 go_wp2_with fail
 go_ret
 exact⟨_,rfl,zu,aK⟩
theorem qV (n:Nat)(h16:16<=n)(h31:n<=31)(w:World):Calls prog 171 #[.int .i64 (n:Int)] w λe w'=>e=.returned (.int .i64 8)/\w=w':=by
 have h1:decide ((n:Int)<1)=false:=by simp;omega
 have h2:decide ((n:Int)>31)=false:=by simp;omega
 have h3:((n:Int)==1)=false:=by simp;omega
 have h4:((n:Int)==2)=false:=by simp;omega
 have h5:decide ((n:Int)<16)=false:=by simp;omega
 go_enter func171,ntmps171
 go_wp2
 go_ret
 exact⟨rfl,rfl⟩
end
section
open Go.RowKit
theorem IM (gk gt gb:Nat)(I J Z H:List Nat)(hH:H.length=16)(Dh:∀y∈H,y<256)(m:List Nat)(hm:∀x∈m,x<256)(h16:16<=m.length)(h31:m.length<=31)(a:Option Addr)(c:Nat)(rv:Value)(w:World)(hs:Sl w a .u8 m)(hK:IsKey w gk gt gb I J Z)
  (hh:∀W,Below w.heap.size w W->Calls prog 170 #[.pointer (some ⟨gk,0,none⟩),rv] W λe w'=>e=.returned (.agg (ints .u8 H))/\Below W.heap.size W w') :
  Calls prog 168 #[.pointer (some ⟨gk,0,none⟩),rv,.slice a m.length c,.bool false] w λe w'=>∃v,e=.returned (.tuple #[v,.int .i64 0])/\Own w' w.heap.size 5 .u8 v (zV (tS I J Z H) m)/\Below w.heap.size w w':=by
 have oh:=λj x (hx:∀y∈x,y<16)=>Ex I J Z Dh j hx
 have afx:=QJ I J Z H
 obtain⟨N,HN⟩:=bD (m.length)
 have vY:∀(j:Nat) (x:List Nat) (hx:∀y∈x,y<16) (hxl:x.length=N) (hj:j<2^31) (a:Option Addr) (c:Nat) (W:World) (hs:Sl W a .u8 x) (hK:IsKey W gk gt gb I J Z),
  Calls prog 174 #[.pointer (some ⟨gk,0,none⟩),.agg (ints .u8 H),.int .i64 6,.int .i64 (j:Int),.slice a N c] W λe w'=>∃v,e=.returned v/\Own w' W.heap.size 5 .u8 v (tS I J Z H j x)/\Below W.heap.size W w':=λj x hx hxl hj a c W hs hK=>by
  have h1:=vQ gk gt gb I J Z H hH Dh x (by rw[hxl,←HN.out];exact h31) hx j hj a c W hs hK
  rwa [hxl] at h1
 have Gg:∀(x:List Nat),x.length=N->∀(a:Option Addr) (c:Nat) (W:World) (hs:Sl W a .u8 x),
  Calls prog 172 #[.pointer (some ⟨gk,0,none⟩),.agg (ints .u8 H),.slice a N c] W λe w'=>∃v,e=.returned v/\Own w' W.heap.size 5 .u8 v x/\Below W.heap.size W w':=λx hx a c W hs=>by
  have h1:=vR gk H x (by rw[hx,←HN.out];exact h16) (by rw[hx,←HN.out];omega) a c W hs
  rwa [hx] at h1
 have acF:=λW (s:Sl W a .u8 m)=>lM m hm (by omega) a c W s
 obtain⟨S,HS⟩:=bD (tS I J Z H)
 have HEQ:Hid (zV (tS I J Z H) m=Oz (DN (mG S N 8 (nX m)))):=aR (by rw[HS.out,←HN.out];rfl)
 rw[HS.out] at vY oh afx
 have hok:zF N (nX m):=by rw[←HN.out];exact iU hm
 have hokr:=λk=>mE oh k hok
 rw[HN.out] at h16 h31 acF ⊢
 have OP:=λW=>qV N h16 h31 W
 generalize nX m=PP at *
 clear HS
 have hd0:((N:Int)==0)=false:=by simp;omega
 have hd31:decide ((N:Int)>31)=false:=by simp;omega
 have aeV:decide ((N:Int)≥16)=true:=by simp;omega
 go_enter func168,ntmps168
 go_wp2_with fail
 have acE:∀W,Below w.heap.size w W->IsKey W gk gt gb I J Z:=λW h=>hK.below h
 clear hK
 obtain⟨J,HJ,HI0⟩:=jmp (λaJ w'=>∃(U:Nat->Value) (j:Nat) (l:List Nat) (r:List Nat) (g1:Nat) (g2:Nat) (au:Option Addr) (av:Option Addr) (am:Option Addr) (cu:Nat) (cv:Nat) (cm:Nat),aJ={ tmps:=#[.pointer (some ⟨gk,0,none⟩),U 1,.slice am N cm,.bool false,U 4,U 5,U 6,U 7,U 8,U 9,.pointer (some ⟨g1,0,none⟩),.int .i64 6,.int .i64 (j:Int),.int .i64 1,.pointer (some ⟨g2,0,none⟩),U 15,U 16,U 17,U 18,U 19,U 20,U 21,U 22,U 23,U 24,U 25,U 26,U 27,U 28,U 29,U 30,U 31,U 32,U 33,U 34,U 35,U 36,U 37,U 38,U 39,U 40,U 41,U 42,U 43,U 44,U 45,U 46,U 47,U 48,U 49,U 50,U 51,U 52,U 53,U 54,U 55,U 56,U 57,U 58,U 59,U 60,U 61,U 62,U 63,U 64,U 65,U 66,U 67,U 68,U 69,U 70,U 71,U 72,U 73,U 74,U 75,U 76,U 77,U 78,U 79,U 80,U 81,U 82],defers:=[] }/\j<=7/\zF N (l,r)/\mG S N j PP=(l,r)/\aA w' g1 96 (ints .u8 H)/\aA w' g2 254 #[.slice au N cu,.slice av N cv]/\w.heap.size<=g1/\w.heap.size<=g2/\Own w' w.heap.size 5 .u8 (.slice au N cu) l/\Own w' w.heap.size 5 .u8 (.slice av N cv) r/\Below w.heap.size w w')
 have HI:Hid (∀(T:Array Value) (w':World),(∃(j:Nat) (l:List Nat) (r:List Nat) (g1:Nat) (g2:Nat) (au:Option Addr) (av:Option Addr) (am:Option Addr) (cu:Nat) (cv:Nat) (cm:Nat),T=((λ(U:Nat->Value)=>#[.pointer (some ⟨gk,0,none⟩),U 1,.slice am N cm,.bool false,U 4,U 5,U 6,U 7,U 8,U 9,.pointer (some ⟨g1,0,none⟩),.int .i64 6,.int .i64 (j:Int),.int .i64 1,.pointer (some ⟨g2,0,none⟩),U 15,U 16,U 17,U 18,U 19,U 20,U 21,U 22,U 23,U 24,U 25,U 26,U 27,U 28,U 29,U 30,U 31,U 32,U 33,U 34,U 35,U 36,U 37,U 38,U 39,U 40,U 41,U 42,U 43,U 44,U 45,U 46,U 47,U 48,U 49,U 50,U 51,U 52,U 53,U 54,U 55,U 56,U 57,U 58,U 59,U 60,U 61,U 62,U 63,U 64,U 65,U 66,U 67,U 68,U 69,U 70,U 71,U 72,U 73,U 74,U 75,U 76,U 77,U 78,U 79,U 80,U 81,U 82]) λi=>T.getD i undef)/\j<=7/\zF N (l,r)/\mG S N j PP=(l,r)/\aA w' g1 96 (ints .u8 H)/\aA w' g2 254 #[.slice au N cu,.slice av N cv]/\w.heap.size<=g1/\w.heap.size<=g2/\Own w' w.heap.size 5 .u8 (.slice au N cu) l/\Own w' w.heap.size 5 .u8 (.slice av N cv) r/\Below w.heap.size w w')->J { tmps:=T,defers:=[] } w') :=
  aR λT w' ⟨j,l,r,g1,g2,au,av,am,cu,cv,cm,hJ,rJ⟩=>HI0.out _ _ ⟨λi=>T.getD i undef,j,l,r,g1,g2,au,av,am,cu,cv,cm,congrArg (λT=>({ tmps:=T,defers:=[] }:Act)) hJ,rJ⟩
 clear HI0
 obtain⟨μ,Hμ⟩:∃μ:Act->World->Nat,Hid (∀a w',μ a w'=8-(intOf (a.tmps.getD 12 undef)).toNat):=⟨_,aR λ_ _=>rfl⟩
 refine dF 0 J μ (by simp only[findLabel];rfl) ?_ ?_
 ·intro a' wr hj
  obtain⟨U,j,l,r,g1,g2,au,av,am,cu,cv,cm,rfl,hj7,hLR,hR,B1,B2,hg1,hg2,ou,ov,hbel⟩:=HJ.out _ _ hj
  clear hj
  have HR:=aR hR
  clear hR hh hs
  have aaY:j<2^31:=by omega
  obtain⟨hll,hrl,hlb,hrb⟩:=hLR
  simp only at hll hrl hlb hrb
  have k0:wr.cell? ⟨g2,0,none⟩=some (.slice au N cu):=by rw[B2.cell];rfl
  have k1:wr.cell? ⟨g2,1,none⟩=some (.slice av N cv):=by rw[B2.cell];rfl
  have hgl:=B2.lt
  obtain⟨su,sv⟩:Sl wr au .u8 l/\Sl wr av .u8 r:=by
   obtain⟨_,_,e1,s1,-⟩:=ou.sl
   obtain⟨_,_,e2,s2,-⟩:=ov.sl
   rw[hll] at e1
   rw[hrl] at e2
   cases e1
   cases e2
   exact⟨s1,s2⟩
  have hKW:∀W,Below wr.heap.size wr W->IsKey W gk gt gb I _ Z:=λW h=>acE W (bC hbel h)
  have hxl:(S j r).length=N:=(afx j r).trans hrl
  have hxb:=oh j r hrb
  have Sq:=dJ l (S j r) N
  have zx:=hbel.size
  go_wp2_with fail
  have hXor:∀(x y:List Nat),x.length=N->y.length=N->(∀z∈x,z<16)->(∀z∈y,z<16)->∀a b c d (W:World),Sl W a .u8 x->Sl W b .u8 y->Calls prog 42 #[.slice a N c,.slice b N d] W λe w'=>e=.returned (.slice (some ⟨W.heap.size,0,none⟩) N N)/\Below W.heap.size W w'/\aA w' W.heap.size 5 (ints .u8 (dS x y N)):=λx y hx hy hxb hyb a b c d W s1 s2=>by
   have h1:=uR a b c d N N x y hx (by omega) dM (by omega) (.inl rfl) (by omega) (by omega) (λz hz=>Nat.lt_trans (hxb z hz) (by decide)) (λz hz=>Nat.lt_trans (hyb z hz) (by decide)) W s1 s2
   rwa [hy] at h1
  have hNm:(dS l (S j r) N).length<=maxLen:=by rw[dJ];unfold maxLen;omega
  refine bW 13 (by kernel_rfl) (by kernel_rfl) (by kernel_rfl) (by kernel_rfl) (λD bP W=>∃u44 u45 u46 u47 u48 u49 u50 u51 u52 u53 u54 u55 u56:Value,bP={ tmps:=#[.pointer (some ⟨gk,0,none⟩),U 1,.slice am N cm,.bool false,U 4,U 5,U 6,U 7,U 8,U 9,.pointer (some ⟨g1,0,none⟩),.int .i64 6,.int .i64 (j:Int),.int .i64 1,.pointer (some ⟨g2,0,none⟩),U 15,U 16,U 17,U 18,U 19,U 20,U 21,U 22,U 23,U 24,U 25,U 26,U 27,U 28,U 29,U 30,U 31,U 32,U 33,U 34,U 35,U 36,U 37,U 38,U 39,U 40,U 41,U 42,U 43,u44,u45,u46,u47,u48,u49,u50,u51,u52,u53,u54,u55,u56,U 57,U 58,U 59,U 60,U 61,U 62,U 63,U 64,U 65,U 66,U 67,U 68,U 69,U 70,U 71,U 72,U 73,U 74,U 75,U 76,U 77,U 78,U 79,U 80,U 81,U 82],defers:=[] }/\Below wr.heap.size wr W/\(D 0->u44=.pointer (some ⟨g2,1,none⟩))/\(D 1->u45=.slice av N cv)/\(D 2->u46=.pointer (some ⟨g2,0,none⟩))/\(D 3->u47=.slice au N cu)/\(D 4->u48=.pointer (some ⟨gk,0,none⟩))/\(D 5->u49=.agg (ints .u8 H))/\(D 6->u50=.int .i64 6)/\(D 7->u51=.int .i64 (j:Int))/\(D 8->u52=.pointer (some ⟨g2,1,none⟩))/\(D 9->u53=.slice av N cv)/\(D 10->Own W w.heap.size 5 .u8 u54 (S j r))/\(D 11->Own W w.heap.size 5 .u8 u55 (dS l (S j r) N))/\(D 12->u56=.pointer (some ⟨g2,0,none⟩))) ?_ ?_ ?_
  ·exact aL <| (⟨_,_,_,_,_,rfl,⟨rfl,rfl,rfl,Nat.le_refl _,λ_ _=>rfl⟩,nofun,nofun,nofun,nofun,nofun,nofun,nofun,nofun,nofun,nofun,nofun,nofun,nofun⟩)
  ·intro i o hilt hi D bP W hI hnD hall
   obtain⟨u44,u45,u46,u47,u48,u49,u50,u51,u52,u53,u54,u55,u56,rfl,hW,f0,f1,f2,f3,f4,f5,f6,f7,f8,f9,f10,f11,f12⟩:=hI
   rcases i with _|_|_|_|_|_|_|_|_|_|_|_|_|i<;>try cases hi
   ·refine af (v:=.pointer (some ⟨g2,1,none⟩)) rfl rfl (by kernel_rfl) ?_
    exact aL <| (⟨_,_,_,_,_,rfl,hW,λ_=>rfl,ro f1,ro f2,ro f3,ro f4,ro f5,ro f6,ro f7,ro f8,ro f9,ro f10,ro f11,ro f12⟩)
   ·obtain rfl:=f0 (aj hall 0 rfl)
    refine af (v:=.slice av N cv) rfl rfl (bO rfl rfl underlying23 ((hW.cell (p:=⟨g2,1,none⟩) hgl).trans k1)) ?_
    exact aL <| (⟨_,_,_,_,_,rfl,hW,ro f0,λ_=>rfl,ro f2,ro f3,ro f4,ro f5,ro f6,ro f7,ro f8,ro f9,ro f10,ro f11,ro f12⟩)
   ·refine af (v:=.pointer (some ⟨g2,0,none⟩)) rfl rfl (by kernel_rfl) ?_
    exact aL <| (⟨_,_,_,_,_,rfl,hW,ro f0,ro f1,λ_=>rfl,ro f3,ro f4,ro f5,ro f6,ro f7,ro f8,ro f9,ro f10,ro f11,ro f12⟩)
   ·obtain rfl:=f2 (aj hall 2 rfl)
    refine af (v:=.slice au N cu) rfl rfl (bO rfl rfl underlying23 ((hW.cell (p:=⟨g2,0,none⟩) hgl).trans k0)) ?_
    exact aL <| (⟨_,_,_,_,_,rfl,hW,ro f0,ro f1,ro f2,λ_=>rfl,ro f4,ro f5,ro f6,ro f7,ro f8,ro f9,ro f10,ro f11,ro f12⟩)
   ·refine af (v:=.pointer (some ⟨gk,0,none⟩)) rfl rfl (by kernel_rfl) ?_
    exact aL <| (⟨_,_,_,_,_,rfl,hW,ro f0,ro f1,ro f2,ro f3,λ_=>rfl,ro f5,ro f6,ro f7,ro f8,ro f9,ro f10,ro f11,ro f12⟩)
   ·refine bf rfl rfl rfl rfl (B1.below' hW) aD hH ?_
    exact aL <| (⟨_,_,_,_,_,rfl,hW,ro f0,ro f1,ro f2,ro f3,ro f4,λ_=>rfl,ro f6,ro f7,ro f8,ro f9,ro f10,ro f11,ro f12⟩)
   ·refine af (v:=.int .i64 6) rfl rfl (by kernel_rfl) ?_
    exact aL <| (⟨_,_,_,_,_,rfl,hW,ro f0,ro f1,ro f2,ro f3,ro f4,ro f5,λ_=>rfl,ro f7,ro f8,ro f9,ro f10,ro f11,ro f12⟩)
   ·refine af (v:=.int .i64 (j:Int)) rfl rfl (by kernel_rfl) ?_
    exact aL <| (⟨_,_,_,_,_,rfl,hW,ro f0,ro f1,ro f2,ro f3,ro f4,ro f5,ro f6,λ_=>rfl,ro f8,ro f9,ro f10,ro f11,ro f12⟩)
   ·refine af (v:=.pointer (some ⟨g2,1,none⟩)) rfl rfl (by kernel_rfl) ?_
    exact aL <| (⟨_,_,_,_,_,rfl,hW,ro f0,ro f1,ro f2,ro f3,ro f4,ro f5,ro f6,ro f7,λ_=>rfl,ro f9,ro f10,ro f11,ro f12⟩)
   ·obtain rfl:=f8 (aj hall 8 rfl)
    refine af (v:=.slice av N cv) rfl rfl (bO rfl rfl underlying23 ((hW.cell (p:=⟨g2,1,none⟩) hgl).trans k1)) ?_
    exact aL <| (⟨_,_,_,_,_,rfl,hW,ro f0,ro f1,ro f2,ro f3,ro f4,ro f5,ro f6,ro f7,ro f8,λ_=>rfl,ro f10,ro f11,ro f12⟩)
   ·obtain rfl:=f4 (aj hall 4 rfl)
    obtain rfl:=f5 (aj hall 5 rfl)
    obtain rfl:=f6 (aj hall 6 rfl)
    obtain rfl:=f7 (aj hall 7 rfl)
    obtain rfl:=f9 (aj hall 9 rfl)
    refine dY (R:=λv w'=>Own w' w.heap.size 5 .u8 v (S j r)/\Below W.heap.size W w') 174 rfl rfl rfl func174 (by kernel_rfl) (by kernel_rfl) ((vY j r hrb hrl aaY av cv W (sv.below hW) (hKW W hW)).mono λe w' ⟨v,h1,h2,h3⟩=>⟨v,h1,h2.mono (Nat.le_trans zx hW.size),h3⟩) ?_;rintro v W' ⟨aaP,hW'⟩
    exact aL <| (⟨_,_,_,_,_,rfl,bC hW hW',ro f0,ro f1,ro f2,ro f3,ro f4,ro f5,ro f6,ro f7,ro f8,ro f9,(λ_=>aaP),(λh=>(Own.below) (f11 (cO h)) hW'),ro f12⟩)
   ·obtain rfl:=f3 (aj hall 3 rfl)
    obtain⟨a9,c9,h9,s9,-,-⟩:=((f10 (aj hall 10 rfl))).sl;rw[hxl] at h9;subst h9;refine dY (R:=λv w'=>Own w' w.heap.size 5 .u8 v (dS l (S j r) N)/\Below W.heap.size W w') 42 rfl rfl rfl func42 (by kernel_rfl) (by kernel_rfl) ((hXor l (S j r) hll hxl hlb hxb au a9 cu c9 W (su.below hW) s9).mono λe w' ⟨h1,h2,h3⟩=>⟨_,h1,by have O9:=Own.made (xs:=(dS l (S j r) N)) h3 (Nat.le_trans zx hW.size) hNm;rwa [Sq] at O9,h2⟩) ?_;rintro v W' ⟨aaP,hW'⟩
    exact aL <| (⟨_,_,_,_,_,rfl,bC hW hW',ro f0,ro f1,ro f2,ro f3,ro f4,ro f5,ro f6,ro f7,ro f8,ro f9,(λh=>(Own.below) (f10 (cO h)) hW'),(λ_=>aaP),ro f12⟩)
   ·refine af (v:=.pointer (some ⟨g2,0,none⟩)) rfl rfl (by kernel_rfl) ?_
    exact aL <| (⟨_,_,_,_,_,rfl,hW,ro f0,ro f1,ro f2,ro f3,ro f4,ro f5,ro f6,ro f7,ro f8,ro f9,ro f10,ro f11,λ_=>rfl⟩)
   ·exfalso;omega
  ·rintro D bP W ⟨u44,u45,u46,u47,u48,u49,u50,u51,u52,u53,u54,u55,u56,rfl,hW,f0,f1,f2,f3,f4,f5,f6,f7,f8,f9,f10,f11,f12⟩ hall
   obtain rfl:=f0 (hall 0 (by decide))
   obtain rfl:=f1 (hall 1 (by decide))
   obtain rfl:=f2 (hall 2 (by decide))
   obtain rfl:=f3 (hall 3 (by decide))
   obtain rfl:=f4 (hall 4 (by decide))
   obtain rfl:=f5 (hall 5 (by decide))
   obtain rfl:=f6 (hall 6 (by decide))
   obtain rfl:=f7 (hall 7 (by decide))
   obtain rfl:=f8 (hall 8 (by decide))
   obtain rfl:=f9 (hall 9 (by decide))
   obtain rfl:=f12 (hall 12 (by decide))
   have x54:=f10 (hall 10 (by decide))
   have x55:=f11 (hall 11 (by decide))
   clear f0 f1 f2 f3 f4 f5 f6 f7 f8 f9 f12 hall
   simp only[List.drop_succ_cons,List.drop_zero]
   obtain⟨a5,c5,h5,-,-,-⟩:=x55.sl
   rw[Sq] at h5
   subst h5
   have C2:=B2.below' hW
   have hne:=aA.LJ B1 B2 (by decide)
   have kk0:W.cell? ⟨g2,0,none⟩=some (.slice au N cu):=by rw[C2.cell];rfl
   have kk1:W.cell? ⟨g2,1,none⟩=some (.slice av N cv):=by rw[C2.cell];rfl
   have z0:=C2.frozen 0
   have z1:=C2.frozen 1
   have A3:aA ((W.setCell ⟨g2,0,none⟩ (.slice av N cv)).setCell ⟨g2,1,none⟩ (.slice a5 N c5)) g2 254 #[.slice av N cv,.slice a5 N c5]:=(C2.kL 0 (.slice av N cv)).kL 1 (.slice a5 N c5)
   have hch:Ch g2 W ((W.setCell ⟨g2,0,none⟩ (.slice av N cv)).setCell ⟨g2,1,none⟩ (.slice a5 N c5)):=(Ch.bX (iG.set W g2 0 _)).trans (Ch.bX (iG.set _ g2 1 _))
   have Wj:Own _ w.heap.size 5 .u8 (.slice av N cv) r:=(ov.below hW).ch hch C2 (by decide)
   have Ig:Own _ w.heap.size 5 .u8 (.slice a5 N c5) (dS l (S j r) N):=x55.ch hch C2 (by decide)
   have acn:=hch.blk (B1.below' hW) hne
   have hbelW:=bC hbel hW
   have aG:=hch.below hbelW hg2 hbelW.size
   have hok2:zF N (r,dS l (S j r) N):=⟨hrl,Sq,hrb,uQ hlb hxb N⟩
   have HR2:Hid (mG S N (j+1) PP=(r,dS l (S j r) N)):=aR (by
    show xN S N j (mG S N j PP)=_
    rw[HR.out];rfl)
   clear f10 f11 x54 x55 hW hch C2 B1 B2 ou ov k0 k1 hgl su sv hKW hxl hxb Sq zx hbel hbelW hne HR vY oh
   generalize dS l (S j r) N=q at *
   replace OP:=OP ((W.setCell ⟨g2,0,none⟩ (.slice av N cv)).setCell ⟨g2,1,none⟩ (.slice a5 N c5))
   have m0:((W.setCell ⟨g2,0,none⟩ (.slice av N cv)).setCell ⟨g2,1,none⟩ (.slice a5 N c5)).cell? ⟨g2,0,none⟩=some (.slice av N cv):=by rw[A3.cell];rfl
   have m1:((W.setCell ⟨g2,0,none⟩ (.slice av N cv)).setCell ⟨g2,1,none⟩ (.slice a5 N c5)).cell? ⟨g2,1,none⟩=some (.slice a5 N c5):=by rw[A3.cell];rfl
   by_cases hj:j<7
   ·have hd1:decide ((j:Int)+1≥0)=true:=by simp;omega
    have hd2:decide ((j:Int)+1<8)=true:=by simp;omega
    go_wp2_with fail
    refine OP.mono ?_
    clear OP
    rintro e w4 ⟨rfl,rfl⟩
    go_wp2_with fail
    go_step3
    refine⟨rfl,HI.out _ _ ⟨j+1,r,q,g1,g2,av,a5,am,cv,c5,cm,rfl,by omega,hok2,HR2.out,acn,A3,hg1,hg2,Wj,Ig,aG⟩,?_⟩
    rw[Hμ.out,Hμ.out]
    change 8-((j:Int)+1).toNat<8-(j:Int).toNat
    omega
   ·obtain rfl:j=7:=by omega
    go_wp2_with fail
    refine OP.mono ?_
    clear OP
    rintro e w4 ⟨rfl,rfl⟩
    obtain⟨s1,hn1⟩:Sl ((W.setCell ⟨g2,0,none⟩ (.slice av N cv)).setCell ⟨g2,1,none⟩ (.slice a5 N c5)) av .u8 r/\(av=none->cv=0):=by
     obtain⟨_,_,e1,s1,-,-,hn1⟩:=Wj.mZ
     rw[hrl] at e1
     cases e1
     exact⟨s1,hn1⟩
    have HR3:Hid (Ik (q++r)=Oz (DN (mG S N 8 PP))):=aR (by rw[HR2.out];rfl)
    obtain⟨-,DW,-,aeq⟩:=hok2
    simp only at DW aeq
    have hqr:∀x∈q++r,x<16:=λx hx=>by
     rcases List.mem_append.1 hx with hx|hx
     ·exact aeq x hx
     ·exact hrb x hx
    have JQ:(q++r).length=N+N:=by rw[List.length_append,DW,hrl]
    have hap:q.length+r.length<2^40:=by omega
    have hjo:=λad cd W (s:Sl W ad .u8 (q++r))=>rY (q++r) hqr (by omega) ad cd W s
    have hjl:=ui (q++r)
    rw[JQ,HR3.out] at hjo
    rw[HR3.out,JQ,show (N+N+1)/2=N by omega] at hjl
    have hrl2:=aR hrl.symm
    have zx:=aG.size
    go_wp2_with (refine dA (zs:=r) rfl rfl underlying23 nY rfl (by omega) rfl Ig rfl hrl2.out hn1 s1 hap zx ?_;intro v' w5 hown' hgr;have iX:=gI aG hgr zx Ig dM;have agP:=acn.jO hgr Ig (by decide);clear Ig Wj acn hgr aG m0 m1 s1 A3 hn1;(try simp only[nn,Nat.reduceAdd]))
    obtain⟨a6,c6,rfl,s6,-,-⟩:=hown'.sl
    rw[JQ]
    refine(hjo a6 c6 _ s6).mono ?_
    rintro e w6 ⟨v6,rfl,acz,hb6⟩
    have B15:=agP.below' hb6
    have bK:=bC iX hb6
    clear agP iX hb6 hown' s6
    obtain⟨a7,c7,rfl,s7,-,-⟩:=acz.sl
    rw[hjl]
    have hfl:=Gg _ hjl a7 c7 w6 s7
    clear Gg
    go_wp2_with ((first|(refine ag rfl 96 _ rfl _ rfl B15 aD hH ?_));(try simp only[nn,Nat.reduceAdd]))
    refine hfl.mono ?_
    clear hfl
    rintro e w7 ⟨v7,rfl,adz,yA⟩
    have dm:=bC bK yA
    have Ve:=adz.mono (B':=w.heap.size) bK.size
    clear adz yA acz
    go_wp2_with fail
    (try simp only[Exit.jump,Exit.inBlock,Exit.then])
    refine bodyPost_ret (v:=.tuple #[v7,.int .i64 0]) ?_ rfl ⟨_,rfl,by rw[HEQ.out];exact Ve,dm⟩
    simp[results,results168]
 ·intro pass
  go_wp2_with fail
  refine(hh w fo).mono ?_
  rintro e w1 ⟨rfl,hb1⟩
  have X1:=aA.new w1 96 (ints .u8 (zeros 16))
  have B1:=X1.row (ints .u8 H)
  have aK:=az (hb1.alloc hb1.size (.cells (ints .u8 (zeros 16)) 96)) hb1.size (ints .u8 H)
  have hg1:=hb1.size
  clear hh hb1
  go_wp2_with ((first
   | (refine ae rfl 96 rfl fw ?_)
   | (refine aa rfl 96 _ _ rfl _ rfl rfl X1 (ah _ _) aD hH ?_;(generalize ((w1.alloc (.cells (ints .u8 (zeros 16)) 96)).setRow w1.heap.size (ints .u8 H))=w2 at *);(generalize w1.heap.size=g1 at *)));(try simp only[nn,Nat.reduceAdd]))
  refine(acF _ (hs.below aK)).mono ?_
  rintro e w3 ⟨u,v,rfl,ou,ov,hb3⟩
  have aG:=bC aK hb3
  have B3:=B1.below' hb3
  obtain⟨au,cu,rfl,-,-,-⟩:=ou.sl
  obtain⟨av,cv,rfl,-,-,-⟩:=ov.sl
  rw[hok.1] at ou ⊢
  rw[hok.2.1] at ov ⊢
  have YM:=ou.mono (B':=w.heap.size) aK.size
  have zu:=ov.mono (B':=w.heap.size) aK.size
  clear ou ov B1 hb3 aK X1
  have B4:=aA.new w3 254 #[.slice au N cu,.slice av N cv]
  have hb4:=bN w3 (.cells #[.slice au N cu,.slice av N cv] 254)
  have aY:=bC aG hb4
  have YL:=YM.below hb4
  have Ol:=zu.below hb4
  have B5:=B3.below' hb4
  have hg2:=aG.size
  clear YM zu B3 aG hb4
  go_wp2_with fail
  refine wp_label ?_
  rename_i hKx
  refine hKx _ _ ?_
  exact pass _ _ (HI.out _ _ ⟨0,PP.1,PP.2,g1,_,au,av,a,cu,cv,c,rfl,by omega,hok,rfl,B5,B4,hg1,hg2,YL,Ol,aY⟩)
end
end Go.Proofs.YtaiffkajkbiidaaGreatDoor
