/- What this claim leans on, part 30: laws of the model, and what functions of the program compute. No condition but what each law states. -/
import Derived.Test.YtaiffkajkbiidaaGreatDoorQ29
namespace Go.Proofs.YtaiffkajkbiidaaGreatDoor
set_option linter.unusedSimpArgs false
set_option linter.unusedVariables false
set_option linter.unusedSectionVars false
set_option maxRecDepth 100000
set_option maxHeartbeats 40000000
open Go.Proofs.Tryz
open Tryz
section
open Go.RowKit
theorem Lv (a b c d:List Nat)(ha:a.length=16)(hb:b.length=16)(hc:c.length=16)(hd:d.length=16)(hab:B8 a)(hbb:B8 b)(hcb:B8 c)(JV:B8 d)(g:Nat)(W:World)(s:Sl W (some ⟨g,0,none⟩) .u8 [a,b,c,d].flatten) :
  Calls prog 177 #[.slice (some ⟨g,0,none⟩) 4 4] W λe w'=>e=.returned (.agg (ints .u8 (fK [a,b,c,d])))/\Below W.heap.size W w' :=
 jW g 4 [a,b,c,d] (λk hk=>by
  simp only[List.mem_cons,List.not_mem_nil,or_false] at hk
  rcases hk with rfl|rfl|rfl|rfl<;>assumption) (λk hk=>by
  simp only[List.mem_cons,List.not_mem_nil,or_false] at hk
  rcases hk with rfl|rfl|rfl|rfl<;>assumption) (show 4<2^31 by decide) W s
theorem aar {W:World}{g:Nat}{ps us vs:Value}{x y:List Nat}(h:aA W g 259 (iA ps us vs x y).toArray):W.rangeAt g 3 (vals .u8 x):=by
 have h':aA W g 259 ([ps,us,vs]++vals .u8 x++vals .u8 y).toArray:=by rw[List.append_assoc];exact h
 exact h'.part rfl
theorem RO {W:World}{g:Nat}{ps us vs:Value}{x y:List Nat}(hx:x.length=16)(h:aA W g 259 (iA ps us vs x y).toArray):W.rangeAt g 19 (vals .u8 y):=by
 have h':aA W g 259 ([ps,us,vs]++vals .u8 x++vals .u8 y++[]).toArray:=by rw[List.append_nil,List.append_assoc];exact h
 exact h'.part (by simp[bg,hx])
def SU (w0:World)(g T:Nat)(M:Value->Value->Array Value)(us vs:Value)(d1 d2 k:Nat)(e:Nat->Value)(W:World):Prop :=
 Ch g w0 W/\(k=0->aA W g T (M us vs))/\(k=1->aA W g T (M (e d1) vs))/\(k=2->aA W g T (M (e d1) (e d2)))
section
variable {w0 W W':World}{g T d1 d2 k:Nat}{M:Value->Value->Array Value}{us vs:Value}{e e':Nat->Value}
theorem SU.start (h:aA w0 g T (M us vs))(e:Nat->Value):SU w0 g T M us vs d1 d2 0 e w0.drew:=⟨Ch.of_below (dQ _),λ_=>h.below' (dQ _),λh=>absurd h (by decide),λh=>absurd h (by decide)⟩
theorem SU.lN (k:Nat)(e:Nat->Value)(W W':World)(h:SU w0 g T M us vs d1 d2 k e W)(hb:Below W.heap.size W W'):SU w0 g T M us vs d1 d2 k e W':=⟨h.1.trans (Ch.of_below hb),λq=>(h.2.1 q).below' hb,λq=>(h.2.2.1 q).below' hb,λq=>(h.2.2.2 q).below' hb⟩
theorem SU.Ws (h:SU w0 g T M us vs d1 d2 0 e W)(hb:Below W.heap.size W W'):SU w0 g T M us vs d1 d2 0 e' W':=⟨h.1.trans (Ch.of_below hb),λq=>(h.2.1 q).below' hb,λh=>absurd h (by decide),λh=>absurd h (by decide)⟩
theorem SU.Wq (h:SU w0 g T M us vs d1 d2 k e W)(hk:k<=1)(he:e' d1=e d1)(hb:Below W.heap.size W W'):SU w0 g T M us vs d1 d2 k e' W':=⟨h.1.trans (Ch.of_below hb),λq=>(h.2.1 q).below' hb,λq=>by rw[he];exact(h.2.2.1 q).below' hb,λq=>absurd q (by omega)⟩
theorem SU.st1 (h:SU w0 g T M us vs d1 d2 0 e W){u:Value}(hu:e d1=u)(hM:(M us vs).setIfInBounds 1 u=M u vs):SU w0 g T M us vs d1 d2 1 e (W.setCell ⟨g,1,none⟩ u):=by
 refine⟨h.1.trans (Ch.bX (iG.set _ _ _ _)),λh=>absurd h (by decide),λ_=>?_,λh=>absurd h (by decide)⟩
 rw[hu,←hM]
 exact(h.2.1 rfl).kL 1 u
theorem SU.st2 (h:SU w0 g T M us vs d1 d2 1 e W){u v:Value}(hu:e d1=u)(hv:e d2=v)(hM:(M u vs).setIfInBounds 2 v=M u v):SU w0 g T M us vs d1 d2 2 e (W.setCell ⟨g,2,none⟩ v):=by
 refine⟨h.1.trans (Ch.bX (iG.set _ _ _ _)),λh=>absurd h (by decide),λh=>absurd h (by decide),λ_=>?_⟩
 have h1:=h.2.2.1 rfl
 rw[hu] at h1
 rw[hu,hv,←hM]
 exact h1.kL 2 v
end
theorem YF:(prog.info? 23).map (·.size)=some 1:=by kernel_rfl
theorem NS.mono {B B' n:Nat}{T:TypeId}{cs:Array Value}{W:World}{v:Value}(h:NS B T n cs W v)(hB:B'<=B):NS B' T n cs W v:=let ⟨g,h1,h2,h3⟩:=h;⟨g,h1,Nat.le_trans hB h2,h3⟩
theorem BH (E:Nat->Nat->List Nat->List Nat)(z F:List Nat)(n:Nat):jc (qL E z (jd (λi=>(aW E F i,aX E F i)) n)) n=jc (λi=>bY E z i (aW E F i)) n /\
  jd (λi=>(Ac E z (jd (λi=>(aW E F i,aX E F i)) n) i,sD E z (jd (λi=>(aW E F i,aX E F i)) n) i)) n=jd (cP E z F) n:=by
 have hf:∀i,((λi=>(aW E F i,aX E F i)) i).1.length=16/\((λi=>(aW E F i,aX E F i)) i).2.length=16:=λi=>⟨bI _,bI _⟩
 refine⟨qg λi hi=>?_,vD λi hi=>?_⟩
 ·unfold qL
  rw[Rp hf hi]
 ·unfold Ac sD
  rw[Rp hf hi,Ro hf hi]
  rfl
theorem Pf (E:Nat->Nat->List Nat->List Nat)(M:Nat->List Nat->List Nat)(tl:List Nat->List Nat->List Nat)(h:List Nat)(a b:Nat)(m:List Nat){n:Nat}(hn:qH m.length=n){s t z u v q y:List Nat}
  (hs:fK [mX m,h,fK [jc (aX E (mF m)) n,tl (mU m) (mV m)],E 0 a (mY m)]=s) (ht:fK [mY m,M a s]=t) (hz:fK [s,t]=z) (hu:dS (mU m) (M 4 z) (mU m).length=u) (hv:dS (mV m) (M 5 z) (mV m).length=v)
  (hq:fK [jc (λi=>bY E z i (aW E (mF m) i)) n,tl u v]=q) (hy:fK [s,M b t]=y):Qc E M tl h a b m=jd (cP E z (mF m)) n++u++v++fK [t,h,q,E 0 b y]++y:=by
 subst hn hs ht hz hu hv hq hy
 rfl
theorem OV (gk gt gb:Nat)(I J Z H:List Nat)(hH:H.length=16)(Dh:∀y∈H,y<256)(m:List Nat)(hm:∀x∈m,x<256)(h32:32<=m.length)(hL:m.length<208)(g0 o0 c:Nat)(hc:m.length<=c)(rv:Value)(back:Bool)(a b:Nat)(hab:a=(if back then 2 else 1)/\b=(if back then 1 else 2))(w:World)(hs:Sl w (some ⟨g0,o0,none⟩) .u8 m)(hK:IsKey w gk gt gb I J Z)
  (hh:∀W,Below w.heap.size w W->Calls prog 170 #[.pointer (some ⟨gk,0,none⟩),rv] W λe w'=>e=.returned (.agg (ints .u8 H))/\Below W.heap.size W w') :
  Calls prog 169 #[.pointer (some ⟨gk,0,none⟩),rv,.slice (some ⟨g0,o0,none⟩) m.length c,.bool back] w λe w'=>∃v,e=.returned (.tuple #[v,.int .i64 0])/\Own w' w.heap.size 5 .u8 v (Qc (eE I J Z) (eM I J Z) (La I J Z) H a b m)/\Below w.heap.size w w':=by
 have hap:=λW s=>Yd m hm h32 hL g0 o0 c hc W s
 obtain⟨R,HR⟩:=bD (Qc (eE I J Z) (eM I J Z) (La I J Z) H a b m)
 rw[HR.out]
 have hsm:=sH h32
 have hX:aU ((m.drop (m.length-32)).take 16)=mX m:=lv (Nat.le_of_eq (CR h32).symm) |>.trans (List.take_of_length_le (Nat.le_of_eq (CR h32)))
 have hY:aU ((m.drop (m.length-16)).take 16)=mY m:=lv (Nat.le_of_eq (CQ h32).symm) |>.trans (List.take_of_length_le (Nat.le_of_eq (CQ h32)))
 rw[hX,hY] at hap
 change ∀W,Sl W (some ⟨g0,o0,none⟩) .u8 m->Calls _ _ _ W λe w'=>∃ps cu cv,_/\dD w' W.heap.size 269 32 .u8 ps (qH m.length) (mF m)/\_ at hap
 have sU:∀W,Sl W (some ⟨g0,o0,none⟩) .u8 m->Sl W (some ⟨g0,o0+32*qH m.length,none⟩) .u8 (mU m):=λW s=>(s.off _).take _
 have sV:∀W,Sl W (some ⟨g0,o0,none⟩) .u8 m->Sl W (some ⟨g0,o0+(32*qH m.length+DJ m.length),none⟩) .u8 (mV m):=λW s=>(s.off _).take _
 have lF:=RQ h32
 have lU:=JE h32
 have lV:=JD h32
 have lX:=CR h32
 have lY:=CQ h32
 have kF:B8 (mF m):=B8.take hm _
 have kU:B8 (mU m):=(B8.drop hm _).take _
 have kV:B8 (mV m):=(B8.drop hm _).take _
 have kX:B8 (mX m):=(B8.drop hm _).take _
 have kY:B8 (mY m):=(B8.drop hm _).take _
 have Mi:DJ m.length<=16:=Nat.min_le_right _ _
 obtain⟨L,HL⟩:=bD (m.length)
 obtain⟨n,Hn⟩:=bD (qH m.length)
 obtain⟨ul,agI⟩:∃n,Hid (DJ m.length=n):=⟨_,aR rfl⟩
 obtain⟨vl,Hvl⟩:∃n,Hid (UG m.length=n):=⟨_,aR rfl⟩
 rw[Hn.out] at hap sU sV lF hsm
 rw[agI.out] at hap sV lU hsm Mi
 rw[Hvl.out] at hap lV hsm
 rw[HL.out] at hsm h32 hL hc hap ⊢
 have hd32:decide ((L:Int)<32)=false:=by simp;omega
 go_enter func169,ntmps169
 go_upto_if 28 with fail
 go_cut [10,11] from 21 (λs10 s11 wx=>s10=.int .i64 (a:Int)/\s11=.int .i64 (b:Int)/\wx=w)
 case first =>
  cases back
  ·obtain⟨rfl,rfl⟩:=hab
   go_wp2
   go_meet
   exact⟨rfl,rfl,rfl⟩
  ·obtain⟨rfl,rfl⟩:=hab
   go_wp2
   go_meet
   exact⟨rfl,rfl,rfl⟩
 case rest =>
  obtain⟨rfl,rfl,hcw⟩:=hcut
  have aeW:=hcw.symm
  subst aeW
  have ha31:a<3:=by rw[hab.1];split<;>decide
  have hb31:b<3:=by rw[hab.2];split<;>decide
  clear hab
  go_wp2_with fail
  refine(hh w fo).mono ?_
  rintro e w1 ⟨rfl,hb1⟩
  have X1:=aA.new w1 96 (ints .u8 (zeros 16))
  have hb2:=dx hb1 (az (bN w1 (.cells (ints .u8 (zeros 16)) 96)) dM (ints .u8 H)) hb1.size
  have H2:=X1.row (ints .u8 H)
  have OE:=hb1.size
  go_wp2_with ((first
   | (refine ae rfl 96 rfl fw ?_)
   | (refine aa rfl 96 _ _ rfl _ rfl rfl X1 (ah _ _) aD hH ?_;(generalize ((w1.alloc (.cells (ints .u8 (zeros 16)) 96)).setRow w1.heap.size (ints .u8 H))=w2 at *);(generalize w1.heap.size=g12 at *)));(try simp only[nn,Nat.reduceAdd]))
  refine(hap w2 (hs.below hb2)).mono ?_
  clear X1 hb1 hap hh
  rintro e w3 ⟨ps,cu,cv,rfl,OF3,hb3⟩
  have abV:=OF3.mono hb2.size
  obtain⟨ap,cp,rfl,_,_,_⟩:=abV.mZ
  have aG:=bC hb2 hb3
  obtain⟨MG,Yu⟩:=bD ((iA (.slice ap n cp) (.slice (some ⟨g0,o0+32*n,none⟩) ul cu) (.slice (some ⟨g0,o0+(32*n+ul),none⟩) vl cv) (mX m) (mY m)).toArray)
  have hsz:MG.size=35:=by rw[←Yu.out];exact pE _ _ _ lX lY
  have hone:MG.all (·.oneCell')=true:=by rw[←Yu.out];exact CO _ _ _ _ _ _ _ _ _ _ _
  rw[Yu.out]
  have Z3:=aA.new w3 259 Mc
  obtain⟨w4,hw4⟩:∃w4,w4=(w3.alloc (.cells Mc 259)).setRow w3.heap.size MG:=⟨_,rfl⟩
  have hb4:Below w3.heap.size w3 w4:=by rw[hw4];exact az (bN w3 (.cells Mc 259)) dM MG
  have M4:aA w4 w3.heap.size 259 MG:=by rw[hw4];exact Z3.row MG
  have H4:=(H2.below' hb3).below' hb4
  have OF4:=abV.below hb4
  have aY:=bC aG hb4
  have Ti:=aG.size
  clear OF3 abV hb3 aG H2 hb4 hb2
  go_wp2_with (refine lK rfl _ _ _ rfl w3.heap.size rfl rfl Z3 (pE _ _ _ rfl rfl) qW hsz hone ?_;change wpList _ _ _ _ _ ((w3.alloc (.cells Mc 259)).setRow w3.heap.size MG);rw[←hw4];(try simp only[nn,Nat.reduceAdd]))
  clear Z3 hw4
  generalize w3.heap.size=g13 at *
  have hgl:=aY.size
  have aaT:n<2^20:=by omega
  obtain⟨F1,HF1⟩:=bD (jd (λi=>(aW (eE I J Z) (mF m) i,aX (eE I J Z) (mF m) i)) n)
  obtain⟨SX,HSX⟩:=bD (jc (aX (eE I J Z) (mF m)) n)
  obtain⟨TL,HTL⟩:=bD (La I J Z (mU m) (mV m))
  have hah:∀W,Below w.heap.size w W->dD W w.heap.size 269 32 .u8 (.slice ap n cp) n (mF m)->Calls prog 178 #[.agg MG,.pointer (some ⟨gk,0,none⟩)] W λe w'=>e=.returned (.agg (ints .u8 SX))/\dD w' w.heap.size 269 32 .u8 (.slice ap n cp) n F1/\Below w.heap.size w w'/\mW 269 W w':=λW hb ho=>by
   have h:=Ye gk gt gb I J Z w W hb hK (.slice ap n cp) (.slice (some ⟨g0,o0+32*n,none⟩) ul cu) (.slice (some ⟨g0,o0+(32*n+ul),none⟩) vl cv) n (mF m) (mX m) (mY m) ho kF aaT
   rw[Yu.out,HF1.out,HSX.out] at h
   exact h
  have htl:∀W,Below w.heap.size w W->Calls prog 179 #[.agg MG,.pointer (some ⟨gk,0,none⟩)] W λe w'=>e=.returned (.agg (ints .u8 TL))/\Below W.heap.size W w':=λW hb=>by
   have h:=QG gk gt gb I J Z (.slice ap n cp) (mU m) (mV m) (mX m) (mY m) (by rw[lU];exact Mi) (by rw[lV];omega) kU kV (some ⟨g0,o0+32*n,none⟩) (some ⟨g0,o0+(32*n+ul),none⟩) cu cv W (sU W (hs.below hb)) (sV W (hs.below hb)) (hK.below hb)
   rw[lU,lV,Yu.out,HTL.out] at h
   exact h
  have afB:SX.length=16:=by rw[←HSX.out];exact kR _ _
  have afC:B8 SX:=by rw[←HSX.out];exact rF (Ib (λj i x h=>fT I J Z j i h) kF) n
  have afu:TL.length=16:=by rw[←HTL.out];exact KZ _ _ _ _ _
  have afv:B8 TL:=by rw[←HTL.out];exact IJ _ _ _ kU kV
  have Dg:=bI [SX,TL]
  have hPb:=B8.hc2 afC afv
  have Dc:=λW=>gY _ _ afB afu W
  have uo:=jm _ _ afB afu afC afv
  obtain⟨P,HP⟩:=bD (fK [SX,TL])
  have hn1:(ints .u8 [SX,TL].flatten).size≠16:=by rw[aF];simp;omega
  rw[HP.out] at Dg hPb uo
  generalize hX1:[SX,TL].flatten=Zk at *
  go_wp2_with fail
  have aI:=oJ (S:=(SA w w4 269 32 n (.slice ap n cp) (mF m) F1 96 14 (ints .u8 P))) (λk e W W' h hb=>SA.lN k e W W' h hb)
  refine aS (n:=113) (T:=?_) [(36,.agg MG),(37,.pointer (some ⟨gk,0,none⟩)),(38,.agg (ints .u8 SX)),(39,.agg MG),(40,.pointer (some ⟨gk,0,none⟩)),(41,.agg (ints .u8 TL)),(43,.agg (ints .u8 P))] [14,42] (λs W u=>(s=14->NP w4.heap.size 96 16 W u)/\(s=42->NS w4.heap.size 96 2 (ints .u8 Zk) W u)) (RA 96 16) [2,9] _ aI (by kernel_rfl) (by kernel_rfl) rfl (by kernel_rfl) (by kernel_rfl) (by kernel_rfl) (λs W W' v hR h=>⟨λe=>(λh hR=>NP.ra h hR) (h.1 e) hR,λe=>(λh hR=>NS.ra h hR hn1) (h.2 e) hR⟩) (SA.start aY OF4 _) ?_ ?_ ?_ ?_
  rotate_left
  ·intro e;simp only[tv,nn,Nat.reduceAdd];exact rfl
  ·exact λe=>rfl
  ·intro i o il k qB hst e W hS hla
   rcases i with _|_|_|_|_|_|_|_|_|_|i<;>try cases il
   ·exact kv 36 rfl rfl (qj rfl rfl (hS.2.1.blk M4 (by decide)) qW hsz) rfl rfl rfl (RA.refl _ _ _) hS
   ·exact kv 37 rfl rfl rfl rfl rfl rfl (RA.refl _ _ _) hS
   ·obtain rfl:k=0:=Nat.le_zero.1 (aQ hst 0 2 rfl (by kernel_rfl))
    refine dY (R:=λv w'=>v=.agg (ints .u8 SX)/\dD w' w.heap.size 269 32 .u8 (.slice ap n cp) n F1/\Below w.heap.size w w'/\mW 269 W w') 178 rfl rfl rfl func178 (by kernel_rfl) (by kernel_rfl) ((hah W hS.1 hS.own0).mono λe w' h=>⟨_,h.1,rfl,h.2⟩) ?_;rintro v W' ⟨rfl,ho',hb',hc'⟩
    exact KL.at_ 38 rfl rfl rfl (RA.cht hc' (by decide)) (SA.turn hS ho' hb' hc')
   ·exact kv 39 rfl rfl (qj rfl rfl (hS.2.1.blk M4 (by decide)) qW hsz) rfl rfl rfl (RA.refl _ _ _) hS
   ·exact kv 40 rfl rfl rfl rfl rfl rfl (RA.refl _ _ _) hS
   ·exact kc 41 179 rfl rfl rfl func179 (htl W hS.1) rfl rfl rfl (λ_ hW'=>(RA.below hW')) λ_ hW'=>aI k e _ _ hS hW'
   ·obtain rfl:k=1:=Nat.le_antisymm (aQ hst 1 9 rfl (by kernel_rfl)) (gG hst 0 2 rfl (by kernel_rfl))
    refine cz rfl rfl (fE (u0:=.agg (ints .u8 SX)) (u1:=.agg (ints .u8 TL)) rfl rfl rfl (Dc W)) ?_
    exact KL.lt 42 rfl rfl ⟨λe=>absurd e (by decide),λ_=>(⟨W.heap.size,rfl,hS.2.1.size,aA.new _ _ _⟩)⟩ (RA.below (bN _ _)) (aI _ e _ _ hS (bN _ _))
   ·obtain⟨g,hg,hgB,pM⟩:=((hla 42 rfl (by kernel_rfl)).2 rfl);refine aV 177 rfl rfl rfl func177 (by kernel_rfl) (by kernel_rfl) (by show Calls _ _ #[e 42] W _;rw[hg];exact uo g W (Sl.blk pM)) ?_;intro W' hW'
    exact KL.at_ 43 rfl rfl rfl (RA.below hW') (aI k e _ _ hS hW')
   ·have hk2:=aQ hst 1 9 rfl (by kernel_rfl);refine bZ rfl rfl rfl fw ?_
    exact KL.lt 14 rfl rfl ⟨λ_=>(NP.new hS.2.1.size),λe=>absurd e (by decide)⟩ (RA.below (bN _ _)) (SA.adC hS hk2 (bN _ _))
   ·obtain rfl:k=1:=Nat.le_antisymm (aQ hst 1 9 rfl (by kernel_rfl)) (gG hst 0 2 rfl (by kernel_rfl))
    obtain⟨g,cs,hg,hBg,hcs,iy⟩:=((hla 14 rfl (by kernel_rfl)).1 rfl);refine bJ rfl rfl rfl hg rfl iy hcs aD Dg ?_
    exact KL.none rfl (RA.row iy hcs ((aF _ _).trans (Eq.trans Dg hcs.symm))) (SA.set hS hgl hg hBg iy (by decide))
  ·intro e5 w5 hS hla
   have l14:=(hla 14 rfl).1 rfl
   have adI:=(hla 42 rfl).2 rfl
   clear hla aI
   obtain⟨bA,Xm,OF5,g14,Tf,hBg14,P5⟩:=hS.done
   clear hS l14 adI hah uo Dc hn1
   generalize e5 42=u42' at *
   generalize e5 14=u14' at Tf ⊢
   subst Tf
   have M5:=Xm.blk M4 (by decide)
   have H5:=Xm.blk H4 (by decide)
   clear M4 H4 OF4 aY Xm
   have hE2:=λW (k:Below w.heap.size w W)=>rq gk gt gb I J Z (mY m) 0 a (by decide) (by omega) lY kY W (hK.below k)
   have hl2:=iZ I J Z 0 a lY
   have hb2:=fT I J Z 0 a kY
   obtain⟨EA,HEA⟩:=bD (eE I J Z 0 a (mY m))
   rw[HEA.out] at hl2 hb2
   simp only[HEA.out] at hE2
   have wK:=λW=>Kz _ _ _ _ lX hH Dg hl2 W
   have um:=Lv _ _ _ _ lX hH Dg hl2 kX Dh hPb hb2
   have oh:=bI [mX m,H,P,EA]
   have hSb:=B8.hc4 kX Dh hPb hb2
   obtain⟨S1,Qi⟩:=bD (fK [mX m,H,P,EA])
   rw[Qi.out] at oh hSb um
   have aeT:[mX m,H,P,EA].flatten.length=64:=by simp;omega
   generalize hX2:[mX m,H,P,EA].flatten=XC at *
   have hMx:∀W,aA W g13 259 MG->W.rangeAt g13 3 (vals .u8 (mX m)):=λW h=>by rw[←Yu.out] at h;exact aar h
   have hMy:∀W,aA W g13 259 MG->W.rangeAt g13 19 (vals .u8 (mY m)):=λW h=>by rw[←Yu.out] at h;exact RO lX h
   go_wp2_with fail
   have aI:=oJ (S:=(λk e W=>Below w5.heap.size w5 W/\(0<k->∃g,e 15=.pointer (some ⟨g,0,none⟩)/\w5.heap.size<=g/\aA W g 96 (ints .u8 (S1))))) (λk e W W' h hb=>⟨dx h.1 hb h.1.size,λhk=>let ⟨g,h1,h2,h3⟩:=h.2 hk;⟨g,h1,h2,h3.below' hb⟩⟩)
   refine aS (n:=113) (T:=?_) [(44,.pointer (some ⟨g13,3,none⟩)),(45,.agg (ints .u8 (mX m))),(46,.agg (ints .u8 H)),(47,.agg (ints .u8 P)),(48,.pointer (some ⟨gk,0,none⟩)),(49,.int .i64 (a:Int)),(50,.pointer (some ⟨g13,19,none⟩)),(51,.agg (ints .u8 (mY m))),(52,.agg (ints .u8 EA)),(54,.agg (ints .u8 S1))] [15,53] (λs W u=>(s=15->NP w5.heap.size 96 16 W u)/\(s=53->NS w5.heap.size 96 4 (ints .u8 XC) W u)) (RS 96 16) [12] _ aI (by kernel_rfl) (by kernel_rfl) rfl (by kernel_rfl) (by kernel_rfl) (by kernel_rfl) (λs W W' v hR h=>⟨λe=>(λh hR=>NP.rs h hR) (h.1 e) hR,λe=>(λh hR=>h.rs hR (λhc=>by rw[aF,aeT] at hc;exact absurd hc.2 (by decide))) (h.2 e) hR⟩) (⟨dQ _,λh=>absurd h (Nat.lt_irrefl _)⟩) ?_ ?_ ?_ ?_
   rotate_left
   ·intro e;simp only[tv,nn,Nat.reduceAdd];exact rfl
   ·exact λe=>rfl
   ·intro i o il k qB hst e W hS hla
    rcases i with _|_|_|_|_|_|_|_|_|_|_|_|_|i<;>try cases il
    ·exact kv 44 rfl rfl (by kernel_rfl) rfl rfl rfl (RS.refl _ _ _) hS
    ·exact kv 45 rfl rfl (dB rfl rfl (hMx W (M5.below' hS.1)) aD lX) rfl rfl rfl (RS.refl _ _ _) hS
    ·refine bf rfl rfl rfl rfl (H5.below' hS.1) aD hH ?_
     exact KL.at_ 46 rfl rfl rfl (RS.refl _ _ _) hS
    ·refine bf rfl rfl rfl rfl (P5.below' hS.1) aD Dg ?_
     exact KL.at_ 47 rfl rfl rfl (RS.refl _ _ _) hS
    ·exact kv 48 rfl rfl rfl rfl rfl rfl (RS.refl _ _ _) hS
    ·exact kv 49 rfl rfl rfl rfl rfl rfl (RS.refl _ _ _) hS
    ·exact kv 50 rfl rfl (by kernel_rfl) rfl rfl rfl (RS.refl _ _ _) hS
    ·exact kv 51 rfl rfl (dB rfl rfl (hMy W (M5.below' hS.1)) aD lY) rfl rfl rfl (RS.refl _ _ _) hS
    ·exact kc 52 180 rfl rfl rfl func180 (hE2 W (bC bA hS.1)) rfl rfl rfl (λ_ hW'=>(RS.below hW')) λ_ hW'=>aI k e _ _ hS hW'
    ·refine cz rfl rfl (Cs (u0:=.agg (ints .u8 (mX m))) (u1:=.agg (ints .u8 H)) (u2:=.agg (ints .u8 P)) (u3:=.agg (ints .u8 EA)) rfl rfl rfl rfl rfl (wK W)) ?_
     exact KL.lt 53 rfl rfl ⟨λe=>absurd e (by decide),λ_=>(⟨W.heap.size,rfl,hS.1.size,aA.new _ _ _⟩)⟩ (RS.below (bN _ _)) (aI k e _ _ hS (bN _ _))
    ·obtain⟨g,hg,hgB,pM⟩:=((hla 53 rfl (by kernel_rfl)).2 rfl);refine aV 177 rfl rfl rfl func177 (by kernel_rfl) (by kernel_rfl) (by show Calls _ _ #[e 53] W _;rw[hg];exact um g W (Sl.blk pM)) ?_;intro W' hW'
     exact KL.at_ 54 rfl rfl rfl (RS.below hW') (aI k e _ _ hS hW')
    ·obtain rfl:k=0:=Nat.le_zero.1 (aQ hst 0 12 rfl (by kernel_rfl))
     refine bZ rfl rfl rfl fw ?_
     exact KL.lt 15 rfl rfl ⟨λ_=>(NP.new (hS.1.size)),λe=>absurd e (by decide)⟩ (((RS.below (bN _ _)))) (⟨hS.1.alloc hS.1.size _,λh=>absurd h (Nat.lt_irrefl _)⟩)
    ·obtain rfl:k=0:=Nat.le_zero.1 (aQ hst 0 12 rfl (by kernel_rfl))
     obtain⟨g,cs,hg,hBg,hcs,iy⟩:=((hla 15 rfl (by kernel_rfl)).1 rfl);refine bJ rfl rfl rfl hg rfl iy hcs aD oh ?_
     exact KL.none rfl (RS.row iy hcs ((aF _ _).trans (Eq.trans oh hcs.symm))) (⟨az hS.1 hBg _,λ_=>⟨g,hg,hBg,iy.row _⟩⟩)
   ·intro e6 w6 hS hla
    have l15:=(hla 15 rfl).1 rfl
    have l53:=(hla 53 rfl).2 rfl
    clear hla aI
    obtain⟨Ty,hx⟩:=hS
    obtain⟨g15,aeO,hBg15,S6⟩:=hx (by decide)
    clear hx l15 l53 um wK aeT hE2
    generalize e6 53=u53' at *
    generalize e6 15=u15' at aeO ⊢
    subst aeO
    have M6:=M5.below' Ty
    have H6:=H5.below' Ty
    have OF6:=OF5.below Ty
    have bK:=bC bA Ty
    clear M5 H5 OF5 bA Ty P5
    have acH:=λW (k:Below w.heap.size w W)=>Dm gk gt gb I J Z S1 a (by omega) oh hSb W (hK.below k)
    have hl3:=yH I J Z a oh
    have hb3:=Gz I J Z a hSb
    obtain⟨MA,HMA⟩:=bD (eM I J Z a S1)
    rw[HMA.out] at hl3 hb3
    simp only[HMA.out] at acH
    have JY:=λW=>gY _ _ lY hl3 W
    have CZ:=jm _ _ lY hl3 kY hb3
    have DY:=bI [mY m,MA]
    have acC:=B8.hc2 kY hb3
    obtain⟨T1,HT1⟩:=bD (fK [mY m,MA])
    rw[HT1.out] at DY acC CZ
    have Xd:[mY m,MA].flatten.length=32:=by simp;omega
    generalize hX3:[mY m,MA].flatten=acK at *
    go_wp2_with fail
    have aI:=oJ (S:=(λk e W=>Below w6.heap.size w6 W/\(0<k->∃g,e 16=.pointer (some ⟨g,0,none⟩)/\w6.heap.size<=g/\aA W g 96 (ints .u8 (T1))))) (λk e W W' h hb=>⟨dx h.1 hb h.1.size,λhk=>let ⟨g,h1,h2,h3⟩:=h.2 hk;⟨g,h1,h2,h3.below' hb⟩⟩)
    refine aS (n:=113) (T:=?_) [(55,.pointer (some ⟨g13,19,none⟩)),(56,.agg (ints .u8 (mY m))),(57,.pointer (some ⟨gk,0,none⟩)),(58,.int .i64 (a:Int)),(59,.agg (ints .u8 S1)),(60,.agg (ints .u8 MA)),(62,.agg (ints .u8 T1))] [16,61] (λs W u=>(s=16->NP w6.heap.size 96 16 W u)/\(s=61->NS w6.heap.size 96 2 (ints .u8 acK) W u)) (RS 96 16) [9] _ aI (by kernel_rfl) (by kernel_rfl) rfl (by kernel_rfl) (by kernel_rfl) (by kernel_rfl) (λs W W' v hR h=>⟨λe=>(λh hR=>NP.rs h hR) (h.1 e) hR,λe=>(λh hR=>h.rs hR (λhc=>by rw[aF,Xd] at hc;exact absurd hc.2 (by decide))) (h.2 e) hR⟩) (⟨dQ _,λh=>absurd h (Nat.lt_irrefl _)⟩) ?_ ?_ ?_ ?_
    rotate_left
    ·intro e;simp only[tv,nn,Nat.reduceAdd];exact rfl
    ·exact λe=>rfl
    ·intro i o il k qB hst e W hS hla
     rcases i with _|_|_|_|_|_|_|_|_|_|i<;>try cases il
     ·exact kv 55 rfl rfl (by kernel_rfl) rfl rfl rfl (RS.refl _ _ _) hS
     ·exact kv 56 rfl rfl (dB rfl rfl (hMy W (M6.below' hS.1)) aD lY) rfl rfl rfl (RS.refl _ _ _) hS
     ·exact kv 57 rfl rfl rfl rfl rfl rfl (RS.refl _ _ _) hS
     ·exact kv 58 rfl rfl rfl rfl rfl rfl (RS.refl _ _ _) hS
     ·refine bf rfl rfl rfl rfl (S6.below' hS.1) aD oh ?_
      exact KL.at_ 59 rfl rfl rfl (RS.refl _ _ _) hS
     ·exact kc 60 180 rfl rfl rfl func180 (acH W (bC bK hS.1)) rfl rfl rfl (λ_ hW'=>(RS.below hW')) λ_ hW'=>aI k e _ _ hS hW'
     ·refine cz rfl rfl (fE (u0:=.agg (ints .u8 (mY m))) (u1:=.agg (ints .u8 MA)) rfl rfl rfl (JY W)) ?_
      exact KL.lt 61 rfl rfl ⟨λe=>absurd e (by decide),λ_=>(⟨W.heap.size,rfl,hS.1.size,aA.new _ _ _⟩)⟩ (RS.below (bN _ _)) (aI k e _ _ hS (bN _ _))
     ·obtain⟨g,hg,hgB,pM⟩:=((hla 61 rfl (by kernel_rfl)).2 rfl);refine aV 177 rfl rfl rfl func177 (by kernel_rfl) (by kernel_rfl) (by show Calls _ _ #[e 61] W _;rw[hg];exact CZ g W (Sl.blk pM)) ?_;intro W' hW'
      exact KL.at_ 62 rfl rfl rfl (RS.below hW') (aI k e _ _ hS hW')
     ·obtain rfl:k=0:=Nat.le_zero.1 (aQ hst 0 9 rfl (by kernel_rfl))
      refine bZ rfl rfl rfl fw ?_
      exact KL.lt 16 rfl rfl ⟨λ_=>(NP.new (hS.1.size)),λe=>absurd e (by decide)⟩ (((RS.below (bN _ _)))) (⟨hS.1.alloc hS.1.size _,λh=>absurd h (Nat.lt_irrefl _)⟩)
     ·obtain rfl:k=0:=Nat.le_zero.1 (aQ hst 0 9 rfl (by kernel_rfl))
      obtain⟨g,cs,hg,hBg,hcs,iy⟩:=((hla 16 rfl (by kernel_rfl)).1 rfl);refine bJ rfl rfl rfl hg rfl iy hcs aD DY ?_
      exact KL.none rfl (RS.row iy hcs ((aF _ _).trans (Eq.trans DY hcs.symm))) (⟨az hS.1 hBg _,λ_=>⟨g,hg,hBg,iy.row _⟩⟩)
    ·intro e7 w7 hS hla
     have adL:=(hla 16 rfl).1 rfl
     have l61:=(hla 61 rfl).2 rfl
     clear hla aI
     obtain⟨OL,hx⟩:=hS
     obtain⟨g16,Te,hBg16,T7⟩:=hx (by decide)
     clear hx adL l61 CZ JY Xd acH
     generalize e7 61=u61' at *
     generalize e7 16=u16' at Te ⊢
     subst Te
     have M7:=M6.below' OL
     have H7:=H6.below' OL
     have S7:=S6.below' OL
     have OF7:=OF6.below OL
     have dm:=bC bK OL
     clear M6 H6 OF6 bK OL S6
     have Db:=λW=>gY _ _ oh DY W
     have yt:=jm _ _ oh DY hSb acC
     have Gc:=bI [S1,T1]
     have Vh:=B8.hc2 hSb acC
     obtain⟨Z1,HZ1⟩:=bD (fK [S1,T1])
     rw[HZ1.out] at Gc Vh yt
     generalize hX4:[S1,T1].flatten=Zj at *
     go_wp2_with ((first
      | (refine ag rfl 96 _ rfl _ rfl S7 aD oh ?_)
      | (refine ag rfl 96 _ rfl _ rfl T7 aD DY ?_)
      | (refine fP rfl (fE (u0:=.agg (ints .u8 S1)) (u1:=.agg (ints .u8 T1)) rfl rfl rfl (Db _)) ?_));(try simp only[nn,Nat.reduceAdd]))
     refine(yt w7.heap.size _ (Sl.blk (aA.new w7 96 (ints .u8 Zj)))).mono ?_
     rintro e w8 ⟨rfl,FY⟩
     have wL:Below w7.heap.size w7 w8:=by
      have h:=bN w7 (.cells (ints .u8 Zj) 96)
      exact bC h FY
     have X8:=aA.new w8 96 (ints .u8 (zeros 16))
     have Kb:=dx wL (az (bN w8 (.cells (ints .u8 (zeros 16)) 96)) dM (ints .u8 Z1)) wL.size
     have Z9:=X8.row (ints .u8 Z1)
     clear FY wL yt Db
     go_wp2_with ((first
      | (refine ae rfl 96 rfl fw ?_)
      | (refine aa rfl 96 _ _ rfl _ rfl rfl X8 (ah _ _) aD Gc ?_;(generalize ((w8.alloc (.cells (ints .u8 (zeros 16)) 96)).setRow w8.heap.size (ints .u8 Z1))=w9 at *);(generalize w8.heap.size=g17 at *)));(try simp only[nn,Nat.reduceAdd]))
     clear X8
     have M9:=M7.below' Kb
     have H9:=H7.below' Kb
     have S9:=S7.below' Kb
     have T9:=T7.below' Kb
     have OF9:=OF7.below Kb
     have mO:=bC dm Kb
     clear M7 H7 S7 T7 OF7 dm Kb
     have acG:=λW (k:Below w.heap.size w W)=>Dm gk gt gb I J Z Z1 4 (by decide) Gc Vh W (hK.below k)
     have hE5:=λW (k:Below w.heap.size w W)=>Dm gk gt gb I J Z Z1 5 (by decide) Gc Vh W (hK.below k)
     have hl4:=yH I J Z 4 Gc
     have hb4:=Gz I J Z 4 Vh
     have hl5:=yH I J Z 5 Gc
     have hb5:=Gz I J Z 5 Vh
     obtain⟨U1,HU1⟩:=bD (eM I J Z 4 Z1)
     obtain⟨V1,HV1⟩:=bD (eM I J Z 5 Z1)
     rw[HU1.out] at hl4 hb4
     rw[HV1.out] at hl5 hb5
     simp only[HU1.out] at acG
     simp only[HV1.out] at hE5
     go_wp2_with fail
     have aI:=oJ (S:=(qQ w9 96 18 19 (ints .u8 U1) (ints .u8 V1))) (λk e W W' h hb=>qQ.lN k e W W' h hb)
     refine aS (n:=113) (T:=?_) [(67,.pointer (some ⟨gk,0,none⟩)),(68,.agg (ints .u8 Z1)),(69,.agg (ints .u8 U1)),(70,.pointer (some ⟨gk,0,none⟩)),(71,.agg (ints .u8 Z1)),(72,.agg (ints .u8 V1))] [18,19] (λs W u=>(s=18->NP w9.heap.size 96 16 W u)/\(s=19->NP w9.heap.size 96 16 W u)) (RS 96 16) [8,9] _ aI (by kernel_rfl) (by kernel_rfl) rfl (by kernel_rfl) (by kernel_rfl) (by kernel_rfl) (λs W W' v hR h=>⟨λe=>(λh hR=>NP.rs h hR) (h.1 e) hR,λe=>(λh hR=>NP.rs h hR) (h.2 e) hR⟩) (qQ.start _ _ _ _ _ _) ?_ ?_ ?_ ?_
     rotate_left
     ·intro e;simp only[tv,nn,Nat.reduceAdd];exact rfl
     ·exact λe=>rfl
     ·intro i o il k qB hst e W hS hla
      rcases i with _|_|_|_|_|_|_|_|_|_|i<;>try cases il
      ·exact kv 67 rfl rfl rfl rfl rfl rfl (RS.refl _ _ _) hS
      ·refine bf rfl rfl rfl rfl (Z9.below' hS.1) aD Gc ?_
       exact KL.at_ 68 rfl rfl rfl (RS.refl _ _ _) hS
      ·exact kc 69 180 rfl rfl rfl func180 (acG W (bC mO hS.1)) rfl rfl rfl (λ_ hW'=>(RS.below hW')) λ_ hW'=>aI k e _ _ hS hW'
      ·exact kv 70 rfl rfl rfl rfl rfl rfl (RS.refl _ _ _) hS
      ·refine bf rfl rfl rfl rfl (Z9.below' hS.1) aD Gc ?_
       exact KL.at_ 71 rfl rfl rfl (RS.refl _ _ _) hS
      ·exact kc 72 180 rfl rfl rfl func180 (hE5 W (bC mO hS.1)) rfl rfl rfl (λ_ hW'=>(RS.below hW')) λ_ hW'=>aI k e _ _ hS hW'
      ·obtain rfl:k=0:=Nat.le_zero.1 (aQ hst 0 8 rfl (by kernel_rfl))
       refine bZ rfl rfl rfl fw ?_
       exact KL.lt 18 rfl rfl ⟨λ_=>(NP.new (hS.1.size)),λe=>absurd e (by decide)⟩ (((RS.below (bN _ _)))) ((qQ.Ws hS rfl rfl))
      ·obtain rfl:k=0:=Nat.le_zero.1 (aQ hst 0 8 rfl (by kernel_rfl))
       refine bZ rfl rfl rfl fw ?_
       exact KL.lt 19 rfl rfl ⟨λe=>absurd e (by decide),λ_=>(NP.new (hS.1.size))⟩ (((RS.below (bN _ _)))) ((qQ.Wq hS rfl rfl))
      ·obtain rfl:k=0:=Nat.le_zero.1 (aQ hst 0 8 rfl (by kernel_rfl))
       obtain⟨g,cs,hg,hBg,hcs,iy⟩:=((hla 18 rfl (by kernel_rfl)).1 rfl);obtain⟨g',cs',hg',TI,hcs',Dk⟩:=((hla 19 rfl (by kernel_rfl)).2 rfl);refine bJ rfl rfl rfl hg rfl iy hcs aD hl4 ?_
       exact KL.none rfl (RS.row iy hcs ((aF _ _).trans (Eq.trans hl4 hcs.symm))) (qQ.ads hS hg hg' hBg TI iy)
      ·obtain rfl:k=1:=Nat.le_antisymm (aQ hst 1 9 rfl (by kernel_rfl)) (gG hst 0 8 rfl (by kernel_rfl))
       obtain⟨g',cs',hg',TI,hcs',Dk⟩:=((hla 19 rfl (by kernel_rfl)).2 rfl);refine bJ rfl rfl rfl hg' rfl Dk hcs' aD hl5 ?_
       exact KL.none rfl (RS.row Dk hcs' ((aF _ _).trans (Eq.trans hl5 hcs'.symm))) (qQ.adr hS hg' Dk)
     ·intro ea wa hS hla
      have l18:=(hla 18 rfl).1 rfl
      have l19:=(hla 19 rfl).2 rfl
      clear hla aI
      obtain⟨FX,g18,g19,aeN,aeM,hgne,hBg18,hBg19,U10,V10⟩:=hS.done
      clear hS l18 l19 acG hE5
      generalize ea 18=u18' at aeN ⊢
      generalize ea 19=u19' at aeM ⊢
      subst aeN
      subst aeM
      have Vn:=M9.below' FX
      have Yx:=H9.below' FX
      have S10:=S9.below' FX
      have T10:=T9.below' FX
      have abQ:=Z9.below' FX
      have abX:=OF9.below FX
      have rU:=bC mO FX
      clear M9 H9 S9 T9 Z9 OF9 mO FX
      obtain⟨UR,DL⟩:∃UR:Value->Value->Array Value,Hid (∀us vs,UR us vs=(iA (.slice ap n cp) us vs (mX m) (mY m)).toArray):=⟨_,aR λ_ _=>rfl⟩
      have hG1:∀us vs u,(UR us vs).setIfInBounds 1 u=UR u vs:=λus vs u=>by rw[DL.out,DL.out];exact FH _ _ _ _ _ _
      have hG2:∀us vs u,(UR us vs).setIfInBounds 2 u=UR us u:=λus vs u=>by rw[DL.out,DL.out];exact FE _ _ _ _ _ _
      have abp:∀us vs,(UR us vs)[1]?=some us:=λus vs=>by rw[DL.out];rfl
      have abo:∀us vs,(UR us vs)[2]?=some vs:=λus vs=>by rw[DL.out];rfl
      have agE:aA wa g13 259 (UR (.slice (some ⟨g0,o0+32*n,none⟩) ul cu) (.slice (some ⟨g0,o0+(32*n+ul),none⟩) vl cv)):=by rw[DL.out,Yu.out];exact Vn
      have Tg:g13<wa.heap.size:=Vn.lt
      have hvl:vl<=16:=by rw[←Hvl.out];unfold UG DJ;omega
      obtain⟨U2,HU2⟩:=bD (dS (mU m) U1 ul)
      obtain⟨V2,HV2⟩:=bD (dS (mV m) V1 vl)
      have lU2:U2.length=ul:=by rw[←HU2.out];exact dJ _ _ _
      have lV2:V2.length=vl:=by rw[←HV2.out];exact dJ _ _ _
      have bU2:B8 U2:=by rw[←HU2.out];exact sM kU hb4 _
      have bV2:B8 V2:=by rw[←HV2.out];exact sM kV hb5 _
      have hxu:∀W,Below w.heap.size w W->aA W g18 96 (ints .u8 U1)->Calls prog 42 #[.slice (some ⟨g0,o0+32*n,none⟩) ul cu,.slice (some ⟨g18,0,none⟩) 16 16] W λe w'=>∃v,e=.returned v/\NS W.heap.size 5 ul (ints .u8 U2) w' v/\Below W.heap.size W w':=λW hb h=>by
       have h1:=uR (some ⟨g0,o0+32*n,none⟩) (some ⟨g18,0,none⟩) cu 16 ul ul (mU m) U1 lU (by omega) dM (by rw[hl4];exact Mi) (.inl rfl) (by omega) (by rw[hl4];decide) kU hb4 W (sU W (hs.below hb)) (Sl.blk h)
       rw[hl4,HU2.out] at h1
       exact h1.mono λe w' h=>⟨_,h.1,⟨_,rfl,Nat.le_refl _,h.2.2⟩,h.2.1⟩
      have hxv:∀W,Below w.heap.size w W->aA W g19 96 (ints .u8 V1)->Calls prog 42 #[.slice (some ⟨g0,o0+(32*n+ul),none⟩) vl cv,.slice (some ⟨g19,0,none⟩) 16 16] W λe w'=>∃v,e=.returned v/\NS W.heap.size 5 vl (ints .u8 V2) w' v/\Below W.heap.size W w':=λW hb h=>by
       have h1:=uR (some ⟨g0,o0+(32*n+ul),none⟩) (some ⟨g19,0,none⟩) cv 16 vl vl (mV m) V1 lV (by omega) dM (by rw[hl5];exact hvl) (.inl rfl) (by omega) (by rw[hl5];decide) kV hb5 W (sV W (hs.below hb)) (Sl.blk h)
       rw[hl5,HV2.out] at h1
       exact h1.mono λe w' h=>⟨_,h.1,⟨_,rfl,Nat.le_refl _,h.2.2⟩,h.2.1⟩
      have aew:=U10.gU Vn (by decide)
      have aev:=V10.gU Vn (by decide)
      go_wp2_with fail
      have aI:=oJ (S:=(SU wa g13 259 UR (.slice (some ⟨g0,o0+32*n,none⟩) ul cu) (.slice (some ⟨g0,o0+(32*n+ul),none⟩) vl cv) 76 80)) (λk e W W' h hb=>SU.lN k e W W' h hb)
      refine aS (n:=113) (T:=?_) [(73,.pointer (some ⟨g13,1,none⟩)),(74,.slice (some ⟨g0,o0+32*n,none⟩) ul cu),(75,.slice (some ⟨g18,0,none⟩) 16 16),(77,.pointer (some ⟨g13,2,none⟩)),(78,.slice (some ⟨g0,o0+(32*n+ul),none⟩) vl cv),(79,.slice (some ⟨g19,0,none⟩) 16 16),(81,.pointer (some ⟨g13,1,none⟩)),(82,.pointer (some ⟨g13,2,none⟩))] [76,80] (λs W u=>(s=76->NS wa.heap.size 5 ul (ints .u8 U2) W u)/\(s=80->NS wa.heap.size 5 vl (ints .u8 V2) W u)) (RB wa.heap.size) [9,11] _ aI (by kernel_rfl) (by kernel_rfl) rfl (by kernel_rfl) (by kernel_rfl) (by kernel_rfl) (λs W W' v hR h=>⟨λe=>(λh hR=>h.rb hR) (h.1 e) hR,λe=>(λh hR=>h.rb hR) (h.2 e) hR⟩) (SU.start agE _) ?_ ?_ ?_ ?_
      rotate_left
      ·intro e;simp only[tv,nn,Nat.reduceAdd];exact rfl
      ·exact λe=>rfl
      ·intro i o il k qB hst e W hS hla
       rcases i with _|_|_|_|_|_|_|_|_|_|_|_|i<;>try cases il
       ·exact kv 73 rfl rfl (by kernel_rfl) rfl rfl rfl (RB.refl _ _) hS
       ·obtain rfl:k=0:=Nat.le_zero.1 (aQ hst 0 9 rfl (by kernel_rfl))
        exact kv 74 rfl rfl (bO rfl rfl underlying23 (((hS.2.1 rfl).cell 1).trans (abp _ _))) rfl rfl rfl (RB.refl _ _) hS
       ·exact kv 75 rfl rfl (by kernel_rfl) rfl rfl rfl (RB.refl _ _) hS
       ·obtain rfl:k=0:=Nat.le_zero.1 (aQ hst 0 9 rfl (by kernel_rfl))
        refine fV (Pv:=λv w'=>NS W.heap.size 5 ul (ints .u8 U2) w' v/\Below W.heap.size W w') 42 rfl rfl rfl func42 (by kernel_rfl) (by kernel_rfl) (hxu W (hS.1.below rU Ti rU.size) (hS.1.blk U10 aew)) ?_;intro v W' hv
        exact KL.lt 76 rfl rfl ⟨λ_=>(hv.1.mono hS.1.size),λe=>absurd e (by decide)⟩ (RB.below hv.2) (SU.Ws hS hv.2)
       ·exact kv 77 rfl rfl (by kernel_rfl) rfl rfl rfl (RB.refl _ _) hS
       ·obtain rfl:k=0:=Nat.le_zero.1 (aQ hst 0 9 rfl (by kernel_rfl))
        exact kv 78 rfl rfl (bO rfl rfl underlying23 (((hS.2.1 rfl).cell 2).trans (abo _ _))) rfl rfl rfl (RB.refl _ _) hS
       ·exact kv 79 rfl rfl (by kernel_rfl) rfl rfl rfl (RB.refl _ _) hS
       ·have hk2:=aQ hst 1 11 rfl (by kernel_rfl);refine fV (Pv:=λv w'=>NS W.heap.size 5 vl (ints .u8 V2) w' v/\Below W.heap.size W w') 42 rfl rfl rfl func42 (by kernel_rfl) (by kernel_rfl) (hxv W (hS.1.below rU Ti rU.size) (hS.1.blk V10 aev)) ?_;intro v W' hv
        exact KL.lt 80 rfl rfl ⟨λe=>absurd e (by decide),λ_=>(hv.1.mono hS.1.size)⟩ (RB.below hv.2) (SU.Wq hS hk2 rfl hv.2)
       ·exact kv 81 rfl rfl (by kernel_rfl) rfl rfl rfl (RB.refl _ _) hS
       ·obtain rfl:k=0:=Nat.le_zero.1 (aQ hst 0 9 rfl (by kernel_rfl))
        obtain⟨gx,hgx,hBx,hKx⟩:=((hla 76 rfl (by kernel_rfl)).1 rfl);refine oF rfl rfl rfl YF rfl (by show e 76=_;exact hgx) (((hS.2.1 rfl).cell 1).trans (abp _ _)) ((hS.2.1 rfl).frozen 1) ?_
        exact KL.none rfl (RB.set _ _ Tg) (SU.st1 hS hgx (hG1 _ _ _))
       ·exact kv 82 rfl rfl (by kernel_rfl) rfl rfl rfl (RB.refl _ _) hS
       ·obtain rfl:k=1:=Nat.le_antisymm (aQ hst 1 11 rfl (by kernel_rfl)) (gG hst 0 9 rfl (by kernel_rfl))
        obtain⟨gx,hgx,hBx,hKx⟩:=((hla 76 rfl (by kernel_rfl)).1 rfl);obtain⟨gy,hgy,hBy,hKy⟩:=((hla 80 rfl (by kernel_rfl)).2 rfl);refine oF rfl rfl rfl YF rfl (by show e 80=_;exact hgy) (((hS.2.2.1 rfl).cell 2).trans (abo _ _)) ((hS.2.2.1 rfl).frozen 2) ?_
        exact KL.none rfl (RB.set _ _ Tg) (SU.st2 hS hgx hgy (hG2 _ _ _))
      ·intro eb wb hS hla
       have l76:=(hla 76 rfl).1 rfl
       have l80:=(hla 80 rfl).2 rfl
       clear hla aI
       obtain⟨abt,-,-,hMb⟩:=hS
       have PE:=hMb rfl
       obtain⟨gu,hgu,hBgu,KU⟩:=l76
       obtain⟨gv,hgv,hBgv,KV⟩:=l80
       rw[hgu,hgv] at PE
       clear hMb hxu hxv agE
       generalize eb 76=u76' at hgu ⊢
       generalize eb 80=u80' at hgv ⊢
       subst hgu
       subst hgv
       have UW:=abt.blk Yx (Yx.gU Vn (by decide))
       have S11:=abt.blk S10 (S10.gU Vn (by decide))
       have T11:=abt.blk T10 (T10.gU Vn (by decide))
       have Nj:=abt.blk abQ (abQ.gU Vn (by decide))
       have agD:=abX.ch abt (abX.KA Vn (by decide))
       have Ka:=abt.below rU Ti rU.size
       obtain⟨UT,acj⟩:=bD (UR (.slice (some ⟨gu,0,none⟩) ul ul) (.slice (some ⟨gv,0,none⟩) vl vl))
       have Ic:Hid ((iA (.slice ap n cp) (.slice (some ⟨gu,0,none⟩) ul ul) (.slice (some ⟨gv,0,none⟩) vl vl) (mX m) (mY m)).toArray=UT):=aR (by rw[←acj.out,DL.out])
       rw[acj.out] at PE
       have hsz2:UT.size=35:=by rw[←Ic.out];exact pE _ _ _ lX lY
       clear Yx S10 T10 abQ abX rU abt Vn U10 V10 acj DL hG1 hG2 abp abo aew aev hMx hMy Yu htl
       obtain⟨F2,HF2⟩:=bD (jd (cP (eE I J Z) Z1 (mF m)) n)
       obtain⟨SY,HSY⟩:=bD (jc (λi=>bY (eE I J Z) Z1 i (aW (eE I J Z) (mF m) i)) n)
       obtain⟨Yl,Yt⟩:∃TL,Hid (La I J Z U2 V2=TL):=⟨_,aR rfl⟩
       have bF1:B8 F1:=by rw[←HF1.out];exact Kl (f:=λi=>(aW (eE I J Z) (mF m) i,aX (eE I J Z) (mF m) i)) (λi=>⟨BM (E:=eE I J Z) (λj i x h=>fT I J Z j i h) kF i,Ib (E:=eE I J Z) (λj i x h=>fT I J Z j i h) kF i⟩) n
       have hbh:∀W,Below w.heap.size w W->dD W w.heap.size 269 32 .u8 (.slice ap n cp) n F1->Calls prog 181 #[.agg UT,.pointer (some ⟨gk,0,none⟩),.agg (ints .u8 Z1)] W λe w'=>e=.returned (.agg (ints .u8 SY))/\dD w' w.heap.size 269 32 .u8 (.slice ap n cp) n F2/\Below w.heap.size w w'/\mW 269 W w':=λW hb ho=>by
        have h:=UD gk gt gb I J Z w W hb hK (.slice ap n cp) (.slice (some ⟨gu,0,none⟩) ul ul) (.slice (some ⟨gv,0,none⟩) vl vl) n F1 (mX m) (mY m) Z1 Gc Vh ho bF1 aaT
        rw[←HF1.out,(BH _ _ _ _).1,(BH _ _ _ _).2,Ic.out,HF2.out,HSY.out] at h
        exact h
       have aei:∀W,Below w.heap.size w W->aA W gu 5 (ints .u8 U2)->aA W gv 5 (ints .u8 V2)->Calls prog 179 #[.agg UT,.pointer (some ⟨gk,0,none⟩)] W λe w'=>e=.returned (.agg (ints .u8 Yl))/\Below W.heap.size W w':=λW hb h1 h2=>by
        have h:=QG gk gt gb I J Z (.slice ap n cp) U2 V2 (mX m) (mY m) (by rw[lU2];exact Mi) (by rw[lV2];omega) bU2 bV2 (some ⟨gu,0,none⟩) (some ⟨gv,0,none⟩) ul vl W (Sl.blk h1) (Sl.blk h2) (hK.below hb)
        rw[lU2,lV2,Ic.out,Yt.out] at h
        exact h
       have afz:SY.length=16:=by rw[←HSY.out];exact kR _ _
       have afA:B8 SY:=by rw[←HSY.out];exact rF (λi=>GU (λj i x h=>fT I J Z j i h) Vh (BM (λj i x h=>fT I J Z j i h) kF i) i) n
       have Zb:Yl.length=16:=by rw[←Yt.out];exact KZ _ _ _ _ _
       have Zc:B8 Yl:=by rw[←Yt.out];exact IJ _ _ _ bU2 bV2
       have acD:=bI [SY,Yl]
       have hQb:=B8.hc2 afA Zc
       have abe:=λW=>gY _ _ afz Zb W
       have aaM:=jm _ _ afz Zb afA Zc
       obtain⟨Q1,PH⟩:∃P,Hid (fK [SY,Yl]=P):=⟨_,aR rfl⟩
       have hn6:(ints .u8 [SY,Yl].flatten).size≠16:=by rw[aF];simp;omega
       rw[PH.out] at acD hQb aaM
       have aeI:=Ka.size
       generalize hX6:[SY,Yl].flatten=fl6 at *
       go_wp2_with fail
       have aI:=oJ (S:=(SA w wb 269 32 n (.slice ap n cp) F1 F2 96 20 (ints .u8 Q1))) (λk e W W' h hb=>SA.lN k e W W' h hb)
       refine aS (n:=113) (T:=?_) [(83,.agg UT),(84,.pointer (some ⟨gk,0,none⟩)),(85,.agg (ints .u8 Z1)),(86,.agg (ints .u8 SY)),(87,.agg UT),(88,.pointer (some ⟨gk,0,none⟩)),(89,.agg (ints .u8 Yl)),(91,.agg (ints .u8 Q1))] [20,90] (λs W u=>(s=20->NP wb.heap.size 96 16 W u)/\(s=90->NS wb.heap.size 96 2 (ints .u8 fl6) W u)) (RA 96 16) [3,10] _ aI (by kernel_rfl) (by kernel_rfl) rfl (by kernel_rfl) (by kernel_rfl) (by kernel_rfl) (λs W W' v hR h=>⟨λe=>(λh hR=>NP.ra h hR) (h.1 e) hR,λe=>(λh hR=>NS.ra h hR hn6) (h.2 e) hR⟩) (SA.start Ka agD _) ?_ ?_ ?_ ?_
       rotate_left
       ·intro e;simp only[tv,nn,Nat.reduceAdd];exact rfl
       ·exact λe=>rfl
       ·intro i o il k qB hst e W hS hla
        rcases i with _|_|_|_|_|_|_|_|_|_|_|i<;>try cases il
        ·exact kv 83 rfl rfl (qj rfl rfl (hS.2.1.blk PE (by decide)) qW hsz2) rfl rfl rfl (RA.refl _ _ _) hS
        ·exact kv 84 rfl rfl rfl rfl rfl rfl (RA.refl _ _ _) hS
        ·refine bf rfl rfl rfl rfl (hS.2.1.blk Nj (by decide)) aD Gc ?_
         exact KL.at_ 85 rfl rfl rfl (RA.refl _ _ _) hS
        ·obtain rfl:k=0:=Nat.le_zero.1 (aQ hst 0 3 rfl (by kernel_rfl))
         refine dY (R:=λv w'=>v=.agg (ints .u8 SY)/\dD w' w.heap.size 269 32 .u8 (.slice ap n cp) n F2/\Below w.heap.size w w'/\mW 269 W w') 181 rfl rfl rfl func181 (by kernel_rfl) (by kernel_rfl) ((hbh W hS.1 hS.own0).mono λe w' h=>⟨_,h.1,rfl,h.2⟩) ?_;rintro v W' ⟨rfl,ho',hb',hc'⟩
         exact KL.at_ 86 rfl rfl rfl (RA.cht hc' (by decide)) (SA.turn hS ho' hb' hc')
        ·exact kv 87 rfl rfl (qj rfl rfl (hS.2.1.blk PE (by decide)) qW hsz2) rfl rfl rfl (RA.refl _ _ _) hS
        ·exact kv 88 rfl rfl rfl rfl rfl rfl (RA.refl _ _ _) hS
        ·exact kc 89 179 rfl rfl rfl func179 (aei W hS.1 (hS.2.1.blk KU (by decide)) (hS.2.1.blk KV (by decide))) rfl rfl rfl (λ_ hW'=>(RA.below hW')) λ_ hW'=>aI k e _ _ hS hW'
        ·obtain rfl:k=1:=Nat.le_antisymm (aQ hst 1 10 rfl (by kernel_rfl)) (gG hst 0 3 rfl (by kernel_rfl))
         refine cz rfl rfl (fE (u0:=.agg (ints .u8 SY)) (u1:=.agg (ints .u8 Yl)) rfl rfl rfl (abe W)) ?_
         exact KL.lt 90 rfl rfl ⟨λe=>absurd e (by decide),λ_=>(⟨W.heap.size,rfl,hS.2.1.size,aA.new _ _ _⟩)⟩ (RA.below (bN _ _)) (aI _ e _ _ hS (bN _ _))
        ·obtain⟨g,hg,hgB,pM⟩:=((hla 90 rfl (by kernel_rfl)).2 rfl);refine aV 177 rfl rfl rfl func177 (by kernel_rfl) (by kernel_rfl) (by show Calls _ _ #[e 90] W _;rw[hg];exact aaM g W (Sl.blk pM)) ?_;intro W' hW'
         exact KL.at_ 91 rfl rfl rfl (RA.below hW') (aI k e _ _ hS hW')
        ·have hk2:=aQ hst 1 10 rfl (by kernel_rfl);refine bZ rfl rfl rfl fw ?_
         exact KL.lt 20 rfl rfl ⟨λ_=>(NP.new hS.2.1.size),λe=>absurd e (by decide)⟩ (RA.below (bN _ _)) (SA.adC hS hk2 (bN _ _))
        ·obtain rfl:k=1:=Nat.le_antisymm (aQ hst 1 10 rfl (by kernel_rfl)) (gG hst 0 3 rfl (by kernel_rfl))
         obtain⟨g,cs,hg,hBg,hcs,iy⟩:=((hla 20 rfl (by kernel_rfl)).1 rfl);refine bJ rfl rfl rfl hg rfl iy hcs aD acD ?_
         exact KL.none rfl (RA.row iy hcs ((aF _ _).trans (Eq.trans acD hcs.symm))) (SA.set hS aeI hg hBg iy (by decide))
       ·intro ec wc hS hla
        have l20:=(hla 20 rfl).1 rfl
        have l90:=(hla 90 rfl).2 rfl
        clear hla aI
        obtain⟨yz,JX,abW,g20,aeL,hBg20,Q12⟩:=hS.done
        clear hS l20 l90 hbh aei aaM abe hn6
        generalize ec 90=u90' at *
        generalize ec 20=u20' at aeL ⊢
        subst aeL
        have Ym:=JX.blk PE (by decide)
        have zG:=JX.blk UW (by decide)
        have acT:=JX.blk S11 (by decide)
        have T12:=JX.blk T11 (by decide)
        have abZ:=JX.blk KU (by decide)
        have abY:=JX.blk KV (by decide)
        clear PE UW S11 T11 Nj KU KV agD Ka JX
        have hE7:=λW (k:Below w.heap.size w W)=>Dm gk gt gb I J Z T1 b (by omega) DY acC W (hK.below k)
        have aeD:=yH I J Z b DY
        have yA:=Gz I J Z b acC
        obtain⟨MB,HMB⟩:∃MA,Hid (eM I J Z b T1=MA):=⟨_,aR rfl⟩
        rw[HMB.out] at aeD yA
        simp only[HMB.out] at hE7
        have afi:=λW=>gY _ _ oh aeD W
        have aaL:=jm _ _ oh aeD hSb yA
        have hYl:=bI [S1,MB]
        have hYb:=B8.hc2 hSb yA
        obtain⟨Y2,HY2⟩:∃T1,Hid (fK [S1,MB]=T1):=⟨_,aR rfl⟩
        rw[HY2.out] at hYl hYb aaL
        generalize hX7:[S1,MB].flatten=fl7 at *
        obtain⟨MG3,aci⟩:∃UT,Hid ((iA (.slice ap n cp) (.slice (some ⟨gu,0,none⟩) ul ul) (.slice (some ⟨gv,0,none⟩) vl vl) (mX m) Y2).toArray=UT):=⟨_,aR rfl⟩
        have hM3:∀W,aA W g13 259 UT->aA W g13 259 (([Value.slice ap n cp,Value.slice (some ⟨gu,0,none⟩) ul ul,Value.slice (some ⟨gv,0,none⟩) vl vl]++vals .u8 (mX m))++vals .u8 (mY m)++[]).toArray:=λW h=>by rw[←Ic.out] at h;rw[List.append_nil,List.append_assoc];exact h
        have afI:∀W,aA W g13 259 (([Value.slice ap n cp,Value.slice (some ⟨gu,0,none⟩) ul ul,Value.slice (some ⟨gv,0,none⟩) vl vl]++vals .u8 (mX m))++vals .u8 Y2++[]).toArray->aA W g13 259 MG3:=λW h=>by rw[←aci.out];rw[List.append_nil,List.append_assoc] at h;exact h
        have aeQ:g13<wc.heap.size:=Ym.lt
        have hoff:19=([Value.slice ap n cp,Value.slice (some ⟨gu,0,none⟩) ul ul,Value.slice (some ⟨gv,0,none⟩) vl vl]++vals .u8 (mX m)).length:=by simp[bg,lX]
        have hvY:=(bg .u8 (mY m)).trans lY
        have aee:=(bg .u8 Y2).trans hYl
        go_wp2_with fail
        have aI:=oJ (S:=(uN wc g13 259 MG3)) (λk e W W' h hb=>uN.lN k e W W' h hb)
        refine aS (n:=113) (T:=?_) [(92,.agg (ints .u8 S1)),(93,.pointer (some ⟨gk,0,none⟩)),(94,.int .i64 (b:Int)),(95,.agg (ints .u8 T1)),(96,.agg (ints .u8 MB)),(98,.agg (ints .u8 Y2)),(99,.pointer (some ⟨g13,19,none⟩))] [97] (λs W u=>(s=97->NS wc.heap.size 96 2 (ints .u8 fl7) W u)) (RB wc.heap.size) [8] _ aI (by kernel_rfl) (by kernel_rfl) rfl (by kernel_rfl) (by kernel_rfl) (by kernel_rfl) (λs W W' v hR h=>λe=>(λh hR=>h.rb hR) (h e) hR) (uN.start _ _ _ _ _) ?_ ?_ ?_ ?_
        rotate_left
        ·intro e;simp only[tv,nn,Nat.reduceAdd];exact rfl
        ·exact λe=>rfl
        ·intro i o il k qB hst e W hS hla
         rcases i with _|_|_|_|_|_|_|_|_|i<;>try cases il
         ·obtain rfl:k=0:=Nat.le_zero.1 (aQ hst 0 8 rfl (by kernel_rfl))
          refine bf rfl rfl rfl rfl (acT.below' hS.z) aD oh ?_
          exact KL.at_ 92 rfl rfl rfl (RB.refl _ _) hS
         ·exact kv 93 rfl rfl rfl rfl rfl rfl (RB.refl _ _) hS
         ·exact kv 94 rfl rfl rfl rfl rfl rfl (RB.refl _ _) hS
         ·obtain rfl:k=0:=Nat.le_zero.1 (aQ hst 0 8 rfl (by kernel_rfl))
          refine bf rfl rfl rfl rfl (T12.below' hS.z) aD DY ?_
          exact KL.at_ 95 rfl rfl rfl (RB.refl _ _) hS
         ·obtain rfl:k=0:=Nat.le_zero.1 (aQ hst 0 8 rfl (by kernel_rfl))
          exact kc 96 180 rfl rfl rfl func180 (hE7 W (dx yz hS.z yz.size)) rfl rfl rfl (λ_ hW'=>(RB.below hW')) λ_ hW'=>aI 0 e _ _ hS hW'
         ·obtain rfl:k=0:=Nat.le_zero.1 (aQ hst 0 8 rfl (by kernel_rfl))
          refine cz rfl rfl (fE (u0:=.agg (ints .u8 S1)) (u1:=.agg (ints .u8 MB)) rfl rfl rfl (afi W)) ?_
          exact KL.lt 97 rfl rfl (λ_=>(⟨W.heap.size,rfl,hS.z.size,aA.new _ _ _⟩)) (RB.below (bN _ _)) (aI _ e _ _ hS (bN _ _))
         ·obtain rfl:k=0:=Nat.le_zero.1 (aQ hst 0 8 rfl (by kernel_rfl))
          obtain⟨g,hg,hgB,pM⟩:=((hla 97 rfl (by kernel_rfl)) rfl);refine aV 177 rfl rfl rfl func177 (by kernel_rfl) (by kernel_rfl) (by show Calls _ _ #[e 97] W _;rw[hg];exact aaL g W (Sl.blk pM)) ?_;intro W' hW'
          exact KL.at_ 98 rfl rfl rfl (RB.below hW') (aI _ e _ _ hS hW')
         ·exact kv 99 rfl rfl (by kernel_rfl) rfl rfl rfl (RB.refl _ _) hS
         ·obtain rfl:k=0:=Nat.le_zero.1 (aQ hst 0 8 rfl (by kernel_rfl))
          refine eO (vs:=vals .u8 Y2) rfl rfl 96 _ _ rfl 19 rfl rfl ((hM3 _ Ym).below' hS.z) hoff aD hvY aee (dX _ _) ?_;intro W' hB' hF'
          exact KL.none rfl (RB.far hF' aeQ) (uN.mk hS (afI _ hB') hF')
        ·intro ed wd hS hla
         have l97:=(hla 97 rfl) rfl
         clear hla aI
         obtain⟨acU,Gh⟩:=hS.done
         clear hS l97 aaL afi hE7 hM3 afI hoff hvY aee
         generalize ed 97=u97' at *
         have H13:=Gh.blk zG (zG.gU Ym (by decide))
         have T13:=Gh.blk T12 (T12.gU Ym (by decide))
         have Q13:=Gh.blk Q12 (Q12.gU Ym (by decide))
         have agG:=Gh.blk abZ (abZ.gU Ym (by decide))
         have agF:=Gh.blk abY (abY.gU Ym (by decide))
         have agC:=abW.ch Gh (abW.KA Ym (by decide))
         have De:=Gh.below yz Ti yz.size
         clear zG T12 Q12 abZ abY abW yz Gh acT Ym Ic
         have hE8:=λW (k:Below w.heap.size w W)=>rq gk gt gb I J Z Y2 0 b (by decide) (by omega) hYl hYb W (hK.below k)
         have hl8:=iZ I J Z 0 b hYl
         have FY:=fT I J Z 0 b hYb
         obtain⟨EB,HEB⟩:∃EA,Hid (eE I J Z 0 b Y2=EA):=⟨_,aR rfl⟩
         rw[HEB.out] at hl8 FY
         simp only[HEB.out] at hE8
         have afh:=λW=>Kz _ _ _ _ DY hH acD hl8 W
         have aaK:=Lv _ _ _ _ DY hH acD hl8 acC Dh hQb FY
         have Vi:=bI [T1,H,Q1,EB]
         obtain⟨X2,HX2⟩:∃S1,Hid (fK [T1,H,Q1,EB]=S1):=⟨_,aR rfl⟩
         rw[HX2.out] at Vi aaK
         generalize hX8:[T1,H,Q1,EB].flatten=fl8 at *
         obtain⟨MG4,ach⟩:∃UT,Hid ((iA (.slice ap n cp) (.slice (some ⟨gu,0,none⟩) ul ul) (.slice (some ⟨gv,0,none⟩) vl vl) X2 Y2).toArray=UT):=⟨_,aR rfl⟩
         have hM4:∀W,aA W g13 259 MG3->aA W g13 259 ([Value.slice ap n cp,Value.slice (some ⟨gu,0,none⟩) ul ul,Value.slice (some ⟨gv,0,none⟩) vl vl]++vals .u8 (mX m)++vals .u8 Y2).toArray:=λW h=>by rw[←aci.out] at h;rw[List.append_assoc];exact h
         have afH:∀W,aA W g13 259 ([Value.slice ap n cp,Value.slice (some ⟨gu,0,none⟩) ul ul,Value.slice (some ⟨gv,0,none⟩) vl vl]++vals .u8 X2++vals .u8 Y2).toArray->aA W g13 259 MG4:=λW h=>by rw[←ach.out];rw[List.append_assoc] at h;exact h
         have hMy3:∀W,aA W g13 259 MG3->W.rangeAt g13 19 (vals .u8 Y2):=λW h=>by rw[←aci.out] at h;exact RO lX h
         have aeP:g13<wd.heap.size:=acU.lt
         have YX:3=([Value.slice ap n cp,Value.slice (some ⟨gu,0,none⟩) ul ul,Value.slice (some ⟨gv,0,none⟩) vl vl]:List Value).length:=rfl
         have hvX:=(bg .u8 (mX m)).trans lX
         have aef:=(bg .u8 X2).trans Vi
         go_wp2_with fail
         have aI:=oJ (S:=(uN wd g13 259 MG4)) (λk e W W' h hb=>uN.lN k e W W' h hb)
         refine aS (n:=113) (T:=?_) [(100,.agg (ints .u8 T1)),(101,.agg (ints .u8 H)),(102,.agg (ints .u8 Q1)),(103,.pointer (some ⟨gk,0,none⟩)),(104,.int .i64 (b:Int)),(105,.pointer (some ⟨g13,19,none⟩)),(106,.agg (ints .u8 Y2)),(107,.agg (ints .u8 EB)),(109,.agg (ints .u8 X2)),(110,.pointer (some ⟨g13,3,none⟩))] [108] (λs W u=>(s=108->NS wd.heap.size 96 4 (ints .u8 fl8) W u)) (RB wd.heap.size) [11] _ aI (by kernel_rfl) (by kernel_rfl) rfl (by kernel_rfl) (by kernel_rfl) (by kernel_rfl) (λs W W' v hR h=>λe=>(λh hR=>h.rb hR) (h e) hR) (uN.start _ _ _ _ _) ?_ ?_ ?_ ?_
         rotate_left
         ·intro e;simp only[tv,nn,Nat.reduceAdd];exact rfl
         ·exact λe=>rfl
         ·intro i o il k qB hst e W hS hla
          rcases i with _|_|_|_|_|_|_|_|_|_|_|_|i<;>try cases il
          ·obtain rfl:k=0:=Nat.le_zero.1 (aQ hst 0 11 rfl (by kernel_rfl))
           refine bf rfl rfl rfl rfl (T13.below' hS.z) aD DY ?_
           exact KL.at_ 100 rfl rfl rfl (RB.refl _ _) hS
          ·obtain rfl:k=0:=Nat.le_zero.1 (aQ hst 0 11 rfl (by kernel_rfl))
           refine bf rfl rfl rfl rfl (H13.below' hS.z) aD hH ?_
           exact KL.at_ 101 rfl rfl rfl (RB.refl _ _) hS
          ·obtain rfl:k=0:=Nat.le_zero.1 (aQ hst 0 11 rfl (by kernel_rfl))
           refine bf rfl rfl rfl rfl (Q13.below' hS.z) aD acD ?_
           exact KL.at_ 102 rfl rfl rfl (RB.refl _ _) hS
          ·exact kv 103 rfl rfl rfl rfl rfl rfl (RB.refl _ _) hS
          ·exact kv 104 rfl rfl rfl rfl rfl rfl (RB.refl _ _) hS
          ·exact kv 105 rfl rfl (by kernel_rfl) rfl rfl rfl (RB.refl _ _) hS
          ·obtain rfl:k=0:=Nat.le_zero.1 (aQ hst 0 11 rfl (by kernel_rfl))
           exact kv 106 rfl rfl (dB rfl rfl (hMy3 W (acU.below' hS.z)) aD hYl) rfl rfl rfl (RB.refl _ _) hS
          ·obtain rfl:k=0:=Nat.le_zero.1 (aQ hst 0 11 rfl (by kernel_rfl))
           exact kc 107 180 rfl rfl rfl func180 (hE8 W (dx De hS.z De.size)) rfl rfl rfl (λ_ hW'=>(RB.below hW')) λ_ hW'=>aI 0 e _ _ hS hW'
          ·obtain rfl:k=0:=Nat.le_zero.1 (aQ hst 0 11 rfl (by kernel_rfl))
           refine cz rfl rfl (Cs (u0:=.agg (ints .u8 T1)) (u1:=.agg (ints .u8 H)) (u2:=.agg (ints .u8 Q1)) (u3:=.agg (ints .u8 EB)) rfl rfl rfl rfl rfl (afh W)) ?_
           exact KL.lt 108 rfl rfl (λ_=>(⟨W.heap.size,rfl,hS.z.size,aA.new _ _ _⟩)) (RB.below (bN _ _)) (aI _ e _ _ hS (bN _ _))
          ·obtain rfl:k=0:=Nat.le_zero.1 (aQ hst 0 11 rfl (by kernel_rfl))
           obtain⟨g,hg,hgB,pM⟩:=((hla 108 rfl (by kernel_rfl)) rfl);refine aV 177 rfl rfl rfl func177 (by kernel_rfl) (by kernel_rfl) (by show Calls _ _ #[e 108] W _;rw[hg];exact aaK g W (Sl.blk pM)) ?_;intro W' hW'
           exact KL.at_ 109 rfl rfl rfl (RB.below hW') (aI _ e _ _ hS hW')
          ·exact kv 110 rfl rfl (by kernel_rfl) rfl rfl rfl (RB.refl _ _) hS
          ·obtain rfl:k=0:=Nat.le_zero.1 (aQ hst 0 11 rfl (by kernel_rfl))
           refine eO (vs:=vals .u8 X2) rfl rfl 96 _ _ rfl 3 rfl rfl ((hM4 _ acU).below' hS.z) YX aD hvX aef (dX _ _) ?_;intro W' hB' hF'
           exact KL.none rfl (RB.far hF' aeP) (uN.mk hS (afH _ hB') hF')
         ·intro ee we hS hla
          have l108:=(hla 108 rfl) rfl
          clear hla aI
          obtain⟨M14,Xv⟩:=hS.done
          clear hS l108 aaK afh hE8 hM4 afH YX hvX aef
          generalize ee 108=u108' at *
          have KU14:=Xv.blk agG (agG.gU acU (by decide))
          have KV14:=Xv.blk agF (agF.gU acU (by decide))
          have agB:=agC.ch Xv (agC.KA acU (by decide))
          have Tx:=Xv.below De Ti De.size
          obtain⟨_,_,hvv,SF,_,_⟩:=agB.mZ
          cases hvv
          have JL:MG4.size=35:=by rw[←ach.out];exact pE _ _ _ Vi hYl
          have hF2l:F2.length=32*n:=by have h1:=agB.len;omega
          have hby:=XU n F2 U2 V2 X2 Y2 hF2l aaT Vi hYl (by rw[lU2];omega) (by rw[lV2];omega) ap gu gv 0 0 cp ul vl we SF (Sl.blk KU14) (Sl.blk KV14)
          rw[lU2,lV2,ach.out] at hby
          go_wp2_with (refine sP rfl _ _ rfl g13 rfl M14 qW JL ?_;(try simp only[nn,Nat.reduceAdd]))
          refine hby.mono ?_
          rintro e wf ⟨r,rfl,ov,hb15⟩
          have zu:=ov.mono (B':=w.heap.size) Tx.size
          have abg:=bC Tx hb15
          have HRR:F2++U2++V2++X2++Y2=R:=by
           rw[←HR.out,Pf (eE I J Z) (eM I J Z) (La I J Z) H a b m Hn.out (s:=S1) (t:=T1) (z:=Z1) (u:=U2) (v:=V2) (q:=Q1) (y:=Y2) (by rw[HSX.out,HTL.out,HP.out,HEA.out,Qi.out]) (by rw[HMA.out,HT1.out]) HZ1.out (by rw[HU1.out,lU,HU2.out]) (by rw[HV1.out,lV,HV2.out]) (by rw[HSY.out,Yt.out,PH.out]) (by rw[HMB.out,HY2.out]),HF2.out,HEB.out,HX2.out]
          rw[HRR] at zu
          go_wp2_with fail
          refine bodyPost_ret (v:=.tuple #[r,.int .i64 0]) ?_ rfl ⟨_,rfl,zu,abg⟩
          simp[results,results169]
end
end Go.Proofs.YtaiffkajkbiidaaGreatDoor
