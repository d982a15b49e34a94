/- What this claim leans on, part 23: laws of the model, and what functions of the program compute. No condition but what each law states. -/
import Derived.Test.YtaiffkajkbiidaaGreatDoorQ21
import Derived.Test.YtaiffkajkbiidaaGreatDoorQ22
namespace Go.Proofs.YtaiffkajkbiidaaGreatDoor
set_option linter.unusedSimpArgs false
set_option linter.unusedVariables false
set_option linter.unusedSectionVars false
set_option maxRecDepth 100000
set_option maxHeartbeats 40000000
open Go.Proofs.Tryz
open Tryz
section
open Go.RowKit
def fK (bs:List (List Nat)):List Nat:=dR (zeros 16) bs
theorem bI (bs:List (List Nat)):(fK bs).length=16:=fC _ _ (aH 16)
def OJ (h t b:List Nat):List Nat:=UW.Ep h (UW.jF t b)
def eU (h t m:List Nat):List Nat:=fK [aU (m.take 16),OJ h t (m.drop 16)]
def og (ks:List (List Nat))(l one two b:List Nat):List Nat:=Nn (dW 255) ks (fK [one,two,l]) b
def jy (F:List Nat->List Nat)(ks:List (List Nat))(h l t m:List Nat):List Nat :=
 fK [F (eU h t m),OJ h t (og ks l (eU h t m) (F (eU h t m)) (m.drop 16))]++og ks l (eU h t m) (F (eU h t m)) (m.drop 16)
structure Eb (w:World)(gc ga gt gb gk ck:Nat)(ks:List (List Nat))(h l:List Nat):Prop where
 b:aA w gc 98 (hcA (.pointer (some ⟨ga,0,none⟩)) h l).toArray
 k:Ag w ga gt gb gk ck (dW 255) ks
 ok:lI (dW 255) ks
 hl:h.length=16
 hb:∀x∈h,x<256
 ll:l.length=16
 lb:∀x∈l,x<256
theorem Eb.below {w w':World}{gc ga gt gb gk ck:Nat}{ks:List (List Nat)}{h l:List Nat}(i:Eb w gc ga gt gb gk ck ks h l)(hb:Below w.heap.size w w'):Eb w' gc ga gt gb gk ck ks h l:=⟨i.b.below' hb,i.k.below hb,i.ok,i.hl,i.hb,i.ll,i.lb⟩
theorem Eb.rh {w:World}{gc ga gt gb gk ck:Nat}{ks:List (List Nat)}{h l:List Nat}(i:Eb w gc ga gt gb gk ck ks h l):w.rangeAt gc 1 (vals .u8 h):=i.b.part rfl
theorem Eb.rl {w:World}{gc ga gt gb gk ck:Nat}{ks:List (List Nat)}{h l:List Nat}(i:Eb w gc ga gt gb gk ck ks h l):w.rangeAt gc 17 (vals .u8 l):=by
 have h1:=i.b
 unfold hcA at h1
 rw[←List.append_nil ([Value.pointer (some ⟨ga,0,none⟩)]++vals .u8 h++vals .u8 l)] at h1
 exact h1.part (by rw[List.length_append,bg,i.hl];rfl)
theorem Eb.c0 {w:World}{gc ga gt gb gk ck:Nat}{ks:List (List Nat)}{h l:List Nat}(i:Eb w gc ga gt gb gk ck ks h l):w.cell? ⟨gc,0,none⟩=some (.pointer (some ⟨ga,0,none⟩)):=i.b.cell 0
theorem Tq (f:Nat)(fn:Func)(hff:prog.funcs[f]?=some fn)(hfn:(fn.name== "runtime.NumGoroutine")=false)(aeU:fn.body.isNone=false)(F:List Nat->List Nat)(pc:Nat)(gc ga gt gb gk ck:Nat)(ks:List (List Nat))(h l t m:List Nat)(ht:∀x∈t,x<256)(htl:t.length<2^29)(hm:∀x∈m,x<256)(h16:16<=m.length)(gq:m.length<208)(a1 a2:Option Addr)(c1 c2:Nat)(hc1:t.length<=c1)(hc2:m.length<=c2)(w:World)(hs1:Sl w a1 .u8 t)(hs2:Sl w a2 .u8 m)(hC:Eb w gc ga gt gb gk ck ks h l)
  (Zf:∀x,(F x).length=16) (TH:∀x,∀y∈F x,y<256) (hdo:∀x W,x.length=16->(∀y∈x,y<256)->Below w.heap.size w W->Calls prog f #[.agg (ints .u8 x),.pointer (some ⟨pc,0,none⟩)] W λe w'=>e=.returned (.agg (ints .u8 (F x)))/\Below W.heap.size W w') :
  Calls prog 143 #[.pointer (some ⟨gc,0,none⟩),.slice a1 t.length c1,.slice a2 m.length c2,.func (.func f) #[] #[.pointer (some ⟨pc,0,none⟩)]] w λe w'=>∃v,e=.returned (.tuple #[v,.int .i64 0])/\Own w' w.heap.size 5 .u8 v (jy F ks h l t m)/\Below w.heap.size w w':=by
 replace hff:=aR hff
 replace hfn:=aR hfn
 replace aeU:=aR aeU
 replace hdo:=aR hdo
 obtain⟨K,Hk⟩:=bD (m.length-16)
 have hk:(m.length:Int)-16=(K:Int):=by rw[←Hk.out];omega
 have ho1:=λW (h:Sl W a2 .u8 m)=>uD 0 16 m (by omega) gq a2 c2 hc2 W h
 have ho2:=λW (h:Sl W a2 .u8 m)=>uD 16 K m (by rw[←Hk.out];omega) gq a2 c2 hc2 W h
 rw[List.drop_zero,FL0,Yy] at ho1
 have Tv:(m.drop 16).length=K:=by rw[List.length_drop];exact Hk.out
 rw[List.take_of_length_le (Nat.le_of_eq Tv),Yy] at ho2
 have hcv:=λW=>nR K W
 generalize FL K=fk at *
 have aeB:(m.take 16).length=16:=by rw[List.length_take];omega
 have hlfb:∀x∈m.take 16,x<256:=λx hx=>hm x (List.mem_of_mem_take hx)
 have abf:∀x∈m.drop 16,x<256:=λx hx=>hm x (List.mem_of_mem_drop hx)
 have H1:Hid (eU h t m=fK [aU (m.take 16),OJ h t (m.drop 16)]):=aR rfl
 have H2:Hid (jy F ks h l t m=fK [F (eU h t m),OJ h t (og ks l (eU h t m) (F (eU h t m)) (m.drop 16))]++og ks l (eU h t m) (F (eU h t m)) (m.drop 16)):=aR rfl
 generalize eU h t m=one at *
 generalize m.take 16=lf at *
 generalize m.drop 16=bl at *
 have hvs:=λW ad cd (b:List Nat) (hb:∀x∈b,x<256) (hbl:b.length<2^29) (hn:ad=none->cd=0) (s1:Sl W a1 .u8 t) (s2:Sl W ad .u8 b)=>UW.TA h t b hC.hl hC.hb htl hbl ht hb a1 ad c1 cd hn W s1 s2
 have hvl:∀b,(OJ h t b).length=16:=λb=>UW.tQ (aH _) _
 have hvb:∀b,∀x∈OJ h t b,x<256:=λb=>UW.CJ (dh 16 (by decide)) _
 obtain⟨T,Yr⟩:=bD (t.length)
 obtain⟨N,HN⟩:=bD (m.length)
 rw[Yr.out] at htl hc1 hvs ⊢
 rw[HN.out] at h16 gq hc2 ho1 ho2 hk ⊢
 have aed:∀W ad cd (b:List Nat),(∀x∈b,x<256)->b.length<2^29->(ad=none->cd=0)->Sl W a1 .u8 t->Sl W ad .u8 b->Calls prog 147 #[.agg (ints .u8 h),.slice a1 T c1,.slice ad b.length cd] W λe w'=>e=.returned (.agg (ints .u8 (OJ h t b)))/\Below W.heap.size W w':=hvs
 clear hvs Hk
 have hd0:decide ((N:Int)<16)=false:=by simp;omega
 have hw:IntKind.i64.wrap (K:Int)=(K:Int):=IntWalk.i64_in _ (by omega)
 obtain⟨EE,ZC⟩:=bD (jy F ks h l t m)
 rw[ZC.out] at H2 ⊢
 clear ZC
 go_enter func143,ntmps143
 go_wp2_with fail
 refine(ho1 w hs2).mono ?_
 clear ho1
 rintro e w1 ⟨v1,rfl,O1,hb1⟩
 obtain⟨al,cl,rfl,Sf,-,-⟩:=O1.mZ
 rw[aeB]
 go_wp2_with fail
 refine(ho2 w1 (hs2.below hb1)).mono ?_
 clear ho2
 rintro e w2 ⟨v2,rfl,O2,hb2⟩
 obtain⟨ab,cb,rfl,Sb,hcb,-,hnb⟩:=O2.mZ
 rw[Tv] at hcb ⊢
 have Sf2:=Sf.below hb2
 have aB:=bC hb1 hb2
 have aaJ:=hs1.below aB
 have C2:=hC.below aB
 clear Sf O1 hb1 hb2 O2 hs2 hs1
 go_wp2_with fail
 have afp:=hvl bl
 have afq:=hvb bl
 have hv1:=λW (s1:Sl W a1 .u8 t) (s2:Sl W ab .u8 bl)=>aed W ab cb bl abf (by omega) hnb s1 s2
 rw[Tv] at hv1
 generalize OJ h t bl=V1 at *
 have hBl:=bG lf
 have hBb:=dN hlfb
 have hbk:=λW (s:Sl W al .u8 lf)=>fB al cl lf W s
 rw[aeB] at hbk
 generalize aU lf=L1 at *
 have hol:=bI [L1,V1]
 have uo:=λg W (s:Sl W (some ⟨g,0,none⟩) .u8 [L1,V1].flatten)=>yx g 2 [L1,V1] (dz hBl afp) (dz hBb afq) (show 2<2^31 by decide) W s
 change ∀g W,_->Calls prog 146 #[.slice (some ⟨g,0,none⟩) 2 2] W λe w'=>e=.returned (.agg (ints .u8 (fK [L1,V1])))/\Below W.heap.size W w' at uo
 have FT:∀x∈fK [L1,V1],x<256:=dE _ _ (dh 16 (by decide)) (dz hBb afq)
 rw[←H1.out] at uo hol FT
 clear H1
 obtain⟨Zk,acf⟩:∃Zk,Hid ([L1,V1].flatten=Zk):=⟨_,aR rfl⟩
 have hfl1:Zk.length=32:=by rw[←acf.out];simp;omega
 have Dc:=λW=>gY L1 V1 hBl afp W
 rw[acf.out] at uo
 simp only[acf.out] at Dc uo
 have h16n:h≠[]:=λe=>by have:=hC.hl;rw[e] at this;simp at this
 have aI:=oJ (S:=(λk e W=>Below w2.heap.size w2 W/\(0<k->∃g,e 14=.pointer (some ⟨g,0,none⟩)/\w2.heap.size<=g/\aA W g 96 (ints .u8 (one))))) (λk e W W' h hb=>⟨dx h.1 hb h.1.size,λhk=>let ⟨g,h1,h2,h3⟩:=h.2 hk;⟨g,h1,h2,h3.below' hb⟩⟩)
 refine aS (n:=84) (T:=?_) [(39,.slice al 16 cl),(40,.agg (ints .u8 L1)),(41,.pointer (some ⟨gc,0,none⟩)),(42,.pointer (some ⟨gc,0,none⟩)),(43,.pointer (some ⟨gc,1,none⟩)),(44,.agg (ints .u8 h)),(45,.slice a1 T c1),(46,.slice ab K cb),(47,.agg (ints .u8 V1)),(49,.agg (ints .u8 one))] [14,48] (λs W u=>(s=14->NP w2.heap.size 96 16 W u)/\(s=48->NS w2.heap.size 96 2 (ints .u8 Zk) W u)) (RS 96 16) [12] _ aI (by kernel_rfl) (by kernel_rfl) rfl (by kernel_rfl) (by kernel_rfl) (by kernel_rfl) (λs W W' v hR h=>⟨λe=>(λh hR=>NP.rs h hR) (h.1 e) hR,λe=>(λh hR=>h.rs hR (λhc=>by rw[aF,hfl1] at hc;exact absurd hc.2 (by decide))) (h.2 e) hR⟩) (⟨dQ _,λh=>absurd h (Nat.lt_irrefl _)⟩) ?_ ?_ ?_ ?_
 rotate_left
 ·intro e;simp only[tv,nn,Nat.reduceAdd];exact rfl
 ·exact λe=>rfl
 ·intro i o il k qB hst e W hS hla
  rcases i with _|_|_|_|_|_|_|_|_|_|_|_|_|i<;>try cases il
  ·exact kv 39 rfl rfl rfl rfl rfl rfl (RS.refl _ _ _) hS
  ·exact kc 40 38 rfl rfl rfl func38 (hbk W (Sf2.below hS.1)) rfl rfl rfl (λ_ hW'=>(RS.below hW')) λ_ hW'=>aI k e _ _ hS hW'
  ·exact kv 41 rfl rfl rfl rfl rfl rfl (RS.refl _ _ _) hS
  ·exact kv 42 rfl rfl (by kernel_rfl) rfl rfl rfl (RS.refl _ _ _) hS
  ·exact kv 43 rfl rfl (by kernel_rfl) rfl rfl rfl (RS.refl _ _ _) hS
  ·exact kv 44 rfl rfl (dB rfl rfl (C2.below hS.1).rh aD hC.hl) rfl rfl rfl (RS.refl _ _ _) hS
  ·exact kv 45 rfl rfl rfl rfl rfl rfl (RS.refl _ _ _) hS
  ·exact kv 46 rfl rfl rfl rfl rfl rfl (RS.refl _ _ _) hS
  ·exact kc 47 147 rfl rfl rfl func147 (hv1 W (aaJ.below hS.1) (Sb.below hS.1)) rfl rfl rfl (λ_ hW'=>(RS.below hW')) λ_ hW'=>aI k e _ _ hS hW'
  ·refine cz rfl rfl (fE (u0:=.agg (ints .u8 L1)) (u1:=.agg (ints .u8 V1)) rfl rfl rfl (Dc W)) ?_
   exact KL.lt 48 rfl rfl ⟨λe=>absurd e (by decide),λ_=>(⟨W.heap.size,rfl,hS.1.size,aA.new _ _ _⟩)⟩ (RS.below (bN _ _)) (aI k e _ _ hS (bN _ _))
  ·obtain⟨g,hg,hgB,pM⟩:=((hla 48 rfl (by kernel_rfl)).2 rfl);refine aV 146 rfl rfl rfl func146 (by kernel_rfl) (by kernel_rfl) (by show Calls _ _ #[e 48] W _;rw[hg];exact uo g W (Sl.blk pM)) ?_;intro W' hW'
   exact KL.at_ 49 rfl rfl rfl (RS.below hW') (aI k e _ _ hS hW')
  ·obtain rfl:k=0:=Nat.le_zero.1 (aQ hst 0 12 rfl (by kernel_rfl))
   refine bZ rfl rfl rfl fw ?_
   exact KL.lt 14 rfl rfl ⟨λ_=>(NP.new (hS.1.size)),λe=>absurd e (by decide)⟩ (((RS.below (bN _ _)))) (⟨hS.1.alloc hS.1.size _,λh=>absurd h (Nat.lt_irrefl _)⟩)
  ·obtain rfl:k=0:=Nat.le_zero.1 (aQ hst 0 12 rfl (by kernel_rfl))
   obtain⟨g,cs,hg,hBg,hcs,iy⟩:=((hla 14 rfl (by kernel_rfl)).1 rfl);refine bJ rfl rfl rfl hg rfl iy hcs aD hol ?_
   exact KL.none rfl (RS.row iy hcs ((aF _ _).trans (Eq.trans hol hcs.symm))) (⟨az hS.1 hBg _,λ_=>⟨g,hg,hBg,iy.row _⟩⟩)
 ·intro e W hS hla
  have l14:=(hla 14 rfl).1 rfl
  have l48:=(hla 48 rfl).2 rfl
  clear hla aI
  obtain⟨hbelW,hx⟩:=hS
  obtain⟨g14,Tf,hBg,Z14⟩:=hx (by decide)
  clear hx l14 l48 hv1 uo Dc hbk
  generalize e 14=u14 at Tf ⊢
  subst Tf
  have C3:=C2.below hbelW
  have FR:=aaJ.below hbelW
  have Zw:=Sb.below hbelW
  have aG:=bC aB hbelW
  clear C2 aaJ Sb aB Sf2
  have wJ:=aR (hdo.out one W hol FT aG)
  go_wp2_with (refine ag rfl 96 _ rfl _ rfl Z14 aD hol ?_;(try simp only[nn,Nat.reduceAdd]))
  rw[enters hff.out hfn.out aeU.out]
  refine wJ.out.mono ?_
  clear wJ hdo
  rintro e3 w3 ⟨rfl,hb3⟩
  have uk:=Zf one
  have YV:=TH one
  generalize F one=two at *
  have C4:=(C3.below hb3)
  have OC:=FR.below hb3
  have Sb4:=Zw.below hb3
  have Z5:=(Z14.below' hb3).alloc (.cells (ints .u8 (zeros 16)) 96)
  have hl14:=(Z14.below' hb3).lt
  have Y0:=aA.new w3 96 (ints .u8 (zeros 16))
  have aY:=bC aG hb3
  have hb4:=az (bN w3 (.cells (ints .u8 (zeros 16)) 96)) dM (ints .u8 two)
  have C5:=C4.below hb4
  have aeo:=OC.below hb4
  have Sb5:=Sb4.below hb4
  have Z6:=Z5.aM (show g14≠w3.heap.size by omega) (ints .u8 two)
  have Y1:=Y0.row (ints .u8 two)
  have bA:=bC aY hb4
  clear C3 C4 FR OC Zw Sb4 Z5 Z14 aG aY hb3 hb4 hl14
  go_wp2_with ((first|(refine ae rfl 96 rfl fw ?_)|(refine aa rfl 96 _ _ rfl w3.heap.size rfl rfl Y0 (ah _ _) aD uk ?_));(try simp only[nn,Nat.reduceAdd]))
  clear Y0
  generalize ((w3.alloc (.cells (ints .u8 (zeros 16)) 96)).setRow w3.heap.size (ints .u8 two))=w5 at *
  obtain⟨g15,agN⟩:=bD (w3.heap.size)
  rw[agN.out] at Y1 ⊢
  clear agN
  generalize e 48=u48
  have hol2:=bI [one,two,l]
  have h3l:∀x∈[one,two,l],x.length=16:=λx hx=>by
   simp only[List.mem_cons,List.not_mem_nil,or_false] at hx
   rcases hx with rfl|rfl|rfl
   ·exact hol
   ·exact uk
   ·exact hC.ll
  have h3b:∀x∈[one,two,l],∀y∈x,y<256:=λx hx=>by
   simp only[List.mem_cons,List.not_mem_nil,or_false] at hx
   rcases hx with rfl|rfl|rfl
   ·exact FT
   ·exact YV
   ·exact hC.lb
  have hob2:∀x∈fK [one,two,l],x<256:=dE _ _ (dh 16 (by decide)) h3b
  have um:∀g W,Sl W (some ⟨g,0,none⟩) .u8 [one,two,l].flatten->Calls prog 146 #[.slice (some ⟨g,0,none⟩) 3 3] W λe w'=>e=.returned (.agg (ints .u8 (fK [one,two,l])))/\Below W.heap.size W w':=λg W s=>yx g 3 [one,two,l] h3l h3b (show 3<2^31 by decide) W s
  have wK:=λW=>Ut one two l hol uk hC.ll W
  have Xd:[one,two,l].flatten.length=48:=by simp[hol,uk,hC.ll]
  obtain⟨XC,Hfl2⟩:∃XC,Hid ([one,two,l].flatten=XC):=⟨_,aR rfl⟩
  simp only[Hfl2.out] at um wK Xd
  have Xw:Hid (og ks l one two bl=Nn (dW 255) ks (fK [one,two,l]) bl):=aR rfl
  have adT:=λW (s:Sl W ab .u8 bl) (i:Ag W ga gt gb gk ck (dW 255) ks)=>Ef ga gt gb gk ck (dW 255) ks (fK [one,two,l]) bl hC.ok hol2 hob2 abf (by omega) ab cb (by omega) W s i
  rw[Tv,←Xw.out] at adT
  have rV:(og ks l one two bl).length=K:=by rw[Xw.out];unfold Nn;rw[gN,Tv]
  have Tz:∀x∈og ks l one two bl,x<256:=by rw[Xw.out];unfold Nn;exact vH (λq=>Ir hC.ok _ _) abf
  clear Xw
  generalize og ks l one two bl=b2 at *
  generalize fK [one,two,l]=st at *
  have hz5:=bA.size
  have aI:=oJ (S:=(λ_ _ W=>Below w5.heap.size w5 W)) (λ_ _ _ _ h hb=>bC h hb)
  refine jY (n:=84) (vs:=[54,55,56,57,58,59,60,61,62,63,65,66,69]) [(54,.pointer (some ⟨gc,0,none⟩)),(55,.pointer (some ⟨gc,0,none⟩)),(56,.pointer (some ⟨gc,0,none⟩)),(57,.pointer (some ⟨ga,0,none⟩)),(58,.agg (ints .u8 one)),(59,.agg (ints .u8 two)),(60,.pointer (some ⟨gc,0,none⟩)),(61,.pointer (some ⟨gc,0,none⟩)),(62,.pointer (some ⟨gc,17,none⟩)),(63,.agg (ints .u8 l)),(65,.agg (ints .u8 st)),(66,.slice ab K cb),(69,.int .i64 0)] [64,67,53,68,12] (λs W u=>(s=64->NS w5.heap.size 96 3 (ints .u8 XC) W u)/\(s=67->(∃v,u=.tuple #[v,.int .i64 0]/\Own W w.heap.size 5 .u8 v b2))/\(s=53->(∃v,u=.tuple #[v,.int .i64 0]/\Own W w.heap.size 5 .u8 v b2))/\(s=68->Own W w.heap.size 5 .u8 u b2)/\(s=12->Own W w.heap.size 5 .u8 u b2)) (λW W'=>Below W.heap.size W W') [] (λ_ _ W=>Below w5.heap.size w5 W) (λe=>#[.pointer (some ⟨gc,0,none⟩),.slice a1 T c1,.slice a2 N c2,Value.func (Fn.func f) #[] #[.pointer (some ⟨pc,0,none⟩)],undef,undef,undef,undef,.slice none 0 0,.int .i64 0,.slice al 16 cl,.bool true,e 12,.bool true,.pointer (some ⟨g14,0,none⟩),.pointer (some ⟨g15,0,none⟩),undef,.bool false,.pointer (some ⟨gc,0,none⟩),.bool false,.bool false,.slice a2 N c2,.int .i64 ↑N,.bool false,Value.tuple #[.slice al 16 cl,.bool true],.slice a2 N c2,Value.tuple #[.slice al 16 cl,.bool true],.slice al 16 cl,.bool true,Value.tuple #[.slice ab K cb,.bool true],.slice a2 N c2,.slice a2 N c2,.int .i64 ↑N,.int .i64 ↑K,Value.float FloatKind.f64 fk,Value.complex FloatKind.f64 4625196817309499392 fk,Value.tuple #[.slice ab K cb,.bool true],.slice ab K cb,.bool true,.slice al 16 cl,.agg (ints .u8 L1),.pointer (some ⟨gc,0,none⟩),.pointer (some ⟨gc,0,none⟩),.pointer (some ⟨gc,1,none⟩),.agg (ints .u8 h),.slice a1 T c1,.slice ab K cb,.agg (ints .u8 V1),u48,.agg (ints .u8 one),Value.func (Fn.func f) #[] #[.pointer (some ⟨pc,0,none⟩)],.agg (ints .u8 one),.agg (ints .u8 two),e 53,.pointer (some ⟨gc,0,none⟩),.pointer (some ⟨gc,0,none⟩),.pointer (some ⟨gc,0,none⟩),.pointer (some ⟨ga,0,none⟩),.agg (ints .u8 one),.agg (ints .u8 two),.pointer (some ⟨gc,0,none⟩),.pointer (some ⟨gc,0,none⟩),.pointer (some ⟨gc,17,none⟩),.agg (ints .u8 l),e 64,.agg (ints .u8 st),.slice ab K cb,e 67,e 68,.int .i64 0,undef,undef,undef,undef,undef,undef,undef,undef,undef,undef,undef,undef,undef,undef]) [12] [12] (λe=>#[.pointer (some ⟨gc,0,none⟩),.slice a1 T c1,.slice a2 N c2,Value.func (Fn.func f) #[] #[.pointer (some ⟨pc,0,none⟩)],undef,undef,undef,undef,.slice none 0 0,.int .i64 0,.slice al 16 cl,.bool true,.slice ab K cb,.bool true,.pointer (some ⟨g14,0,none⟩),.pointer (some ⟨g15,0,none⟩),undef,.bool false,.pointer (some ⟨gc,0,none⟩),.bool false,.bool false,.slice a2 N c2,.int .i64 ↑N,.bool false,Value.tuple #[.slice al 16 cl,.bool true],.slice a2 N c2,Value.tuple #[.slice al 16 cl,.bool true],.slice al 16 cl,.bool true,Value.tuple #[.slice ab K cb,.bool true],.slice a2 N c2,.slice a2 N c2,.int .i64 ↑N,.int .i64 ↑K,Value.float FloatKind.f64 fk,Value.complex FloatKind.f64 4625196817309499392 fk,Value.tuple #[.slice ab K cb,.bool true],.slice ab K cb,.bool true,.slice al 16 cl,.agg (ints .u8 L1),.pointer (some ⟨gc,0,none⟩),.pointer (some ⟨gc,0,none⟩),.pointer (some ⟨gc,1,none⟩),.agg (ints .u8 h),.slice a1 T c1,.slice ab K cb,.agg (ints .u8 V1),u48,.agg (ints .u8 one),Value.func (Fn.func f) #[] #[.pointer (some ⟨pc,0,none⟩)],.agg (ints .u8 one),.agg (ints .u8 two),e 53,.pointer (some ⟨gc,0,none⟩),.pointer (some ⟨gc,0,none⟩),.pointer (some ⟨gc,0,none⟩),.pointer (some ⟨ga,0,none⟩),.agg (ints .u8 one),.agg (ints .u8 two),.pointer (some ⟨gc,0,none⟩),.pointer (some ⟨gc,0,none⟩),.pointer (some ⟨gc,17,none⟩),.agg (ints .u8 l),e 64,.agg (ints .u8 st),.slice ab K cb,e 67,e 68,.int .i64 0,undef,undef,undef,undef,undef,undef,undef,undef,undef,undef,undef,undef,undef,undef]) (by kernel_rfl) (by kernel_rfl) rfl (by kernel_rfl) rfl (by kernel_rfl) (by kernel_rfl) (λe=>by kernel_rfl) (λe=>rfl) (λe=>by kernel_rfl) (λs W W' v hR h=>⟨λe=>(λh hR=>h.below hR) (h.1 e) hR,λe=>(λ⟨v,h,ho⟩ hR=>⟨v,h,ho.below hR⟩) (h.2.1 e) hR,λe=>(λ⟨v,h,ho⟩ hR=>⟨v,h,ho.below hR⟩) (h.2.2.1 e) hR,λe=>(λh hR=>h.below hR) (h.2.2.2.1 e) hR,λe=>(λh hR=>h.below hR) (h.2.2.2.2 e) hR⟩) (dQ _) ?_ ?_
  ·intro i o il k qB hst e W hS hla
   rcases i with _|_|_|_|_|_|_|_|_|_|_|_|_|_|_|_|_|_|i<;>try cases il
   ·exact af rfl rfl rfl (KO.at_ 54 rfl rfl rfl fo hS)
   ·exact af rfl rfl (by kernel_rfl) (KO.at_ 55 rfl rfl rfl fo hS)
   ·exact af rfl rfl (by kernel_rfl) (KO.at_ 56 rfl rfl rfl fo hS)
   ·exact af rfl rfl (dH rfl rfl underlying86 (C5.below hS).c0) (KO.at_ 57 rfl rfl rfl fo hS)
   ·refine bf rfl rfl rfl rfl (Z6.below' hS) aD hol ?_
    exact KO.at_ 58 rfl rfl rfl fo hS
   ·refine bf rfl rfl rfl rfl (Y1.below' hS) aD uk ?_
    exact KO.at_ 59 rfl rfl rfl fo hS
   ·exact af rfl rfl rfl (KO.at_ 60 rfl rfl rfl fo hS)
   ·exact af rfl rfl (by kernel_rfl) (KO.at_ 61 rfl rfl rfl fo hS)
   ·exact af rfl rfl (by kernel_rfl) (KO.at_ 62 rfl rfl rfl fo hS)
   ·exact af rfl rfl (dB rfl rfl (C5.below hS).rl aD hC.ll) (KO.at_ 63 rfl rfl rfl fo hS)
   ·refine cz rfl rfl (Lh (u0:=.agg (ints .u8 one)) (u1:=.agg (ints .u8 two)) (u2:=.agg (ints .u8 l)) rfl rfl rfl rfl (wK W)) ?_
    exact KO.lt 64 rfl rfl ⟨λ_=>(⟨W.heap.size,rfl,(show Below w5.heap.size w5 W from hS).size,aA.new _ _ _⟩),λe=>absurd e (by decide),λe=>absurd e (by decide),λe=>absurd e (by decide),λe=>absurd e (by decide)⟩ ((bN _ _)) (aI k e _ _ hS (bN _ _))
   ·obtain⟨g,hg,hgB,pM⟩:=((hla 64 rfl (by kernel_rfl)).1 rfl);refine aV 146 rfl rfl rfl func146 (by kernel_rfl) (by kernel_rfl) (by show Calls _ _ #[e 64] W _;rw[hg];exact um g W (Sl.blk pM)) ?_;intro W' hW'
    exact KO.at_ 65 rfl rfl rfl (hW') (aI k e _ _ hS hW')
   ·exact af rfl rfl rfl (KO.at_ 66 rfl rfl rfl fo hS)
   ·refine fV (Pv:=λu W'=>∃v,u=.tuple #[v,.int .i64 0]/\Own W' W.heap.size 5 .u8 v b2/\Below W.heap.size W W') 148 rfl rfl rfl func148 (by kernel_rfl) (by kernel_rfl) ((adT W (Sb5.below hS) (C5.below hS).k).mono λe w' ⟨v,he,ho,hb⟩=>⟨_,he,v,rfl,ho,hb⟩) ?_;rintro u W' ⟨v,rfl,hO,hW'⟩
    exact KO.lt 67 rfl rfl ⟨λe=>absurd e (by decide),λ_=>(⟨v,rfl,hO.mono (Nat.le_trans hz5 (show Below w5.heap.size w5 W from hS).size)⟩),λe=>absurd e (by decide),λe=>absurd e (by decide),λe=>absurd e (by decide)⟩ (hW') (aI k e _ _ hS hW')
   ·exact af (v:=e 67) rfl rfl rfl (KO.lt 53 rfl rfl ⟨λe=>absurd e (by decide),λe=>absurd e (by decide),λ_=>(((hla 67 rfl (by kernel_rfl)).2.1 rfl)),λe=>absurd e (by decide),λe=>absurd e (by decide)⟩ fo hS)
   ·obtain⟨v,h,ho⟩:=((hla 53 rfl (by kernel_rfl)).2.2.1 rfl);refine af (v:=v) rfl rfl (eD rfl h rfl) ?_
    exact KO.lt 68 rfl rfl ⟨λe=>absurd e (by decide),λe=>absurd e (by decide),λe=>absurd e (by decide),λ_=>(ho),λe=>absurd e (by decide)⟩ fo (hS)
   ·obtain⟨v,h,ho⟩:=((hla 53 rfl (by kernel_rfl)).2.2.1 rfl);refine af (v:=.int .i64 0) rfl rfl (eD rfl h rfl) ?_
    exact KO.at_ 69 rfl rfl rfl fo (hS)
   ·exact af (v:=e 68) rfl rfl rfl (KO.lt 12 rfl rfl ⟨λe=>absurd e (by decide),λe=>absurd e (by decide),λe=>absurd e (by decide),λe=>absurd e (by decide),λ_=>(((hla 68 rfl (by kernel_rfl)).2.2.2.1 rfl))⟩ fo hS)
  ·intro e6 w6 hS hla
   have l64:=(hla 64 rfl).1 rfl
   have l67:=(hla 67 rfl).2.1 rfl
   have l53:=(hla 53 rfl).2.2.1 rfl
   have l68:=(hla 68 rfl).2.2.2.1 rfl
   have aaz:=(hla 12 rfl).2.2.2.2 rfl
   clear hla aI
   have hSW:Below w5.heap.size w5 w6:=hS
   obtain⟨a3,c3,aeg,acT,hc3,-,SS⟩:=aaz.mZ
   generalize e6 12=u12 at aeg aaz ⊢
   subst aeg
   clear l64 l67 l53 l68 adT um wK h3l h3b
   generalize e6 64=u64
   generalize e6 67=u67
   generalize e6 53=u53
   generalize e6 68=u68
   have C6:=C5.below hSW
   have aen:=aeo.below hSW
   have Y2:=Y1.below' hSW
   have bK:=dx bA hSW hz5
   rw[rV] at hc3 ⊢
   clear C5 aeo Sb5 Z6 Y1 bA hSW aaz
   have hv2:=λW (s1:Sl W a1 .u8 t) (s2:Sl W a3 .u8 b2)=>aed W a3 c3 b2 Tz (by omega) SS s1 s2
   rw[rV] at hv2
   have abn:=hvl b2
   have hV2b:=hvb b2
   generalize OJ h t b2=V2 at *
   have aaO:=bI [two,V2]
   have yt:∀g W,Sl W (some ⟨g,0,none⟩) .u8 [two,V2].flatten->Calls prog 146 #[.slice (some ⟨g,0,none⟩) 2 2] W λe w'=>e=.returned (.agg (ints .u8 (fK [two,V2])))/\Below W.heap.size W w':=λg W s=>yx g 2 [two,V2] (dz uk abn) (dz YV hV2b) (show 2<2^31 by decide) W s
   have Db:=λW=>gY two V2 uk abn W
   have aeS:[two,V2].flatten.length=32:=by simp[uk,abn]
   obtain⟨Zj,Hfl4⟩:∃Zj,Hid ([two,V2].flatten=Zj):=⟨_,aR rfl⟩
   simp only[Hfl4.out] at yt Db aeS
   generalize fK [two,V2]=fs at *
   go_wp2_with fail
   have aI:=oJ (S:=(λk e W=>Below w6.heap.size w6 W/\(0<k->∃g,e 16=.pointer (some ⟨g,0,none⟩)/\w6.heap.size<=g/\aA W g 96 (ints .u8 (fs))))) (λk e W W' h hb=>⟨dx h.1 hb h.1.size,λhk=>let ⟨g,h1,h2,h3⟩:=h.2 hk;⟨g,h1,h2,h3.below' hb⟩⟩)
   refine aS (n:=84) (T:=?_) [(70,.agg (ints .u8 two)),(71,.pointer (some ⟨gc,0,none⟩)),(72,.pointer (some ⟨gc,0,none⟩)),(73,.pointer (some ⟨gc,1,none⟩)),(74,.agg (ints .u8 h)),(75,.slice a1 T c1),(76,.slice a3 K c3),(77,.agg (ints .u8 V2)),(79,.agg (ints .u8 fs))] [16,78] (λs W u=>(s=16->NP w6.heap.size 96 16 W u)/\(s=78->NS w6.heap.size 96 2 (ints .u8 Zj) W u)) (RS 96 16) [11] _ aI (by kernel_rfl) (by kernel_rfl) rfl (by kernel_rfl) (by kernel_rfl) (by kernel_rfl) (λs W W' v hR h=>⟨λe=>(λh hR=>NP.rs h hR) (h.1 e) hR,λe=>(λh hR=>h.rs hR (λhc=>by rw[aF,aeS] at hc;exact absurd hc.2 (by decide))) (h.2 e) hR⟩) (⟨dQ _,λh=>absurd h (Nat.lt_irrefl _)⟩) ?_ ?_ ?_ ?_
   rotate_left
   ·intro e;simp only[tv,nn,Nat.reduceAdd];exact rfl
   ·exact λe=>rfl
   ·intro i o il k qB hst e W hS hla
    rcases i with _|_|_|_|_|_|_|_|_|_|_|_|i<;>try cases il
    ·refine bf rfl rfl rfl rfl (Y2.below' hS.1) aD uk ?_
     exact KL.at_ 70 rfl rfl rfl (RS.refl _ _ _) hS
    ·exact kv 71 rfl rfl rfl rfl rfl rfl (RS.refl _ _ _) hS
    ·exact kv 72 rfl rfl (by kernel_rfl) rfl rfl rfl (RS.refl _ _ _) hS
    ·exact kv 73 rfl rfl (by kernel_rfl) rfl rfl rfl (RS.refl _ _ _) hS
    ·exact kv 74 rfl rfl (dB rfl rfl (C6.below hS.1).rh aD hC.hl) rfl rfl rfl (RS.refl _ _ _) hS
    ·exact kv 75 rfl rfl rfl rfl rfl rfl (RS.refl _ _ _) hS
    ·exact kv 76 rfl rfl rfl rfl rfl rfl (RS.refl _ _ _) hS
    ·exact kc 77 147 rfl rfl rfl func147 (hv2 W (aen.below hS.1) (acT.below hS.1)) rfl rfl rfl (λ_ hW'=>(RS.below hW')) λ_ hW'=>aI k e _ _ hS hW'
    ·refine cz rfl rfl (fE (u0:=.agg (ints .u8 two)) (u1:=.agg (ints .u8 V2)) rfl rfl rfl (Db W)) ?_
     exact KL.lt 78 rfl rfl ⟨λe=>absurd e (by decide),λ_=>(⟨W.heap.size,rfl,hS.1.size,aA.new _ _ _⟩)⟩ (RS.below (bN _ _)) (aI k e _ _ hS (bN _ _))
    ·obtain⟨g,hg,hgB,pM⟩:=((hla 78 rfl (by kernel_rfl)).2 rfl);refine aV 146 rfl rfl rfl func146 (by kernel_rfl) (by kernel_rfl) (by show Calls _ _ #[e 78] W _;rw[hg];exact yt g W (Sl.blk pM)) ?_;intro W' hW'
     exact KL.at_ 79 rfl rfl rfl (RS.below hW') (aI k e _ _ hS hW')
    ·obtain rfl:k=0:=Nat.le_zero.1 (aQ hst 0 11 rfl (by kernel_rfl))
     refine bZ rfl rfl rfl fw ?_
     exact KL.lt 16 rfl rfl ⟨λ_=>(NP.new (hS.1.size)),λe=>absurd e (by decide)⟩ (((RS.below (bN _ _)))) (⟨hS.1.alloc hS.1.size _,λh=>absurd h (Nat.lt_irrefl _)⟩)
    ·obtain rfl:k=0:=Nat.le_zero.1 (aQ hst 0 11 rfl (by kernel_rfl))
     obtain⟨g,cs,hg,hBg,hcs,iy⟩:=((hla 16 rfl (by kernel_rfl)).1 rfl);refine bJ rfl rfl rfl hg rfl iy hcs aD aaO ?_
     exact KL.none rfl (RS.row iy hcs ((aF _ _).trans (Eq.trans aaO hcs.symm))) (⟨az hS.1 hBg _,λ_=>⟨g,hg,hBg,iy.row _⟩⟩)
   ·intro e7 w7 hS hla
    have adL:=(hla 16 rfl).1 rfl
    have l78:=(hla 78 rfl).2 rfl
    clear hla aI
    obtain⟨hbelW,hx⟩:=hS
    obtain⟨g16,Te,hBg,Z16⟩:=hx (by decide)
    clear hx adL l78 hv2 yt Db
    generalize e7 16=u16 at Te ⊢
    subst Te
    generalize e7 78=u78
    have S13:=acT.below hbelW
    have dm:=bC bK hbelW
    clear C6 aen Y2 bK hbelW acT
    have WR:=dm.size
    go_wp2_with fail
    refine(yN (some ⟨w7.heap.size,0,none⟩) 2 [fs,b2] (show 2<2^31 by omega) (by simp;omega) _ ?_).mono ?_
    ·have FY:=bN w7 (.cells [Value.slice (some ⟨g16,0,none⟩) 16 16,.slice a3 K c3].toArray 23)
     have h3:=YJ ((Sl.blk Z16).below FY) (S13.below FY) (c1:=16) (c2:=c3) (λh=>by cases h) SS
     rw[aaO,rV] at h3
     exact Cn (aA.new w7 23 [Value.slice (some ⟨g16,0,none⟩) 16 16,.slice a3 K c3].toArray) h3
    ·rintro e8 w8 ⟨v3,rfl,O8,FY⟩
     have gL:=dx (dm.alloc WR (.cells #[Value.slice (some ⟨g16,0,none⟩) 16 16,.slice a3 K c3] 23)) FY (by rw[World.size_alloc];omega)
     have O9:=O8.mono (B':=w.heap.size) (by rw[World.size_alloc];omega)
     have HE:[fs,b2].flatten=EE:=by rw[H2.out];simp
     rw[HE] at O9
     go_wp2_with fail
     exact bodyPost_ret (v:=.tuple #[v3,.int .i64 0]) (by simp[results,results143]) rfl ⟨v3,rfl,O9,gL⟩
end
section
open Go.RowKit
theorem Tn (pc gc ga gt gb gk ck:Nat)(ks:List (List Nat))(h l b:List Nat)(hb:b.length=16)(hbb:∀x∈b,x<256)(w:World)(hP:aA w pc 74 #[.pointer (some ⟨gc,0,none⟩)])(hC:Eb w gc ga gt gb gk ck ks h l) :
  Calls prog 145 #[.agg (ints .u8 b),.pointer (some ⟨pc,0,none⟩)] w λe w'=>e=.returned (.agg (ints .u8 (jA (dW 255) ks b)))/\Below w.heap.size w w':=by
 have A0:=(aA.new w 96 (ints .u8 b)).alloc (.cells (ints .u8 (zeros 16)) 96)
 have A1:=aA.new (w.alloc (.cells (ints .u8 b) 96)) 96 (ints .u8 (zeros 16))
 rw[World.size_alloc] at A1
 have hbel:=(bN w (.cells (ints .u8 b) 96)).alloc (by simp) (.cells (ints .u8 (zeros 16)) 96)
 have C1:=hC.below hbel
 have P1:=hP.below' hbel
 have he:=λW i=>mQ ga gt gb gk ck (dW 255) ks b hC.ok hb hbb W i
 have hel:(jA (dW 255) ks b).length=16:=iY _ _ _
 generalize jA (dW 255) ks b=y at *
 go_enter func145,ntmps145
 go_wp2_with (refine ae rfl 96 rfl fw ?_;(try simp only[nn,Nat.reduceAdd]))
 generalize ((w.alloc (.cells (ints .u8 b) 96)).alloc (.cells (ints .u8 (zeros 16)) 96))=w0 at *
 refine wp_region_still_tail 5 (by kernel_rfl) (by kernel_rfl) ?_
 simp only[List.take_succ_cons,List.take_zero,List.drop_succ_cons,List.drop_zero]
 have c0:=C1.c0
 have p0:w0.cell? ⟨pc,0,none⟩=some (.pointer (some ⟨gc,0,none⟩)):=P1.cell 0
 repeat (first|(refine nu rfl rfl rfl A0.drew aD hb ?_;(try simp only[nn,Nat.reduceAdd]))|(refine mD rfl (dH rfl rfl underlying86 c0) ?_;(try simp only[nn,Nat.reduceAdd]))|(refine mD rfl (dH rfl rfl underlying74 p0) ?_;(try simp only[nn,Nat.reduceAdd]))|still_step)
 refine wpStill_nil ?_
 change wpList _ _ _ _ _ w0.drew
 have D1:=A1.drew
 have aK:=hbel.drew
 have he1:=he w0.drew (C1.below (dQ w0)).k
 clear A0 A1 hbel C1 P1 he c0 p0
 go_wp2_with fail
 refine he1.mono ?_
 rintro e w2 ⟨rfl,hb2⟩
 have E1:=D1.below' hb2
 have aB:=bC aK hb2
 go_wp2_with (refine aa rfl 96 _ _ rfl _ rfl rfl E1 (ah _ _) aD hel ?_;(try simp only[nn,Nat.reduceAdd]))
 exact aO rfl rfl (E1.row _) aD hel ⟨rfl,az aB (by omega) _⟩
theorem Xk (gc ga gt gb gk ck:Nat)(ks:List (List Nat))(h l t m:List Nat)(ht:∀x∈t,x<256)(htl:t.length<2^29)(hm:∀x∈m,x<256)(h16:16<=m.length)(gq:m.length<208)(a1 a2:Option Addr)(c1 c2:Nat)(hc1:t.length<=c1)(hc2:m.length<=c2)(w:World)(hs1:Sl w a1 .u8 t)(hs2:Sl w a2 .u8 m)(hC:Eb w gc ga gt gb gk ck ks h l) :
  Calls prog 141 #[.pointer (some ⟨gc,0,none⟩),.slice a1 t.length c1,.slice a2 m.length c2] w λe w'=>∃v,e=.returned (.tuple #[v,.int .i64 0])/\Own w' w.heap.size 5 .u8 v (jy (jA (dW 255) ks) ks h l t m)/\Below w.heap.size w w':=by
 have P0:=aA.new w 74 #[.pointer (some ⟨gc,0,none⟩)]
 have hbel:=bN w (.cells #[.pointer (some ⟨gc,0,none⟩)] 74)
 have hdo:=λW (i1:Sl W a1 .u8 t) (i2:Sl W a2 .u8 m) (i3:Eb W gc ga gt gb gk ck ks h l) (i4:aA W w.heap.size 74 #[.pointer (some ⟨gc,0,none⟩)])=>Tq 145 _ func145 (by kernel_rfl) (by kernel_rfl) (jA (dW 255) ks) w.heap.size gc ga gt gb gk ck ks h l t m ht htl hm h16 gq a1 a2 c1 c2 hc1 hc2 W i1 i2 i3 (λx=>iY _ _ _) (λx=>nO hC.ok x) (λx W' hx hxb hW'=>Tn w.heap.size gc ga gt gb gk ck ks h l x hx hxb W' (i4.below' hW') (i3.below hW'))
 obtain⟨T,Yr⟩:=bD (t.length)
 obtain⟨N,HN⟩:=bD (m.length)
 rw[Yr.out,HN.out] at hdo ⊢
 generalize jy (jA (dW 255) ks) ks h l t m=EE at *
 have wJ:=hdo _ (hs1.below hbel) (hs2.below hbel) (hC.below hbel) P0
 replace wJ:=aR wJ
 have p0:(w.alloc (.cells #[.pointer (some ⟨gc,0,none⟩)] 74)).cell? ⟨w.heap.size,0,none⟩=some (.pointer (some ⟨gc,0,none⟩)):=P0.cell 0
 clear hdo P0
 go_enter func141,ntmps141
 have hmf:∀(fn:Fn) (first cap:Array Value) (w:World),(Instr.makeFunc fn first cap).run prog w=.ok (.func fn first cap) w:=λ_ _ _ _=>rfl
 go_wp2_with fail
 generalize (w.alloc (.cells #[.pointer (some ⟨gc,0,none⟩)] 74))=w0 at *
 have hz:=hbel.size
 refine wJ.out.mono ?_
 rintro e w2 ⟨v,rfl,O,hb2⟩
 obtain⟨av,cv,rfl,-,-,-⟩:=O.mZ
 have O2:=O.mono hz
 have aB:=dx hbel hb2 hz
 clear wJ O hb2
 go_wp2_with fail
 exact bodyPost_ret (v:=.tuple #[.slice av EE.length cv,.int .i64 0]) (by simp[results,results141]) rfl ⟨_,rfl,O2,aB⟩
theorem Tt (pc gc ga gt gb gk ck:Nat)(ks:List (List Nat))(h l b:List Nat)(hb:b.length=16)(hbb:∀x∈b,x<256)(w:World)(hP:aA w pc 74 #[.pointer (some ⟨gc,0,none⟩)])(hC:Eb w gc ga gt gb gk ck ks h l) :
  Calls prog 144 #[.agg (ints .u8 b),.pointer (some ⟨pc,0,none⟩)] w λe w'=>e=.returned (.agg (ints .u8 (ma (dW 255) ks b)))/\Below w.heap.size w w':=by
 have A0:=(aA.new w 96 (ints .u8 b)).alloc (.cells (ints .u8 (zeros 16)) 96)
 have A1:=aA.new (w.alloc (.cells (ints .u8 b) 96)) 96 (ints .u8 (zeros 16))
 rw[World.size_alloc] at A1
 have hbel:=(bN w (.cells (ints .u8 b) 96)).alloc (by simp) (.cells (ints .u8 (zeros 16)) 96)
 have C1:=hC.below hbel
 have P1:=hP.below' hbel
 have he:=λW i=>Bv ga gt gb gk ck (dW 255) ks b hC.ok hb hbb W i
 have hel:(ma (dW 255) ks b).length=16:=uB _ _ _
 generalize ma (dW 255) ks b=y at *
 go_enter func144,ntmps144
 go_wp2_with (refine ae rfl 96 rfl fw ?_;(try simp only[nn,Nat.reduceAdd]))
 generalize ((w.alloc (.cells (ints .u8 b) 96)).alloc (.cells (ints .u8 (zeros 16)) 96))=w0 at *
 refine wp_region_still_tail 5 (by kernel_rfl) (by kernel_rfl) ?_
 simp only[List.take_succ_cons,List.take_zero,List.drop_succ_cons,List.drop_zero]
 have c0:=C1.c0
 have p0:w0.cell? ⟨pc,0,none⟩=some (.pointer (some ⟨gc,0,none⟩)):=P1.cell 0
 repeat (first|(refine nu rfl rfl rfl A0.drew aD hb ?_;(try simp only[nn,Nat.reduceAdd]))|(refine mD rfl (dH rfl rfl underlying86 c0) ?_;(try simp only[nn,Nat.reduceAdd]))|(refine mD rfl (dH rfl rfl underlying74 p0) ?_;(try simp only[nn,Nat.reduceAdd]))|still_step)
 refine wpStill_nil ?_
 change wpList _ _ _ _ _ w0.drew
 have D1:=A1.drew
 have aK:=hbel.drew
 have he1:=he w0.drew (C1.below (dQ w0)).k
 clear A0 A1 hbel C1 P1 he c0 p0
 go_wp2_with fail
 refine he1.mono ?_
 rintro e w2 ⟨rfl,hb2⟩
 have E1:=D1.below' hb2
 have aB:=bC aK hb2
 go_wp2_with (refine aa rfl 96 _ _ rfl _ rfl rfl E1 (ah _ _) aD hel ?_;(try simp only[nn,Nat.reduceAdd]))
 exact aO rfl rfl (E1.row _) aD hel ⟨rfl,az aB (by omega) _⟩
theorem Xl (gc ga gt gb gk ck:Nat)(ks:List (List Nat))(h l t m:List Nat)(ht:∀x∈t,x<256)(htl:t.length<2^29)(hm:∀x∈m,x<256)(h16:16<=m.length)(gq:m.length<208)(a1 a2:Option Addr)(c1 c2:Nat)(hc1:t.length<=c1)(hc2:m.length<=c2)(w:World)(hs1:Sl w a1 .u8 t)(hs2:Sl w a2 .u8 m)(hC:Eb w gc ga gt gb gk ck ks h l) :
  Calls prog 140 #[.pointer (some ⟨gc,0,none⟩),.slice a1 t.length c1,.slice a2 m.length c2] w λe w'=>∃v,e=.returned (.tuple #[v,.int .i64 0])/\Own w' w.heap.size 5 .u8 v (jy (ma (dW 255) ks) ks h l t m)/\Below w.heap.size w w':=by
 have P0:=aA.new w 74 #[.pointer (some ⟨gc,0,none⟩)]
 have hbel:=bN w (.cells #[.pointer (some ⟨gc,0,none⟩)] 74)
 have hdo:=λW (i1:Sl W a1 .u8 t) (i2:Sl W a2 .u8 m) (i3:Eb W gc ga gt gb gk ck ks h l) (i4:aA W w.heap.size 74 #[.pointer (some ⟨gc,0,none⟩)])=>Tq 144 _ func144 (by kernel_rfl) (by kernel_rfl) (ma (dW 255) ks) w.heap.size gc ga gt gb gk ck ks h l t m ht htl hm h16 gq a1 a2 c1 c2 hc1 hc2 W i1 i2 i3 (λx=>uB _ _ _) (λx=>Dp hC.ok x) (λx W' hx hxb hW'=>Tt w.heap.size gc ga gt gb gk ck ks h l x hx hxb W' (i4.below' hW') (i3.below hW'))
 obtain⟨T,Yr⟩:=bD (t.length)
 obtain⟨N,HN⟩:=bD (m.length)
 rw[Yr.out,HN.out] at hdo ⊢
 generalize jy (ma (dW 255) ks) ks h l t m=EE at *
 have wJ:=hdo _ (hs1.below hbel) (hs2.below hbel) (hC.below hbel) P0
 replace wJ:=aR wJ
 have p0:(w.alloc (.cells #[.pointer (some ⟨gc,0,none⟩)] 74)).cell? ⟨w.heap.size,0,none⟩=some (.pointer (some ⟨gc,0,none⟩)):=P0.cell 0
 clear hdo P0
 go_enter func140,ntmps140
 have hmf:∀(fn:Fn) (first cap:Array Value) (w:World),(Instr.makeFunc fn first cap).run prog w=.ok (.func fn first cap) w:=λ_ _ _ _=>rfl
 go_wp2_with fail
 generalize (w.alloc (.cells #[.pointer (some ⟨gc,0,none⟩)] 74))=w0 at *
 have hz:=hbel.size
 refine wJ.out.mono ?_
 rintro e w2 ⟨v,rfl,O,hb2⟩
 obtain⟨av,cv,rfl,-,-,-⟩:=O.mZ
 have O2:=O.mono hz
 have aB:=dx hbel hb2 hz
 clear wJ O hb2
 go_wp2_with fail
 exact bodyPost_ret (v:=.tuple #[.slice av EE.length cv,.int .i64 0]) (by simp[results,results140]) rfl ⟨_,rfl,O2,aB⟩
end
end Go.Proofs.YtaiffkajkbiidaaGreatDoor
