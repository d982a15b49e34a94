/- TopRow: a row of encipherings is undone from its end. No condition. -/
import Derived.SevenTiedAt
import Derived.Test.YtaiffkajkbiidaaGreatDoorCards
import Derived.Test.YtaiffkajkbiidaaGreatDoorTie
import Derived.Test.YtaiffkajkbiidaaGreatDoorQ33
namespace Go.Proofs.YtaiffkajkbiidaaGreatDoor
set_option linter.unusedSimpArgs false
set_option linter.unusedVariables false
set_option linter.unusedSectionVars false
set_option maxRecDepth 100000
set_option maxHeartbeats 40000000
section
open Go.RowKit
def QS (s:jG)(back:Bool)(x:List Nat):List Nat:=Qe s.dK.toNat s.key s.tw back x
def fwd (ss:List jG)(m:List Nat):Nat->List Nat
 | 0=>m
 | i+1=>QS (ss.getD i jG.none) (ss.getD i jG.none).bk (fwd ss m i)
def jG.May (s:jG):Prop:=eQ s.dK s.key.length/\s.tw.length<=60
section
variable {W:World}{s:jG}(h:s.Ok W)(hm:s.May){m:List Nat}(hb:B8 m)(h16:16<=m.length)
include h hm hb h16
theorem VK (back:Bool):(QS s back m).length=m.length:=by
 obtain⟨k,hk,hr⟩:=hm.1.key
 unfold QS
 rw[hk,Int.toNat_natCast]
 exact XQ hr h.kb h.tb hb h16 back
theorem ZU (back:Bool):B8 (QS s back m):=by
 obtain⟨k,hk,hr⟩:=hm.1.key
 unfold QS
 rw[hk,Int.toNat_natCast]
 exact abK hr h.kb h.tb hb h16 back
theorem QR (back:Bool):QS s (!back) (QS s back m)=m:=by
 obtain⟨k,hk,hr⟩:=hm.1.key
 unfold QS
 rw[hk,Int.toNat_natCast]
 exact Un hr h.kb h.tb hb h16 back
end
theorem TR {W:World}{ss:List jG}{m:List Nat}(hok:∀i,i<ss.length->(ss.getD i jG.none).Ok W)(aey:∀i,i<ss.length->(ss.getD i jG.none).May)(hb:B8 m)(h16:16<=m.length):∀i,i<=ss.length->(fwd ss m i).length=m.length/\B8 (fwd ss m i)
 | 0,_=>⟨rfl,hb⟩
 | i+1,hi=>by
  obtain⟨h1,h2⟩:=TR hok aey hb h16 i (by omega)
  have h3:=hok i (by omega)
  have h4:=aey i (by omega)
  exact⟨(VK h3 h4 h2 (by omega) _).trans h1,ZU h3 h4 h2 (by omega) _⟩
theorem MI (s:jG)(W:World)(h:s.Ok W)(hm:s.May)(back:Bool)(m:List Nat)(hb:B8 m)(h16:16<=m.length)(hL:m.length<=200)(a:Option Addr)(c:Nat)(hc:m.length<=c)(PZ:Gl W)(hG:uL W)(hs:Sl W a .u8 m) :
  Calls Tryz.prog 7 #[.agg s.cells.toArray,.slice a m.length c,.bool back] W λe w'=>∃v,e=.returned (.tuple #[v,.int .i64 0])/\Own w' W.heap.size 5 .u8 v (QS s back m)/\Below W.heap.size W w':=by
 obtain⟨dK,ka,kc,key,ta,tc,tw,bk⟩:=s
 obtain⟨k,hk,hr⟩:=hm.1.key
 simp only at hk
 subst hk
 have ht60:tw.length<=60:=hm.2
 have h1:=XH k key hr h.kb ka kc h.kl h.kn tw h.tb (by omega) ta tc h.tl bk back m hb h16 (by omega) a c hc W PZ hG h.sk h.st hs
 unfold QS
 rw[show (k:Int).toNat=k from Int.toNat_natCast k]
 exact h1
theorem IQ:(Tryz.prog.info? 27).map (·.size)=some 4:=by kernel_rfl
theorem Tryz.YG:dG Tryz.prog 27 4:=isStr Tryz.underlying27 (by kernel_rfl)
theorem Tryz.ado:dG Tryz.prog 25 2:=isStr Tryz.underlying25 (by kernel_rfl)
theorem nC {P:Program}{o:Oper}{a:Act}{w:World}{T g off n:Nat}{x:Operand}{cs:List Value}(ho:o.op=.load T x)(hx:a.eval x=.pointer (some ⟨g,off,none⟩))(hc:w.rangeAt g off cs)(ha:dG P T n)(hl:cs.length=n) :
  (execOp a.eval o).run P w=.ok (.value (.agg cs.toArray)) w:=by
 obtain⟨⟨d,h1,hd⟩,h2⟩:=ha
 unfold execOp
 simp only[ho,hx,Instr.loadAt,Instr.sureAddr,Sem.run_bind,Sem.run_pure,Result.andThen_ok,run_loadVar_mid w g off _ _ d hc h1 hd (by rw[h2,hl])]
theorem tK {P:Program}{o:Oper}{a:Act}{w:World}{T g off:Nat}{x:Operand}{b:Bool}(ho:o.op=.load T x)(hx:a.eval x=.pointer (some ⟨g,off,none⟩))(hT:P.underlying T=some .bool)(hc:w.cell? ⟨g,off,none⟩=some (.bool b)) :
  (execOp a.eval o).run P w=.ok (.value (.bool b)) w:=by
 unfold execOp
 simp only[ho,hx,Instr.loadAt,Instr.sureAddr,Sem.run_bind,Sem.run_pure,Result.andThen_ok]
 simp[loadVar,isAgg,run_underlying hT,hc,go_sem]
structure Af (w:World)(g z:Nat)(s:jG):Prop where
 lt:g<w.heap.size
 all:w.rangeAt g z s.cells
theorem Af.below {w w':World}{g z:Nat}{s:jG}(h:Af w g z s)(hb:Below w.heap.size w w'):Af w' g z s:=⟨Nat.lt_of_lt_of_le h.lt hb.size,λj v hv=>(hb.cell (p:=⟨g,_,none⟩) h.lt).trans (h.all j v hv)⟩
theorem Af.lock {w:World}{g z:Nat}{s:jG}(h:Af w g z s):w.rangeAt g z [.int .i64 s.dK,.slice s.ka s.key.length s.kc]:=λj v hv=>by
 have hj:=(List.getElem?_eq_some_iff.1 hv).1
 simp at hj
 refine h.all j v ?_
 rcases j with _|_|j
 ·exact hv
 ·exact hv
 ·omega
theorem Af.tw {w:World}{g z:Nat}{s:jG}(h:Af w g z s):w.cell? ⟨g,z+2,none⟩=some (.slice s.ta s.tw.length s.tc):=h.all 2 _ rfl
theorem Af.bk {w:World}{g z:Nat}{s:jG}(h:Af w g z s):w.cell? ⟨g,z+3,none⟩=some (.bool s.bk):=h.all 3 _ rfl
theorem QE (ss:List jG)(m:List Nat)(a0 a1:Option Addr)(c0 c1:Nat)(hb1:∀x∈m,x<256)(hc1:m.length<=c1)(hz1:a1=none->c1=0)(w:World)(hok:∀s∈ss,s.Ok w)(PZ:Gl w)(hG:uL w)(S0:agz w a0 ss)(S1:Sl w a1 .u8 m) :
  Calls Tryz.prog 3 #[.slice a0 ss.length c0,.slice a1 m.length c1] w λe w'=>e=.returned (.bool true)/\Below w.heap.size w w':=by
 obtain⟨n,Hn⟩:=bD (ss.length)
 obtain⟨N,HN⟩:∃n,Hid (m.length=n):=⟨_,aR rfl⟩
 rw[Hn.out,HN.out]
 go_enter Tryz.func3,Tryz.ntmps3
 by_cases hn5:n<=5
 ·have e0:decide ((n:Int)>5)=false:=by simp;omega
  by_cases h16:16<=N
  ·have e1:decide ((N:Int)<16)=false:=by simp;omega
   by_cases h200:N<=200
   ·have e2:decide ((N:Int)>200)=false:=by simp;omega
    have E:Own (w.alloc (.cells #[] 5)) w.heap.size 5 .u8 (.slice (some ⟨w.heap.size,0,none⟩) 0 0) []:=Own.made (xs:=[]) (aA.new w 5 (ints .u8 [])) dM (by simp)
    have hbel:=bN w (.cells #[] 5)
    have hs1:=S1.below hbel
    go_wp2_with (refine dA (zs:=m) rfl rfl Tryz.underlying23 Tryz.nY rfl (by omega) rfl E rfl HN.out.symm hz1 hs1 (by simp;rw[HN.out];omega) (by simp) ?_;intro v' w1 hown1 hgr;rw[List.nil_append] at hown1;have aK:=gI hbel hgr (by simp) E dM;(try simp only[nn,Nat.reduceAdd]))
    obtain⟨ax0,cx0,rfl,Sx,Xu,-⟩:=hown1.mZ
    rw[HN.out] at Xu
    have OD:∀i,i<n->(ss.getD i jG.none).Ok w:=λi hi=>by
     have h:i<ss.length:=by rw[Hn.out];exact hi
     rw[List.getD_eq_getElem?_getD,List.getElem?_eq_getElem h]
     exact hok _ (List.getElem_mem h)
    have WU:∀i,i<n->∃g off,a0=some ⟨g,off,none⟩/\Af w g (off+i*4) (ss.getD i jG.none):=λi hi=>by
     obtain⟨g,off,h1,h2,h3⟩:=S0 i (by rw[Hn.out];exact hi)
     exact⟨g,off,h1,h2,h3⟩
    clear E hbel hs1 hown1 hgr S0 hok
    go_wp2_with fail
    rw[HN.out]
    go_loopw [6] (λt wr=>∃i:Nat,i<=n/\t=.int .i64 (i:Int)/\(∀j,j<i->(ss.getD j jG.none).May)/\Sl wr ax0 .u8 m/\Below w.heap.size w wr) (λt wr=>n-(intOf t).toNat)
    case atStart=>exact⟨0,by omega,rfl,(λj h=>by omega),Sx,aK⟩
    case round =>
     clear Sx aK
     obtain⟨i,hi,rfl,Gd,Sx,hbel⟩:=hrel
     have acg:=aR Gd
     clear Gd
     by_cases hlt:i<n
     ·have hd0:decide ((i:Int)<(n:Int))=true:=by simp;omega
      obtain⟨g,off,rfl,A0⟩:=WU i hlt
      have hoi:=OD i hlt
      have HNX:Hid ((ss.getD i jG.none).May->∀j,j<i+1->(ss.getD j jG.none).May):=aR λh j hj=>by
       rcases Nat.lt_or_ge j i with h1|h1
       ·exact acg.out j h1
       ·obtain rfl:j=i:=by omega
        exact h
      obtain⟨z,Hz⟩:∃z,off+i*4=z:=⟨_,rfl⟩
      rw[Hz] at A0
      have Yv:=aR Hz
      clear Hz
      generalize ss.getD i jG.none=s at *
      have A1:=A0.below hbel
      have hmy:=aas s.dK s.key.length s.kc s.ka wr
      have HRK:Hid (decide (eQ s.dK s.key.length)=true↔eQ s.dK s.key.length):=aR decide_eq_true_iff
      generalize hRK:decide (eQ s.dK s.key.length)=rk at *
      go_wp2_with ((first
       | (refine aZ rfl (dP (z:=z) Yv.out rfl rfl rfl hlt Tryz.underlying22 IQ) ?_)
       | (refine aZ rfl (nC rfl rfl A1.lock Tryz.ado rfl) ?_));(try simp only[nn,Nat.reduceAdd]))
      refine hmy.mono ?_
      clear hmy
      rintro e w2 ⟨rfl,hb2⟩
      have aB:=bC hbel hb2
      have A2:=A1.below hb2
      have Sx2:=Sx.below hb2
      clear A0 A1 hbel Sx hb2
      cases rk
      ·go_wp2_with fail
       go_ret
       exact⟨rfl,aB⟩
      ·have hrk:=HRK.out.1 rfl
       clear HRK hRK
       by_cases h60:s.tw.length<=60
       ·have e6:decide ((s.tw.length:Int)>60)=false:=by simp;omega
        have HNX2:=aR (HNX.out ⟨hrk,h60⟩)
        clear HNX hrk h60
        go_wp2_with ((first
         | (refine aZ rfl (dP (z:=z) Yv.out rfl rfl rfl hlt Tryz.underlying22 IQ) ?_)
         | (refine aZ rfl (bO rfl rfl Tryz.underlying23 A2.tw) ?_));(try simp only[nn,Nat.reduceAdd]))
        exact⟨⟨i+1,by omega,by go_num,HNX2.out,Sx2,aB⟩,by simp[intOf]<;>omega⟩
       ·have e6:decide ((s.tw.length:Int)>60)=true:=by simp;omega
        clear HNX hrk h60
        go_wp2_with ((first
         | (refine aZ rfl (dP (z:=z) Yv.out rfl rfl rfl hlt Tryz.underlying22 IQ) ?_)
         | (refine aZ rfl (bO rfl rfl Tryz.underlying23 A2.tw) ?_));(try simp only[nn,Nat.reduceAdd]))
        go_ret
        exact⟨rfl,aB⟩
     ·have hin:n=i:=by omega
      subst hin
      have hd0:decide ((n:Int)<(n:Int))=false:=by simp
      have Gd:=acg.out
      clear acg
      have hf0:=TR (W:=w) (ss:=ss) (m:=m) (by rw[Hn.out];exact OD) (by rw[Hn.out];exact Gd) hb1 (by rw[HN.out];exact h16)
      rw[Hn.out,HN.out] at hf0
      have hF0:∀i,i<n->∀W ax cx,N<=cx->Below w.heap.size w W->Sl W ax .u8 (fwd ss m i)->Calls Tryz.prog 7 #[.agg (ss.getD i jG.none).cells.toArray,.slice ax N cx,.bool (ss.getD i jG.none).bk] W λe w'=>∃v,e=.returned (.tuple #[v,.int .i64 0])/\Own w' W.heap.size 5 .u8 v (fwd ss m (i+1))/\Below W.heap.size W w':=λi hi W ax cx hcx hb hs=>by
       obtain⟨h1,h2⟩:=hf0 i (by omega)
       have h3:=MI (ss.getD i jG.none) W ((OD i hi).below hb) (Gd i hi) (ss.getD i jG.none).bk (fwd ss m i) h2 (by omega) (by omega) ax cx (by omega) (PZ.below hb) (hG.below hb) hs
       rw[h1] at h3
       exact h3
      have hB0:∀i,i<n->∀W ax cx,N<=cx->Below w.heap.size w W->Sl W ax .u8 (fwd ss m (i+1))->Calls Tryz.prog 7 #[.agg (ss.getD i jG.none).cells.toArray,.slice ax N cx,.bool (!(ss.getD i jG.none).bk)] W λe w'=>∃v,e=.returned (.tuple #[v,.int .i64 0])/\Own w' W.heap.size 5 .u8 v (fwd ss m i)/\Below W.heap.size W w':=λi hi W ax cx hcx hb hs=>by
       obtain⟨h1,h2⟩:=hf0 i (by omega)
       obtain⟨h4,h5⟩:=hf0 (i+1) (by omega)
       have h3:=MI (ss.getD i jG.none) W ((OD i hi).below hb) (Gd i hi) (!(ss.getD i jG.none).bk) (fwd ss m (i+1)) h5 (by omega) (by omega) ax cx (by omega) (PZ.below hb) (hG.below hb) hs
       rw[h4,show fwd ss m (i+1)=QS (ss.getD i jG.none) (ss.getD i jG.none).bk (fwd ss m i) from rfl,QR (OD i hi) (Gd i hi) h2 (by omega)] at h3
       exact h3
      obtain⟨f,Hf⟩:∃f:Nat->List Nat,Hid (∀i,fwd ss m i=f i):=⟨_,aR λ_=>rfl⟩
      have hz0:m=f 0:=(Hf.out 0)
      simp only[Hf.out] at hf0 hF0 hB0
      have HF:=aR hF0
      have HB:=aR hB0
      have hfl:∀i,i<=n->(f i).length=N:=λi hi=>(hf0 i hi).1
      rw[hz0] at Sx
      clear hF0 hB0 hf0 Hf Gd OD
      go_wp2_with fail
      go_loopw [5,7] (λs t wr=>∃(i:Nat) (ax:Option Addr) (cx:Nat),i<=n/\t=.int .i64 (i:Int)/\s=.slice ax N cx/\N<=cx/\Sl wr ax .u8 (f i)/\Below w.heap.size w wr) (λs t wr=>n-(intOf t).toNat)
      case atStart=>exact⟨0,ax0,cx0,by omega,rfl,rfl,Xu,Sx,hbel⟩
      case round =>
       clear Sx hbel Xu
       obtain⟨i,ax,cx,hi,rfl,rfl,Xu,Sx,hbel⟩:=hrel
       by_cases hlt:i<n
       ·have hd0:decide ((i:Int)<(n:Int))=true:=by simp;omega
        obtain⟨g,off,rfl,A0⟩:=WU i hlt
        have hFi:=HF.out i hlt
        obtain⟨z,Hz⟩:∃z,off+i*4=z:=⟨_,rfl⟩
        rw[Hz] at A0
        have Yv:=aR Hz
        clear Hz
        generalize ss.getD i jG.none=s at *
        have A1:=A0.below hbel
        have hl1:=hfl (i+1) hlt
        go_wp2_with fail
        have aI:=oJ (S:=(λ_ _ W=>Below wr.heap.size wr W)) (λ_ _ _ _ h hb=>bC h hb)
        refine aS (n:=121) (T:=?_) [(58,.slice (some ⟨g,off,none⟩) n c0),(59,.int .i64 (i:Int)),(60,.pointer (some ⟨g,z,none⟩)),(61,.agg s.cells.toArray),(62,.slice ax N cx),(63,.slice (some ⟨g,off,none⟩) n c0),(64,.int .i64 (i:Int)),(65,.pointer (some ⟨g,z,none⟩)),(66,.pointer (some ⟨g,z+3,none⟩)),(67,.bool s.bk),(70,.int .i64 0),(9,.int .i64 0)] [68,57,69,8] (λs W u=>(s=68->(∃v,u=.tuple #[v,.int .i64 0]/\Own W w.heap.size 5 .u8 v (f (i+1))))/\(s=57->(∃v,u=.tuple #[v,.int .i64 0]/\Own W w.heap.size 5 .u8 v (f (i+1))))/\(s=69->Own W w.heap.size 5 .u8 u (f (i+1)))/\(s=8->Own W w.heap.size 5 .u8 u (f (i+1)))) (λW W'=>Below W.heap.size W W') [] _ aI (by kernel_rfl) (by kernel_rfl) rfl (by kernel_rfl) (by kernel_rfl) (by kernel_rfl) (λs W W' v hR h=>⟨λe=>(λ⟨v,h,ho⟩ hR=>⟨v,h,ho.below hR⟩) (h.1 e) hR,λe=>(λ⟨v,h,ho⟩ hR=>⟨v,h,ho.below hR⟩) (h.2.1 e) hR,λe=>(λh hR=>h.below hR) (h.2.2.1 e) hR,λe=>(λh hR=>h.below hR) (h.2.2.2 e) hR⟩) (dQ _) ?_ ?_ ?_ ?_
        rotate_left
        ·intro e;simp only[tv,nn,Nat.reduceAdd];exact rfl
        ·exact λe=>rfl
        ·intro i o il k qB hst e W hS hla
         rcases i with _|_|_|_|_|_|_|_|_|_|_|_|_|_|_|_|i<;>try cases il
         ·exact kv 58 rfl rfl rfl rfl rfl rfl fo hS
         ·exact kv 59 rfl rfl rfl rfl rfl rfl fo hS
         ·exact kv 60 rfl rfl (dP (z:=z) Yv.out rfl rfl rfl hlt Tryz.underlying22 IQ) rfl rfl rfl fo hS
         ·exact kv 61 rfl rfl (nC rfl rfl (A1.below hS).all Tryz.YG rfl) rfl rfl rfl fo hS
         ·exact kv 62 rfl rfl rfl rfl rfl rfl fo hS
         ·exact kv 63 rfl rfl rfl rfl rfl rfl fo hS
         ·exact kv 64 rfl rfl rfl rfl rfl rfl fo hS
         ·exact kv 65 rfl rfl (dP (z:=z) Yv.out rfl rfl rfl hlt Tryz.underlying22 IQ) rfl rfl rfl fo hS
         ·exact kv 66 rfl rfl (by kernel_rfl) rfl rfl rfl fo hS
         ·exact kv 67 rfl rfl (tK rfl rfl Tryz.underlying4 (A1.below hS).bk) rfl rfl rfl fo hS
         ·refine fV (Pv:=λu W'=>∃v,u=.tuple #[v,.int .i64 0]/\Own W' W.heap.size 5 .u8 v (f (i+1))/\Below W.heap.size W W') 7 rfl rfl rfl Tryz.func7 (by kernel_rfl) (by kernel_rfl) ((hFi W ax cx Xu (bC hbel hS) (Sx.below hS)).mono λe w' ⟨v,he,ho,hb⟩=>⟨_,he,v,rfl,ho,hb⟩) ?_;rintro u W' ⟨v,rfl,hO,hW'⟩
          exact KL.lt 68 rfl rfl ⟨λ_=>(⟨v,rfl,hO.mono (bC hbel hS).size⟩),λe=>absurd e (by decide),λe=>absurd e (by decide),λe=>absurd e (by decide)⟩ (hW') (aI k e _ _ hS hW')
         ·exact af (v:=e 68) rfl rfl rfl (KL.lt 57 rfl rfl ⟨λe=>absurd e (by decide),λ_=>(((hla 68 rfl (by kernel_rfl)).1 rfl)),λe=>absurd e (by decide),λe=>absurd e (by decide)⟩ fo hS)
         ·obtain⟨v,h,ho⟩:=((hla 57 rfl (by kernel_rfl)).2.1 rfl);refine af (v:=v) rfl rfl (eD rfl h rfl) ?_
          exact KL.lt 69 rfl rfl ⟨λe=>absurd e (by decide),λe=>absurd e (by decide),λ_=>(ho),λe=>absurd e (by decide)⟩ fo (hS)
         ·obtain⟨v,h,ho⟩:=((hla 57 rfl (by kernel_rfl)).2.1 rfl);refine af (v:=.int .i64 0) rfl rfl (eD rfl h rfl) ?_
          exact KL.at_ 70 rfl rfl rfl fo (hS)
         ·exact af (v:=e 69) rfl rfl rfl (KL.lt 8 rfl rfl ⟨λe=>absurd e (by decide),λe=>absurd e (by decide),λe=>absurd e (by decide),λ_=>(((hla 69 rfl (by kernel_rfl)).2.2.1 rfl))⟩ fo hS)
         ·exact kv 9 rfl rfl rfl rfl rfl rfl fo hS
        ·intro eb wb hS hla
         have l68:=(hla 68 rfl).1 rfl
         have l57:=(hla 57 rfl).2.1 rfl
         have l69:=(hla 69 rfl).2.2.1 rfl
         have l8:=(hla 8 rfl).2.2.2 rfl
         clear hla aI
         obtain⟨ay,cy,hv,Sy,afF,-⟩:=l8.mZ
         have aB:=bC hbel hS
         rw[hl1] at hv afF
         clear l68 l57 l69 l8 hFi
         generalize eb 68=u68'
         generalize eb 57=u57'
         generalize eb 69=u69'
         generalize eb 8=u8' at hv ⊢
         subst hv
         clear A0 A1 hbel Sx hS
         go_wp2_with fail
         exact⟨⟨i+1,ay,cy,by omega,by go_num,rfl,afF,Sy,aB⟩,by simp[intOf]<;>omega⟩
       ·have hin:n=i:=by omega
        subst hin
        have hd0:decide ((n:Int)<(n:Int))=false:=by simp
        go_wp2_with fail
        go_loopw [5,10] (λs t wr=>∃(i:Nat) (q:Int) (ax:Option Addr) (cx:Nat),i<=n/\t=.int .i64 q/\q=(i:Int)-1/\s=.slice ax N cx/\N<=cx/\Sl wr ax .u8 (f i)/\Below w.heap.size w wr) (λs t wr=>(intOf t+1).toNat)
        case atStart=>exact⟨n,_,ax,cx,by omega,rfl,rfl,rfl,Xu,Sx,hbel⟩
        case round =>
         clear Sx hbel Xu
         obtain⟨i',q,ax,cx,hi,rfl,hq,rfl,Xu,Sx,hbel⟩:=hrel
         rcases i' with _|i
         ·obtain rfl:q=-1:=by omega
          clear hq
          have hl0:N=(f 0).length:=(hfl 0 (by omega)).symm
          subst hl0
          subst hz0
          have S1w:=S1.below hbel
          clear HF HB hfl WU hb1
          go_wp2_with ((first
           | (refine aZ rfl (xJ (xs:=f 0) Tryz.underlying23 Tryz.underlying5 Tryz.underlying9 rfl rfl Sx) ?_)
           | (refine aZ rfl (xJ (xs:=f 0) Tryz.underlying23 Tryz.underlying5 Tryz.underlying9 rfl rfl S1w) ?_)
           | (refine aZ rfl (NT rfl rfl rfl (IX rfl)) ?_));(try simp only[nn,Nat.reduceAdd]))
          refine(II wr (PZ.below hbel)).mono ?_
          rintro e w9 ⟨rfl,hb9⟩
          have mO:=bC hbel hb9
          go_wp2_with fail
          go_ret
          exact⟨rfl,mO⟩
         ·obtain rfl:q=(i:Int):=by omega
          clear hq
          have hlt:i<n:=by omega
          have hd0:decide ((i:Int)≥0)=true:=by simp
          obtain⟨g,off,rfl,A0⟩:=WU i hlt
          have hBi:=HB.out i hlt
          obtain⟨z,Hz⟩:∃z,off+i*4=z:=⟨_,rfl⟩
          rw[Hz] at A0
          have Yv:=aR Hz
          clear Hz
          generalize ss.getD i jG.none=s at *
          have A1:=A0.below hbel
          have hl1:=hfl i (by omega)
          go_wp2_with fail
          have aI:=oJ (S:=(λ_ _ W=>Below wr.heap.size wr W)) (λ_ _ _ _ h hb=>bC h hb)
          refine aS (n:=121) (T:=?_) [(89,.slice (some ⟨g,off,none⟩) n c0),(90,.int .i64 (i:Int)),(91,.pointer (some ⟨g,z,none⟩)),(92,.agg s.cells.toArray),(93,.slice ax N cx),(94,.slice (some ⟨g,off,none⟩) n c0),(95,.int .i64 (i:Int)),(96,.pointer (some ⟨g,z,none⟩)),(97,.pointer (some ⟨g,z+3,none⟩)),(98,.bool s.bk),(99,.bool (!s.bk)),(102,.int .i64 0),(12,.int .i64 0)] [100,88,101,11] (λs W u=>(s=100->(∃v,u=.tuple #[v,.int .i64 0]/\Own W w.heap.size 5 .u8 v (f i)))/\(s=88->(∃v,u=.tuple #[v,.int .i64 0]/\Own W w.heap.size 5 .u8 v (f i)))/\(s=101->Own W w.heap.size 5 .u8 u (f i))/\(s=11->Own W w.heap.size 5 .u8 u (f i))) (λW W'=>Below W.heap.size W W') [] _ aI (by kernel_rfl) (by kernel_rfl) rfl (by kernel_rfl) (by kernel_rfl) (by kernel_rfl) (λs W W' v hR h=>⟨λe=>(λ⟨v,h,ho⟩ hR=>⟨v,h,ho.below hR⟩) (h.1 e) hR,λe=>(λ⟨v,h,ho⟩ hR=>⟨v,h,ho.below hR⟩) (h.2.1 e) hR,λe=>(λh hR=>h.below hR) (h.2.2.1 e) hR,λe=>(λh hR=>h.below hR) (h.2.2.2 e) hR⟩) (dQ _) ?_ ?_ ?_ ?_
          rotate_left
          ·intro e;simp only[tv,nn,Nat.reduceAdd];exact rfl
          ·exact λe=>rfl
          ·intro i o il k qB hst e W hS hla
           rcases i with _|_|_|_|_|_|_|_|_|_|_|_|_|_|_|_|_|i<;>try cases il
           ·exact kv 89 rfl rfl rfl rfl rfl rfl fo hS
           ·exact kv 90 rfl rfl rfl rfl rfl rfl fo hS
           ·exact kv 91 rfl rfl (dP (z:=z) Yv.out rfl rfl rfl hlt Tryz.underlying22 IQ) rfl rfl rfl fo hS
           ·exact kv 92 rfl rfl (nC rfl rfl (A1.below hS).all Tryz.YG rfl) rfl rfl rfl fo hS
           ·exact kv 93 rfl rfl rfl rfl rfl rfl fo hS
           ·exact kv 94 rfl rfl rfl rfl rfl rfl fo hS
           ·exact kv 95 rfl rfl rfl rfl rfl rfl fo hS
           ·exact kv 96 rfl rfl (dP (z:=z) Yv.out rfl rfl rfl hlt Tryz.underlying22 IQ) rfl rfl rfl fo hS
           ·exact kv 97 rfl rfl (by kernel_rfl) rfl rfl rfl fo hS
           ·exact kv 98 rfl rfl (tK rfl rfl Tryz.underlying4 (A1.below hS).bk) rfl rfl rfl fo hS
           ·exact kv 99 rfl rfl (by kernel_rfl) rfl rfl rfl fo hS
           ·refine fV (Pv:=λu W'=>∃v,u=.tuple #[v,.int .i64 0]/\Own W' W.heap.size 5 .u8 v (f i)/\Below W.heap.size W W') 7 rfl rfl rfl Tryz.func7 (by kernel_rfl) (by kernel_rfl) ((hBi W ax cx Xu (bC hbel hS) (Sx.below hS)).mono λe w' ⟨v,he,ho,hb⟩=>⟨_,he,v,rfl,ho,hb⟩) ?_;rintro u W' ⟨v,rfl,hO,hW'⟩
            exact KL.lt 100 rfl rfl ⟨λ_=>(⟨v,rfl,hO.mono (bC hbel hS).size⟩),λe=>absurd e (by decide),λe=>absurd e (by decide),λe=>absurd e (by decide)⟩ (hW') (aI k e _ _ hS hW')
           ·exact af (v:=e 100) rfl rfl rfl (KL.lt 88 rfl rfl ⟨λe=>absurd e (by decide),λ_=>(((hla 100 rfl (by kernel_rfl)).1 rfl)),λe=>absurd e (by decide),λe=>absurd e (by decide)⟩ fo hS)
           ·obtain⟨v,h,ho⟩:=((hla 88 rfl (by kernel_rfl)).2.1 rfl);refine af (v:=v) rfl rfl (eD rfl h rfl) ?_
            exact KL.lt 101 rfl rfl ⟨λe=>absurd e (by decide),λe=>absurd e (by decide),λ_=>(ho),λe=>absurd e (by decide)⟩ fo (hS)
           ·obtain⟨v,h,ho⟩:=((hla 88 rfl (by kernel_rfl)).2.1 rfl);refine af (v:=.int .i64 0) rfl rfl (eD rfl h rfl) ?_
            exact KL.at_ 102 rfl rfl rfl fo (hS)
           ·exact af (v:=e 101) rfl rfl rfl (KL.lt 11 rfl rfl ⟨λe=>absurd e (by decide),λe=>absurd e (by decide),λe=>absurd e (by decide),λ_=>(((hla 101 rfl (by kernel_rfl)).2.2.1 rfl))⟩ fo hS)
           ·exact kv 12 rfl rfl rfl rfl rfl rfl fo hS
          ·intro ec wcc hS hla
           have l100:=(hla 100 rfl).1 rfl
           have l88:=(hla 88 rfl).2.1 rfl
           have l101:=(hla 101 rfl).2.2.1 rfl
           have YR:=(hla 11 rfl).2.2.2 rfl
           clear hla aI
           obtain⟨ay,cy,hv,Sy,afF,-⟩:=YR.mZ
           have aB:=bC hbel hS
           rw[hl1] at hv afF
           clear l100 l88 l101 YR hBi
           generalize ec 100=u100'
           generalize ec 88=u88'
           generalize ec 101=u101'
           generalize ec 11=u11' at hv ⊢
           subst hv
           clear A0 A1 hbel Sx hS
           go_wp2_with fail
           exact⟨⟨i,_,ay,cy,by omega,rfl,by go_num,rfl,afF,Sy,aB⟩,by simp[intOf]<;>omega⟩
   ·have e2:decide ((N:Int)>200)=true:=by simp;omega
    go_wp2
    go_ret
    exact⟨rfl,Below.refl _ _⟩
  ·have e1:decide ((N:Int)<16)=true:=by simp;omega
   go_wp2
   go_ret
   exact⟨rfl,Below.refl _ _⟩
 ·have e0:decide ((n:Int)>5)=true:=by simp;omega
  go_wp2
  go_ret
  exact⟨rfl,Below.refl _ _⟩
end
section
namespace topRow
open Go.ChangeShapes Go.WideShapes Go.ChangeAt Go.RowKit
open Go.ChangeMaps (open_string shut_string)
theorem lifted (os:Os)(started:os.Started)(H:Type)(enc:TypeId×Value->H) :
  ReturnsInHanded {} Tryz.checked os 3 .any (λw args=>(Rows.topRowSpec.pre enc Tryz.prog Tryz.f3 Rows.topRowRow.domain false w args/\laidMetH Tryz.prog FN w)/\sizedMet enc Tryz.prog Tryz.f3 (OpenSpec.ofChange Rows.topRowSpec) false w args) (Rows.topRowSpec.post enc Tryz.prog Tryz.f3 false true false false):=by
 refine returnsInHanded_of_change_and (C:=Tryz.checked) (X:=λw _=>laidMetH Tryz.prog FN w) (λ_ _ _ hh h=>h.of_heap hh) own started (by kernel_rfl) Tryz.func3
  (ChangeSpec.witness_shaped (enc:=enc) (C:=Tryz.checked) (os:=os) (X:=λw _=>laidMetH Tryz.prog FN w) false (World.doorLaid Tryz.prog 4000 os) #[.slice none 0 0,.slice none 0 0] 8 rfl (World.shaped_of_RefB (by kernel_rfl) (by kernel_rfl)) (by kernel_rfl) (by kernel_rfl) (by kernel_rfl) (Uf os _)) ?_
 intro W base args ds gs before hval0 hW hcnd _ hL _
 obtain⟨PZ,hG⟩:=Wm hL
 have hval:∀(j:Nat) t v,Tryz.f3.params[j]?=some t->args[j]?=some v->Value.okWide Tryz.prog W .any base t v:=hval0
 have hW':=hW
 obtain⟨p,q,hA0,hV,rfl,hfz,hnd⟩:=hW
 have hA:DataW.TrodAll enc Tryz.prog W 0 (λ_=>true) true Tryz.f3.params.toList args.toList ds p:=hA0
 rw[Tryz.params3] at hA hval
 obtain⟨v0,vs0,d0,ds0,p0,q0,hargs,rfl,rfl,h0,r0⟩:=trodAll_cons hA
 obtain⟨v1,vs1,d1,ds1,p1,q1,rfl,rfl,rfl,h1,r1⟩:=trodAll_cons r0
 obtain⟨rfl,rfl,rfl⟩:=trodAll_nil r1
 obtain rfl:args=#[v0,v1]:=by cases args;simp_all
 obtain⟨rfl,rfl⟩:=trodVars_none hV
 have k0:=h0
 have lt0:∀x∈p0,x.block<W.heap.size:=by obtain⟨m,hm⟩:=k0;exact DataW.trod_lt m _ _ _ hm
 obtain⟨a0,c0,x0,rfl,s0,hc0,hm0,hb0,hz0⟩:=Jv (hval 0 _ v0 rfl rfl) h0
 have k1:=h1
 have CU:∀x∈p1,x.block<W.heap.size:=by obtain⟨m,hm⟩:=k1;exact DataW.trod_lt m _ _ _ hm
 obtain⟨a1,c1,x1,rfl,s1,hc1,hm1,hb1,hz1⟩:=Rt Tryz.underlying23 Tryz.underlying5 (by kernel_rfl) rfl (hval 1 _ v1 rfl rfl) h1
 clear hA0 hval0
 refine(QE x0 x1 a0 a1 c0 c1 hb1 hc1 hz1 W hb0 PZ hG s0 s1).mono λe W' ⟨he,je⟩=>?_
 subst he
 exact⟨_,rfl,_,_,_,[],_,[],hW',trodAll_mk1 (shut_bool Tryz.underlying4 _),(trodAll_cons_mk (Below.trod laidOut (by kernel_rfl) (of_decide_eq_true (by kernel_rfl)) k0 je lt0) (trodAll_cons_mk (Below.trod laidOut (by kernel_rfl) (of_decide_eq_true (by kernel_rfl)) k1 je CU) trodAll_mk0)),rfl,je.frame _,λh=>by cases h⟩
theorem closed:joinedFacts Tryz.prog 3 Tryz.f3 Rows.topRowSpec Rows.topRowRow=true:=by
 unfold joinedFacts
 rw[starts,lifts,makes]
 kernel_rfl
theorem over:Rows.topRowRow.holds Tryz.pinned (OpenSpec.ofChange Rows.topRowSpec) :=
 OpenClaim.holds_of_wide 3 Tryz.f3 rfl rfl rfl rfl rfl rfl rfl ⟨rfl,rfl,rfl,rfl,rfl⟩ rfl rfl rfl rfl rfl (by kernel_rfl) Tryz.func3 closed
  (of_decide_eq_true (by kernel_rfl)) (by unfold Func.isWrapper;first|(rw[if_pos (by decide +kernel)];kernel_rfl)|(rw[if_neg (by decide +kernel)];exact⟨rfl,rfl⟩))
  (λos started H enc _=>lifted os started H enc)
theorem proved:Rows.TopRowCardSaid :=
 Claim7.holds_tied_plain_at .later [] [.data,.data,.data,.data] true (true,"51fa718bcf2215a35f4d6bebb284feddc9599147b60949b8dd14bb93e2470c35") false
  over (λ_ h=>by cases h) (by kernel_rfl) (λ_ h=>by cases h) topRow_row_tie rfl ⟨rfl,rfl⟩ (by kernel_rfl) rfl
  (λf fn hf hfn=>by
   obtain rfl:f=3:=Option.some.inj ((show Tryz.prog.funcNamed "wringer/wringertop.TopRow"=some 3 by kernel_rfl).symm.trans hf) |>.symm
   obtain rfl:fn=Tryz.f3:=(Option.some.inj (Tryz.func3.symm.trans hfn)).symm
   exact⟨by kernel_rfl,λj t ht=>by
    rw[Tryz.params3] at ht
    have hm:t∈[22,23]:=by simpa using Array.mem_of_getElem? ht
    have hall:([22,23].all λu=>!Tryz.prog.wantsStandIn u)=true:=by kernel_rfl
    exact(show Tryz.prog.wantsStandIn t=false by simpa using List.all_eq_true.1 hall t hm)⟩)
  (by kernel_rfl)
end topRow
end
end Go.Proofs.YtaiffkajkbiidaaGreatDoor
