/- What this claim leans on, part 8: laws of the model, and what functions of the program compute. No condition but what each law states. -/
import Derived.Laws.Externs
import Derived.LoopIn
import Derived.LoopNIn
import Derived.OwnWalkIn
import Derived.RangeFuncBound
import Derived.RangeFuncCalls
import Derived.RangeFuncLeaves
import Derived.RangeFuncNested
import Derived.Shelf.Abstract
import Derived.Shelf.RegionOpen
import Derived.TacticsInMore
import Derived.Test.YtaiffkajkbiidaaGreatDoorQ7
namespace Go.Proofs.YtaiffkajkbiidaaGreatDoor
set_option linter.unusedSimpArgs false
set_option linter.unusedVariables false
set_option linter.unusedSectionVars false
set_option maxRecDepth 100000
set_option maxHeartbeats 40000000
open Go.Proofs.Tryz
open Tryz
section
open Go.RowKit
section
variable {P:Program}
theorem Nt {ops:Array Oper}{Q:Exit->Act->World->Prop}{a:Act}{w:World}
  (hok:(ops.toList.zipIdx.all λ(o,i)=>o.after.all λe=>decide (e.on<i))=true)
  (I:(Nat->Prop)->Act->World->Prop)
  (h0:I (λ_=>False) a w.drew)
  (hstep:∀(i:Nat) (o:Oper),ops[i]?=some o->∀(D:Nat->Prop) (a:Act) (w:World),I D a w->¬D i->(∀e∈o.after,Region.binds .any e=true->D e.on) ->
   wpOp P ops Q i (λa' w'=>I (λj=>j=i∨D j) a' w') a w)
  (hend:∀(D:Nat->Prop) (a:Act) (w:World),I D a w->(∀j,j<ops.size->D j)->Q .normal a w) :
  wpAny P .any ops Q ops.size (Array.replicate ops.size false) a w.drew:=by
 have key:∀(fuel:Nat) (listed:Array Bool) (D:Nat->Prop) (a:Act) (w:World),listed.size=ops.size->(∀j,D j↔listed.getD j false=true)->I D a w ->
   (fuel+(listed.toList.filter _root_.id).length=ops.size)->wpAny P .any ops Q fuel listed a w:=by
  intro fuel
  induction fuel with
  | zero =>
   intro listed D a w hs hD hI hf
   have hall:∀j,j<ops.size->listed.getD j false=true:=by
    intro j hj
    have hl:(listed.toList.filter _root_.id).length=listed.toList.length:=by simp at hf ⊢;omega
    have:=List.length_filter_eq_length_iff.1 hl (listed[j]'(by omega)) (by simp)
    rw[Array.getD_eq_getD_getElem?,Array.getElem?_eq_getElem (by omega)]
    simpa using this
   refine⟨?_,hend D a w hI λj hj=>(hD j).2 (hall j hj)⟩
   cases hr:Region.ready .any ops listed with
   | nil=>rfl
   | cons i is =>
    have hi:i∈Region.ready .any ops listed:=by rw[hr];simp
    obtain⟨h1,o,ho,-⟩:=mem_ready.1 hi
    have hlt:i<ops.size:=(Array.getElem?_eq_some_iff.1 ho).1
    have:=hall i hlt
    rw[Array.getD_eq_getD_getElem?,Array.getElem?_eq_getElem (by omega)] at this h1
    simp at this h1
    rw[this] at h1;cases h1
  | succ fuel ih =>
   intro listed D a w hs hD hI hf
   refine⟨λhr=>hend D a w hI λj hj=>(hD j).2 (qX hok hs hr j hj),λi hi=>?_⟩
   obtain⟨h1,o,ho,hall⟩:=mem_ready.1 hi
   have hlt:i<ops.size:=(Array.getElem?_eq_some_iff.1 ho).1
   have hlf:listed[i]'(by omega)=false:=by
    rw[Array.getD_eq_getD_getElem?,Array.getElem?_eq_getElem (by omega)] at h1
    simpa using h1
   refine wpOp_mono (λa' w' hI'=>ih (listed.setIfInBounds i true) (λj=>j=i∨D j) a' w' (by simpa using hs) ?_ hI' ?_)
    (hstep i o ho D a w hI (λhDi=>?_) λe he hb=>(hD _).2 (hall e he hb))
   ·intro j
    by_cases hj:i=j
    ·subst hj
     simp[Array.getD_eq_getD_getElem?,hs,hlt]
    ·rw[getD_set_ne false hj,←hD]
     constructor
     ·rintro (h|h)
      ·exact absurd h.symm hj
      ·exact h
     ·exact Or.inr
   ·have hcount:((listed.setIfInBounds i true).toList.filter _root_.id).length=(listed.toList.filter _root_.id).length+1:=by
     rw[Array.toList_setIfInBounds]
     have hi':i<listed.toList.length:=by simpa [hs] using hlt
     have e1:listed.toList=listed.toList.take i++listed.toList[i]::listed.toList.drop (i+1):=by
      rw[List.getElem_cons_drop,List.take_append_drop]
     rw[List.set_eq_take_append_cons_drop,if_pos hi']
     conv=>rhs;rw[e1]
     have hz:listed.toList[i]=false:=by simpa using hlf
     simp only[List.filter_append,List.length_append,List.filter_cons,hz,_root_.id,if_true,Bool.false_eq_true,if_false,List.length_cons]
     omega
    have Ml:((listed.setIfInBounds i true).toList.filter _root_.id).length=(listed.toList.filter _root_.id).length+1:=hcount
    omega
   ·have:=(hD i).1 hDi
    rw[Array.getD_eq_getD_getElem?,Array.getElem?_eq_getElem (by omega)] at this
    simp[hlf] at this
 refine key ops.size _ (λ_=>False) a _ (by simp) (λj=>?_) h0 ?_
 ·constructor
  ·exact False.elim
  ·intro h
   rw[Array.getD_eq_getD_getElem?] at h
   by_cases hj:j<ops.size
   ·simp[hj] at h
   ·simp[hj] at h
 ·simp
theorem El {ops:Array Oper}{Q:Exit->Act->World->Prop}{a:Act}{w:World}(n:Nat)
  (hok:(ops.toList.zipIdx.all λ(o,i)=>o.after.all λe=>decide (e.on<i))=true)
  (hsz:decide (n<ops.size)=true)
  (hall:((List.range ops.size).all λi=>decide (i<n) || (List.range i).all λj=>(List.range (i+1)).any λm=>decide (j<m)&&((ops[m]?.map λo=>o.after.toList.any λe=>e.on==j&&Region.binds .any e)==some true))=true)
  (I:(Nat->Prop)->Act->World->Prop)
  (h0:I (λ_=>False) a w.drew)
  (hstep:∀(i:Nat) (o:Oper),i<n->ops[i]?=some o->∀(D:Nat->Prop) (a:Act) (w:World),I D a w->¬D i->(∀e∈o.after,Region.binds .any e=true->D e.on) ->
   wpOp P ops Q i (λa' w'=>I (λj=>j=i∨D j) a' w') a w)
  (hend:∀(D:Nat->Prop) (a:Act) (w:World),I D a w->(∀j,j<n->D j)->wpList P ops Q (ops.toList.drop n) a w) :
  wpAny P .any ops Q ops.size (Array.replicate ops.size false) a w.drew:=by
 rw[decide_eq_true_eq] at hsz
 refine Nt hok (λD a' w'=>(∀m o,D m->ops[m]?=some o->∀e∈o.after,Region.binds .any e=true->D e.on)/\(((∀i,n<=i->i<ops.size->¬D i)/\I D a' w')∨(∃k,n<k/\k<=ops.size/\(∀j,j<k->D j)/\(∀i,k<=i->i<ops.size->¬D i)/\wpList P ops Q (ops.toList.drop k) a' w'))) ⟨λ_ _ h=>h.elim,.inl ⟨λ_ _ _ h=>h,h0⟩⟩ ?_ ?_
 ·intro i o hi D a' w' hI hnD hpre
  obtain⟨hcl,hI⟩:=hI
  have hlt:i<ops.size:=(Array.getElem?_eq_some_iff.1 hi).1
  have pO:n<=i->∀j,j<i->D j:=λhni=>by
   have hi1:=List.all_eq_true.1 hall i (List.mem_range.2 hlt)
   rw[Bool.or_eq_true,decide_eq_true_eq] at hi1
   have hi2:=hi1.resolve_left (by omega)
   have hk:∀k j,j<i->i-j<=k->D j:=λk=>by
    induction k with
    | zero=>intro j hj hk;omega
    | succ k ih =>
     intro j hj hk
     have h1:=List.all_eq_true.1 hi2 j (List.mem_range.2 hj)
     obtain⟨m,hm1,hm2⟩:=List.any_eq_true.1 h1
     rw[List.mem_range] at hm1
     simp only[Bool.and_eq_true,decide_eq_true_eq,beq_iff_eq] at hm2
     obtain⟨hjm,hm2⟩:=hm2
     obtain⟨om,vX⟩:∃om,ops[m]?=some om:=⟨ops[m]'(by omega),Array.getElem?_eq_getElem (by omega)⟩
     rw[vX] at hm2
     simp only[Option.map_some,Option.some.injEq] at hm2
     by_cases WY:m=i
     ·subst WY
      rw[hi] at vX
      cases vX
      exact aj hpre j hm2
     ·exact aj (hcl m om (ih m (by omega) (by omega)) vX) j hm2
   exact λj hj=>hk _ j hj dM
  have hcl':∀m om,(m=i∨D m)->ops[m]?=some om->∀e∈om.after,Region.binds .any e=true->e.on=i∨D e.on:=by
   intro m om Ke vX e he hb
   rcases Ke with rfl|Ke
   ·rw[hi] at vX
    cases vX
    exact .inr (hpre e he hb)
   ·exact .inr (hcl m om Ke vX e he hb)
  have htl:∀k,i=k->wpList P ops Q (ops.toList.drop k) a' w'->wpOp P ops Q i (wpList P ops Q (ops.toList.drop (k+1))) a' w':=by
   intro k hik h
   subst hik
   have hd:ops.toList.drop i=o::ops.toList.drop (i+1):=by
    rw[List.drop_eq_getElem_cons (by simpa using hlt)]
    congr 1
    rw[Array.getElem?_eq_getElem hlt] at hi
    simpa using hi
   rw[hd] at h
   unfold wpOp
   simp only[hi]
   exact h
  rcases hI with ⟨hno,hI⟩|⟨k,hk1,hk2,hk3,hk4,hq⟩
  ·by_cases hin:i<n
   ·exact wpOp_mono (λa2 w2 q=>⟨hcl',.inl ⟨λj hj1 hj2 h=>h.elim (λe=>by omega) (hno j hj1 hj2),q⟩⟩) (hstep i o hin hi D a' w' hI hnD hpre)
   ·have hD:=pO (by omega)
    obtain rfl:i=n:=Classical.byContradiction λhne=>hno n dM hsz (hD n (by omega))
    refine wpOp_mono (λa2 w2 q=>⟨hcl',.inr ⟨i+1,by omega,hlt,λj hj=>?_,λj hj1 hj2 h=>h.elim (λe=>by omega) (hno j (by omega) hj2),q⟩⟩) (htl i rfl (hend D a' w' hI hD))
    by_cases hji:j=i
    ·exact .inl hji
    ·exact .inr (hD j (by omega))
  ·have hik:k<=i:=Nat.le_of_not_lt λh=>hnD (hk3 i h)
   have hD:=pO (by omega)
   obtain rfl:i=k:=Classical.byContradiction λhne=>hk4 k dM (by omega) (hD k (by omega))
   refine wpOp_mono (λa2 w2 q=>⟨hcl',.inr ⟨i+1,by omega,hlt,λj hj=>?_,λj hj1 hj2 h=>h.elim (λe=>by omega) (hk4 j (by omega) hj2),q⟩⟩) (htl i rfl hq)
   by_cases hji:j=i
   ·exact .inl hji
   ·exact .inr (hD j (by omega))
 ·intro D a' w' hI hD
  obtain⟨-,⟨hno,-⟩|⟨k,hk1,hk2,hk3,hk4,hq⟩⟩:=hI
  ·exact absurd (hD n hsz) (hno n dM hsz)
  ·have hk:k=ops.size:=Classical.byContradiction λhne=>hk4 k dM (by omega) (hD k (by omega))
   subst hk
   rw[List.drop_of_length_le (by simp)] at hq
   exact hq
theorem Ju {l n:Nat}{o:Oper}{a:Act}{w:World}{K:Act->World->Prop}{Q:Exit->Act->World->Prop}(hnd:∀c,o.op≠.defer c)(h:o.wp P a w K Q):o.wpIn (Fence.wide.inRound l) n P a w K Q:=by
 unfold Oper.wp at h
 refine⟨λ_ _=>trivial,?_⟩
 rw[Fence.inRound_round,Oper.semAt_some l a.eval o hnd]
 generalize (execOp a.eval o).run P w=r at *
 cases r with
 | ok x w' =>
  cases x with
  | value v=>exact h
  | skip=>exact h
  | defer d=>exact h
  | enter f args=>exact⟨(λhd=>by cases hd),CallsIn.inRound l (callsIn_wide.2 h)⟩
  | row row args =>
   refine⟨(λhd=>by cases hd),λc cs _=>?_⟩
   obtain⟨v,w2,h1,h2⟩:=h c cs
   exact⟨v,w2,h1,stepsIn_wide.2 h2⟩
  | _=>exact h.elim
 | halt x w'=>cases x<;>first|exact h|exact h.elim
theorem vN {l n:Nat}{ops:Array Oper}{Q:Exit->Act->World->Prop}(hnd:(ops.all λo=>match o.op with|.defer _=>false|_=>true)=true)(hQ:¬LetsOut Q) :
  ∀(fuel:Nat) (listed:Array Bool) (a:Act) (w:World),wpAny P .any ops Q fuel listed a w->wpAnyIn (Fence.wide.inRound l) n P .any ops Q fuel listed a w
 | 0,_,_,_,h=>h
 | f+1,listed,a,w,h=>⟨h.1,λi hi=>by
  have h1:=wpOp_mono (λa' w' h'=>vN (l:=l) (n:=n) hnd hQ f _ a' w' h') (h.2 i hi)
  unfold wpOp at h1
  unfold wpOpIn
  cases ho:ops[i]? with
  | none=>simp only[ho] at h1;exact h1
  | some o =>
   simp only[ho] at h1 ⊢
   have hno:∀c,o.op≠.defer c:=λc e=>by
    rw[Array.all_eq_true_iff_forall_mem] at hnd
    have:=hnd o (Array.mem_of_getElem? ho)
    rw[e] at this
    cases this
   by_cases hw:Region.wanted o (yielded ops a.tmps)=true
   ·rw[if_pos hw] at h1 ⊢
    rcases h1 with h1|h1
    ·exact Ju hno h1
    ·exact absurd h1.2 hQ
   ·rw[if_neg hw] at h1 ⊢
    exact⟨λ_ _=>trivial,h1⟩⟩
theorem sQ {l nf:Nat}{ops:Array Oper}{Q:Exit->Act->World->Prop}{Cw:Nat}{a:Act}{w:World}(n:Nat)(hm:P.follows .mixedOrders=true)
  (hok:(ops.toList.zipIdx.all λ(o,i)=>o.after.all λe=>decide (e.on<i))=true)
  (hsz:decide (n<ops.size)=true)
  (hall:((List.range ops.size).all λi=>decide (i<n) || (List.range i).all λj=>(List.range (i+1)).any λm=>decide (j<m)&&((ops[m]?.map λo=>o.after.toList.any λe=>e.on==j&&Region.binds .any e)==some true))=true)
  (I:(Nat->Prop)->Act->World->Prop)
  (h0:I (λ_=>False) a w.drew)
  (hstep:∀(i:Nat) (o:Oper),i<n->ops[i]?=some o->∀(D:Nat->Prop) (a:Act) (w:World),I D a w->¬D i->(∀e∈o.after,Region.binds .any e=true->D e.on) ->
   wpOp P ops Q i (λa' w'=>I (λj=>j=i∨D j) a' w') a w)
  (hend:∀(D:Nat->Prop) (a:Act) (w:World),I D a w->(∀j,j<n->D j)->wpList P ops Q (ops.toList.drop n) a w)
  (hnd:(ops.all λo=>match o.op with|.defer _=>false|_=>true)=true) (hQ:¬LetsOut Q) :
  (Code.region Cw ops true).wpIn (Fence.wide.inRound l) nf P Q a w :=
 wpIn_region_any hm (vN hnd hQ _ _ _ _ (El n hok hsz hall I h0 hstep hend))
theorem FO {W W':World}(h:Below W.heap.size W W'):KeepsOthers W W':=⟨h.size,λi o ho _=>(h.block i (Array.getElem?_eq_some_iff.1 ho).1).trans ho⟩
theorem Oy {W:World}{g t:Nat}{cs cs':Array Value}(h:aA W g t cs):KeepsOthers W (W.setRow g cs'):=⟨Nat.le_of_eq (setRow_size _ _ _).symm,λi o ho hc=>by
 have hne:i≠g:=λe=>by
  subst e
  rw[show W.heap[i]?=_ from h] at ho
  cases ho
  cases hc
 exact(setRow_other _ _ _ _ hne).trans ho⟩
end
end
section
open Go.RowKit Go.Shelf
attribute [local go_sem] Oper.semAt_some
def gM (I J Z t:List Nat):List Nat:=qR (zeros 16) (oW I J Z 3 t)
theorem qC (I J Z t:List Nat):(gM I J Z t).length=16:=gP _ _
theorem kG (I J Z t:List Nat)(ht:∀x∈t,x<256):∀x∈gM I J Z t,x<256:=vL (gJ 16) (Fb I J Z 3 t ht)
theorem Jy (a:Option Addr)(n c:Nat)(w:World):Calls prog 183 #[.slice a n c] w λe w'=>e=.returned (.func (.func 194) #[] #[.pointer (some ⟨w.heap.size,0,none⟩)])/\w'=w.alloc (.cells #[.slice a n c] 210):=by
 go_enter func183,ntmps183
 go_wp2
 go_ret
 exact⟨rfl,rfl⟩
theorem CK (n:Nat)(l Bs n₀ gr off cr nt ct:Nat)(ta:Option Addr)(hr:gr<n₀)(J Jx:List Unit->World->Prop)
  (hY:∀pre (x:Unit) W,J pre W->pre.length<1->YieldAt Fence.wide (n-1) prog l #[.int .i64 3,.slice ta nt ct] W λe W' =>
   (e=.returned (.bool true)/\J (pre++[x]) W'/\Below n₀ W W')∨(e=.returned (.bool false)/\Jx (pre++[x]) W'))
  (W:World) (hBs:W.cell? ⟨Bs,0,none⟩=some (.slice (some ⟨gr,off,none⟩) 1 cr)) (hc:W.cell? ⟨gr,off,none⟩=some (.slice ta nt ct)) (h0:J [] W) :
  CallsIn Fence.wide n prog 194 #[.func (.yield l) #[] #[],.pointer (some ⟨Bs,0,none⟩)] W λe W'=>(∃v,e=.returned v) /\
   ((∃ys,ys=[()]/\J ys W')∨(∃pre,pre=[()]/\Jx pre W')):=by
 refine callsIn_of_wp func194 rfl trivial ?_ rfl
 simp only[ntmps194,List.size_toArray,List.length_cons,List.length_nil,Nat.reduceAdd,Nat.reduceSub,Array.replicate_succ,Array.replicate_zero,List.push_toArray,List.append_toArray,List.nil_append,List.cons_append]
 gi_wp2
 gi_loopw [7] (λi wr=>(i=.int .i64 0/\wr=W)∨(i=.int .i64 1/\J [()] wr)) (λi _=>1-(intOf i).toNat)
 case atStart=>exact .inl ⟨rfl,rfl⟩
 case round =>
  rcases hrel with ⟨rfl,rfl⟩|⟨rfl,hJs⟩
  ·obtain⟨fn,tmps,assign,body,hy,hR⟩:=hY [] () wr h0 (by decide)
   gi_wp2
   refine⟨(λhd=>by cases hd),hR.mono ?_⟩
   rintro e W3 (⟨rfl,hJ3,hk3⟩|⟨rfl,hJx3⟩)
   ·gi_wp2
    go_roundw
    case rel=>exact .inr ⟨rfl,hJ3⟩
    case measure=>simp[intOf]
   ·gi_wp2
    refine bodyPost_ret (results_none rfl _ _ _) rfl ?_
    exact⟨⟨_,rfl⟩,.inr ⟨_,rfl,hJx3⟩⟩
  ·gi_wp2
   go_end0
   exact⟨⟨_,rfl⟩,.inl ⟨_,rfl,hJs⟩⟩
theorem xR (n:Nat)(Bs n₀ gr off cr nt ct:Nat)(ta:Option Addr)(w:World)(hBs:Bs<w.heap.size)(hn₀:n₀<=w.heap.size)(hr:gr<n₀)
  (hb:w.cell? ⟨Bs,0,none⟩=some (.slice (some ⟨gr,off,none⟩) 1 cr)) (hc:w.cell? ⟨gr,off,none⟩=some (.slice ta nt ct)) :
  SeqStopsK Fence.wide n prog 194 #[.pointer (some ⟨Bs,0,none⟩)] (λ_:Unit=>#[Value.int .i64 3,.slice ta nt ct]) (Below n₀) (λys=>ys=[()]) (λpre=>pre=[()]) 1 w:=λl J Jx W hW _ _ hY h0 =>
 CK n l Bs n₀ gr off cr nt ct ta hr J Jx hY W ((hW.cell (p:=⟨Bs,0,none⟩) hBs).trans hb) ((hW.cell (p:=⟨gr,off,none⟩) (Nat.lt_of_lt_of_le hr hn₀)).trans hc) h0
theorem yY {W W':World}{g t B:Nat}{cs:Array Value}{row:Option Nat}(h:aA W g t cs)(hg:W.grownBy W' row)(hr:∀r,row=some r->B<=r/\∃o:Obj,W.heap[r]?=some o/\o.isCells=false):aA W' g t cs :=
 h.grown hg λe=>by
  obtain⟨-,o,ho,hc⟩:=hr g e.symm
  rw[show W.heap[g]?=_ from h] at ho
  cases ho
  cases hc
theorem Kc (gk gt gb:Nat)(I J Z t:List Nat)(ht:∀x∈t,x<256)(htl:t.length<2^31)(ta:Option Addr)(ct:Nat)(hct:t.length<=ct)(gr off cr:Nat)(w:World)(hgr:gr<w.heap.size)(hc:w.cell? ⟨gr,off,none⟩=some (.slice ta t.length ct))(hs:Sl w ta .u8 t)(hK:IsKey w gk gt gb I J Z) :
  Calls prog 170 #[.pointer (some ⟨gk,0,none⟩),.slice (some ⟨gr,off,none⟩) 1 cr] w λe w'=>e=.returned (.agg (ints .u8 (gM I J Z t)))/\Below w.heap.size w w':=by
 have hmx:prog.follows .mixedOrders=true:=by kernel_rfl
 refine(callsIn_wide (n:=3)).1 ?_
 refine callsIn_of_wp_marks func170 rfl trivial ?_ rfl
 simp only[ntmps170,List.size_toArray,List.length_cons,List.length_nil,Nat.reduceAdd,Nat.reduceSub,Array.replicate_succ,Array.replicate_zero,List.push_toArray,List.append_toArray,List.nil_append,List.cons_append]
 gi_wp2_with (refine⟨trivial,?_⟩;gi_at_call 183;refine(callsIn_wide.2 (Jy _ _ _ _)).mono ?_;rintro e w' ⟨rfl,rfl⟩)
 generalize hw4:((((w.alloc (.cells #[.pointer (some ⟨gk,0,none⟩)] 77)).alloc _).alloc _).alloc (.cells #[.slice (some ⟨gr,off,none⟩) 1 cr] 210))=w4
 have Bk:aA w4 w.heap.size 77 #[.pointer (some ⟨gk,0,none⟩)]:=by rw[←hw4];exact(((aA.new w _ _).alloc _).alloc _).alloc _
 have B1:aA w4 (w.heap.size+1) 96 (ints .u8 (zeros 16)):=by rw[←hw4];exact((aA.new' (by simp)).alloc _).alloc _
 have B2:aA w4 (w.heap.size+2) 96 (ints .u8 (zeros 16)):=by rw[←hw4];exact(aA.new' (by simp)).alloc _
 have B3:aA w4 (w.heap.size+3) 210 #[.slice (some ⟨gr,off,none⟩) 1 cr]:=by rw[←hw4];exact aA.new' (by simp)
 have hbel:Below w.heap.size w w4:=by rw[←hw4];exact((((Below.refl _ w).alloc dM _).alloc (by simp) _).alloc (by simp;omega) _).alloc (by simp;omega) _
 have hsz:w4.heap.size=w.heap.size+4:=by rw[←hw4];simp
 clear hw4
 refine wpIn_rangeFunc_ownF (α:=Unit) rfl (by decide) (gf:=194) (lb:=#[.pointer (some ⟨w.heap.size+3,0,none⟩)]) rfl trivial (enters_of func194 (by kernel_rfl) rfl)
  (xR (3-1) (w.heap.size+3) w.heap.size gr off cr t.length ct ta w4 (by omega) (by omega) hgr (by rw[B3.cell];rfl) ((hbel.cell (p:=⟨gr,off,none⟩) hgr).trans hc)) belowK_t (belowK_b (by omega)) fo (λ_=>rfl)
  (λpre W=>(aA W w.heap.size 77 #[.pointer (some ⟨gk,0,none⟩)]/\aA W (w.heap.size+1) 96 (ints .u8 (zeros 16))/\aA W (w.heap.size+2) 96 (ints .u8 (if pre=[] then zeros 16 else gM I J Z t)))/\Below w.heap.size w W)
  (λ_ _ _=>False)
  (OwnFrom.and (λs A B row hs hg hr=>⟨yY hs.1 hg hr,yY hs.2.1 hg hr,yY hs.2.2 hg hr⟩) (ownFrom_below dM (by omega)))
  (λ_ _ _ _ _ hs _ _=>hs)
  ⟨⟨Bk,B1,B2⟩,hbel⟩
  (λ_=>{ tmps:=#[.pointer (some ⟨gk,0,none⟩),.slice (some ⟨gr,off,none⟩) 1 cr,.pointer (some ⟨w.heap.size,0,none⟩),undef,.pointer (some ⟨w.heap.size+1,0,none⟩),.pointer (some ⟨w.heap.size+2,0,none⟩),.int .i64 3,.slice ta t.length ct,.slice (some ⟨gr,off,none⟩) 1 cr,.func (.func 194) #[] #[.pointer (some ⟨w.heap.size+3,0,none⟩)],.int .i64 3,.slice ta t.length ct,undef,undef,undef,undef,undef,undef,undef],defers:=[] }) ?assign ?body ?done ?stop
 case assign =>
  intro l x W K hK'
  gi_wp2
  exact hK'
 case body =>
  rintro l pre x wr ⟨⟨C0,C1,C2⟩,hB⟩ hlen
  obtain rfl:pre=[]:=List.eq_nil_of_length_eq_zero (by omega)
  have nW:aA wr (w.heap.size+2) 96 (ints .u8 (zeros 16)):=C2
  have adR:=aH 16
  have hpc:∀W,Below wr.heap.size wr W->Calls prog 185 #[.pointer (some ⟨gk,0,none⟩),.int .i64 3,.slice ta t.length ct] W λe w'=>e=.returned (.agg (ints .u8 (oW I J Z 3 t)))/\Below W.heap.size W w':=λW hW=>aal gk gt gb I J Z 3 (by decide) t ht htl ta ct hct W (hs.below (bC hB hW)) (hK.below (bC hB hW))
  have hpl:=Oj I J Z 3 t
  have hpb:=Fb I J Z 3 t ht
  have HH:Hid (gM I J Z t=qR (zeros 16) (oW I J Z 3 t)):=aR rfl
  generalize oW I J Z 3 t=p at *
  have hpp:=λW=>wU (zeros 16) p adR hpl (gJ 16) hpb W
  have DW:=gP (zeros 16) p
  generalize qR (zeros 16) p=q at *
  have k0:wr.cell? ⟨w.heap.size,0,none⟩=some (.pointer (some ⟨gk,0,none⟩)):=by rw[C0.cell];rfl
  have hl0:=C0.lt
  clear C2
  refine wpIn_block ?_
  refine sQ 6 (by kernel_rfl) (by kernel_rfl) (by kernel_rfl) (by kernel_rfl) (λD bP W=>∃u8 u9 u10 u11 u12 u13 u14 u15 u16 u17:Value,bP={ tmps:=#[.pointer (some ⟨gk,0,none⟩),.slice (some ⟨gr,off,none⟩) 1 cr,.pointer (some ⟨w.heap.size,0,none⟩),undef,.pointer (some ⟨w.heap.size+1,0,none⟩),.pointer (some ⟨w.heap.size+2,0,none⟩),.int .i64 3,.slice ta t.length ct,u8,u9,u10,u11,u12,u13,u14,u15,u16,u17,undef],defers:=[] }/\Below wr.heap.size wr W/\(D 0->u12=.agg (ints .u8 (zeros 16)))/\(D 1->u13=.pointer (some ⟨gk,0,none⟩))/\(D 2->u14=.int .i64 3)/\(D 3->u15=.slice ta t.length ct)/\(D 4->u16=.agg (ints .u8 p))/\(D 5->u17=.agg (ints .u8 q))) ?_ ?_ ?_ (by kernel_rfl) (λ⟨_,_,h⟩=>h)
  ·exact aL <| (⟨_,_,rfl,⟨rfl,rfl,rfl,Nat.le_refl _,λ_ _=>rfl⟩,nofun,nofun,nofun,nofun,nofun,nofun⟩)
  ·intro i o hilt hi D bP W hI hnD hall
   obtain⟨u8,u9,u10,u11,u12,u13,u14,u15,u16,u17,rfl,hW,f0,f1,f2,f3,f4,f5⟩:=hI
   rcases i with _|_|_|_|_|_|i<;>try cases hi
   ·refine bf rfl rfl rfl rfl (nW.below' hW) aD adR ?_
    exact aL <| (⟨_,_,rfl,hW,λ_=>rfl,ro f1,ro f2,ro f3,ro f4,ro f5⟩)
   ·refine af (v:=.pointer (some ⟨gk,0,none⟩)) rfl rfl (dH rfl rfl underlying77 ((hW.cell (p:=⟨_,_,none⟩) hl0).trans k0)) ?_
    exact aL <| (⟨_,_,rfl,hW,ro f0,λ_=>rfl,ro f2,ro f3,ro f4,ro f5⟩)
   ·refine af (v:=.int .i64 3) rfl rfl (by kernel_rfl) ?_
    exact aL <| (⟨_,_,rfl,hW,ro f0,ro f1,λ_=>rfl,ro f3,ro f4,ro f5⟩)
   ·refine af (v:=.slice ta t.length ct) rfl rfl rfl ?_
    exact aL <| (⟨_,_,rfl,hW,ro f0,ro f1,ro f2,λ_=>rfl,ro f4,ro f5⟩)
   ·obtain rfl:=f1 (aj hall 1 rfl)
    obtain rfl:=f2 (aj hall 2 rfl)
    obtain rfl:=f3 (aj hall 3 rfl)
    refine aV 185 rfl rfl rfl func185 (by kernel_rfl) (by kernel_rfl) (hpc W hW) ?_
    intro W' hW'
    exact aL <| (⟨_,_,rfl,bC hW hW',ro f0,ro f1,ro f2,ro f3,λ_=>rfl,ro f5⟩)
   ·obtain rfl:=f0 (aj hall 0 rfl)
    obtain rfl:=f4 (aj hall 4 rfl)
    refine aV 184 rfl rfl rfl func184 (by kernel_rfl) (by kernel_rfl) (hpp W) ?_
    intro W' hW'
    exact aL <| (⟨_,_,rfl,bC hW hW',ro f0,ro f1,ro f2,ro f3,ro f4,λ_=>rfl⟩)
   ·exfalso;omega
  ·rintro D bP W ⟨u8,u9,u10,u11,u12,u13,u14,u15,u16,u17,rfl,hW,f0,f1,f2,f3,f4,f5⟩ hall
   obtain rfl:=f0 (hall 0 (by decide))
   obtain rfl:=f1 (hall 1 (by decide))
   obtain rfl:=f2 (hall 2 (by decide))
   obtain rfl:=f3 (hall 3 (by decide))
   obtain rfl:=f4 (hall 4 (by decide))
   obtain rfl:=f5 (hall 5 (by decide))
   clear f0 f1 f2 f3 f4 f5 hall
   simp only[List.drop_succ_cons,List.drop_zero]
   have D0:=C0.below' hW
   have D1:=C1.below' hW
   have D2:=nW.below' hW
   have hB1:=bC hB hW
   have hB2:=az hB1 (show w.heap.size<=w.heap.size+2 by omega) (ints .u8 q)
   have hB3:=az (hW.mono hB.size) (show w.heap.size<=w.heap.size+2 by omega) (ints .u8 q)
   have E0:=D0.aM (show w.heap.size≠w.heap.size+2 by omega) (ints .u8 q)
   have E1:=D1.aM (show w.heap.size+1≠w.heap.size+2 by omega) (ints .u8 q)
   have E2:=D2.row (ints .u8 q)
   have hk:=(FO hW).trans (Oy (cs':=ints .u8 q) D2)
   refine aa rfl 96 _ _ rfl _ rfl rfl D2 (ah _ _) aD DW ?_
   exact⟨hk,hB3,⟨E0,E1,by rw[if_neg (by simp),HH.out];exact E2⟩,hB2⟩
 case done =>
  rintro D ys W hD rfl ⟨⟨C0,C1,C2⟩,hB⟩ hKd
  rename_i hKx
  refine hKx _ _ ?_
  refine wpIn_wide.2 ?_
  have Mj:=qC I J Z t
  have nW:aA W (w.heap.size+2) 96 (ints .u8 (gM I J Z t)):=C2
  clear hKx
  go_wp2_with ((first
   | (refine ag rfl 96 _ rfl _ rfl nW aD Mj ?_)
   | (refine aa rfl 96 _ _ rfl _ rfl rfl C1 (ah _ _) aD Mj ?_));(try simp only[nn,Nat.reduceAdd]))
  have hDn:w.heap.size+1≠D:=by omega
  have hK':(W.setRow (w.heap.size+1) (ints .u8 (gM I J Z t))).heap[D]?=some (.deferred (some [])):=(setRow_other _ _ _ _ (Ne.symm hDn)).trans hKd
  have E1:=C1.row (ints .u8 (gM I J Z t))
  have hB2:=az hB (show w.heap.size<=w.heap.size+1 by omega) (ints .u8 (gM I J Z t))
  have E2:aA ((W.setRow (w.heap.size+1) (ints .u8 (gM I J Z t))).putObj D (.deferred none)) (w.heap.size+1) 96 (ints .u8 (gM I J Z t)):=(World.putObj_heap_other (by omega)).trans E1
  obtain⟨⟨d,h1,hd⟩,h2⟩:=aD
  refine⟨by simp,.inl ⟨_,_,rfl,run_takeDeferred hK',?_⟩⟩
  refine⟨_,results_cell_row rfl _ _ (w.heap.size+1) _ _ _ _ rfl E2 h1 (by cases d<;>first|rfl|cases hd) (by rw[aF,Mj];exact h2),rfl,?_⟩
  exact hB2.trans (belowK_b (w:=w) dM _ D _ _ (by omega) hK' rfl rfl)
 case stop =>
  rintro D c pre W _ _ h _
  exact h.elim
end
section
open Go.RowKit
theorem Na (x y c:Nat)(hc:c<=1)(w:World) :
  (callFunc 73 #[.int .u64 (x:Int),.int .u64 (y:Int),.int .u64 (c:Int)]).run prog w=.ok (.value (.tuple #[.int .u64 (((x+y+c)%18446744073709551616:Nat):Int),.int .u64 (((x+y+c)/18446744073709551616:Nat):Int)])) w:=by
 rw[run_callFunc_extern func73 (by kernel_rfl) (by kernel_rfl) (by kernel_rfl) (e:=add64Entry) (by kernel_rfl),run_add64 x y c (by omega) (by omega) (by omega) (by omega)]
 simp only[Result.andThen]
 congr 5<;>omega
theorem Tryz.sF:dG prog 149 2:=isStr underlying149 (by kernel_rfl)
theorem Tryz.zW:IsZero prog 149 2 .u64:=isZero (by kernel_rfl)
theorem Ei (x0 x1 y0 y1:Nat)(h0:x0<18446744073709551616)(h1:x1<18446744073709551616)(k0:y0<18446744073709551616)(k1:y1<18446744073709551616)(w:World) :
  Calls prog 70 #[.agg (ints .u64 [x0,x1]),.agg (ints .u64 [y0,y1])] w λe w'=>e=.returned (.agg (ints .u64 [(x0+y0)%18446744073709551616,(x1+y1+(x0+y0)/18446744073709551616)%18446744073709551616]))/\Below w.heap.size w w':=by
 have B0:=((aA.new w 149 (ints .u64 [x0,x1])).alloc (.cells (ints .u64 [y0,y1]) 149)).alloc (.cells (ints .u64 (zeros 2)) 149)
 have B1:=(aA.new (w.alloc (.cells (ints .u64 [x0,x1]) 149)) 149 (ints .u64 [y0,y1])).alloc (.cells (ints .u64 (zeros 2)) 149)
 have B2:=aA.new ((w.alloc (.cells (ints .u64 [x0,x1]) 149)).alloc (.cells (ints .u64 [y0,y1]) 149)) 149 (ints .u64 (zeros 2))
 rw[World.size_alloc] at B1
 rw[World.size_alloc,World.size_alloc] at B2
 simp only[Nat.add_assoc,Nat.reduceAdd] at B2
 have hbel:=((bN w (.cells (ints .u64 [x0,x1]) 149)).alloc (by simp) (.cells (ints .u64 [y0,y1]) 149)).alloc (by simp;omega) (.cells (ints .u64 (zeros 2)) 149)
 have hq:(x0+y0)/18446744073709551616<=1:=by omega
 have a0:=λW=>Na x0 y0 0 (by omega) W
 have a1:=λW=>Na x1 y1 ((x0+y0)/18446744073709551616) hq W
 simp only[Nat.add_zero,show ((0:Nat):Int)=0 from rfl] at a0
 have c0:=B0.int (i:=0) (by simp)
 have c1:=B0.int (i:=1) (by simp)
 have d0:=B1.int (i:=0) (by simp)
 have d1:=B1.int (i:=1) (by simp)
 simp only[List.getD_cons_zero,List.getD_cons_succ] at c0 c1 d0 d1
 obtain⟨q,Hq⟩:∃q,q=(x0+y0)/18446744073709551616:=⟨_,rfl⟩
 obtain⟨s,Hs⟩:∃s,s=(x0+y0)%18446744073709551616:=⟨_,rfl⟩
 rw[←Hq,←Hs] at a0
 rw[←Hq] at a1
 obtain⟨t,Ht⟩:∃t,t=(x1+y1+q)%18446744073709551616:=⟨_,rfl⟩
 obtain⟨u,Hu⟩:∃u,u=(x1+y1+q)/18446744073709551616:=⟨_,rfl⟩
 rw[←Ht,←Hu] at a1
 have HQ:=aR Hq
 have HS:=aR Hs
 have HT:=aR Ht
 clear Hq Hs Ht Hu hq
 go_enter func70,ntmps70
 go_wp2_with ((first|(refine ae rfl 149 rfl zW ?_)|(refine aa (k:=.u64) (xs:=[s,t]) rfl 149 _ _ rfl (w.heap.size+2) rfl rfl B2 (ah _ _) sF rfl ?_));(try simp only[nn,Nat.reduceAdd]))
 refine aO rfl rfl (B2.row _) sF rfl ⟨?_,az hbel (by omega) _⟩
 rw[HQ.out] at HT
 rw[HS.out,HT.out]
def Jf (x s:Nat):Nat:=(x*2^s%18446744073709551616) ||| (x/2^(64-s))
theorem Cu {x s:Nat}(hx:x<18446744073709551616):Jf x s<18446744073709551616 :=
 Nat.or_lt_two_pow (n:=64) (Nat.mod_lt _ (by decide)) (Nat.lt_of_le_of_lt (Nat.div_le_self _ _) hx)
theorem CE {x y:Nat}{X Y:Int}(hx:x<18446744073709551616)(hy:y<18446744073709551616)(hX:X=(x:Int))(hY:Y=(y:Int)):Ending.returned (.int .u64 (bits BinOp.or IntKind.u64 X Y))=Ending.returned (.int .u64 ((x ||| y:Nat):Int)):=by
 rw[hX,hY,u64_or_nat x y hx hy]
theorem Lm (x:Nat)(hx:x<18446744073709551616)(k:Int)(s:Nat)(hk:(k=-32/\s=32)∨(k=-24/\s=40)∨(k=-16/\s=48)∨(k=-63/\s=1))(w:World) :
  Calls prog 79 #[.int .u64 (x:Int),.int .i64 k] w λe w'=>e=.returned (.int .u64 (Jf x s:Nat))/\w=w':=by
 rcases hk with ⟨rfl,rfl⟩|⟨rfl,rfl⟩|⟨rfl,rfl⟩|⟨rfl,rfl⟩
 all_goals
  have b0:bits BinOp.and IntKind.u64 (IntKind.u64.wrap (-32)) 63=32:=by decide
  have b1:bits BinOp.and IntKind.u64 (IntKind.u64.wrap (-24)) 63=40:=by decide
  have b2:bits BinOp.and IntKind.u64 (IntKind.u64.wrap (-16)) 63=48:=by decide
  have b3:bits BinOp.and IntKind.u64 (IntKind.u64.wrap (-63)) 63=1:=by decide
  go_enter func79,ntmps79
  go_wp2
  clear b0 b1 b2 b3
  go_ret
  refine⟨?_,rfl⟩
 ·exact CE (x:=x*2^32%18446744073709551616) (y:=x/2^32) (by omega) (by omega) (by rw[IntKind.wrap_u64];omega) (by omega)
 ·exact CE (x:=x*2^40%18446744073709551616) (y:=x/2^24) (by omega) (by omega) (by rw[IntKind.wrap_u64];omega) (by omega)
 ·exact CE (x:=x*2^48%18446744073709551616) (y:=x/2^16) (by omega) (by omega) (by rw[IntKind.wrap_u64];omega) (by omega)
 ·exact CE (x:=x*2^1%18446744073709551616) (y:=x/2^63) (by omega) (by omega) (by rw[IntKind.wrap_u64];omega) (by omega)
end
section
open Go.RowKit
theorem eF {xs:List Nat}(h:∀x∈xs,x<18446744073709551616)(i:Nat):xs.getD i 0<18446744073709551616:=aC h (by decide) i
theorem jl {xs:List Nat}{i n:Nat}(h:∀x∈xs,x<18446744073709551616)(hn:n<18446744073709551616):∀x∈xs.set i n,x<18446744073709551616:=λx hx=>(List.mem_or_eq_of_mem_set hx).elim (h x) λe=>e▸hn
structure xe (w:World)(g:Nat)(vs:List Nat):Prop where
 len:vs.length=16
 Ou:∀x∈vs,x<18446744073709551616
 blk:aA w g 163 (ints .u64 vs)
theorem xe.drew {w:World}{g:Nat}{vs:List Nat}(h:xe w g vs):xe w.drew g vs:=⟨h.len,h.Ou,h.blk⟩
theorem xe.set {w:World}{g:Nat}{vs:List Nat}(h:xe w g vs)(i:Nat){n:Nat}(hn:n<18446744073709551616):xe (w.setCell ⟨g,i,none⟩ (.int .u64 (n:Int))) g (vs.set i n) :=
 ⟨by rw[List.length_set,h.len],jl h.Ou hn,h.blk.dw i n⟩
theorem xe.at_ {w:World}{g:Nat}{vs:List Nat}(h:xe w g vs){i:Nat}(hi:i<16):vs.getD i 0<18446744073709551616/\w.cell? ⟨g,i,none⟩=some (.int .u64 ((vs.getD i 0:Nat):Int)) :=
 ⟨eF h.Ou i,h.blk.int (by rw[h.len];exact hi)⟩
theorem xe.frozen {w:World}{g:Nat}{vs:List Nat}(h:xe w g vs)(i:Nat):w.frozen? ⟨g,i,none⟩=false:=h.blk.frozen i
theorem xe.lt {w:World}{g:Nat}{vs:List Nat}(h:xe w g vs):g<w.heap.size:=h.blk.lt
theorem xe.ch {w w':World}{g g':Nat}{vs:List Nat}(h:xe w g vs)(hc:Ch g' w w')(hne:g≠g'):xe w' g vs:=⟨h.len,h.Ou,hc.blk h.blk hne⟩
theorem xe.below {w w':World}{g:Nat}{vs:List Nat}(h:xe w g vs)(hb:Below w.heap.size w w'):xe w' g vs:=⟨h.len,h.Ou,h.blk.below' hb⟩
def TE (vs:List Nat)(a b x:Nat):List Nat:=vs.set a ((vs.getD a 0+vs.getD b 0+x)%18446744073709551616)
def Mq (vs:List Nat)(d a s:Nat):List Nat:=vs.set d (Jf (vs.getD d 0^^^vs.getD a 0) s)
def TD (vs:List Nat)(c d:Nat):List Nat:=vs.set c ((vs.getD c 0+vs.getD d 0)%18446744073709551616)
def rf (vs:List Nat)(a b c d x s1 s2:Nat):List Nat:=Mq (TD (Mq (TE vs a b x) d a s1) c d) b c s2
theorem adi (A B x:Nat):IntKind.u64.wrap ((A:Int)+IntKind.u64.wrap ((B:Int)+(x:Int)))=(((A+B+x)%18446744073709551616:Nat):Int):=by
 rw[IntKind.wrap_u64,IntKind.wrap_u64];omega
theorem adh (A B:Nat):IntKind.u64.wrap ((A:Int)+(B:Int))=(((A+B)%18446744073709551616:Nat):Int):=by
 rw[IntKind.wrap_u64];omega
theorem TC (g a b c d:Nat)(ha:a<16)(hb:b<16)(hc:c<16)(hd:d<16)(x:Nat)(hx:x<18446744073709551616)(y1 y2 k1 k2:Int)(s1 s2:Nat)(hn1:IntKind.i64.wrap (-y1)=k1)(hn2:IntKind.i64.wrap (-y2)=k2)
  (hk1:(k1=-32/\s1=32)∨(k1=-24/\s1=40)∨(k1=-16/\s1=48)∨(k1=-63/\s1=1)) (hk2:(k2=-32/\s2=32)∨(k2=-24/\s2=40)∨(k2=-16/\s2=48)∨(k2=-63/\s2=1)) (w:World) (vs:List Nat) (hV:xe w g vs) :
  Calls prog 77 #[.pointer (some ⟨g,0,none⟩),.int .i64 (a:Int),.int .i64 (b:Int),.int .i64 (c:Int),.int .i64 (d:Int),.int .u64 (x:Int),.int .i64 y1,.int .i64 y2] w λe w'=>e=.returned (.tuple #[])/\xe w' g (rf vs a b c d x s1 s2)/\Ch g w w':=by
 have HA:(a:Int)<16:=by omega
 have HB:(b:Int)<16:=by omega
 have HC:(c:Int)<16:=by omega
 have HD:(d:Int)<16:=by omega
 obtain⟨r,HR⟩:=bD (rf vs a b c d x s1 s2)
 rw[HR.out]
 obtain⟨hA,cA⟩:=hV.at_ ha
 obtain⟨hB,cB⟩:=hV.at_ hb
 have hw1:=adi (vs.getD a 0) (vs.getD b 0) x
 have hn:(vs.getD a 0+vs.getD b 0+x)%18446744073709551616<18446744073709551616:=Nat.mod_lt _ (by decide)
 obtain⟨v1,H1⟩:=bD (TE vs a b x)
 have E1:Hid (vs.set a ((vs.getD a 0+vs.getD b 0+x)%18446744073709551616)=v1):=aR H1.out
 generalize (vs.getD a 0+vs.getD b 0+x)%18446744073709551616=n1 at *
 generalize vs.getD a 0=A at *
 generalize vs.getD b 0=B at *
 go_enter func77,ntmps77
 go_wp2_with fail
 go_still_tail 14,(by kernel_rfl)
 change wpList _ _ _ _ _ w.drew
 have hch:=(Ch.refl g w).drew
 replace hV:=hV.drew
 clear cA cB
 generalize w.drew=w1 at *
 have cA:=(hV.at_ ha).2
 have zA:=hV.frozen a
 replace hV:=hV.set a hn
 rw[E1.out] at hV
 replace hch:=hch.trans (Ch.bX (iG.set w1 g a (.int .u64 (n1:Int))))
 generalize vs.getD a 0=A' at *
 go_wp2_with fail
 clear hw1 cA zA hA hB
 generalize (w1.setCell ⟨g,a,none⟩ (.int .u64 (n1:Int)))=w2 at *
 obtain⟨hA,cA⟩:=hV.at_ ha
 obtain⟨hD,cD⟩:=hV.at_ hd
 have hgl:=hV.lt
 have zR:=u64_xor_nat (v1.getD d 0) (v1.getD a 0) hD hA
 have hX:v1.getD d 0^^^v1.getD a 0<18446744073709551616:=Nat.xor_lt_two_pow (n:=64) hD hA
 obtain⟨v2,H2⟩:=bD (Mq v1 d a s1)
 have E2:Hid (v1.set d (Jf (v1.getD d 0^^^v1.getD a 0) s1)=v2):=aR H2.out
 generalize v1.getD d 0^^^v1.getD a 0=X at *
 generalize v1.getD d 0=D at *
 generalize v1.getD a 0=A2 at *
 have Sz:=λW=>tN (Lm X hX k1 s1 hk1 W)
 have hR:=Cu (x:=X) (s:=s1) hX
 generalize Jf X s1=R at *
 refine bR 17 (by kernel_rfl) (by kernel_rfl) ?_
 simp only[List.take_succ_cons,List.take_zero,List.drop_succ_cons,List.drop_zero]
 go_big_quiet_step (fail)
 go_big_quiet_step (fail)
 go_big_quiet_step (fail)
 go_big_quiet_step (fail)
 refine bE (v:=.pointer (some ⟨g,0,none⟩)) rfl (λW=>by kernel_rfl) ?_
 (try simp only[nn,Nat.reduceAdd])
 go_big_quiet_step ((intro _;rfl))
 refine fH rfl rfl rfl underlying106 hgl cD ?_
 (try simp only[nn,Nat.reduceAdd])
 go_big_quiet_step (fail)
 go_big_quiet_step (fail)
 refine bE (v:=.pointer (some ⟨g,0,none⟩)) rfl (λW=>by kernel_rfl) ?_
 (try simp only[nn,Nat.reduceAdd])
 go_big_quiet_step ((intro _;rfl))
 refine fH rfl rfl rfl underlying106 hgl cA ?_
 (try simp only[nn,Nat.reduceAdd])
 go_big_quiet_step ((intro _;rfl))
 go_big_quiet_step (fail)
 go_big_quiet_step ((intro _;rfl))
 refine di 79 rfl rfl func79 (by kernel_rfl) (by kernel_rfl) (λW hQ=>Sz W) ?_
 (try simp only[nn,Nat.reduceAdd])
 refine bE (v:=.pointer (some ⟨g,0,none⟩)) rfl (λW=>by kernel_rfl) ?_
 (try simp only[nn,Nat.reduceAdd])
 refine wpQuiet_nil ?_
 intro w' hw'
 replace hV:=hV.below hw'
 replace hch:=hch.trans (Ch.of_below (g:=g) hw')
 clear cA cD Sz zR hgl hw' hA hD hX
 have cD:=(hV.at_ hd).2
 have zD:=hV.frozen d
 replace hV:=hV.set d hR
 rw[E2.out] at hV
 replace hch:=hch.trans (Ch.bX (iG.set w' g d (.int .u64 (R:Int))))
 generalize v1.getD d 0=D3 at *
 go_wp2_with fail
 clear cD zD
 generalize (w'.setCell ⟨g,d,none⟩ (.int .u64 (R:Int)))=w3 at *
 obtain⟨hC4,cC⟩:=hV.at_ hc
 obtain⟨hD4,cD⟩:=hV.at_ hd
 have hw4:=adh (v2.getD c 0) (v2.getD d 0)
 have hn4:(v2.getD c 0+v2.getD d 0)%18446744073709551616<18446744073709551616:=Nat.mod_lt _ (by decide)
 obtain⟨v3,H3⟩:=bD (TD v2 c d)
 have E3:Hid (v2.set c ((v2.getD c 0+v2.getD d 0)%18446744073709551616)=v3):=aR H3.out
 generalize (v2.getD c 0+v2.getD d 0)%18446744073709551616=n4 at *
 generalize v2.getD c 0=C4 at *
 generalize v2.getD d 0=D4 at *
 go_still_tail 12,(by kernel_rfl)
 change wpList _ _ _ _ _ w3.drew
 replace hch:=hch.drew
 replace hV:=hV.drew
 clear cC cD
 generalize w3.drew=w4 at *
 have cC:=(hV.at_ hc).2
 have zC:=hV.frozen c
 replace hV:=hV.set c hn4
 rw[E3.out] at hV
 replace hch:=hch.trans (Ch.bX (iG.set w4 g c (.int .u64 (n4:Int))))
 generalize v2.getD c 0=C5 at *
 go_wp2_with fail
 clear hw4 cC zC hC4 hD4
 generalize (w4.setCell ⟨g,c,none⟩ (.int .u64 (n4:Int)))=w5 at *
 obtain⟨hB,cB⟩:=hV.at_ hb
 obtain⟨hC,cC⟩:=hV.at_ hc
 have hgl:=hV.lt
 have zR:=u64_xor_nat (v3.getD b 0) (v3.getD c 0) hB hC
 have hX:v3.getD b 0^^^v3.getD c 0<18446744073709551616:=Nat.xor_lt_two_pow (n:=64) hB hC
 have E4:Hid (v3.set b (Jf (v3.getD b 0^^^v3.getD c 0) s2)=r):=aR (by rw[←HR.out];unfold rf;rw[H1.out,H2.out,H3.out];rfl)
 generalize v3.getD b 0^^^v3.getD c 0=X6 at *
 generalize v3.getD b 0=B6 at *
 generalize v3.getD c 0=C6 at *
 have Sz:=λW=>tN (Lm X6 hX k2 s2 hk2 W)
 have hR2:=Cu (x:=X6) (s:=s2) hX
 generalize Jf X6 s2=R2 at *
 refine bR 17 (by kernel_rfl) (by kernel_rfl) ?_
 simp only[List.take_succ_cons,List.take_zero,List.drop_succ_cons,List.drop_zero]
 go_big_quiet_step (fail)
 go_big_quiet_step (fail)
 go_big_quiet_step (fail)
 go_big_quiet_step (fail)
 refine bE (v:=.pointer (some ⟨g,0,none⟩)) rfl (λW=>by kernel_rfl) ?_
 (try simp only[nn,Nat.reduceAdd])
 go_big_quiet_step ((intro _;rfl))
 refine fH rfl rfl rfl underlying106 hgl cB ?_
 (try simp only[nn,Nat.reduceAdd])
 go_big_quiet_step (fail)
 go_big_quiet_step (fail)
 refine bE (v:=.pointer (some ⟨g,0,none⟩)) rfl (λW=>by kernel_rfl) ?_
 (try simp only[nn,Nat.reduceAdd])
 go_big_quiet_step ((intro _;rfl))
 refine fH rfl rfl rfl underlying106 hgl cC ?_
 (try simp only[nn,Nat.reduceAdd])
 go_big_quiet_step ((intro _;rfl))
 go_big_quiet_step (fail)
 go_big_quiet_step ((intro _;rfl))
 refine di 79 rfl rfl func79 (by kernel_rfl) (by kernel_rfl) (λW hQ=>Sz W) ?_
 (try simp only[nn,Nat.reduceAdd])
 refine bE (v:=.pointer (some ⟨g,0,none⟩)) rfl (λW=>by kernel_rfl) ?_
 (try simp only[nn,Nat.reduceAdd])
 refine wpQuiet_nil ?_
 intro w' hw'
 replace hV:=hV.below hw'
 replace hch:=hch.trans (Ch.of_below (g:=g) hw')
 clear cB cC Sz zR hgl hw'
 have cB:=(hV.at_ hb).2
 have zB:=hV.frozen b
 replace hV:=hV.set b hR2
 rw[E4.out] at hV
 replace hch:=hch.trans (Ch.bX (iG.set w' g b (.int .u64 (R2:Int))))
 generalize v3.getD b 0=B7 at *
 go_wp2_with fail
 exact bodyPost_end (v:=.tuple #[]) (by simp[results,results77]) rfl ⟨rfl,hV,hch⟩
end
section
open Go.RowKit
def VL (vs:List Nat)(i y x1 x2:Nat):List Nat :=
 rf (rf vs i (4+(i+y)%4) (8+(i+2*y)%4) (12+(i+3*y)%4) x1 32 40) i (4+(i+y)%4) (8+(i+2*y)%4) (12+(i+3*y)%4) x2 48 1
theorem ZV (g i y:Nat)(hi:i<4)(hy:y<2)(x1 x2:Nat)(h1:x1<18446744073709551616)(h2:x2<18446744073709551616)(w:World)(vs:List Nat)(hV:xe w g vs) :
  Calls prog 75 #[.pointer (some ⟨g,0,none⟩),.int .i64 (i:Int),.int .i64 (y:Int),.int .u64 (x1:Int),.int .u64 (x2:Int)] w λe w'=>e=.returned (.tuple #[])/\xe w' g (VL vs i y x1 x2)/\Ch g w w':=by
 obtain⟨p,Hp⟩:=bD ((i+y)%4)
 obtain⟨q,Hq⟩:=bD ((i+2*y)%4)
 obtain⟨r,Hr⟩:=bD ((i+3*y)%4)
 obtain⟨y2,Zz⟩:=bD (2*y)
 obtain⟨y3,Zy⟩:=bD (3*y)
 have hp:p<4:=by rw[←Hp.out];omega
 have hq:q<4:=by rw[←Hq.out];omega
 have hr:r<4:=by rw[←Hr.out];omega
 have HS:Hid (VL vs i y x1 x2=rf (rf vs i (4+p) (8+q) (12+r) x1 32 40) i (4+p) (8+q) (12+r) x2 48 1):=aR (by unfold VL;rw[Hp.out,Hq.out,Hr.out])
 have e2:2*(y:Int)=(y2:Int):=by rw[←Zz.out];omega
 have e3:3*(y:Int)=(y3:Int):=by rw[←Zy.out];omega
 have b2:(y2:Int)<8:=by rw[←Zz.out];omega
 have b3:(y3:Int)<8:=by rw[←Zy.out];omega
 have t1:((i:Int)+(y:Int)).tmod 4=(p:Int):=by rw[Int.tmod_eq_emod_of_nonneg (by omega),←Hp.out];omega
 have t2:((i:Int)+(y2:Int)).tmod 4=(q:Int):=by rw[Int.tmod_eq_emod_of_nonneg (by omega),←Hq.out,←Zz.out];omega
 have t3:((i:Int)+(y3:Int)).tmod 4=(r:Int):=by rw[Int.tmod_eq_emod_of_nonneg (by omega),←Hr.out,←Zy.out];omega
 have f1:=TC g i (4+p) (8+q) (12+r) (by omega) (by omega) (by omega) (by omega) x1 h1 32 24 (-32) (-24) 32 40 (by decide) (by decide) (.inl ⟨rfl,rfl⟩) (.inr (.inl ⟨rfl,rfl⟩)) w vs hV
 have f2:=λW h=>TC g i (4+p) (8+q) (12+r) (by omega) (by omega) (by omega) (by omega) x2 h2 16 63 (-16) (-63) 48 1 (by decide) (by decide) (.inr (.inr (.inl ⟨rfl,rfl⟩))) (.inr (.inr (.inr ⟨rfl,rfl⟩))) W (rf vs i (4+p) (8+q) (12+r) x1 32 40) h
 rw[←HS.out] at f2
 simp only[Int.natCast_add,Int.cast_ofNat_Int] at f1 f2
 generalize rf vs i (4+p) (8+q) (12+r) x1 32 40=vm at *
 clear HS Hp Hq Hr Zz Zy
 generalize VL vs i y x1 x2=vz at *
 go_enter func75,ntmps75
 go_wp2_with fail
 refine f1.mono ?_
 rintro e w1 ⟨rfl,hV1,hc1⟩
 clear f1
 go_wp2_with fail
 refine(f2 w1 hV1).mono ?_
 rintro e w2 ⟨rfl,hV2,hc2⟩
 go_wp2_with fail
 exact bodyPost_end (v:=.tuple #[]) (by simp[results,results75]) rfl ⟨rfl,hV2,hc1.trans hc2⟩
end
end Go.Proofs.YtaiffkajkbiidaaGreatDoor
