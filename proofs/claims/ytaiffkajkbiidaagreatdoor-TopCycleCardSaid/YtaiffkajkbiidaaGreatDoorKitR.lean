/- A statement that draws its order, within a round of a range over a function: as elsewhere (the widest fence, an operation that defers nothing). No condition. -/
import Derived.Test.YtaiffkajkbiidaaGreatDoorKitT
import Derived.RangeFuncNested
import Derived.RangeFuncBound
import Derived.RangeFuncCalls
import Derived.RangeFuncLeaves
import Derived.Shelf.Abstract
import Derived.Shelf.RegionOpen
import Derived.WalkKit
import Derived.OwnWalkIn
import Derived.TacticsInMore
import Derived.LoopNIn
import Derived.LoopIn
namespace Go.Proofs.YtaiffkajkbiidaaGreatDoor
set_option linter.unusedSimpArgs false
set_option linter.unusedVariables false
set_option linter.unusedSectionVars false
set_option linter.unusedVariables false
open Go.RowKit
section
variable {P : Program}
theorem wpAny_inv {ops : Array Oper} {Q : Exit → Act → World → Prop} {a : Act} {w : World} 
    (hok : (ops.toList.zipIdx.all fun (o, i) => o.after.all fun e => decide (e.on < i)) = true)
    (I : (Nat → Prop) → Act → World → Prop)
    (h0 : I (fun _ => False) a w.drew)
    (hstep : ∀ (i : Nat) (o : Oper), ops[i]? = some o → ∀ (D : Nat → Prop) (a : Act) (w : World), I D a w → ¬ D i → (∀ e ∈ o.after, Region.binds .any e = true → D e.on) →
      wpOp P ops Q i (fun a' w' => I (fun j => j = i ∨ D j) a' w') a w)
    (hend : ∀ (D : Nat → Prop) (a : Act) (w : World), I D a w → (∀ j, j < ops.size → D j) → Q .normal a w) :
    wpAny P .any ops Q ops.size (Array.replicate ops.size false) a w.drew := by
  have key : ∀ (fuel : Nat) (listed : Array Bool) (D : Nat → Prop) (a : Act) (w : World), listed.size = ops.size → (∀ j, D j ↔ listed.getD j false = true) → I D a w →
      (fuel + (listed.toList.filter _root_.id).length = ops.size) → wpAny P .any ops Q fuel listed a w := by
    intro fuel
    induction fuel with
    | zero =>
      intro listed D a w hs hD hI hf
      have hall : ∀ j, j < ops.size → listed.getD j false = true := by
        intro j hj
        have hl : (listed.toList.filter _root_.id).length = listed.toList.length := by simp at hf ⊢; omega
        have := List.length_filter_eq_length_iff.1 hl (listed[j]'(by omega)) (by simp)
        rw [Array.getD_eq_getD_getElem?, Array.getElem?_eq_getElem (by omega)]
        simpa using this
      refine ⟨?_, hend D a w hI fun j hj => (hD j).2 (hall j hj)⟩
      cases hr : Region.ready .any ops listed with
      | nil => rfl
      | cons i is =>
        have hi : i ∈ Region.ready .any ops listed := by rw [hr]; simp
        obtain ⟨h1, o, ho, -⟩ := mem_ready.1 hi
        have hlt : i < ops.size := (Array.getElem?_eq_some_iff.1 ho).1
        have := hall i hlt
        rw [Array.getD_eq_getD_getElem?, Array.getElem?_eq_getElem (by omega)] at this h1
        simp at this h1
        rw [this] at h1; cases h1
    | succ fuel ih =>
      intro listed D a w hs hD hI hf
      refine ⟨fun hr => hend D a w hI fun j hj => (hD j).2 (ready_nil_all hok hs hr j hj), fun i hi => ?_⟩
      obtain ⟨h1, o, ho, hall⟩ := mem_ready.1 hi
      have hlt : i < ops.size := (Array.getElem?_eq_some_iff.1 ho).1
      have hlf : listed[i]'(by omega) = false := by
        rw [Array.getD_eq_getD_getElem?, Array.getElem?_eq_getElem (by omega)] at h1
        simpa using h1
      refine wpOp_mono (fun a' w' hI' => ih (listed.setIfInBounds i true) (fun j => j = i ∨ D j) a' w' (by simpa using hs) ?_ hI' ?_)
        (hstep i o ho D a w hI (fun hDi => ?_) fun e he hb => (hD _).2 (hall e he hb))
      · intro j
        by_cases hj : i = j
        · subst hj
          simp [Array.getD_eq_getD_getElem?, hs, hlt]
        · rw [getD_set_ne false hj, ← hD]
          constructor
          · rintro (h | h)
            · exact absurd h.symm hj
            · exact h
          · exact Or.inr
      · have hcount : ((listed.setIfInBounds i true).toList.filter _root_.id).length = (listed.toList.filter _root_.id).length + 1 := by
          rw [Array.toList_setIfInBounds]
          have hi' : i < listed.toList.length := by simpa [hs] using hlt
          have e1 : listed.toList = listed.toList.take i ++ listed.toList[i] :: listed.toList.drop (i + 1) := by
            rw [List.getElem_cons_drop, List.take_append_drop]
          rw [List.set_eq_take_append_cons_drop, if_pos hi']
          conv => rhs; rw [e1]
          have hz : listed.toList[i] = false := by simpa using hlf
          simp only [List.filter_append, List.length_append, List.filter_cons, hz, _root_.id, if_true, Bool.false_eq_true, if_false, List.length_cons]
          omega
        have hcount' : ((listed.setIfInBounds i true).toList.filter _root_.id).length = (listed.toList.filter _root_.id).length + 1 := hcount
        omega
      · have := (hD i).1 hDi
        rw [Array.getD_eq_getD_getElem?, Array.getElem?_eq_getElem (by omega)] at this
        simp [hlf] at this
  refine key ops.size _ (fun _ => False) a _ (by simp) (fun j => ?_) h0 ?_
  · constructor
    · exact False.elim
    · intro h
      rw [Array.getD_eq_getD_getElem?] at h
      by_cases hj : j < ops.size
      · simp [hj] at h
      · simp [hj] at h
  · simp
theorem wpAny_itail {ops : Array Oper} {Q : Exit → Act → World → Prop} {a : Act} {w : World} (n : Nat) 
    (hok : (ops.toList.zipIdx.all fun (o, i) => o.after.all fun e => decide (e.on < i)) = true)
    (hsz : decide (n < ops.size) = true)
    (hall : ((List.range ops.size).all fun i => decide (i < n) || (List.range i).all fun j => (List.range (i + 1)).any fun m => decide (j < m) && ((ops[m]?.map fun o => o.after.toList.any fun e => e.on == j && Region.binds .any e) == some true)) = true)
    (I : (Nat → Prop) → Act → World → Prop)
    (h0 : I (fun _ => False) a w.drew)
    (hstep : ∀ (i : Nat) (o : Oper), i < n → ops[i]? = some o → ∀ (D : Nat → Prop) (a : Act) (w : World), I D a w → ¬ D i → (∀ e ∈ o.after, Region.binds .any e = true → D e.on) →
      wpOp P ops Q i (fun a' w' => I (fun j => j = i ∨ D j) a' w') a w)
    (hend : ∀ (D : Nat → Prop) (a : Act) (w : World), I D a w → (∀ j, j < n → D j) → wpList P ops Q (ops.toList.drop n) a w) :
    wpAny P .any ops Q ops.size (Array.replicate ops.size false) a w.drew := by
  rw [decide_eq_true_eq] at hsz
  refine wpAny_inv hok (fun D a' w' => (∀ m o, D m → ops[m]? = some o → ∀ e ∈ o.after, Region.binds .any e = true → D e.on) ∧ (((∀ i, n ≤ i → i < ops.size → ¬ D i) ∧ I D a' w') ∨ (∃ k, n < k ∧ k ≤ ops.size ∧ (∀ j, j < k → D j) ∧ (∀ i, k ≤ i → i < ops.size → ¬ D i) ∧ wpList P ops Q (ops.toList.drop k) a' w'))) ⟨fun _ _ h => h.elim, .inl ⟨fun _ _ _ h => h, h0⟩⟩ ?_ ?_
  · intro i o hi D a' w' hI hnD hpre
    obtain ⟨hcl, hI⟩ := hI
    have hlt : i < ops.size := (Array.getElem?_eq_some_iff.1 hi).1
    have hDall : n ≤ i → ∀ j, j < i → D j := fun hni => by
      have hi1 := List.all_eq_true.1 hall i (List.mem_range.2 hlt)
      rw [Bool.or_eq_true, decide_eq_true_eq] at hi1
      have hi2 := hi1.resolve_left (by omega)
      have hk : ∀ k j, j < i → i - j ≤ k → D j := fun k => by
        induction k with
        | zero => intro j hj hk; omega
        | succ k ih =>
          intro j hj hk
          have h1 := List.all_eq_true.1 hi2 j (List.mem_range.2 hj)
          obtain ⟨m, hm1, hm2⟩ := List.any_eq_true.1 h1
          rw [List.mem_range] at hm1
          simp only [Bool.and_eq_true, decide_eq_true_eq, beq_iff_eq] at hm2
          obtain ⟨hjm, hm2⟩ := hm2
          obtain ⟨om, hom⟩ : ∃ om, ops[m]? = some om := ⟨ops[m]'(by omega), Array.getElem?_eq_getElem (by omega)⟩
          rw [hom] at hm2
          simp only [Option.map_some, Option.some.injEq] at hm2
          by_cases hmi : m = i
          · subst hmi
            rw [hi] at hom
            cases hom
            exact pre_of hpre j hm2
          · exact pre_of (hcl m om (ih m (by omega) (by omega)) hom) j hm2
      exact fun j hj => hk _ j hj (Nat.le_refl _)
    have hcl' : ∀ m om, (m = i ∨ D m) → ops[m]? = some om → ∀ e ∈ om.after, Region.binds .any e = true → e.on = i ∨ D e.on := by
      intro m om hDm hom e he hb
      rcases hDm with rfl | hDm
      · rw [hi] at hom
        cases hom
        exact .inr (hpre e he hb)
      · exact .inr (hcl m om hDm hom e he hb)
    have htl : ∀ k, i = k → wpList P ops Q (ops.toList.drop k) a' w' → wpOp P ops Q i (wpList P ops Q (ops.toList.drop (k + 1))) a' w' := by
      intro k hik h
      subst hik
      have hd : ops.toList.drop i = o :: ops.toList.drop (i + 1) := by
        rw [List.drop_eq_getElem_cons (by simpa using hlt)]
        congr 1
        rw [Array.getElem?_eq_getElem hlt] at hi
        simpa using hi
      rw [hd] at h
      unfold wpOp
      simp only [hi]
      exact h
    rcases hI with ⟨hno, hI⟩ | ⟨k, hk1, hk2, hk3, hk4, hq⟩
    · by_cases hin : i < n
      · exact wpOp_mono (fun a2 w2 q => ⟨hcl', .inl ⟨fun j hj1 hj2 h => h.elim (fun e => by omega) (hno j hj1 hj2), q⟩⟩) (hstep i o hin hi D a' w' hI hnD hpre)
      · have hD := hDall (by omega)
        obtain rfl : i = n := Classical.byContradiction fun hne => hno n (Nat.le_refl _) hsz (hD n (by omega))
        refine wpOp_mono (fun a2 w2 q => ⟨hcl', .inr ⟨i + 1, by omega, hlt, fun j hj => ?_, fun j hj1 hj2 h => h.elim (fun e => by omega) (hno j (by omega) hj2), q⟩⟩) (htl i rfl (hend D a' w' hI hD))
        by_cases hji : j = i
        · exact .inl hji
        · exact .inr (hD j (by omega))
    · have hik : k ≤ i := Nat.le_of_not_lt fun h => hnD (hk3 i h)
      have hD := hDall (by omega)
      obtain rfl : i = k := Classical.byContradiction fun hne => hk4 k (Nat.le_refl _) (by omega) (hD k (by omega))
      refine wpOp_mono (fun a2 w2 q => ⟨hcl', .inr ⟨i + 1, by omega, hlt, fun j hj => ?_, fun j hj1 hj2 h => h.elim (fun e => by omega) (hk4 j (by omega) hj2), q⟩⟩) (htl i rfl hq)
      by_cases hji : j = i
      · exact .inl hji
      · exact .inr (hD j (by omega))
  · intro D a' w' hI hD
    obtain ⟨-, ⟨hno, -⟩ | ⟨k, hk1, hk2, hk3, hk4, hq⟩⟩ := hI
    · exact absurd (hD n hsz) (hno n (Nat.le_refl _) hsz)
    · have hk : k = ops.size := Classical.byContradiction fun hne => hk4 k (Nat.le_refl _) (by omega) (hD k (by omega))
      subst hk
      rw [List.drop_of_length_le (by simp)] at hq
      exact hq
theorem oper_round {l n : Nat} {o : Oper} {a : Act} {w : World} {K : Act → World → Prop} {Q : Exit → Act → World → Prop} (hnd : ∀ c, o.op ≠ .defer c) (h : o.wp P a w K Q) : o.wpIn (Fence.wide.inRound l) n P a w K Q := by
  unfold Oper.wp at h
  refine ⟨fun _ _ => trivial, ?_⟩
  rw [Fence.inRound_round, Oper.semAt_some l a.eval o hnd]
  generalize (execOp a.eval o).run P w = r at *
  cases r with
  | ok x w' =>
    cases x with
    | value v => exact h
    | skip => exact h
    | defer d => exact h
    | enter f args => exact ⟨(fun hd => by cases hd), CallsIn.inRound l (callsIn_wide.2 h)⟩
    | row row args =>
      refine ⟨(fun hd => by cases hd), fun c cs _ => ?_⟩
      obtain ⟨v, w2, h1, h2⟩ := h c cs
      exact ⟨v, w2, h1, stepsIn_wide.2 h2⟩
    | _ => exact h.elim
  | halt x w' => cases x <;> first | exact h | exact h.elim
theorem wpAny_round {l n : Nat} {ops : Array Oper} {Q : Exit → Act → World → Prop} (hnd : (ops.all fun o => match o.op with | .defer _ => false | _ => true) = true) (hQ : ¬ LetsOut Q) :
    ∀ (fuel : Nat) (listed : Array Bool) (a : Act) (w : World), wpAny P .any ops Q fuel listed a w → wpAnyIn (Fence.wide.inRound l) n P .any ops Q fuel listed a w
  | 0, _, _, _, h => h
  | f + 1, listed, a, w, h => ⟨h.1, fun i hi => by
    have h1 := wpOp_mono (fun a' w' h' => wpAny_round (l := l) (n := n) hnd hQ f _ a' w' h') (h.2 i hi)
    unfold wpOp at h1
    unfold wpOpIn
    cases ho : ops[i]? with
    | none => simp only [ho] at h1; exact h1
    | some o =>
      simp only [ho] at h1 ⊢
      have hno : ∀ c, o.op ≠ .defer c := fun c e => by
        rw [Array.all_eq_true_iff_forall_mem] at hnd
        have := hnd o (Array.mem_of_getElem? ho)
        rw [e] at this
        cases this
      by_cases hw : Region.wanted o (yielded ops a.tmps) = true
      · rw [if_pos hw] at h1 ⊢
        rcases h1 with h1 | h1
        · exact oper_round hno h1
        · exact absurd h1.2 hQ
      · rw [if_neg hw] at h1 ⊢
        exact ⟨fun _ _ => trivial, h1⟩⟩
theorem wpIn_region_itail {l nf : Nat} {ops : Array Oper} {Q : Exit → Act → World → Prop} {rid : Nat} {a : Act} {w : World} (n : Nat) (hm : P.follows .mixedOrders = true)
    (hok : (ops.toList.zipIdx.all fun (o, i) => o.after.all fun e => decide (e.on < i)) = true)
    (hsz : decide (n < ops.size) = true)
    (hall : ((List.range ops.size).all fun i => decide (i < n) || (List.range i).all fun j => (List.range (i + 1)).any fun m => decide (j < m) && ((ops[m]?.map fun o => o.after.toList.any fun e => e.on == j && Region.binds .any e) == some true)) = true)
    (I : (Nat → Prop) → Act → World → Prop)
    (h0 : I (fun _ => False) a w.drew)
    (hstep : ∀ (i : Nat) (o : Oper), i < n → ops[i]? = some o → ∀ (D : Nat → Prop) (a : Act) (w : World), I D a w → ¬ D i → (∀ e ∈ o.after, Region.binds .any e = true → D e.on) →
      wpOp P ops Q i (fun a' w' => I (fun j => j = i ∨ D j) a' w') a w)
    (hend : ∀ (D : Nat → Prop) (a : Act) (w : World), I D a w → (∀ j, j < n → D j) → wpList P ops Q (ops.toList.drop n) a w)
    (hnd : (ops.all fun o => match o.op with | .defer _ => false | _ => true) = true) (hQ : ¬ LetsOut Q) :
    (Code.region rid ops true).wpIn (Fence.wide.inRound l) nf P Q a w :=
  wpIn_region_any hm (wpAny_round hnd hQ _ _ _ _ (wpAny_itail n hok hsz hall I h0 hstep hend))
/-- What makes new blocks alone, and stores into one that holds cells, leaves all others. -/
theorem keeps_below {W W' : World} (h : Below W.heap.size W W') : KeepsOthers W W' := ⟨h.size, fun i o ho _ => (h.block i (Array.getElem?_eq_some_iff.1 ho).1).trans ho⟩
theorem keeps_row {W : World} {g t : Nat} {cs cs' : Array Value} (h : Blk W g t cs) : KeepsOthers W (W.setRow g cs') := ⟨Nat.le_of_eq (setRow_size _ _ _).symm, fun i o ho hc => by
  have hne : i ≠ g := fun e => by
    subst e
    rw [show W.heap[i]? = _ from h] at ho
    cases ho
    cases hc
  exact (setRow_other _ _ _ _ hne).trans ho⟩
end
end Go.Proofs.YtaiffkajkbiidaaGreatDoor
