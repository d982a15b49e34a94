/- A region that draws its order, by an invariant, where only the binding edges point back. No condition. -/
import Derived.Test.YtaiffkajkbiidaaGreatDoorKitT
namespace Go.Proofs.YtaiffkajkbiidaaGreatDoor
set_option linter.unusedSimpArgs false
set_option linter.unusedVariables false
set_option linter.unusedSectionVars false
set_option linter.unusedVariables false
open Go.RowKit
section
variable {P : Program}
theorem ready_nil_all2 {md : Region.Mode} {ops : Array Oper} {listed : Array Bool} (hok : (ops.toList.zipIdx.all fun (o, i) => o.after.all fun e => decide (e.on < i) || !Region.binds md e) = true)
    (hs : listed.size = ops.size) (h : Region.ready md ops listed = []) : ∀ j, j < ops.size → listed.getD j false = true := by
  intro j
  induction j using Nat.strongRecOn with
  | ind j ih =>
    intro hj
    refine Classical.byContradiction fun hn => ?_
    have hmem : j ∈ Region.ready md ops listed := by
      rw [mem_ready]
      refine ⟨?_, ops[j], by simp [hj], fun e he hbe => ?_⟩
      · rw [Array.getD_eq_getD_getElem?, Array.getElem?_eq_getElem (by omega)] at hn ⊢
        simpa using hn
      · rw [List.all_eq_true] at hok
        have := hok (ops[j], j) (by rw [List.mem_zipIdx_iff_getElem?]; simp [hj])
        simp only [Array.all_eq_true_iff_forall_mem, decide_eq_true_eq] at this
        have hlt : e.on < j := by have h3 := this e he; rw [hbe] at h3; simpa using h3
        exact ih _ hlt (by omega)
    rw [h] at hmem
    cases hmem

theorem wp_region_inv2 {ops : Array Oper} {Q : Exit → Act → World → Prop} {rid : Nat} {a : Act} {w : World} (hm : P.follows .mixedOrders = true)
    (hok : (ops.toList.zipIdx.all fun (o, i) => o.after.all fun e => decide (e.on < i) || !Region.binds .any e) = true)
    (I : (Nat → Prop) → Act → World → Prop)
    (h0 : I (fun _ => False) a w.drew)
    (hstep : ∀ (i : Nat) (o : Oper), ops[i]? = some o → ∀ (D : Nat → Prop) (a : Act) (w : World), I D a w → ¬ D i → (∀ e ∈ o.after, Region.binds .any e = true → D e.on) →
      wpOp P ops Q i (fun a' w' => I (fun j => j = i ∨ D j) a' w') a w)
    (hend : ∀ (D : Nat → Prop) (a : Act) (w : World), I D a w → (∀ j, j < ops.size → D j) → Q .normal a w) :
    (Code.region rid ops true).wp P Q a w := by
  refine wp_region_any hm ?_
  have key : ∀ (fuel : Nat) (listed : Array Bool) (D : Nat → Prop) (a : Act) (w : World), listed.size = ops.size → (∀ j, D j ↔ listed.getD j false = true) → I D a w →
      (fuel + (listed.toList.filter _root_.id).length = ops.size) → wpAny P .any ops Q fuel listed a w := by
    intro fuel
    induction fuel with
    | zero =>
      intro listed D a w hs hD hI hf
      have hall : ∀ j, j < ops.size → listed.getD j false = true := by
        intro j hj
        have hl : (listed.toList.filter _root_.id).length = listed.toList.length := by simp at hf ⊢; omega
        have := List.length_filter_eq_length_iff.1 hl (listed[j]'(by omega)) (by simp)
        rw [Array.getD_eq_getD_getElem?, Array.getElem?_eq_getElem (by omega)]
        simpa using this
      refine ⟨?_, hend D a w hI fun j hj => (hD j).2 (hall j hj)⟩
      cases hr : Region.ready .any ops listed with
      | nil => rfl
      | cons i is =>
        have hi : i ∈ Region.ready .any ops listed := by rw [hr]; simp
        obtain ⟨h1, o, ho, -⟩ := mem_ready.1 hi
        have hlt : i < ops.size := (Array.getElem?_eq_some_iff.1 ho).1
        have := hall i hlt
        rw [Array.getD_eq_getD_getElem?, Array.getElem?_eq_getElem (by omega)] at this h1
        simp at this h1
        rw [this] at h1; cases h1
    | succ fuel ih =>
      intro listed D a w hs hD hI hf
      refine ⟨fun hr => hend D a w hI fun j hj => (hD j).2 (ready_nil_all2 hok hs hr j hj), fun i hi => ?_⟩
      obtain ⟨h1, o, ho, hall⟩ := mem_ready.1 hi
      have hlt : i < ops.size := (Array.getElem?_eq_some_iff.1 ho).1
      have hlf : listed[i]'(by omega) = false := by
        rw [Array.getD_eq_getD_getElem?, Array.getElem?_eq_getElem (by omega)] at h1
        simpa using h1
      refine wpOp_mono (fun a' w' hI' => ih (listed.setIfInBounds i true) (fun j => j = i ∨ D j) a' w' (by simpa using hs) ?_ hI' ?_)
        (hstep i o ho D a w hI (fun hDi => ?_) fun e he hb => (hD _).2 (hall e he hb))
      · intro j
        by_cases hj : i = j
        · subst hj
          simp [Array.getD_eq_getD_getElem?, hs, hlt]
        · rw [getD_set_ne false hj, ← hD]
          constructor
          · rintro (h | h)
            · exact absurd h.symm hj
            · exact h
          · exact Or.inr
      · have hcount : ((listed.setIfInBounds i true).toList.filter _root_.id).length = (listed.toList.filter _root_.id).length + 1 := by
          rw [Array.toList_setIfInBounds]
          have hi' : i < listed.toList.length := by simpa [hs] using hlt
          have e1 : listed.toList = listed.toList.take i ++ listed.toList[i] :: listed.toList.drop (i + 1) := by
            rw [List.getElem_cons_drop, List.take_append_drop]
          rw [List.set_eq_take_append_cons_drop, if_pos hi']
          conv => rhs; rw [e1]
          have hz : listed.toList[i] = false := by simpa using hlf
          simp only [List.filter_append, List.length_append, List.filter_cons, hz, _root_.id, if_true, Bool.false_eq_true, if_false, List.length_cons]
          omega
        have hcount' : ((listed.setIfInBounds i true).toList.filter _root_.id).length = (listed.toList.filter _root_.id).length + 1 := hcount
        omega
      · have := (hD i).1 hDi
        rw [Array.getD_eq_getD_getElem?, Array.getElem?_eq_getElem (by omega)] at this
        simp [hlf] at this
  refine key ops.size _ (fun _ => False) a _ (by simp) (fun j => ?_) h0 ?_
  · constructor
    · exact False.elim
    · intro h
      rw [Array.getD_eq_getD_getElem?] at h
      by_cases hj : j < ops.size
      · simp [hj] at h
      · simp [hj] at h
  · simp

/-! ### a scope whose label is jumped back to: the pass from the label on is walked once -/
end
end Go.Proofs.YtaiffkajkbiidaaGreatDoor
