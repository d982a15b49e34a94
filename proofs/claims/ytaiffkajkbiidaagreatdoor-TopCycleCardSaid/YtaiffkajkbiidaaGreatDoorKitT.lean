/- A region whose first operations come in whatever order, under an invariant, and whose others come behind them, in the text's order. No condition. -/
import Derived.Test.YtaiffkajkbiidaaGreatDoorKitQ
namespace Go.Proofs.YtaiffkajkbiidaaGreatDoor
set_option linter.unusedSimpArgs false
set_option linter.unusedVariables false
set_option linter.unusedSectionVars false
set_option linter.unusedVariables false
open Go.RowKit
section
variable {P : Program}
theorem wp_region_itail {ops : Array Oper} {Q : Exit → Act → World → Prop} {rid : Nat} {a : Act} {w : World} (n : Nat) (hm : P.follows .mixedOrders = true)
    (hok : (ops.toList.zipIdx.all fun (o, i) => o.after.all fun e => decide (e.on < i)) = true)
    (hsz : decide (n < ops.size) = true)
    (hall : ((List.range ops.size).all fun i => decide (i < n) || (List.range i).all fun j => (List.range (i + 1)).any fun m => decide (j < m) && ((ops[m]?.map fun o => o.after.toList.any fun e => e.on == j && Region.binds .any e) == some true)) = true)
    (I : (Nat → Prop) → Act → World → Prop)
    (h0 : I (fun _ => False) a w.drew)
    (hstep : ∀ (i : Nat) (o : Oper), i < n → ops[i]? = some o → ∀ (D : Nat → Prop) (a : Act) (w : World), I D a w → ¬ D i → (∀ e ∈ o.after, Region.binds .any e = true → D e.on) →
      wpOp P ops Q i (fun a' w' => I (fun j => j = i ∨ D j) a' w') a w)
    (hend : ∀ (D : Nat → Prop) (a : Act) (w : World), I D a w → (∀ j, j < n → D j) → wpList P ops Q (ops.toList.drop n) a w) :
    (Code.region rid ops true).wp P Q a w := by
  rw [decide_eq_true_eq] at hsz
  refine wp_region_inv hm hok (fun D a' w' => (∀ m o, D m → ops[m]? = some o → ∀ e ∈ o.after, Region.binds .any e = true → D e.on) ∧ (((∀ i, n ≤ i → i < ops.size → ¬ D i) ∧ I D a' w') ∨ (∃ k, n < k ∧ k ≤ ops.size ∧ (∀ j, j < k → D j) ∧ (∀ i, k ≤ i → i < ops.size → ¬ D i) ∧ wpList P ops Q (ops.toList.drop k) a' w'))) ⟨fun _ _ h => h.elim, .inl ⟨fun _ _ _ h => h, h0⟩⟩ ?_ ?_
  · intro i o hi D a' w' hI hnD hpre
    obtain ⟨hcl, hI⟩ := hI
    have hlt : i < ops.size := (Array.getElem?_eq_some_iff.1 hi).1
    have hDall : n ≤ i → ∀ j, j < i → D j := fun hni => by
      have hi1 := List.all_eq_true.1 hall i (List.mem_range.2 hlt)
      rw [Bool.or_eq_true, decide_eq_true_eq] at hi1
      have hi2 := hi1.resolve_left (by omega)
      have hk : ∀ k j, j < i → i - j ≤ k → D j := fun k => by
        induction k with
        | zero => intro j hj hk; omega
        | succ k ih =>
          intro j hj hk
          have h1 := List.all_eq_true.1 hi2 j (List.mem_range.2 hj)
          obtain ⟨m, hm1, hm2⟩ := List.any_eq_true.1 h1
          rw [List.mem_range] at hm1
          simp only [Bool.and_eq_true, decide_eq_true_eq, beq_iff_eq] at hm2
          obtain ⟨hjm, hm2⟩ := hm2
          obtain ⟨om, hom⟩ : ∃ om, ops[m]? = some om := ⟨ops[m]'(by omega), Array.getElem?_eq_getElem (by omega)⟩
          rw [hom] at hm2
          simp only [Option.map_some, Option.some.injEq] at hm2
          by_cases hmi : m = i
          · subst hmi
            rw [hi] at hom
            cases hom
            exact pre_of hpre j hm2
          · exact pre_of (hcl m om (ih m (by omega) (by omega)) hom) j hm2
      exact fun j hj => hk _ j hj (Nat.le_refl _)
    have hcl' : ∀ m om, (m = i ∨ D m) → ops[m]? = some om → ∀ e ∈ om.after, Region.binds .any e = true → e.on = i ∨ D e.on := by
      intro m om hDm hom e he hb
      rcases hDm with rfl | hDm
      · rw [hi] at hom
        cases hom
        exact .inr (hpre e he hb)
      · exact .inr (hcl m om hDm hom e he hb)
    have htl : ∀ k, i = k → wpList P ops Q (ops.toList.drop k) a' w' → wpOp P ops Q i (wpList P ops Q (ops.toList.drop (k + 1))) a' w' := by
      intro k hik h
      subst hik
      have hd : ops.toList.drop i = o :: ops.toList.drop (i + 1) := by
        rw [List.drop_eq_getElem_cons (by simpa using hlt)]
        congr 1
        rw [Array.getElem?_eq_getElem hlt] at hi
        simpa using hi
      rw [hd] at h
      unfold wpOp
      simp only [hi]
      exact h
    rcases hI with ⟨hno, hI⟩ | ⟨k, hk1, hk2, hk3, hk4, hq⟩
    · by_cases hin : i < n
      · exact wpOp_mono (fun a2 w2 q => ⟨hcl', .inl ⟨fun j hj1 hj2 h => h.elim (fun e => by omega) (hno j hj1 hj2), q⟩⟩) (hstep i o hin hi D a' w' hI hnD hpre)
      · have hD := hDall (by omega)
        obtain rfl : i = n := Classical.byContradiction fun hne => hno n (Nat.le_refl _) hsz (hD n (by omega))
        refine wpOp_mono (fun a2 w2 q => ⟨hcl', .inr ⟨i + 1, by omega, hlt, fun j hj => ?_, fun j hj1 hj2 h => h.elim (fun e => by omega) (hno j (by omega) hj2), q⟩⟩) (htl i rfl (hend D a' w' hI hD))
        by_cases hji : j = i
        · exact .inl hji
        · exact .inr (hD j (by omega))
    · have hik : k ≤ i := Nat.le_of_not_lt fun h => hnD (hk3 i h)
      have hD := hDall (by omega)
      obtain rfl : i = k := Classical.byContradiction fun hne => hk4 k (Nat.le_refl _) (by omega) (hD k (by omega))
      refine wpOp_mono (fun a2 w2 q => ⟨hcl', .inr ⟨i + 1, by omega, hlt, fun j hj => ?_, fun j hj1 hj2 h => h.elim (fun e => by omega) (hk4 j (by omega) hj2), q⟩⟩) (htl i rfl hq)
      by_cases hji : j = i
      · exact .inl hji
      · exact .inr (hD j (by omega))
  · intro D a' w' hI hD
    obtain ⟨-, ⟨hno, -⟩ | ⟨k, hk1, hk2, hk3, hk4, hq⟩⟩ := hI
    · exact absurd (hD n hsz) (hno n (Nat.le_refl _) hsz)
    · have hk : k = ops.size := Classical.byContradiction fun hne => hk4 k (Nat.le_refl _) (by omega) (hD k (by omega))
      subst hk
      rw [List.drop_of_length_le (by simp)] at hq
      exact hq
end
end Go.Proofs.YtaiffkajkbiidaaGreatDoor
