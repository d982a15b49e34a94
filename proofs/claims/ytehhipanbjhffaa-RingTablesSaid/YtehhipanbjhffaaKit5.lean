/- A region whose last operation comes after all others, be it by way of others: these in whatever order, under an invariant; then the last. -/
import Derived.Test.YtehhipanbjhffaaKit4
namespace Go.Proofs.Ytehhipanbjhffaa
set_option linter.unusedSimpArgs false
set_option linter.unusedVariables false
set_option linter.unusedSectionVars false
open Go.RowKit
theorem rl {i j : Nat} {D : Nat → Prop} (h : j = i ∨ D j) (hne : (j == i) = false := by rfl) : D j := h.resolve_left (by simpa using hne)
section
variable {P : Program}
theorem wp_region_last2 {ops : Array Oper} {Q : Exit → Act → World → Prop} {rid : Nat} {a : Act} {w : World} (last : Nat) (hm : P.follows .mixedOrders = true)
    (hok : (ops.toList.zipIdx.all fun (o, i) => o.after.all fun e => decide (e.on < i)) = true)
    (hsz : (ops.size == last + 1) = true)
    (hall : ((List.range last).all fun j => (List.range (last + 1)).any fun m => decide (j < m) && ((ops[m]?.map fun o => o.after.toList.any fun e => e.on == j && Region.binds .any e) == some true)) = true)
    (I : (Nat → Prop) → Act → World → Prop)
    (h0 : I (fun _ => False) a w.drew)
    (hstep : ∀ (i : Nat) (o : Oper), i < last → ops[i]? = some o → ∀ (D : Nat → Prop) (a : Act) (w : World), I D a w → ¬ D i → (∀ e ∈ o.after, Region.binds .any e = true → D e.on) →
      wpOp P ops Q i (fun a' w' => I (fun j => j = i ∨ D j) a' w') a w)
    (hend : ∀ (D : Nat → Prop) (a : Act) (w : World), I D a w → (∀ j, j < last → D j) → wpOp P ops Q last (fun a' w' => Q .normal a' w') a w) :
    (Code.region rid ops true).wp P Q a w := by
  rw [beq_iff_eq] at hsz
  refine wp_region_inv hm hok (fun D a' w' => (¬ D last ∧ (∀ m o, D m → ops[m]? = some o → ∀ e ∈ o.after, Region.binds .any e = true → D e.on) ∧ I D a' w') ∨ (D last ∧ (∀ j, j < last → D j) ∧ Q .normal a' w')) (.inl ⟨fun h => h, fun _ _ h => h.elim, h0⟩) ?_ ?_
  · intro i o hi D a' w' hI hnD hpre
    have hlt : i < ops.size := (Array.getElem?_eq_some_iff.1 hi).1
    rcases hI with ⟨hl, hcl, hI⟩ | ⟨hl, hD, -⟩
    · by_cases h : i = last
      · subst h
        have hk : ∀ k j, j < i → i - j ≤ k → D j := fun k => by
          induction k with
          | zero => intro j hj hk; omega
          | succ k ih =>
            intro j hj hk
            have h1 := List.all_eq_true.1 hall j (List.mem_range.2 hj)
            obtain ⟨m, hm1, hm2⟩ := List.any_eq_true.1 h1
            rw [List.mem_range] at hm1
            simp only [Bool.and_eq_true, decide_eq_true_eq, beq_iff_eq] at hm2
            obtain ⟨hjm, hm2⟩ := hm2
            obtain ⟨om, hom⟩ : ∃ om, ops[m]? = some om := ⟨ops[m]'(by omega), Array.getElem?_eq_getElem (by omega)⟩
            rw [hom] at hm2
            simp only [Option.map_some, Option.some.injEq] at hm2
            by_cases hmi : m = i
            · subst hmi
              rw [hi] at hom
              cases hom
              exact pre_of hpre j hm2
            · exact pre_of (hcl m om (ih m (by omega) (by omega)) hom) j hm2
        have hDall : ∀ j, j < i → D j := fun j hj => hk _ j hj (Nat.le_refl _)
        refine wpOp_mono (fun a2 w2 q => .inr ⟨.inl rfl, fun j hj => .inr (hDall j hj), q⟩) (hend D a' w' hI hDall)
      · refine wpOp_mono (fun a2 w2 q => .inl ⟨fun h2 => h2.elim (fun h3 => h h3.symm) hl, ?_, q⟩) (hstep i o (by omega) hi D a' w' hI hnD hpre)
        intro m om hDm hom e he hb
        rcases hDm with rfl | hDm
        · rw [hi] at hom
          cases hom
          exact .inr (hpre e he hb)
        · exact .inr (hcl m om hDm hom e he hb)
    · exfalso
      by_cases h : i = last
      · subst h; exact hnD hl
      · exact hnD (hD i (by omega))
  · intro D a' w' hI hD
    rcases hI with ⟨hl, -⟩ | ⟨-, -, q⟩
    · exact absurd (hD last (by omega)) hl
    · exact q
end
end Go.Proofs.Ytehhipanbjhffaa
