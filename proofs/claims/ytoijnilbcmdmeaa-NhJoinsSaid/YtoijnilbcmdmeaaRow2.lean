/- How a slice among the arguments is read, a nil one told apart. No condition. -/
import Derived.Test.YtoijnilbcmdmeaaRow
namespace Go.Proofs.Ytoijnilbcmdmeaa
set_option linter.unusedSimpArgs false
set_option linter.unusedVariables false
set_option linter.unusedSectionVars false
set_option linter.unusedVariables false
open Go.ChangeShapes Go.WideShapes Go.ChangeAt Go.RowKit
section
variable {H : Type} {enc : TypeId × Value → H} {P : Program} {W : World} {base : Nat} {r : Reach}
theorem open_slz {t e : Nat} {k : IntKind} {v : Value} {d : DataW H} {p : List MemPlace} (ht : P.underlying t = some (.slice e)) (he : P.underlying e = some (.int k)) (hce : P.cellsOf e = 1) (hk : k.signed = false)
    (hv : Value.okWide P W r base t v) (h : DataW.Trod enc P W 0 (fun _ => true) true t v d p) : ∃ (a : Option Addr) (c : Nat) (xs : List Nat), v = .slice a xs.length c ∧ Sl W a k xs ∧ xs.length ≤ c ∧ c ≤ maxLen ∧ (∀ x ∈ xs, x < 2 ^ k.bits) ∧ (a = none → c = 0) := by
  obtain ⟨a, c, xs, rfl, h1, h2, h3, h4⟩ := open_sl ht he hce hk hv h
  refine ⟨a, c, xs, rfl, h1, h2, h3, h4, ?_⟩
  rintro rfl
  obtain ⟨fuel, hf⟩ := h
  rcases open_ints ht he hce hf with ⟨hcs, _⟩ | ⟨x, l, c', zs, hcs, _⟩
  · simp [Value.cells] at hcs
    exact hcs.2
  · simp [Value.cells] at hcs
end
end Go.Proofs.Ytoijnilbcmdmeaa
