/- What the reference of layer 9 answers: the hash; the words of a key. No condition but that the rows are no longer than a slice may be. -/
import Derived.Test.YtppideomehdhjaaW9
namespace Go.Proofs.Ytppideomehdhjaa
set_option linter.unusedSimpArgs false
set_option linter.unusedVariables false
set_option linter.unusedSectionVars false
set_option linter.unusedVariables false
open Go.RowKit
theorem nhB_len (W bs : List Nat) (p : Nat) : (nhB W bs p).length = 8 := by simp [nhB]
theorem nhH_len (W bs : List Nat) : (nhH W bs).length = 32 := by simp [nhH, nhB_len]
theorem nhOut_len (W bs : List Nat) : (nhOut W bs).length = 32 := by unfold nhOut; split; exact nhH_len W bs; simp
theorem nhH_getD (W bs : List Nat) (p i : Nat) (hp : p < 4) (hi : i < 8) : (nhH W bs).getD (8 * p + i) 0 = (nhB W bs p).getD i 0 := by
  have h0 := nhB_len W bs 0
  have h1 := nhB_len W bs 1
  have h2 := nhB_len W bs 2
  have h3 := nhB_len W bs 3
  unfold nhH
  simp only [List.getD_eq_getElem?_getD]
  rcases p with _ | _ | _ | _ | p
  · rw [List.getElem?_append_left (by omega), show 8 * 0 + i = i by omega]
  · rw [List.getElem?_append_right (by omega), List.getElem?_append_left (by omega), h0, show 8 * (0 + 1) + i - 8 = i by omega]
  · rw [List.getElem?_append_right (by omega), List.getElem?_append_right (by omega), List.getElem?_append_left (by omega), h0, h1, show 8 * (0 + 1 + 1) + i - 8 - 8 = i by omega]
  · rw [List.getElem?_append_right (by omega), List.getElem?_append_right (by omega), List.getElem?_append_right (by omega), h0, h1, h2, show 8 * (0 + 1 + 1 + 1) + i - 8 - 8 - 8 = i by omega]
  · omega
end Go.Proofs.Ytppideomehdhjaa
