/- ring.Make. No condition but that bytes are below 256. -/
import Derived.Test.YtehhipanbjhffaaW10g
import Derived.Deep.MidRow
namespace Go.Proofs.Ytehhipanbjhffaa
set_option linter.unusedSimpArgs false
set_option linter.unusedVariables false
set_option linter.unusedSectionVars false
set_option linter.unusedVariables false
open Go.RowKit
open Gf (W2 up down upN downN mulS mul dot dotS R1 D1)
def tabV (X c n : Nat) : Nat := if n < c then mul R1 X n else 0
def tabL (X c : Nat) : List Nat := (List.range 32).map fun i => if i % 2 = 0 then tabV X c (i / 2) % 18446744073709551616 else tabV X c (i / 2) / 18446744073709551616
theorem tabL_len (X c : Nat) : (tabL X c).length = 32 := by simp [tabL]
theorem tabL_get (X c : Nat) {i : Nat} (hi : i < 32) : (tabL X c)[i]? = some (if i % 2 = 0 then tabV X c (i / 2) % 18446744073709551616 else tabV X c (i / 2) / 18446744073709551616) := by
  unfold tabL
  rw [List.getElem?_map, List.getElem?_range hi]; rfl
theorem tabL_lo (X c : Nat) {n : Nat} (hn : n < 16) : (tabL X c).getD (2 * n) 0 = tabV X c n % 18446744073709551616 := by
  rw [List.getD_eq_getElem?_getD, tabL_get X c (by omega), if_pos (by omega), show 2 * n / 2 = n by omega]; rfl
theorem tabL_hi (X c : Nat) {n : Nat} (hn : n < 16) : (tabL X c).getD (2 * n + 1) 0 = tabV X c n / 18446744073709551616 := by
  rw [List.getD_eq_getElem?_getD, tabL_get X c (by omega), if_neg (by omega), show (2 * n + 1) / 2 = n by omega]; rfl
theorem tab_set (X c : Nat) (hc : c < 16) : ((tabL X c).set (2 * c) (mul R1 X c % 18446744073709551616)).set (2 * c + 1) (mul R1 X c / 18446744073709551616) = tabL X (c + 1) := by
  apply List.ext_getElem? fun j => ?_
  have hv : tabV X (c + 1) c = mul R1 X c := by unfold tabV; rw [if_pos (by omega)]
  by_cases hj : j < 32
  · rw [List.getElem?_set, List.getElem?_set, tabL_get _ _ hj, tabL_get _ _ hj]
    by_cases h1 : 2 * c + 1 = j
    · rw [if_pos h1, if_pos (by simp [tabL_len]; omega), ← h1, if_neg (by omega), show (2 * c + 1) / 2 = c by omega, hv]
    · rw [if_neg h1]
      by_cases h2 : 2 * c = j
      · rw [if_pos h2, if_pos (by simp [tabL_len]; omega), ← h2, if_pos (by omega), show 2 * c / 2 = c by omega, hv]
      · rw [if_neg h2]
        have : tabV X c (j / 2) = tabV X (c + 1) (j / 2) := by
          unfold tabV
          by_cases h3 : j / 2 < c
          · rw [if_pos h3, if_pos (by omega)]
          · rw [if_neg h3, if_neg (by omega)]
        rw [this]
  · rw [List.getElem?_eq_none (by simp [tabL_len]; omega), List.getElem?_eq_none (by simp [tabL_len]; omega)]
theorem tab_start (X : Nat) : tabL X 1 = zeros 32 := by
  apply List.ext_getElem? fun j => ?_
  have h0 : ∀ n, tabV X 1 n = 0 := fun n => by
    unfold tabV
    by_cases h : n < 1
    · rw [if_pos h, show n = 0 by omega]; exact (Gf.mul_lin_r R1 X).zero
    · rw [if_neg h]
  by_cases hj : j < 32
  · rw [tabL_get _ _ hj, h0]
    unfold zeros
    rw [List.getElem?_replicate, if_pos hj]
    simp
  · rw [List.getElem?_eq_none (by rw [tabL_len]; omega), List.getElem?_eq_none (by simp [zeros]; omega)]
/-- The table's next entry. -/
theorem tab_next (X k i : Nat) (hk : k < 4) (hi : i < 2 ^ k) : mul R1 X (2 ^ k + i) = tabV X (2 ^ k + i) i ^^^ 1 * upN R1 k X := by
  have h1 : 2 ^ k + i = 2 ^ k ^^^ i := by
    have : ∀ k, k < 4 → ∀ i, i < 2 ^ k → 2 ^ k + i = 2 ^ k ^^^ i := by decide
    exact this k hk i hi
  have h2 : mul R1 X (2 ^ k ^^^ i) = mul R1 X (2 ^ k) ^^^ mul R1 X i := Gf.mul_lin_r R1 X (2 ^ k) i
  unfold tabV
  rw [if_pos (by omega), h1, h2, Gf.mul_pow R1 X (by omega), Nat.one_mul, Nat.xor_comm]
theorem tabV_lt (X c n : Nat) (hX : X < 2 ^ 128) : tabV X c n < 2 ^ 128 := by
  unfold tabV
  split
  · exact Gf.mul_lt Gf.R1_lt hX n
  · exact Nat.two_pow_pos _
end Go.Proofs.Ytehhipanbjhffaa
