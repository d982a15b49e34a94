/- Plain laws: a polynomial as the bits of a number. No program is spoken of. No condition. -/
import Derived.Test.YtehhipanbjhffaaG10d
namespace Go.Proofs.Ytehhipanbjhffaa
set_option linter.unusedSimpArgs false
set_option linter.unusedVariables false
set_option linter.unusedSectionVars false
set_option linter.unusedVariables false
def polyN (n : Nat) : List Nat := (List.range 256).map fun k => n / 2 ^ k % 2
theorem polyN_len (n : Nat) : (polyN n).length = 256 := by simp [polyN]
theorem polyN_get (n : Nat) {k : Nat} (hk : k < 256) : (polyN n)[k]? = some (n / 2 ^ k % 2) := by
  unfold polyN
  rw [List.getElem?_map, List.getElem?_range hk]; rfl
theorem polyN_getD (n : Nat) {k : Nat} (hk : k < 256) : (polyN n).getD k 0 = n / 2 ^ k % 2 := by
  rw [List.getD_eq_getElem?_getD, polyN_get n hk]; rfl
theorem polyN_lt (n : Nat) : ∀ x ∈ polyN n, x < 256 := fun x hx => by
  obtain ⟨k, -, rfl⟩ := List.mem_map.1 hx
  have := Nat.mod_lt (n / 2 ^ k) (show 2 > 0 by omega)
  omega
theorem polyN_zero : polyN 0 = zeros 256 := by
  apply List.ext_getElem? fun k => ?_
  by_cases hk : k < 256
  · rw [polyN_get 0 hk, Nat.zero_div]
    unfold zeros
    rw [List.getElem?_replicate, if_pos hk]
  · rw [List.getElem?_eq_none (by rw [polyN_len]; omega), List.getElem?_eq_none (by rw [zeros_len]; omega)]
theorem bit_xor (a b k : Nat) : (a ^^^ b) / 2 ^ k % 2 = (a / 2 ^ k % 2) ^^^ (b / 2 ^ k % 2) := by
  rw [← Nat.shiftRight_eq_div_pow, ← Nat.shiftRight_eq_div_pow, ← Nat.shiftRight_eq_div_pow, Nat.shiftRight_xor_distrib]
  exact Nat.xor_mod_two_pow (n := 1)
theorem bit_one (b k j : Nat) (hb : b < 2) : (b * 2 ^ k) / 2 ^ j % 2 = if j = k then b else 0 := by
  have h : b = 0 ∨ b = 1 := by omega
  rcases h with rfl | rfl
  · simp
  · rw [Nat.one_mul, ← Nat.toNat_testBit, Nat.testBit_two_pow]
    by_cases h : k = j
    · rw [if_pos h.symm]; simp [h]
    · rw [if_neg (fun e => h e.symm)]; simp [h]
/-- One coefficient changed. -/
theorem polyN_set (n b k : Nat) (hk : k < 256) (hb : b < 2) : (polyN n).set k ((n / 2 ^ k % 2) ^^^ b) = polyN (n ^^^ b * 2 ^ k) := by
  apply List.ext_getElem? fun j => ?_
  by_cases hj : j < 256
  · rw [List.getElem?_set, polyN_get n hj, polyN_get _ hj, bit_xor, bit_one b k j hb]
    by_cases h : k = j
    · subst h
      rw [if_pos rfl, if_pos (by rw [polyN_len]; exact hk), if_pos rfl]
    · rw [if_neg h, if_neg (fun e => h e.symm), Nat.xor_zero]
  · rw [List.getElem?_eq_none (by simp [polyN_len]; omega), List.getElem?_eq_none (by rw [polyN_len]; omega)]
end Go.Proofs.Ytehhipanbjhffaa
