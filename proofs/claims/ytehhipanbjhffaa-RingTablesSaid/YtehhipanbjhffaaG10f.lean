/- Plain laws: an element filled bit by bit. No program is spoken of. No condition. -/
import Derived.Test.YtehhipanbjhffaaG10e
namespace Go.Proofs.Ytehhipanbjhffaa
set_option linter.unusedSimpArgs false
set_option linter.unusedVariables false
set_option linter.unusedSectionVars false
set_option linter.unusedVariables false
theorem fill_byte (n q r : Nat) (hr : r < 8) : n % 2 ^ (8 * q + r) / 256 ^ q % 256 + (n / 2 ^ (8 * q + r) % 2) * 2 ^ r = n % 2 ^ (8 * q + r + 1) / 256 ^ q % 256 := by
  have hK : 0 < 256 ^ q := Nat.pow_pos (by omega)
  have e : (2 : Nat) ^ (8 * q + r) = 256 ^ q * 2 ^ r := by rw [Nat.pow_add, Nat.pow_mul]
  rw [Nat.mod_pow_succ, e]
  have hlt : n % (256 ^ q * 2 ^ r) / 256 ^ q < 2 ^ r := Nat.div_lt_of_lt_mul (Nat.mod_lt _ (Nat.mul_pos hK (Nat.two_pow_pos r)))
  have h8 : (2 : Nat) ^ r * 2 ≤ 256 := by
    have : (2 : Nat) ^ (r + 1) ≤ 2 ^ 8 := Nat.pow_le_pow_right (by omega) (by omega)
    rw [Nat.pow_succ] at this; exact this
  have hb := Nat.mod_lt (n / (256 ^ q * 2 ^ r)) (show 2 > 0 by omega)
  rw [Nat.mul_assoc, Nat.add_mul_div_left _ _ hK]
  generalize n % (256 ^ q * 2 ^ r) / 256 ^ q = m at *
  have h01 : n / (256 ^ q * 2 ^ r) % 2 = 0 ∨ n / (256 ^ q * 2 ^ r) % 2 = 1 := by omega
  generalize (2 : Nat) ^ r = R at *
  rcases h01 with h | h <;> rw [h]
  · simp
  · rw [Nat.one_mul, Nat.mul_one, Nat.mod_eq_of_lt (by omega), Nat.mod_eq_of_lt (by omega)]
theorem low_digit (n m j : Nat) (h : 8 * (j + 1) ≤ m) : n % 2 ^ m / 256 ^ j % 256 = n / 256 ^ j % 256 := by
  have e : (2 : Nat) ^ m = 256 ^ j * (256 * 2 ^ (m - 8 * (j + 1))) := by
    rw [show (256 : Nat) = 2 ^ 8 by decide, ← Nat.pow_mul, ← Nat.pow_add, ← Nat.pow_add]
    congr 1
    omega
  rw [e, Nat.mod_mul_right_div_self, Nat.mod_mul_right_mod]
theorem high_digit (n m j : Nat) (h : m ≤ 8 * j) : n % 2 ^ m / 256 ^ j % 256 = 0 := by
  have : n % 2 ^ m < 256 ^ j := by
    refine Nat.lt_of_lt_of_le (Nat.mod_lt _ (Nat.two_pow_pos m)) ?_
    rw [show (256 : Nat) = 2 ^ 8 by decide, ← Nat.pow_mul]
    exact Nat.pow_le_pow_right (by omega) h
  rw [Nat.div_eq_of_lt this]
/-- One bit more in an element's row. -/
theorem elem_fill (n k : Nat) (hk : k < 128) : (elem (n % 2 ^ k)).set (k / 8) ((elem (n % 2 ^ k)).getD (k / 8) 0 + (n / 2 ^ k % 2) * 2 ^ (k % 8)) = elem (n % 2 ^ (k + 1)) := by
  refine list_ext16 (by rw [List.length_set]; exact elem_len _) (elem_len _) fun i hi => ?_
  have hf := fill_byte n (k / 8) (k % 8) (by omega)
  rw [show 8 * (k / 8) + k % 8 = k by omega] at hf
  rw [elem_getD _ (by omega : k / 8 < 16), hf, elem_getD _ hi]
  by_cases h : k / 8 = i
  · subst h
    rw [List.getD_eq_getElem?_getD, List.getElem?_set_self (by rw [elem_len]; omega)]; rfl
  · rw [List.getD_eq_getElem?_getD, List.getElem?_set_ne h, ← List.getD_eq_getElem?_getD, elem_getD _ hi]
    by_cases h2 : i < k / 8
    · rw [low_digit n k i (by omega), low_digit n (k + 1) i (by omega)]
    · rw [high_digit n k i (by omega), high_digit n (k + 1) i (by omega)]
end Go.Proofs.Ytehhipanbjhffaa
