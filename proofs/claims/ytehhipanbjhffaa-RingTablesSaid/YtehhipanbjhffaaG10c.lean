/- Plain laws: doubling, halving, sums and bits of numbers of 128 bits in two words of 64. No program is spoken of. No condition. -/
import Derived.Test.YtehhipanbjhffaaG10b
import Derived.Test.YtehhipanbjhffaaKit
namespace Go.Proofs.Ytehhipanbjhffaa
set_option linter.unusedSimpArgs false
set_option linter.unusedVariables false
set_option linter.unusedSectionVars false
namespace Gf
open Go.Proofs.Ytehhipanbjhffaa
/-- A number of 128 bits in two words. -/
def W2 (n : Nat) : List Nat := [n % 18446744073709551616, n / 18446744073709551616]
theorem W2_len (n : Nat) : (W2 n).length = 2 := rfl
theorem w64 : (18446744073709551616 : Nat) = 2 ^ 64 := by decide
theorem xor_lo (x y : Nat) : (x ^^^ y) % 18446744073709551616 = (x % 18446744073709551616) ^^^ (y % 18446744073709551616) := by
  rw [w64]; exact Nat.xor_mod_two_pow
theorem xor_hi (x y : Nat) : (x ^^^ y) / 18446744073709551616 = (x / 18446744073709551616) ^^^ (y / 18446744073709551616) := by
  rw [w64, ← Nat.shiftRight_eq_div_pow, ← Nat.shiftRight_eq_div_pow, ← Nat.shiftRight_eq_div_pow]; exact Nat.shiftRight_xor_distrib
theorem W2_xor (x y : Nat) : W2 (x ^^^ y) = [(x % 18446744073709551616) ^^^ (y % 18446744073709551616), (x / 18446744073709551616) ^^^ (y / 18446744073709551616)] := by
  unfold W2; rw [xor_lo, xor_hi]
/-- Bits that do not meet: both ways of putting them together are one. -/
theorem xor_add {a b : Nat} (i : Nat) (ha : a < 2 ^ i) : a ^^^ (b * 2 ^ i) = a + b * 2 ^ i := by
  have h1 := Nat.two_pow_add_eq_or_of_lt (i := i) (b := a) ha b
  rw [Nat.mul_comm b, Nat.add_comm, h1]
  apply bit_ext; intro j
  rw [Nat.testBit_xor, Nat.testBit_or, Nat.testBit_two_pow_mul]
  by_cases hj : i ≤ j
  · rw [Nat.testBit_lt_two_pow (Nat.lt_of_lt_of_le ha (Nat.pow_le_pow_right (by omega) hj))]
    simp
  · simp [hj]
theorem bit127 (n : Nat) (h : n < 2 ^ 128) : n.testBit 127 = decide (n / 18446744073709551616 / 9223372036854775808 = 1) := by
  rw [Nat.testBit_eq_decide_div_mod_eq, Nat.div_div_eq_div_mul]
  congr 1
  apply propext
  omega
theorem up_words {n : Nat} (h : n < 2 ^ 128) : W2 (up R1 n) = [(n % 18446744073709551616 * 2 % 18446744073709551616) ^^^ (n / 18446744073709551616 / 9223372036854775808), (n / 18446744073709551616 * 2 % 18446744073709551616) ^^^ (n % 18446744073709551616 / 9223372036854775808) ^^^ (n / 18446744073709551616 / 9223372036854775808 * 13979173243358019584)] := by
  unfold up
  rw [W2_xor, bit127 n h]
  have hx := xor_add (a := n % 18446744073709551616 / 9223372036854775808) (b := n / 18446744073709551616 % 9223372036854775808) 1 (by omega)
  have e1 : n / 18446744073709551616 * 2 % 18446744073709551616 = n / 18446744073709551616 % 9223372036854775808 * 2 ^ 1 := by omega
  have e2 : 2 * n % 2 ^ 128 / 18446744073709551616 = n % 18446744073709551616 / 9223372036854775808 + n / 18446744073709551616 % 9223372036854775808 * 2 ^ 1 := by omega
  have e3 : 2 * n % 2 ^ 128 % 18446744073709551616 = n % 18446744073709551616 * 2 % 18446744073709551616 := by omega
  rw [e1, e2, e3, ← hx, Nat.xor_comm (n % 18446744073709551616 / 9223372036854775808)]
  have h2 : n / 18446744073709551616 / 9223372036854775808 = 0 ∨ n / 18446744073709551616 / 9223372036854775808 = 1 := by omega
  rcases h2 with h2 | h2
  · rw [h2]; simp
  · rw [h2]
    simp only [decide_true, if_true]
    rw [show R1 % 18446744073709551616 = 1 by decide, show R1 / 18446744073709551616 = 1 * 13979173243358019584 by decide]
theorem down_words {n : Nat} (h : n < 2 ^ 128) : W2 (down D1 n) = [(n % 18446744073709551616 / 2) ^^^ (n / 18446744073709551616 * 9223372036854775808 % 18446744073709551616), (n / 18446744073709551616 / 2) ^^^ (n % 18446744073709551616 % 2 * 16212958658533785600)] := by
  unfold down
  rw [W2_xor, Nat.testBit_zero]
  have hx := xor_add (a := n % 18446744073709551616 / 2) (b := n / 18446744073709551616 % 2) 63 (by omega)
  have e1 : n / 18446744073709551616 * 9223372036854775808 % 18446744073709551616 = n / 18446744073709551616 % 2 * 2 ^ 63 := by omega
  have e2 : n / 2 % 18446744073709551616 = n % 18446744073709551616 / 2 + n / 18446744073709551616 % 2 * 2 ^ 63 := by omega
  have e3 : n / 2 / 18446744073709551616 = n / 18446744073709551616 / 2 := by omega
  have e4 : n % 18446744073709551616 % 2 = n % 2 := by omega
  rw [e1, hx, ← e2, e3, e4]
  have h2 : n % 2 = 0 ∨ n % 2 = 1 := by omega
  rcases h2 with h2 | h2
  · rw [h2]; simp
  · rw [h2]
    simp only [decide_true, if_true]
    rw [show D1 % 18446744073709551616 = 0 by decide, show D1 / 18446744073709551616 = 1 * 16212958658533785600 by decide, Nat.xor_zero]
theorem plus_words (a b f : Nat) (hf : f ≤ 1) : W2 (a ^^^ f * b) = [(a % 18446744073709551616) ^^^ (f * (b % 18446744073709551616)), (a / 18446744073709551616) ^^^ (f * (b / 18446744073709551616))] := by
  rw [W2_xor]
  have : f = 0 ∨ f = 1 := by omega
  rcases this with rfl | rfl <;> simp
theorem bit_words {n i : Nat} (h : n < 2 ^ 128) : (if i < 64 then n % 18446744073709551616 / 2 ^ i % 2 else n / 18446744073709551616 / 2 ^ (i - 64) % 2) = n / 2 ^ i % 2 := by
  by_cases hi : i < 64
  · rw [if_pos hi]
    have e : n.testBit i = (n % 2 ^ 64).testBit i := by rw [Nat.testBit_mod_two_pow]; simp [hi]
    rw [Nat.testBit_eq_decide_div_mod_eq, Nat.testBit_eq_decide_div_mod_eq] at e
    rw [w64]
    have := decide_eq_decide.1 e
    omega
  · rw [if_neg hi, Nat.div_div_eq_div_mul, w64, ← Nat.pow_add, show 64 + (i - 64) = i by omega]
theorem bit_le (n i : Nat) : n / 2 ^ i % 2 ≤ 1 := by omega
theorem if_bit (y x k : Nat) : (if y.testBit k then x else 0) = y / 2 ^ k % 2 * x := by
  rw [Nat.testBit_eq_decide_div_mod_eq]
  have : y / 2 ^ k % 2 = 0 ∨ y / 2 ^ k % 2 = 1 := by omega
  rcases this with h | h <;> rw [h] <;> simp
end Gf
end Go.Proofs.Ytehhipanbjhffaa
