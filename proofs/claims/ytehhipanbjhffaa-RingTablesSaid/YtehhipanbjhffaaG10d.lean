/- Plain laws: an element doubled by the highest bit first, byte by byte, is its number doubled modulo x^128 + x^7 + x^2 + x + 1; multiples. No program is spoken of. No condition. -/
import Derived.Test.YtehhipanbjhffaaL10a
namespace Go.Proofs.Ytehhipanbjhffaa
set_option linter.unusedSimpArgs false
set_option linter.unusedVariables false
set_option linter.unusedSectionVars false
set_option linter.unusedVariables false
open Gf (up upN mulS mul)
def R2 : Nat := 135
theorem R2_lt : R2 < 2 ^ 128 := by decide
/-- An element's number by the highest bit first. -/
def bnum (xs : List Nat) : Nat := num xs.reverse
def belem (n : Nat) : List Nat := (elem n).reverse
theorem belem_len (n : Nat) : (belem n).length = 16 := by simp [belem, elem_len]
theorem belem_lt (n : Nat) : ∀ x ∈ belem n, x < 256 := fun x hx => elem_lt n x (by simpa [belem] using hx)
theorem bnum_lt {xs : List Nat} (hl : xs.length = 16) (hb : ∀ x ∈ xs, x < 256) : bnum xs < 2 ^ 128 := num_lt (by simpa using hl) (fun x hx => hb x (by simpa using hx))
theorem bnum_belem {n : Nat} (h : n < 2 ^ 128) : bnum (belem n) = n := by unfold bnum belem; rw [List.reverse_reverse, num_elem h]
theorem belem_bnum {xs : List Nat} (hl : xs.length = 16) (hb : ∀ x ∈ xs, x < 256) : belem (bnum xs) = xs := by
  unfold bnum belem; rw [elem_num (by simpa using hl) (fun x hx => hb x (by simpa using hx)), List.reverse_reverse]
theorem rev_getD {xs : List Nat} (hl : xs.length = 16) {i : Nat} (hi : i < 16) : xs.reverse.getD i 0 = xs.getD (15 - i) 0 := by
  rw [List.getD_eq_getElem?_getD, List.getD_eq_getElem?_getD, List.getElem?_reverse (by omega), hl, show 16 - 1 - i = 15 - i by omega]
theorem elem_getD (n : Nat) {i : Nat} (hi : i < 16) : (elem n).getD i 0 = n / 256 ^ i % 256 := dig_getD 256 16 n i hi
theorem num_digit {xs : List Nat} (hl : xs.length = 16) (hb : ∀ x ∈ xs, x < 256) {i : Nat} (hi : i < 16) : xs.getD i 0 = num xs / 256 ^ i % 256 := by
  rw [← elem_getD (num xs) hi, elem_num hl hb]
theorem belem_getD (n : Nat) {i : Nat} (hi : i < 16) : (belem n).getD i 0 = n / 256 ^ (15 - i) % 256 := by
  unfold belem; rw [rev_getD (elem_len n) hi, elem_getD n (by omega)]
theorem bnum_digit {xs : List Nat} (hl : xs.length = 16) (hb : ∀ x ∈ xs, x < 256) {i : Nat} (hi : i < 16) : xs.getD i 0 = bnum xs / 256 ^ (15 - i) % 256 := by
  rw [← belem_getD _ hi, belem_bnum hl hb]
theorem list_ext16 {xs ys : List Nat} (hl : xs.length = 16) (hl' : ys.length = 16) (h : ∀ i, i < 16 → xs.getD i 0 = ys.getD i 0) : xs = ys := by
  apply List.ext_getElem? fun i => ?_
  by_cases hi : i < 16
  · rw [getD_lt (by omega), getD_lt (by omega), h i hi]
  · rw [List.getElem?_eq_none (by omega), List.getElem?_eq_none (by omega)]
theorem xor_digit (a b j : Nat) : (a ^^^ b) / 256 ^ j % 256 = (a / 256 ^ j % 256) ^^^ (b / 256 ^ j % 256) := by
  rw [show (256 : Nat) ^ j = 2 ^ (8 * j) by rw [Nat.pow_mul], show (256 : Nat) = 2 ^ 8 by decide, ← Nat.shiftRight_eq_div_pow, ← Nat.shiftRight_eq_div_pow, ← Nat.shiftRight_eq_div_pow, Nat.shiftRight_xor_distrib, Nat.xor_mod_two_pow]
theorem dbl_digit (n j : Nat) : 2 * n / 256 ^ (j + 1) % 256 = (n / 256 ^ (j + 1) % 256 * 2 % 256) + n / 256 ^ j % 256 / 128 := by
  have hK : 0 < 256 ^ j := Nat.pow_pos (by omega)
  have e1 : 2 * n / 256 ^ (j + 1) = 2 * n / 256 ^ j / 256 := by rw [Nat.div_div_eq_div_mul, ← Nat.pow_succ]
  have e2 : n / 256 ^ (j + 1) = n / 256 ^ j / 256 := by rw [Nat.div_div_eq_div_mul, ← Nat.pow_succ]
  rw [e1, e2]
  have h := Nat.div_add_mod n (256 ^ j)
  have hr := Nat.mod_lt n hK
  have e3 : 2 * n / 256 ^ j = 2 * (n / 256 ^ j) + 2 * (n % 256 ^ j) / 256 ^ j := by
    conv => lhs; rw [← h]
    rw [Nat.mul_add, ← Nat.mul_assoc, Nat.mul_comm 2 (256 ^ j), Nat.mul_assoc, Nat.mul_add_div hK]
  have h2 : 2 * (n % 256 ^ j) / 256 ^ j < 2 := by
    rw [Nat.div_lt_iff_lt_mul hK]; omega
  rw [e3]
  generalize n / 256 ^ j = m at *
  generalize 2 * (n % 256 ^ j) / 256 ^ j = b at *
  omega
theorem or_small {a b : Nat} (ha : a < 256) (hb : b < 256) : (a * 2 % 256) ||| (b / 128) = a * 2 % 256 + b / 128 := by
  have := Nat.two_pow_add_eq_or_of_lt (i := 1) (b := b / 128) (by omega) (a % 128)
  rw [show 2 ^ 1 * (a % 128) = a * 2 % 256 by omega] at this
  exact this.symm
theorem mod_digit (n j : Nat) (hj : j < 16) : n % 2 ^ 128 / 256 ^ j % 256 = n / 256 ^ j % 256 := by
  have e : (2 : Nat) ^ 128 = 256 ^ j * 256 ^ (16 - j) := by rw [← Nat.pow_add, show j + (16 - j) = 16 by omega]
  rw [e, Nat.mod_mul_right_div_self, show 16 - j = (15 - j) + 1 by omega, Nat.pow_succ, Nat.mul_comm, Nat.mod_mul_right_mod]
theorem top_bit {n : Nat} (h : n < 2 ^ 128) : n / 256 ^ 15 % 256 / 128 = if n.testBit 127 then 1 else 0 := by
  rw [Gf.bit127 n h]
  have : n / 256 ^ 15 % 256 / 128 = n / 18446744073709551616 / 9223372036854775808 := by omega
  rw [this]
  have h2 : n / 18446744073709551616 / 9223372036854775808 = 0 ∨ n / 18446744073709551616 / 9223372036854775808 = 1 := by omega
  rcases h2 with h2 | h2 <;> rw [h2] <;> simp
theorem dblB_up {xs : List Nat} (hl : xs.length = 16) (hb : ∀ x ∈ xs, x < 256) : dblB xs = belem (up R2 (bnum xs)) := by
  have hn := bnum_lt hl hb
  refine list_ext16 (dblB_len xs) (belem_len _) fun i hi => ?_
  rw [dblB_getD xs hi, belem_getD _ hi]
  unfold up
  rw [xor_digit, mod_digit _ _ (by omega)]
  by_cases h : i < 15
  · rw [if_pos h, or_small (getD_bound hb (by omega) _) (getD_bound hb (by omega) _), bnum_digit hl hb (by omega), bnum_digit hl hb (i := i + 1) (by omega), show 15 - i = 15 - (i + 1) + 1 by omega, dbl_digit]
    have e0 : (if (bnum xs).testBit 127 then R2 else 0) / 256 ^ (15 - (i + 1) + 1) % 256 = 0 := by
      have : (if (bnum xs).testBit 127 then R2 else 0) < 256 ^ (15 - (i + 1) + 1) := by
        refine Nat.lt_of_lt_of_le (show _ < 256 ^ 1 by split <;> decide) (Nat.pow_le_pow_right (by omega) (by omega))
      rw [Nat.div_eq_of_lt this]
    rw [e0, Nat.xor_zero]
  · obtain rfl : i = 15 := by omega
    rw [if_neg h, bnum_digit hl hb (i := 15) (by omega), bnum_digit hl hb (i := 0) (by omega), show 15 - 15 = 0 by omega, show 15 - 0 = 15 by omega, top_bit hn, Nat.pow_zero, Nat.div_one, Nat.div_one, Nat.div_one]
    congr 1
    · omega
    · cases (bnum xs).testBit 127 <;> simp [R2]
theorem xorL_rev {xs ys : List Nat} (hl : xs.length = 16) (hl' : ys.length = 16) : (xorL xs ys).reverse = xorL xs.reverse ys.reverse := by
  refine list_ext16 (by simp [xorL_len]) (xorL_len _ _) fun i hi => ?_
  rw [rev_getD (xorL_len _ _) hi, xorL_getD _ _ (by omega), xorL_getD _ _ hi, rev_getD hl hi, rev_getD hl' hi]
theorem bnum_xor {xs ys : List Nat} (hl : xs.length = 16) (hb : ∀ x ∈ xs, x < 256) (hl' : ys.length = 16) (hb' : ∀ x ∈ ys, x < 256) : bnum (xorL xs ys) = bnum xs ^^^ bnum ys := by
  unfold bnum
  rw [xorL_rev hl hl', num_xor (by simpa using hl) (fun x hx => hb x (by simpa using hx)) (by simpa using hl') (fun x hx => hb' x (by simpa using hx))]
theorem belem_xor {m n : Nat} (hm : m < 2 ^ 128) (hn : n < 2 ^ 128) : xorL (belem m) (belem n) = belem (m ^^^ n) := by
  unfold belem
  rw [← xorL_rev (elem_len m) (elem_len n), elem_xor hm hn]
theorem belem_inj {m n : Nat} (hm : m < 2 ^ 128) (hn : n < 2 ^ 128) (h : belem m = belem n) : m = n := by
  rw [← bnum_belem hm, ← bnum_belem hn, h]
end Go.Proofs.Ytehhipanbjhffaa
