/- (*ring.Table).Dot. No condition but that bytes are below 256. -/
import Derived.Test.YtehhipanbjhffaaW10h
import Derived.Test.YtehhipanbjhffaaKit5
namespace Go.Proofs.Ytehhipanbjhffaa
set_option linter.unusedSimpArgs false
set_option linter.unusedVariables false
set_option linter.unusedSectionVars false
set_option linter.unusedVariables false
open Go.RowKit
open Gf (W2 up down upN downN mulS mul dot dotS R1 D1)
theorem upN_shift (k n : Nat) : ∀ j, n < 2 ^ (128 - j) → j ≤ 128 → upN R1 j n = 2 ^ j * n
  | 0, _, _ => by simp [upN]
  | j + 1, h, hj => by
    have h1 : n < 2 ^ (128 - j) := Nat.lt_of_lt_of_le h (Nat.pow_le_pow_right (by omega) (by omega))
    show up R1 (upN R1 j n) = _
    rw [upN_shift k n j h1 (by omega)]
    have h2 : 2 ^ j * n < 2 ^ 127 := by
      have : 2 ^ j * n < 2 ^ j * 2 ^ (128 - (j + 1)) := Nat.mul_lt_mul_of_pos_left h (Nat.two_pow_pos j)
      rwa [← Nat.pow_add, show j + (128 - (j + 1)) = 127 by omega] at this
    unfold up
    rw [Nat.testBit_lt_two_pow h2, Nat.mod_eq_of_lt (by omega), Nat.pow_succ]
    simp
    rw [Nat.mul_comm (2 ^ j) 2, Nat.mul_assoc]
/-- Four coefficients more. -/
theorem horner (X q n : Nat) (hX : X < 2 ^ 128) (hq : q < 2 ^ 124) (hn : n < 16) : upN R1 4 (mul R1 X q) ^^^ 1 * mul R1 X n = mul R1 X (16 * q + n) := by
  have e : 16 * q + n = 16 * q ^^^ n := by
    have h := Nat.two_pow_add_eq_or_of_lt (i := 4) (b := n) (by omega) q
    have h2 : (2 ^ 4 * q) ^^^ n = (2 ^ 4 * q) ||| n := by
      apply Nat.eq_of_testBit_eq
      intro i
      rw [Nat.testBit_xor, Nat.testBit_or, Nat.testBit_two_pow_mul]
      by_cases hi : i ≥ 4
      · have : n.testBit i = false := Nat.testBit_lt_two_pow (Nat.lt_of_lt_of_le hn (show 2 ^ 4 ≤ 2 ^ i from Nat.pow_le_pow_right (by omega) hi))
        simp [this]
      · simp [hi]
    rw [show 16 * q = 2 ^ 4 * q from rfl, h, h2]
  have h1 : mul R1 X (16 * q ^^^ n) = mul R1 X (16 * q) ^^^ mul R1 X n := Gf.mul_lin_r R1 X (16 * q) n
  have h2 : upN R1 4 q = 16 * q := upN_shift 0 q 4 hq (by omega)
  rw [e, h1, Nat.one_mul, ← h2, Gf.mul_upN_r R1 Gf.R1_lt hX (by omega)]
/-- The number's nibbles from the highest. -/
theorem nib_hi {as_ : List Nat} (hl : as_.length = 16) (hb : ∀ x ∈ as_, x < 256) {i : Nat} (hi : i < 16) : num as_ / 256 ^ (15 - i) / 16 = 16 * (num as_ / 256 ^ (15 - i) / 256) + as_.getD (15 - i) 0 / 16 := by
  rw [num_digit hl hb (i := 15 - i) (by omega)]
  generalize num as_ / 256 ^ (15 - i) = m
  omega
theorem nib_lo {as_ : List Nat} (hl : as_.length = 16) (hb : ∀ x ∈ as_, x < 256) {i : Nat} (hi : i < 16) : num as_ / 256 ^ (15 - i) = 16 * (num as_ / 256 ^ (15 - i) / 16) + as_.getD (15 - i) 0 % 16 := by
  rw [num_digit hl hb (i := 15 - i) (by omega)]
  generalize num as_ / 256 ^ (15 - i) = m
  omega
end Go.Proofs.Ytehhipanbjhffaa
