/- Plain laws: a product of polynomials whose powers from x^128 on are put away one by one is the product. No program is spoken of. No condition. -/
import Derived.Test.YtehhipanbjhffaaG10f
namespace Go.Proofs.Ytehhipanbjhffaa
set_option linter.unusedSimpArgs false
set_option linter.unusedVariables false
set_option linter.unusedSectionVars false
set_option linter.unusedVariables false
open Gf (up upN mulS mul Lin)
theorem shl_xor (a b j : Nat) : (a ^^^ b) * 2 ^ j = a * 2 ^ j ^^^ b * 2 ^ j := by
  rw [← Nat.shiftLeft_eq, ← Nat.shiftLeft_eq, ← Nat.shiftLeft_eq, Nat.shiftLeft_xor_distrib]
/-- The product, nothing put away, by the first n coefficients of q. -/
def clS (p q : Nat) : Nat → Nat
  | 0 => 0
  | n + 1 => clS p q n ^^^ (if q.testBit n then p * 2 ^ n else 0)
theorem clS_bit (p q n : Nat) : clS p q (n + 1) = clS p q n ^^^ q / 2 ^ n % 2 * (p * 2 ^ n) := by
  show clS p q n ^^^ _ = _
  rw [Gf.if_bit]
/-- One coefficient of p taken in. -/
theorem cl_step (N p i k : Nat) : (N ^^^ p % 2 ^ k * 2 ^ i) ^^^ (p / 2 ^ k % 2) * 2 ^ (i + k) = N ^^^ p % 2 ^ (k + 1) * 2 ^ i := by
  rw [Nat.xor_assoc, Nat.add_comm i k, Nat.pow_add, ← Nat.mul_assoc, ← shl_xor]
  congr 2
  rw [Gf.xor_add k (Nat.mod_lt _ (Nat.two_pow_pos k)), Nat.mod_pow_succ, Nat.mul_comm]
/-- One power put away. -/
def redStep (R j N : Nat) : Nat := N ^^^ (if N.testBit (128 + j) then 2 ^ (128 + j) ^^^ R * 2 ^ j else 0)
def red (R : Nat) : Nat → Nat → Nat
  | 0, N => N
  | j + 1, N => red R j (redStep R j N)
theorem redStep_lin (R j : Nat) : Lin (redStep R j) := fun a b => by
  unfold redStep
  rw [Nat.testBit_xor, Gf.if_xor, Gf.xor4]
theorem red_lin (R : Nat) : ∀ j, Lin (red R j)
  | 0 => Lin.id
  | j + 1 => (red_lin R j).comp (redStep_lin R j)
theorem redStep_none {R j N : Nat} (h : N < 2 ^ (128 + j)) : redStep R j N = N := by
  unfold redStep
  rw [Nat.testBit_lt_two_pow h]; simp
theorem red_skip {R N k : Nat} (h : N < 2 ^ (128 + k)) : ∀ m, red R (k + m) N = red R k N
  | 0 => rfl
  | m + 1 => by
    show red R (k + m) (redStep R (k + m) N) = _
    rw [redStep_none (Nat.lt_of_lt_of_le h (Nat.pow_le_pow_right (by omega) (by omega))), red_skip h m]
theorem bit_shl (x i j : Nat) : (x * 2 ^ i).testBit (j + i) = x.testBit j := by
  rw [← Nat.shiftLeft_eq, Nat.testBit_shiftLeft]
  simp
theorem redStep_up {R : Nat} {x : Nat} (hx : x < 2 ^ 128) (j : Nat) : redStep R j (x * 2 ^ (j + 1)) = up R x * 2 ^ j := by
  have e : x * 2 ^ (j + 1) = 2 * x * 2 ^ j := by rw [Nat.pow_succ, Nat.mul_comm (2 ^ j), ← Nat.mul_assoc, Nat.mul_comm x 2]
  have hb : (x * 2 ^ (j + 1)).testBit (128 + j) = x.testBit 127 := by
    rw [show 128 + j = 127 + (j + 1) by omega]; exact bit_shl x (j + 1) 127
  unfold redStep
  rw [hb, e]
  have ht := Gf.top_split (2 * x) 128 (by omega)
  have hb2 : (2 * x).testBit 128 = x.testBit 127 := by
    have := bit_shl x 1 127
    rw [Nat.pow_one, Nat.mul_comm x 2] at this; exact this
  rw [hb2] at ht
  unfold up
  rw [shl_xor]
  cases hc : x.testBit 127
  · rw [hc] at ht
    simp only [Bool.false_eq_true, if_false, Nat.xor_zero, Nat.zero_mul] at ht ⊢
    rw [← ht]
  · rw [hc] at ht
    simp only [if_true] at ht ⊢
    generalize 2 * x % 2 ^ 128 = y at *
    rw [ht, shl_xor, ← Nat.pow_add]
    apply Gf.bit_ext; intro i
    simp only [Nat.testBit_xor]
    cases (y * 2 ^ j).testBit i <;> cases (2 ^ (128 + j)).testBit i <;> cases (R * 2 ^ j).testBit i <;> rfl
theorem red_up {R : Nat} (hR : R < 2 ^ 128) : ∀ j {x : Nat}, x < 2 ^ 128 → red R j (x * 2 ^ j) = upN R j x
  | 0, x, _ => by show x * 2 ^ 0 = x; rw [Nat.pow_zero, Nat.mul_one]
  | j + 1, x, hx => by
    show red R j (redStep R j (x * 2 ^ (j + 1))) = _
    rw [redStep_up hx, red_up hR j (Gf.up_lt hR x), ← Gf.upN_succ']
theorem red_shl {R : Nat} (hR : R < 2 ^ 128) {p n : Nat} (hp : p < 2 ^ 128) (hn : n ≤ 127) : red R 127 (p * 2 ^ n) = upN R n p := by
  have h : p * 2 ^ n < 2 ^ (128 + n) := by
    rw [Nat.pow_add]; exact Nat.mul_lt_mul_of_pos_right hp (Nat.two_pow_pos n)
  have := red_skip (R := R) h (127 - n)
  rw [show n + (127 - n) = 127 by omega] at this
  rw [this, red_up hR n hp]
theorem red_clS {R : Nat} (hR : R < 2 ^ 128) {p : Nat} (hp : p < 2 ^ 128) (q : Nat) : ∀ n, n ≤ 128 → red R 127 (clS p q n) = mulS R p q n
  | 0, _ => (red_lin R 127).zero
  | n + 1, h => by
    show red R 127 (clS p q n ^^^ _) = mulS R p q n ^^^ _
    rw [red_lin, red_clS hR hp q n (by omega)]
    congr 1
    split
    · exact red_shl hR hp (by omega)
    · exact (red_lin R 127).zero
theorem red_cl {R : Nat} (hR : R < 2 ^ 128) {p : Nat} (hp : p < 2 ^ 128) (q : Nat) : red R 127 (clS p q 128) = mul R p q := red_clS hR hp q 128 (Nat.le_refl _)
/-- What is put in the place of x^128. -/
def R3 (a b c : Nat) : Nat := 2 ^ a ^^^ 2 ^ b ^^^ 2 ^ c ^^^ 1
theorem R3_lt {a b c : Nat} (ha : a < 128) (hb : b < 128) (hc : c < 128) : R3 a b c < 2 ^ 128 := by
  have h : ∀ x, x < 128 → 2 ^ x < 2 ^ 128 := fun x hx => Nat.pow_lt_pow_right (by omega) hx
  exact Nat.xor_lt_two_pow (Nat.xor_lt_two_pow (Nat.xor_lt_two_pow (h a ha) (h b hb)) (h c hc)) (by decide)
theorem red_yes {N j a b c : Nat} (h : N / 2 ^ (128 + j) % 2 = 1) : ((((N ^^^ 1 * 2 ^ (128 + j)) ^^^ 1 * 2 ^ (j + a)) ^^^ 1 * 2 ^ (j + b)) ^^^ 1 * 2 ^ (j + c)) ^^^ 1 * 2 ^ j = redStep (R3 a b c) j N := by
  unfold redStep R3
  have hb : N.testBit (128 + j) = true := by rw [Nat.testBit_eq_decide_div_mod_eq, h]; rfl
  rw [hb, if_pos rfl, shl_xor, shl_xor, shl_xor, ← Nat.pow_add, ← Nat.pow_add, ← Nat.pow_add, Nat.add_comm a, Nat.add_comm b, Nat.add_comm c]
  simp only [Nat.one_mul, Nat.xor_assoc]
theorem red_no {N j : Nat} (R : Nat) (h : N / 2 ^ (128 + j) % 2 = 0) : redStep R j N = N := by
  unfold redStep
  have hb : N.testBit (128 + j) = false := by rw [Nat.testBit_eq_decide_div_mod_eq, h]; rfl
  rw [hb]; simp
/-- One coefficient turned. -/
theorem polyN_flip (n k : Nat) (hk : k < 256) : (polyN n).set k ((n / 2 ^ k % 2) ^^^ 1) = polyN (n ^^^ 1 * 2 ^ k) := polyN_set n 1 k hk (by omega)
theorem polyN_clear (n k : Nat) (hk : k < 256) (h : n / 2 ^ k % 2 = 1) : (polyN n).set k 0 = polyN (n ^^^ 1 * 2 ^ k) := by
  have := polyN_set n 1 k hk (by omega)
  rw [h] at this; exact this
end Go.Proofs.Ytehhipanbjhffaa
