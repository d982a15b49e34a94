/- Plain laws of the field of 2^128 elements as numbers below 2^128: doubling, products, dots, that it is a field. No program is spoken of. No condition. -/
import Derived.KernelRfl
namespace Go.Proofs.Ytehhipanbjhffaa
set_option linter.unusedSimpArgs false
set_option linter.unusedVariables false
set_option linter.unusedSectionVars false
set_option linter.unusedVariables false
namespace Gf
/-! ### numbers by bits -/
theorem bit_ext {a b : Nat} (h : ∀ i, a.testBit i = b.testBit i) : a = b := Nat.eq_of_testBit_eq h
def Lin (f : Nat → Nat) : Prop := ∀ a b, f (a ^^^ b) = f a ^^^ f b
theorem Lin.zero {f : Nat → Nat} (h : Lin f) : f 0 = 0 := by
  have := h 0 0
  rw [Nat.xor_self, Nat.xor_self] at this
  exact this
theorem Lin.id : Lin fun a => a := fun _ _ => rfl
theorem Lin.comp {f g : Nat → Nat} (hf : Lin f) (hg : Lin g) : Lin fun a => f (g a) := fun a b => by
  show f (g (a ^^^ b)) = _
  rw [hg, hf]
theorem xor4 (a b c d : Nat) : (a ^^^ b) ^^^ (c ^^^ d) = (a ^^^ c) ^^^ (b ^^^ d) := by
  apply bit_ext; intro i
  simp only [Nat.testBit_xor]
  cases a.testBit i <;> cases b.testBit i <;> cases c.testBit i <;> cases d.testBit i <;> rfl
theorem Lin.xor {f g : Nat → Nat} (hf : Lin f) (hg : Lin g) : Lin fun a => f a ^^^ g a := fun a b => by
  show f (a ^^^ b) ^^^ g (a ^^^ b) = _
  rw [hf, hg, xor4]
/-- A number below 2^(n+1) is its lower bits and its highest. -/
theorem top_split (b n : Nat) (h : b < 2 ^ (n + 1)) : b = (b % 2 ^ n) ^^^ (if b.testBit n then 2 ^ n else 0) := by
  apply bit_ext; intro i
  rw [Nat.testBit_xor, Nat.testBit_mod_two_pow]
  by_cases h1 : i < n
  · have : (if b.testBit n then 2 ^ n else 0).testBit i = false := by
      split
      · rw [Nat.testBit_two_pow]; simp; omega
      · simp
    rw [this]; simp [h1]
  · by_cases h2 : i = n
    · subst h2
      have : ¬ i < i := by omega
      cases hb : b.testBit i <;> simp [this]
    · have hlt : b < 2 ^ i := Nat.lt_of_lt_of_le h (Nat.pow_le_pow_right (by omega) (by omega))
      rw [Nat.testBit_lt_two_pow hlt]
      have : (if b.testBit n then 2 ^ n else 0).testBit i = false := by
        split
        · rw [Nat.testBit_two_pow]; simp; omega
        · simp
      rw [this]; simp [h1]
theorem lin_ext {f g : Nat → Nat} (hf : Lin f) (hg : Lin g) (n : Nat) (h : ∀ i, i < n → f (2 ^ i) = g (2 ^ i)) : ∀ b, b < 2 ^ n → f b = g b := by
  induction n with
  | zero =>
    intro b hb
    have : b = 0 := by omega
    subst this; rw [hf.zero, hg.zero]
  | succ n ih =>
    intro b hb
    have e := top_split b n hb
    rw [e, hf, hg, ih (fun i hi => h i (by omega)) _ (Nat.mod_lt _ (Nat.two_pow_pos n))]
    congr 1
    split
    · exact h n (by omega)
    · rw [hf.zero, hg.zero]

/-! ### doubling -/
def up (R n : Nat) : Nat := (2 * n) % 2 ^ 128 ^^^ (if n.testBit 127 then R else 0)
theorem if_xor (c d : Bool) (R : Nat) : (if (c ^^ d) then R else 0) = (if c then R else 0) ^^^ (if d then R else 0) := by
  cases c <;> cases d <;> simp
theorem dbl_xor (a b : Nat) : 2 * (a ^^^ b) % 2 ^ 128 = (2 * a % 2 ^ 128) ^^^ (2 * b % 2 ^ 128) := by
  rw [← Nat.xor_mod_two_pow]
  congr 1
  apply bit_ext; intro i
  cases i with
  | zero => simp [Nat.testBit_xor, Nat.testBit_zero]
  | succ i =>
    rw [Nat.testBit_xor, Nat.testBit_succ, Nat.testBit_succ, Nat.testBit_succ, Nat.mul_div_cancel_left _ (by omega), Nat.mul_div_cancel_left _ (by omega), Nat.mul_div_cancel_left _ (by omega), Nat.testBit_xor]
theorem up_lin (R : Nat) : Lin (up R) := fun a b => by
  unfold up
  rw [dbl_xor, Nat.testBit_xor, if_xor, xor4]
theorem up_lt {R : Nat} (hR : R < 2 ^ 128) (n : Nat) : up R n < 2 ^ 128 := by
  unfold up
  refine Nat.xor_lt_two_pow (Nat.mod_lt _ (by omega)) ?_
  split
  · exact hR
  · exact Nat.two_pow_pos _
theorem up_pow (R : Nat) {i : Nat} (h : i < 127) : up R (2 ^ i) = 2 ^ (i + 1) := by
  unfold up
  rw [Nat.testBit_two_pow, ← Nat.pow_succ', Nat.mod_eq_of_lt (Nat.pow_lt_pow_right (by omega) (by omega))]
  have : decide (i = 127) = false := by simp; omega
  rw [this]; simp
theorem up_top (R : Nat) : up R (2 ^ 127) = R := by
  unfold up
  rw [Nat.testBit_two_pow, ← Nat.pow_succ', Nat.mod_self]; simp
def upN (R : Nat) : Nat → Nat → Nat
  | 0, a => a
  | k + 1, a => up R (upN R k a)
theorem upN_lin (R : Nat) : ∀ k, Lin (upN R k)
  | 0 => fun _ _ => rfl
  | k + 1 => (up_lin R).comp (upN_lin R k)
theorem upN_lt {R : Nat} (hR : R < 2 ^ 128) {a : Nat} (ha : a < 2 ^ 128) : ∀ k, upN R k a < 2 ^ 128
  | 0 => ha
  | k + 1 => up_lt hR _
theorem upN_add (R j k a : Nat) : upN R (j + k) a = upN R j (upN R k a) := by
  induction j with
  | zero => rw [Nat.zero_add]; rfl
  | succ j ih => rw [Nat.succ_add]; show up R _ = up R _; rw [ih]
theorem upN_succ' (R k a : Nat) : upN R (k + 1) a = upN R k (up R a) := upN_add R k 1 a
theorem upN_one (R : Nat) {i : Nat} (h : i < 128) : upN R i 1 = 2 ^ i := by
  induction i with
  | zero => rfl
  | succ i ih => show up R _ = _; rw [ih (by omega), up_pow R (by omega)]

/-! ### products -/
def mulS (R a b : Nat) : Nat → Nat
  | 0 => 0
  | k + 1 => mulS R a b k ^^^ (if b.testBit k then upN R k a else 0)
def mul (R a b : Nat) : Nat := mulS R a b 128
theorem Lin.ite (c : Bool) {f : Nat → Nat} (h : Lin f) : Lin fun a => if c then f a else 0 := fun a b => by
  cases c
  · simp
  · simp [h a b]
theorem mulS_lin_l (R b : Nat) : ∀ k, Lin fun a => mulS R a b k
  | 0 => fun _ _ => by simp [mulS]
  | k + 1 => (mulS_lin_l R b k).xor ((upN_lin R k).ite _)
theorem mulS_lin_r (R a : Nat) : ∀ k, Lin fun b => mulS R a b k
  | 0 => fun _ _ => by simp [mulS]
  | k + 1 => (mulS_lin_r R a k).xor (fun b c => by show (if (b ^^^ c).testBit k then _ else _) = _; rw [Nat.testBit_xor, if_xor])
theorem mul_lin_l (R b : Nat) : Lin fun a => mul R a b := mulS_lin_l R b 128
theorem mul_lin_r (R a : Nat) : Lin fun b => mul R a b := mulS_lin_r R a 128
theorem mulS_lt {R : Nat} (hR : R < 2 ^ 128) {a : Nat} (ha : a < 2 ^ 128) (b : Nat) : ∀ k, mulS R a b k < 2 ^ 128
  | 0 => Nat.two_pow_pos _
  | k + 1 => Nat.xor_lt_two_pow (mulS_lt hR ha b k) (by split; exact upN_lt hR ha k; exact Nat.two_pow_pos _)
theorem mul_lt {R : Nat} (hR : R < 2 ^ 128) {a : Nat} (ha : a < 2 ^ 128) (b : Nat) : mul R a b < 2 ^ 128 := mulS_lt hR ha b 128
theorem mulS_pow (R a i : Nat) : ∀ k, mulS R a (2 ^ i) k = if i < k then upN R i a else 0
  | 0 => by simp [mulS]
  | k + 1 => by
    show mulS R a (2 ^ i) k ^^^ _ = _
    rw [mulS_pow R a i k, Nat.testBit_two_pow]
    by_cases h1 : i < k
    · have : decide (i = k) = false := decide_eq_false (by omega)
      rw [this, if_pos h1, if_pos (show i < k + 1 by omega)]; simp
    · by_cases h2 : i = k
      · subst h2; simp
      · have : decide (i = k) = false := decide_eq_false (by omega)
        rw [this, if_neg h1, if_neg (show ¬ i < k + 1 by omega)]; simp
theorem mul_pow (R a : Nat) {i : Nat} (h : i < 128) : mul R a (2 ^ i) = upN R i a := by
  unfold mul; rw [mulS_pow, if_pos h]
theorem up_zero (R : Nat) : up R 0 = 0 := (up_lin R).zero
theorem mulS_up_l (R a b : Nat) : ∀ k, mulS R (up R a) b k = up R (mulS R a b k)
  | 0 => (up_zero R).symm
  | k + 1 => by
    show mulS R (up R a) b k ^^^ _ = up R (mulS R a b k ^^^ _)
    rw [up_lin, mulS_up_l R a b k, ← upN_succ']
    congr 1
    split
    · rfl
    · exact (up_zero R).symm
theorem mul_up_l (R a b : Nat) : mul R (up R a) b = up R (mul R a b) := mulS_up_l R a b 128
theorem mul_upN_l (R a b : Nat) : ∀ k, mul R (upN R k a) b = upN R k (mul R a b)
  | 0 => rfl
  | k + 1 => by show mul R (up R _) b = up R _; rw [mul_up_l, mul_upN_l R a b k]
theorem one_mul (R : Nat) {b : Nat} (hb : b < 2 ^ 128) : mul R 1 b = b :=
  lin_ext (mul_lin_r R 1) Lin.id 128 (fun i hi => by show mul R 1 (2 ^ i) = 2 ^ i; rw [mul_pow R 1 hi, upN_one R hi]) b hb
theorem mul_one (R a : Nat) : mul R a 1 = a := mul_pow R a (i := 0) (by omega)
theorem mul_R (R : Nat) (hR : R < 2 ^ 128) {a : Nat} (ha : a < 2 ^ 128) : mul R a R = upN R 128 a :=
  lin_ext (mul_lin_l R R) (upN_lin R 128) 128 (fun k hk => by
    show mul R (2 ^ k) R = upN R 128 (2 ^ k)
    rw [← upN_one R hk, mul_upN_l, one_mul R hR, ← upN_add, Nat.add_comm, upN_add]
    congr 1
    show R = up R (upN R 127 1)
    rw [upN_one R (by omega), up_top]) a ha
theorem mul_up_r (R : Nat) (hR : R < 2 ^ 128) {a b : Nat} (ha : a < 2 ^ 128) (hb : b < 2 ^ 128) : mul R a (up R b) = up R (mul R a b) :=
  lin_ext ((mul_lin_r R a).comp (up_lin R)) ((up_lin R).comp (mul_lin_r R a)) 128 (fun i hi => by
    show mul R a (up R (2 ^ i)) = up R (mul R a (2 ^ i))
    rw [mul_pow R a hi]
    by_cases h : i < 127
    · rw [up_pow R h, mul_pow R a (by omega)]; rfl
    · obtain rfl : i = 127 := by omega
      rw [up_top, mul_R R hR ha]; rfl) b hb
theorem mul_upN_r (R : Nat) (hR : R < 2 ^ 128) {a b : Nat} (ha : a < 2 ^ 128) (hb : b < 2 ^ 128) : ∀ k, mul R a (upN R k b) = upN R k (mul R a b)
  | 0 => rfl
  | k + 1 => by show mul R a (up R _) = up R _; rw [mul_up_r R hR ha (upN_lt hR hb k), mul_upN_r R hR ha hb k]
theorem mul_comm (R : Nat) {a b : Nat} (ha : a < 2 ^ 128) (hb : b < 2 ^ 128) : mul R a b = mul R b a :=
  lin_ext (mul_lin_r R a) (mul_lin_l R a) 128 (fun i hi => by
    show mul R a (2 ^ i) = mul R (2 ^ i) a
    rw [mul_pow R a hi, ← upN_one R hi, mul_upN_l, one_mul R ha]) b hb
theorem mul_assoc (R : Nat) (hR : R < 2 ^ 128) {a b c : Nat} (ha : a < 2 ^ 128) (hb : b < 2 ^ 128) (hc : c < 2 ^ 128) : mul R (mul R a b) c = mul R a (mul R b c) :=
  lin_ext (mul_lin_r R (mul R a b)) ((mul_lin_r R a).comp (mul_lin_r R b)) 128 (fun i hi => by
    show mul R (mul R a b) (2 ^ i) = mul R a (mul R b (2 ^ i))
    rw [mul_pow R _ hi, mul_pow R _ hi, mul_upN_r R hR ha hb]) c hc

/-! ### halving -/
def down (D n : Nat) : Nat := (n / 2) ^^^ (if n.testBit 0 then D else 0)
theorem half_xor (a b : Nat) : (a ^^^ b) / 2 = (a / 2) ^^^ (b / 2) := by
  apply bit_ext; intro i
  rw [Nat.testBit_xor, ← Nat.testBit_succ, ← Nat.testBit_succ, ← Nat.testBit_succ, Nat.testBit_xor]
theorem down_lin (D : Nat) : Lin (down D) := fun a b => by
  unfold down
  rw [half_xor, Nat.testBit_xor, if_xor, xor4]
theorem down_lt {D : Nat} (hD : D < 2 ^ 128) {n : Nat} (hn : n < 2 ^ 128) : down D n < 2 ^ 128 := by
  unfold down
  refine Nat.xor_lt_two_pow (by omega) ?_
  split
  · exact hD
  · exact Nat.two_pow_pos _
/-- R and D go together: doubled, what 1 is divided by x to is 1. -/
structure Pair (R D : Nat) : Prop where
  r : R < 2 ^ 128
  d : D < 2 ^ 128
  u : up R D = 1
  w : down D R = 2 ^ 127
theorem down_pow (D : Nat) {i : Nat} : down D (2 ^ (i + 1)) = 2 ^ i := by
  unfold down
  rw [Nat.testBit_two_pow, Nat.pow_succ, Nat.mul_div_cancel _ (by omega)]
  simp
theorem down_one (D : Nat) : down D 1 = D := by simp [down]
section
variable {R D : Nat} (h : Pair R D)
include h
theorem up_down {a : Nat} (ha : a < 2 ^ 128) : up R (down D a) = a :=
  lin_ext ((up_lin R).comp (down_lin D)) Lin.id 128 (fun i hi => by
    show up R (down D (2 ^ i)) = 2 ^ i
    cases i with
    | zero => rw [Nat.pow_zero, down_one, h.u]
    | succ i => rw [down_pow, up_pow R (by omega)]) a ha
theorem down_up {a : Nat} (ha : a < 2 ^ 128) : down D (up R a) = a :=
  lin_ext ((down_lin D).comp (up_lin R)) Lin.id 128 (fun i hi => by
    show down D (up R (2 ^ i)) = 2 ^ i
    by_cases h1 : i < 127
    · rw [up_pow R h1, down_pow]
    · obtain rfl : i = 127 := by omega
      rw [up_top, h.w]) a ha
end
def downN (D : Nat) : Nat → Nat → Nat
  | 0, a => a
  | k + 1, a => down D (downN D k a)
theorem downN_lin (D : Nat) : ∀ k, Lin (downN D k)
  | 0 => fun _ _ => rfl
  | k + 1 => (down_lin D).comp (downN_lin D k)
theorem downN_lt {D : Nat} (hD : D < 2 ^ 128) {a : Nat} (ha : a < 2 ^ 128) : ∀ k, downN D k a < 2 ^ 128
  | 0 => ha
  | k + 1 => down_lt hD (downN_lt hD ha k)
theorem downN_succ' (D k a : Nat) : downN D (k + 1) a = downN D k (down D a) := by
  induction k with
  | zero => rfl
  | succ k ih => show down D _ = down D _; rw [ih]
section
variable {R D : Nat} (h : Pair R D)
include h
theorem downN_upN {a : Nat} (ha : a < 2 ^ 128) : ∀ k, downN D k (upN R k a) = a
  | 0 => rfl
  | k + 1 => by rw [downN_succ']; show downN D k (down D (up R (upN R k a))) = a; rw [down_up h (upN_lt h.r ha k), downN_upN ha k]
theorem upN_downN {a : Nat} (ha : a < 2 ^ 128) : ∀ k, upN R k (downN D k a) = a
  | 0 => rfl
  | k + 1 => by rw [upN_succ']; show upN R k (up R (down D (downN D k a))) = a; rw [up_down h (downN_lt h.d ha k), upN_downN ha k]
theorem mul_down_l {a b : Nat} (ha : a < 2 ^ 128) (hb : b < 2 ^ 128) : mul R (down D a) b = down D (mul R a b) := by
  have e := mul_up_l R (down D a) b
  rw [up_down h ha] at e
  rw [e, down_up h (mul_lt h.r (down_lt h.d ha) b)]
theorem mul_downN_l {a b : Nat} (ha : a < 2 ^ 128) (hb : b < 2 ^ 128) : ∀ k, mul R (downN D k a) b = downN D k (mul R a b)
  | 0 => rfl
  | k + 1 => by show mul R (down D _) b = down D _; rw [mul_down_l h (downN_lt h.d ha k) hb, mul_downN_l ha hb k]
theorem mul_downN_r {a b : Nat} (ha : a < 2 ^ 128) (hb : b < 2 ^ 128) (k : Nat) : mul R a (downN D k b) = downN D k (mul R a b) := by
  rw [mul_comm R ha (downN_lt h.d hb k), mul_downN_l h hb ha, mul_comm R hb ha]
end
/-! ### dots -/
def dotS (D x y : Nat) : Nat → Nat
  | 0 => 0
  | k + 1 => down D (dotS D x y k ^^^ (if y.testBit k then x else 0))
theorem dotS_eq {R D : Nat} (h : Pair R D) {x : Nat} (hx : x < 2 ^ 128) (y : Nat) : ∀ k, dotS D x y k = downN D k (mulS R x y k)
  | 0 => rfl
  | k + 1 => by
    show down D (_ ^^^ _) = down D (downN D k (mulS R x y k ^^^ _))
    rw [dotS_eq h hx y k, downN_lin]
    congr 2
    split
    · exact (downN_upN h hx k).symm
    · exact ((downN_lin D k).zero).symm
def dot (R D x y : Nat) : Nat := downN D 128 (mul R x y)
theorem dot_lt {R D : Nat} (h : Pair R D) {x : Nat} (hx : x < 2 ^ 128) (y : Nat) : dot R D x y < 2 ^ 128 := downN_lt h.d (mul_lt h.r hx y) 128
section
variable {R D : Nat} (h : Pair R D) {a b c : Nat} (ha : a < 2 ^ 128) (hb : b < 2 ^ 128) (hc : c < 2 ^ 128)
include ha hb
theorem dot_comm : dot R D a b = dot R D b a := by unfold dot; rw [mul_comm R ha hb]
include h
theorem dot_lin_l (x y : Nat) : dot R D (x ^^^ y) b = dot R D x b ^^^ dot R D y b := by
  unfold dot; rw [show mul R (x ^^^ y) b = _ from mul_lin_l R b x y, downN_lin]
theorem dot_mul_up : mul R (dot R D a b) (upN R 128 1) = mul R a b := by
  have h1 : (1 : Nat) < 2 ^ 128 := Nat.one_lt_two_pow (by omega)
  rw [mul_upN_r R h.r (dot_lt h ha b) h1, mul_one]
  exact upN_downN h (mul_lt h.r ha b) 128
include hc
theorem dot_assoc : dot R D (dot R D a b) c = dot R D a (dot R D b c) := by
  unfold dot
  rw [mul_downN_l h (mul_lt h.r ha b) hc, mul_downN_r h ha (mul_lt h.r hb c), mul_assoc R h.r ha hb hc]
end
end Gf
end Go.Proofs.Ytehhipanbjhffaa
