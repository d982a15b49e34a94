/- Plain laws of the field of 2^128 elements as numbers below 2^128: doubling, products, dots, that it is a field. No program is spoken of. No condition. -/
import Derived.KernelRfl
import Derived.Test.YtaiffkajkbiidaaGreatDoorKA
namespace Go.Proofs.YtaiffkajkbiidaaGreatDoor
set_option linter.unusedSimpArgs false
set_option linter.unusedVariables false
set_option linter.unusedSectionVars false
set_option linter.unusedVariables false
namespace Gf
/-! ### numbers by bits -/
theorem bit_ext {a b : Nat} (h : ∀ i, a.testBit i = b.testBit i) : a = b := Nat.eq_of_testBit_eq h
def Lin (f : Nat → Nat) : Prop := ∀ a b, f (a ^^^ b) = f a ^^^ f b
theorem Lin.zero {f : Nat → Nat} (h : Lin f) : f 0 = 0 := by
  have := h 0 0
  rw [Nat.xor_self, Nat.xor_self] at this
  exact this
theorem Lin.id : Lin fun a => a := fun _ _ => rfl
theorem Lin.comp {f g : Nat → Nat} (hf : Lin f) (hg : Lin g) : Lin fun a => f (g a) := fun a b => by
  show f (g (a ^^^ b)) = _
  rw [hg, hf]
theorem xor4 (a b c d : Nat) : (a ^^^ b) ^^^ (c ^^^ d) = (a ^^^ c) ^^^ (b ^^^ d) := by
  apply bit_ext; intro i
  simp only [Nat.testBit_xor]
  cases a.testBit i <;> cases b.testBit i <;> cases c.testBit i <;> cases d.testBit i <;> rfl
theorem Lin.xor {f g : Nat → Nat} (hf : Lin f) (hg : Lin g) : Lin fun a => f a ^^^ g a := fun a b => by
  show f (a ^^^ b) ^^^ g (a ^^^ b) = _
  rw [hf, hg, xor4]
/-- A number below 2^(n+1) is its lower bits and its highest. -/
theorem top_split (b n : Nat) (h : b < 2 ^ (n + 1)) : b = (b % 2 ^ n) ^^^ (if b.testBit n then 2 ^ n else 0) := by
  apply bit_ext; intro i
  rw [Nat.testBit_xor, Nat.testBit_mod_two_pow]
  by_cases h1 : i < n
  · have : (if b.testBit n then 2 ^ n else 0).testBit i = false := by
      split
      · rw [Nat.testBit_two_pow]; simp; omega
      · simp
    rw [this]; simp [h1]
  · by_cases h2 : i = n
    · subst h2
      have : ¬ i < i := by omega
      cases hb : b.testBit i <;> simp [this]
    · have hlt : b < 2 ^ i := Nat.lt_of_lt_of_le h (Nat.pow_le_pow_right (by omega) (by omega))
      rw [Nat.testBit_lt_two_pow hlt]
      have : (if b.testBit n then 2 ^ n else 0).testBit i = false := by
        split
        · rw [Nat.testBit_two_pow]; simp; omega
        · simp
      rw [this]; simp [h1]
theorem lin_ext {f g : Nat → Nat} (hf : Lin f) (hg : Lin g) (n : Nat) (h : ∀ i, i < n → f (2 ^ i) = g (2 ^ i)) : ∀ b, b < 2 ^ n → f b = g b := by
  induction n with
  | zero =>
    intro b hb
    have : b = 0 := by omega
    subst this; rw [hf.zero, hg.zero]
  | succ n ih =>
    intro b hb
    have e := top_split b n hb
    rw [e, hf, hg, ih (fun i hi => h i (by omega)) _ (Nat.mod_lt _ (Nat.two_pow_pos n))]
    congr 1
    split
    · exact h n (by omega)
    · rw [hf.zero, hg.zero]

/-! ### doubling -/
def up (R n : Nat) : Nat := (2 * n) % 2 ^ 128 ^^^ (if n.testBit 127 then R else 0)
theorem if_xor (c d : Bool) (R : Nat) : (if (c ^^ d) then R else 0) = (if c then R else 0) ^^^ (if d then R else 0) := by
  cases c <;> cases d <;> simp
theorem dbl_xor (a b : Nat) : 2 * (a ^^^ b) % 2 ^ 128 = (2 * a % 2 ^ 128) ^^^ (2 * b % 2 ^ 128) := by
  rw [← Nat.xor_mod_two_pow]
  congr 1
  apply bit_ext; intro i
  cases i with
  | zero => simp [Nat.testBit_xor, Nat.testBit_zero]
  | succ i =>
    rw [Nat.testBit_xor, Nat.testBit_succ, Nat.testBit_succ, Nat.testBit_succ, Nat.mul_div_cancel_left _ (by omega), Nat.mul_div_cancel_left _ (by omega), Nat.mul_div_cancel_left _ (by omega), Nat.testBit_xor]
theorem up_lin (R : Nat) : Lin (up R) := fun a b => by
  unfold up
  rw [dbl_xor, Nat.testBit_xor, if_xor, xor4]
theorem up_lt {R : Nat} (hR : R < 2 ^ 128) (n : Nat) : up R n < 2 ^ 128 := by
  unfold up
  refine Nat.xor_lt_two_pow (Nat.mod_lt _ (by omega)) ?_
  split
  · exact hR
  · exact Nat.two_pow_pos _
theorem up_pow (R : Nat) {i : Nat} (h : i < 127) : up R (2 ^ i) = 2 ^ (i + 1) := by
  unfold up
  rw [Nat.testBit_two_pow, ← Nat.pow_succ', Nat.mod_eq_of_lt (Nat.pow_lt_pow_right (by omega) (by omega))]
  have : decide (i = 127) = false := by simp; omega
  rw [this]; simp
theorem up_top (R : Nat) : up R (2 ^ 127) = R := by
  unfold up
  rw [Nat.testBit_two_pow, ← Nat.pow_succ', Nat.mod_self]; simp
def upN (R : Nat) : Nat → Nat → Nat
  | 0, a => a
  | k + 1, a => up R (upN R k a)
theorem upN_lin (R : Nat) : ∀ k, Lin (upN R k)
  | 0 => fun _ _ => rfl
  | k + 1 => (up_lin R).comp (upN_lin R k)
theorem upN_lt {R : Nat} (hR : R < 2 ^ 128) {a : Nat} (ha : a < 2 ^ 128) : ∀ k, upN R k a < 2 ^ 128
  | 0 => ha
  | k + 1 => up_lt hR _
theorem upN_add (R j k a : Nat) : upN R (j + k) a = upN R j (upN R k a) := by
  induction j with
  | zero => rw [Nat.zero_add]; rfl
  | succ j ih => rw [Nat.succ_add]; show up R _ = up R _; rw [ih]
theorem upN_succ' (R k a : Nat) : upN R (k + 1) a = upN R k (up R a) := upN_add R k 1 a
theorem upN_one (R : Nat) {i : Nat} (h : i < 128) : upN R i 1 = 2 ^ i := by
  induction i with
  | zero => rfl
  | succ i ih => show up R _ = _; rw [ih (by omega), up_pow R (by omega)]

/-! ### products -/
def mulS (R a b : Nat) : Nat → Nat
  | 0 => 0
  | k + 1 => mulS R a b k ^^^ (if b.testBit k then upN R k a else 0)
def mul (R a b : Nat) : Nat := mulS R a b 128
theorem Lin.ite (c : Bool) {f : Nat → Nat} (h : Lin f) : Lin fun a => if c then f a else 0 := fun a b => by
  cases c
  · simp
  · simp [h a b]
theorem mulS_lin_l (R b : Nat) : ∀ k, Lin fun a => mulS R a b k
  | 0 => fun _ _ => by simp [mulS]
  | k + 1 => (mulS_lin_l R b k).xor ((upN_lin R k).ite _)
theorem mulS_lin_r (R a : Nat) : ∀ k, Lin fun b => mulS R a b k
  | 0 => fun _ _ => by simp [mulS]
  | k + 1 => (mulS_lin_r R a k).xor (fun b c => by show (if (b ^^^ c).testBit k then _ else _) = _; rw [Nat.testBit_xor, if_xor])
theorem mul_lin_l (R b : Nat) : Lin fun a => mul R a b := mulS_lin_l R b 128
theorem mul_lin_r (R a : Nat) : Lin fun b => mul R a b := mulS_lin_r R a 128
theorem mulS_lt {R : Nat} (hR : R < 2 ^ 128) {a : Nat} (ha : a < 2 ^ 128) (b : Nat) : ∀ k, mulS R a b k < 2 ^ 128
  | 0 => Nat.two_pow_pos _
  | k + 1 => Nat.xor_lt_two_pow (mulS_lt hR ha b k) (by split; exact upN_lt hR ha k; exact Nat.two_pow_pos _)
theorem mul_lt {R : Nat} (hR : R < 2 ^ 128) {a : Nat} (ha : a < 2 ^ 128) (b : Nat) : mul R a b < 2 ^ 128 := mulS_lt hR ha b 128
theorem mulS_pow (R a i : Nat) : ∀ k, mulS R a (2 ^ i) k = if i < k then upN R i a else 0
  | 0 => by simp [mulS]
  | k + 1 => by
    show mulS R a (2 ^ i) k ^^^ _ = _
    rw [mulS_pow R a i k, Nat.testBit_two_pow]
    by_cases h1 : i < k
    · have : decide (i = k) = false := decide_eq_false (by omega)
      rw [this, if_pos h1, if_pos (show i < k + 1 by omega)]; simp
    · by_cases h2 : i = k
      · subst h2; simp
      · have : decide (i = k) = false := decide_eq_false (by omega)
        rw [this, if_neg h1, if_neg (show ¬ i < k + 1 by omega)]; simp
theorem mul_pow (R a : Nat) {i : Nat} (h : i < 128) : mul R a (2 ^ i) = upN R i a := by
  unfold mul; rw [mulS_pow, if_pos h]
theorem up_zero (R : Nat) : up R 0 = 0 := (up_lin R).zero
theorem mulS_up_l (R a b : Nat) : ∀ k, mulS R (up R a) b k = up R (mulS R a b k)
  | 0 => (up_zero R).symm
  | k + 1 => by
    show mulS R (up R a) b k ^^^ _ = up R (mulS R a b k ^^^ _)
    rw [up_lin, mulS_up_l R a b k, ← upN_succ']
    congr 1
    split
    · rfl
    · exact (up_zero R).symm
theorem mul_up_l (R a b : Nat) : mul R (up R a) b = up R (mul R a b) := mulS_up_l R a b 128
theorem mul_upN_l (R a b : Nat) : ∀ k, mul R (upN R k a) b = upN R k (mul R a b)
  | 0 => rfl
  | k + 1 => by show mul R (up R _) b = up R _; rw [mul_up_l, mul_upN_l R a b k]
theorem one_mul (R : Nat) {b : Nat} (hb : b < 2 ^ 128) : mul R 1 b = b :=
  lin_ext (mul_lin_r R 1) Lin.id 128 (fun i hi => by show mul R 1 (2 ^ i) = 2 ^ i; rw [mul_pow R 1 hi, upN_one R hi]) b hb
theorem mul_one (R a : Nat) : mul R a 1 = a := mul_pow R a (i := 0) (by omega)
theorem mul_R (R : Nat) (hR : R < 2 ^ 128) {a : Nat} (ha : a < 2 ^ 128) : mul R a R = upN R 128 a :=
  lin_ext (mul_lin_l R R) (upN_lin R 128) 128 (fun k hk => by
    show mul R (2 ^ k) R = upN R 128 (2 ^ k)
    rw [← upN_one R hk, mul_upN_l, one_mul R hR, ← upN_add, Nat.add_comm, upN_add]
    congr 1
    show R = up R (upN R 127 1)
    rw [upN_one R (by omega), up_top]) a ha
theorem mul_up_r (R : Nat) (hR : R < 2 ^ 128) {a b : Nat} (ha : a < 2 ^ 128) (hb : b < 2 ^ 128) : mul R a (up R b) = up R (mul R a b) :=
  lin_ext ((mul_lin_r R a).comp (up_lin R)) ((up_lin R).comp (mul_lin_r R a)) 128 (fun i hi => by
    show mul R a (up R (2 ^ i)) = up R (mul R a (2 ^ i))
    rw [mul_pow R a hi]
    by_cases h : i < 127
    · rw [up_pow R h, mul_pow R a (by omega)]; rfl
    · obtain rfl : i = 127 := by omega
      rw [up_top, mul_R R hR ha]; rfl) b hb
theorem mul_upN_r (R : Nat) (hR : R < 2 ^ 128) {a b : Nat} (ha : a < 2 ^ 128) (hb : b < 2 ^ 128) : ∀ k, mul R a (upN R k b) = upN R k (mul R a b)
  | 0 => rfl
  | k + 1 => by show mul R a (up R _) = up R _; rw [mul_up_r R hR ha (upN_lt hR hb k), mul_upN_r R hR ha hb k]
theorem mul_comm (R : Nat) {a b : Nat} (ha : a < 2 ^ 128) (hb : b < 2 ^ 128) : mul R a b = mul R b a :=
  lin_ext (mul_lin_r R a) (mul_lin_l R a) 128 (fun i hi => by
    show mul R a (2 ^ i) = mul R (2 ^ i) a
    rw [mul_pow R a hi, ← upN_one R hi, mul_upN_l, one_mul R ha]) b hb
theorem mul_assoc (R : Nat) (hR : R < 2 ^ 128) {a b c : Nat} (ha : a < 2 ^ 128) (hb : b < 2 ^ 128) (hc : c < 2 ^ 128) : mul R (mul R a b) c = mul R a (mul R b c) :=
  lin_ext (mul_lin_r R (mul R a b)) ((mul_lin_r R a).comp (mul_lin_r R b)) 128 (fun i hi => by
    show mul R (mul R a b) (2 ^ i) = mul R a (mul R b (2 ^ i))
    rw [mul_pow R _ hi, mul_pow R _ hi, mul_upN_r R hR ha hb]) c hc

/-! ### halving -/
def down (D n : Nat) : Nat := (n / 2) ^^^ (if n.testBit 0 then D else 0)
theorem half_xor (a b : Nat) : (a ^^^ b) / 2 = (a / 2) ^^^ (b / 2) := by
  apply bit_ext; intro i
  rw [Nat.testBit_xor, ← Nat.testBit_succ, ← Nat.testBit_succ, ← Nat.testBit_succ, Nat.testBit_xor]
theorem down_lin (D : Nat) : Lin (down D) := fun a b => by
  unfold down
  rw [half_xor, Nat.testBit_xor, if_xor, xor4]
theorem down_lt {D : Nat} (hD : D < 2 ^ 128) {n : Nat} (hn : n < 2 ^ 128) : down D n < 2 ^ 128 := by
  unfold down
  refine Nat.xor_lt_two_pow (by omega) ?_
  split
  · exact hD
  · exact Nat.two_pow_pos _
/-- R and D go together: doubled, what 1 is divided by x to is 1. -/
structure Pair (R D : Nat) : Prop where
  r : R < 2 ^ 128
  d : D < 2 ^ 128
  u : up R D = 1
  w : down D R = 2 ^ 127
theorem down_pow (D : Nat) {i : Nat} : down D (2 ^ (i + 1)) = 2 ^ i := by
  unfold down
  rw [Nat.testBit_two_pow, Nat.pow_succ, Nat.mul_div_cancel _ (by omega)]
  simp
theorem down_one (D : Nat) : down D 1 = D := by simp [down]
section
variable {R D : Nat} (h : Pair R D)
include h
theorem up_down {a : Nat} (ha : a < 2 ^ 128) : up R (down D a) = a :=
  lin_ext ((up_lin R).comp (down_lin D)) Lin.id 128 (fun i hi => by
    show up R (down D (2 ^ i)) = 2 ^ i
    cases i with
    | zero => rw [Nat.pow_zero, down_one, h.u]
    | succ i => rw [down_pow, up_pow R (by omega)]) a ha
theorem down_up {a : Nat} (ha : a < 2 ^ 128) : down D (up R a) = a :=
  lin_ext ((down_lin D).comp (up_lin R)) Lin.id 128 (fun i hi => by
    show down D (up R (2 ^ i)) = 2 ^ i
    by_cases h1 : i < 127
    · rw [up_pow R h1, down_pow]
    · obtain rfl : i = 127 := by omega
      rw [up_top, h.w]) a ha
end
def downN (D : Nat) : Nat → Nat → Nat
  | 0, a => a
  | k + 1, a => down D (downN D k a)
theorem downN_lin (D : Nat) : ∀ k, Lin (downN D k)
  | 0 => fun _ _ => rfl
  | k + 1 => (down_lin D).comp (downN_lin D k)
theorem downN_lt {D : Nat} (hD : D < 2 ^ 128) {a : Nat} (ha : a < 2 ^ 128) : ∀ k, downN D k a < 2 ^ 128
  | 0 => ha
  | k + 1 => down_lt hD (downN_lt hD ha k)
theorem downN_succ' (D k a : Nat) : downN D (k + 1) a = downN D k (down D a) := by
  induction k with
  | zero => rfl
  | succ k ih => show down D _ = down D _; rw [ih]
section
variable {R D : Nat} (h : Pair R D)
include h
theorem downN_upN {a : Nat} (ha : a < 2 ^ 128) : ∀ k, downN D k (upN R k a) = a
  | 0 => rfl
  | k + 1 => by rw [downN_succ']; show downN D k (down D (up R (upN R k a))) = a; rw [down_up h (upN_lt h.r ha k), downN_upN ha k]
theorem upN_downN {a : Nat} (ha : a < 2 ^ 128) : ∀ k, upN R k (downN D k a) = a
  | 0 => rfl
  | k + 1 => by rw [upN_succ']; show upN R k (up R (down D (downN D k a))) = a; rw [up_down h (downN_lt h.d ha k), upN_downN ha k]
theorem mul_down_l {a b : Nat} (ha : a < 2 ^ 128) (hb : b < 2 ^ 128) : mul R (down D a) b = down D (mul R a b) := by
  have e := mul_up_l R (down D a) b
  rw [up_down h ha] at e
  rw [e, down_up h (mul_lt h.r (down_lt h.d ha) b)]
theorem mul_downN_l {a b : Nat} (ha : a < 2 ^ 128) (hb : b < 2 ^ 128) : ∀ k, mul R (downN D k a) b = downN D k (mul R a b)
  | 0 => rfl
  | k + 1 => by show mul R (down D _) b = down D _; rw [mul_down_l h (downN_lt h.d ha k) hb, mul_downN_l ha hb k]
theorem mul_downN_r {a b : Nat} (ha : a < 2 ^ 128) (hb : b < 2 ^ 128) (k : Nat) : mul R a (downN D k b) = downN D k (mul R a b) := by
  rw [mul_comm R ha (downN_lt h.d hb k), mul_downN_l h hb ha, mul_comm R hb ha]
end
/-! ### dots -/
def dotS (D x y : Nat) : Nat → Nat
  | 0 => 0
  | k + 1 => down D (dotS D x y k ^^^ (if y.testBit k then x else 0))
theorem dotS_eq {R D : Nat} (h : Pair R D) {x : Nat} (hx : x < 2 ^ 128) (y : Nat) : ∀ k, dotS D x y k = downN D k (mulS R x y k)
  | 0 => rfl
  | k + 1 => by
    show down D (_ ^^^ _) = down D (downN D k (mulS R x y k ^^^ _))
    rw [dotS_eq h hx y k, downN_lin]
    congr 2
    split
    · exact (downN_upN h hx k).symm
    · exact ((downN_lin D k).zero).symm
def dot (R D x y : Nat) : Nat := downN D 128 (mul R x y)
theorem dot_lt {R D : Nat} (h : Pair R D) {x : Nat} (hx : x < 2 ^ 128) (y : Nat) : dot R D x y < 2 ^ 128 := downN_lt h.d (mul_lt h.r hx y) 128
section
variable {R D : Nat} (h : Pair R D) {a b c : Nat} (ha : a < 2 ^ 128) (hb : b < 2 ^ 128) (hc : c < 2 ^ 128)
include ha hb
theorem dot_comm : dot R D a b = dot R D b a := by unfold dot; rw [mul_comm R ha hb]
include h
theorem dot_lin_l (x y : Nat) : dot R D (x ^^^ y) b = dot R D x b ^^^ dot R D y b := by
  unfold dot; rw [show mul R (x ^^^ y) b = _ from mul_lin_l R b x y, downN_lin]
theorem dot_mul_up : mul R (dot R D a b) (upN R 128 1) = mul R a b := by
  have h1 : (1 : Nat) < 2 ^ 128 := Nat.one_lt_two_pow (by omega)
  rw [mul_upN_r R h.r (dot_lt h ha b) h1, mul_one]
  exact upN_downN h (mul_lt h.r ha b) 128
include hc
theorem dot_assoc : dot R D (dot R D a b) c = dot R D a (dot R D b c) := by
  unfold dot
  rw [mul_downN_l h (mul_lt h.r ha b) hc, mul_downN_r h ha (mul_lt h.r hb c), mul_assoc R h.r ha hb hc]
end
end Gf
end Go.Proofs.YtaiffkajkbiidaaGreatDoor
/- Plain laws: the ring of numbers below 2^128, modulo x^128 + x^127 + x^126 + x^121 + 1, is a field; by a certificate that only 0 and 1 are their own squares. No program is spoken of. No condition. -/
namespace Go.Proofs.YtaiffkajkbiidaaGreatDoor
set_option linter.unusedSimpArgs false
set_option linter.unusedVariables false
set_option linter.unusedSectionVars false
namespace Gf
/-! ### maps that are linear below 2^128 -/
def LinB (f : Nat → Nat) : Prop := ∀ a b, a < 2 ^ 128 → b < 2 ^ 128 → f (a ^^^ b) = f a ^^^ f b
theorem LinB.zero {f : Nat → Nat} (h : LinB f) : f 0 = 0 := by
  have := h 0 0 (Nat.two_pow_pos _) (Nat.two_pow_pos _)
  rw [Nat.xor_self, Nat.xor_self] at this
  exact this
theorem Lin.b {f : Nat → Nat} (h : Lin f) : LinB f := fun a b _ _ => h a b
theorem lin_extB {f g : Nat → Nat} (hf : LinB f) (hg : LinB g) (n : Nat) (hn : n ≤ 128) (h : ∀ i, i < n → f (2 ^ i) = g (2 ^ i)) : ∀ b, b < 2 ^ n → f b = g b := by
  induction n with
  | zero =>
    intro b hb
    have : b = 0 := by omega
    subst this; rw [hf.zero, hg.zero]
  | succ n ih =>
    intro b hb
    have hle : 2 ^ (n + 1) ≤ 2 ^ 128 := Nat.pow_le_pow_right (by omega) hn
    have hlt : 2 ^ n < 2 ^ 128 := Nat.pow_lt_pow_right (by omega) hn
    have e := top_split b n hb
    have h1 : b % 2 ^ n < 2 ^ 128 := Nat.lt_trans (Nat.mod_lt _ (Nat.two_pow_pos n)) hlt
    have h2 : (if b.testBit n then 2 ^ n else 0) < 2 ^ 128 := by split; exact hlt; exact Nat.two_pow_pos _
    rw [e, hf _ _ h1 h2, hg _ _ h1 h2, ih (by omega) (fun i hi => h i (by omega)) _ (Nat.mod_lt _ (Nat.two_pow_pos n))]
    congr 1
    split
    · exact h n (by omega)
    · rw [hf.zero, hg.zero]
/-! ### a product that the kernel reckons fast -/
def mulF (R : Nat) : Nat → Nat → Nat → Nat → Nat
  | 0, _, _, s => s
  | n + 1, x, b, s => mulF R n (up R x) (b / 2) (s ^^^ (if b % 2 = 1 then x else 0))
theorem mulF_eq (R a b : Nat) : ∀ n k, mulF R n (upN R k a) (b / 2 ^ k) (mulS R a b k) = mulS R a b (k + n)
  | 0, k => rfl
  | n + 1, k => by
    show mulF R n (up R (upN R k a)) (b / 2 ^ k / 2) _ = _
    have e : mulS R a b k ^^^ (if b / 2 ^ k % 2 = 1 then upN R k a else 0) = mulS R a b (k + 1) := by
      show _ = mulS R a b k ^^^ (if b.testBit k then upN R k a else 0)
      rw [Nat.testBit_eq_decide_div_mod_eq]
      simp
    rw [e, Nat.div_div_eq_div_mul, ← Nat.pow_succ]
    have := mulF_eq R a b n (k + 1)
    rw [Nat.add_assoc, Nat.add_comm 1] at this
    exact this
theorem mul_fast (R a b : Nat) : mul R a b = mulF R 128 a b 0 := by
  have := mulF_eq R a b 128 0
  rw [Nat.pow_zero, Nat.div_one, Nat.zero_add] at this
  exact this.symm
/-! ### squares -/
section
variable {R : Nat} (hR : R < 2 ^ 128)
def sq (R a : Nat) : Nat := mul R a a
def sqN (R : Nat) : Nat → Nat → Nat
  | 0, a => a
  | k + 1, a => sq R (sqN R k a)
theorem sq_linB : LinB (sq R) := fun a b ha hb => by
  have e1 : mul R (a ^^^ b) (a ^^^ b) = mul R a (a ^^^ b) ^^^ mul R b (a ^^^ b) := mul_lin_l R (a ^^^ b) a b
  have e2 : mul R a (a ^^^ b) = mul R a a ^^^ mul R a b := mul_lin_r R a a b
  have e3 : mul R b (a ^^^ b) = mul R b a ^^^ mul R b b := mul_lin_r R b a b
  unfold sq
  rw [e1, e2, e3, mul_comm R hb ha]
  apply bit_ext; intro i
  simp only [Nat.testBit_xor]
  cases (mul R a a).testBit i <;> cases (mul R a b).testBit i <;> cases (mul R b b).testBit i <;> rfl
include hR
theorem sq_lt {a : Nat} (ha : a < 2 ^ 128) : sq R a < 2 ^ 128 := mul_lt hR ha a
theorem sqN_lt {a : Nat} (ha : a < 2 ^ 128) : ∀ k, sqN R k a < 2 ^ 128
  | 0 => ha
  | k + 1 => sq_lt hR (sqN_lt ha k)
theorem sqN_linB : ∀ k, LinB (sqN R k)
  | 0 => fun _ _ _ _ => rfl
  | k + 1 => fun a b ha hb => by
    show sq R (sqN R k (a ^^^ b)) = sq R _ ^^^ sq R _
    rw [sqN_linB k a b ha hb, sq_linB _ _ (sqN_lt hR ha k) (sqN_lt hR hb k)]
theorem mul4 {a b c d : Nat} (ha : a < 2 ^ 128) (hb : b < 2 ^ 128) (hc : c < 2 ^ 128) (hd : d < 2 ^ 128) : mul R (mul R a b) (mul R c d) = mul R (mul R a c) (mul R b d) := by
  rw [mul_assoc R hR ha hb (mul_lt hR hc d), mul_assoc R hR ha hc (mul_lt hR hb d), ← mul_assoc R hR hb hc hd, ← mul_assoc R hR hc hb hd, mul_comm R hb hc]
theorem sq_mul {a b : Nat} (ha : a < 2 ^ 128) (hb : b < 2 ^ 128) : sq R (mul R a b) = mul R (sq R a) (sq R b) := mul4 hR ha hb ha hb
theorem sqN_mul {a b : Nat} (ha : a < 2 ^ 128) (hb : b < 2 ^ 128) : ∀ k, sqN R k (mul R a b) = mul R (sqN R k a) (sqN R k b)
  | 0 => rfl
  | k + 1 => by show sq R _ = mul R (sq R _) (sq R _); rw [sqN_mul ha hb k, sq_mul hR (sqN_lt hR ha k) (sqN_lt hR hb k)]
theorem sqN_one : ∀ k, sqN R k 1 = 1
  | 0 => rfl
  | k + 1 => by show sq R _ = 1; rw [sqN_one k]; exact mul_one R 1
theorem sqN_all (h2 : sqN R 128 2 = 2) {a : Nat} (ha : a < 2 ^ 128) : sqN R 128 a = a := by
  have h1 : (1 : Nat) < 2 ^ 128 := Nat.one_lt_two_pow (by omega)
  have key : ∀ i, i < 128 → sqN R 128 (2 ^ i) = 2 ^ i := by
    intro i
    induction i with
    | zero => intro _; exact sqN_one hR 128
    | succ i ih =>
      intro hi
      have e : 2 ^ (i + 1) = mul R (2 ^ i) 2 := by
        rw [show (2 : Nat) = 2 ^ 1 from rfl, mul_pow R _ (by omega), ← Nat.pow_mul, Nat.one_mul]
        exact (up_pow R (by omega)).symm
      have hlt : 2 ^ i < 2 ^ 128 := Nat.pow_lt_pow_right (by omega) (by omega)
      rw [e, sqN_mul hR hlt (show 2 < 2 ^ 128 by omega), h2, ih (by omega)]
  exact lin_extB (sqN_linB hR 128) (Lin.id.b) 128 (Nat.le_refl _) key a ha
/-! ### what is c to the 2^n - 1 -/
omit hR in
theorem zero_mul (b : Nat) : mul R 0 b = 0 := (mul_lin_l R b).zero
def qN (R c : Nat) : Nat → Nat
  | 0 => 1
  | n + 1 => mul R (sq R (qN R c n)) c
theorem qN_lt {c : Nat} : ∀ n, qN R c n < 2 ^ 128
  | 0 => Nat.one_lt_two_pow (by omega)
  | n + 1 => mul_lt hR (sq_lt hR (qN_lt n)) c
theorem qN_mul {c : Nat} (hc : c < 2 ^ 128) : ∀ n, mul R (qN R c n) c = sqN R n c
  | 0 => one_mul R hc
  | n + 1 => by
    show mul R (mul R (sq R (qN R c n)) c) c = sq R (sqN R n c)
    rw [mul_assoc R hR (sq_lt hR (qN_lt hR n)) hc hc, ← qN_mul hc n, sq_mul hR (qN_lt hR n) hc]
    rfl
theorem field_of (h2 : sqN R 128 2 = 2) (hidem : ∀ e, e < 2 ^ 128 → sq R e = e → e = 0 ∨ e = 1) {a b c : Nat} (ha : a < 2 ^ 128) (hb : b < 2 ^ 128) (hc : c < 2 ^ 128) (hne : c ≠ 0) (h : mul R a c = mul R b c) : a = b := by
  have he : qN R c 128 < 2 ^ 128 := qN_lt hR 128
  have h1 : mul R (qN R c 128) c = c := (qN_mul hR hc 128).trans (sqN_all hR h2 hc)
  have hi : sq R (qN R c 127) < 2 ^ 128 := sq_lt hR (qN_lt hR 127)
  have h3 : qN R c 128 = mul R (sq R (qN R c 127)) c := rfl
  have h4 : sq R (qN R c 128) = qN R c 128 := by
    show mul R (qN R c 128) (qN R c 128) = _
    conv => lhs; arg 2; rw [h3]
    rw [mul_assoc R hR hi hc he, mul_comm R hc he, h1]
    exact h3.symm
  have h5 : qN R c 128 = 1 := by
    rcases hidem _ he h4 with h0 | h0
    · rw [h0, zero_mul] at h1; exact absurd h1.symm hne
    · exact h0
  rw [h3] at h5
  have inv : ∀ x, x < 2 ^ 128 → mul R (mul R x c) (sq R (qN R c 127)) = x := fun x hx => by
    rw [mul_assoc R hR hx hc hi, mul_comm R hc hi, h5, mul_one]
  rw [← inv a ha, h, inv b hb]
end
/-! ### the element by the lowest bit first -/
def R1 : Nat := 0xc2000000000000000000000000000001
def D1 : Nat := 0xe1000000000000000000000000000000
theorem R1_lt : R1 < 2 ^ 128 := by decide
theorem pair1 : Pair R1 D1 := ⟨by decide, by decide, by kernel_rfl, by kernel_rfl⟩
def cert : List Nat := [
  0x55fbb0c8602185037438565fefb04f9c, 0x0, 0x2, 0xc7198d01160a5d95df878880dc1a57b8,
  0x6, 0x41e41f6171ae782433d2b28aa2c88a8, 0xc7198d01160a5d95df878880dc1a57b0, 0xd2a305476415357079381171df3c1098,
  0x16, 0x658ee378fb73bda680a052bd7b8c22cc, 0x41e41f6171ae782433d2b28aa2c8888, 0xc30689a2bb4d0ffa7d04ddaf28560d50,
  0xc7198d01160a5d95df878880dc1a57f0, 0x3b4b6531f302f8014a0fe477077ab5d2, 0xd2a305476415357079381171df3c1018, 0xe9e87037c2f3810d137e1915bb8d140a,
  0x116, 0xf808f398cb60b18b1c2579226edee942, 0x658ee378fb73bda680a052bd7b8c20cc, 0xa7cc95d36e6b4226266521bacbdd69e2,
  0x41e41f6171ae782433d2b28aa2c8c88, 0x999c400d63ce969cdde80521e83d3786, 0xc30689a2bb4d0ffa7d04ddaf28560550, 0x401e54321a5bcce835c12b8b98fea8,
  0xc7198d01160a5d95df878880dc1a47f0, 0x10005a0532db6a102634f7ea82be0, 0x3b4b6531f302f8014a0fe477077a95d2, 0x2afbf97a8ba2f156a96332dc7ad38fa4,
  0xd2a305476415357079381171df3c5018, 0xd6a9010b3b5f5daf5ca2b78d42580a98, 0xe9e87037c2f3810d137e1915bb8d940a, 0x101b513e2d57379901a14579ab709b6,
  0x10116, 0xd7a8a4598c6f63beecf14edfbb33daee, 0xf808f398cb60b18b1c2579226edce942, 0x40b4119e516dd628424d9f74317a3e0,
  0x658ee378fb73bda680a052bd7b8820cc, 0xd3e6af5aa5f9398a630e2df87a973218, 0xa7cc95d36e6b4226266521bacbd569e2, 0x753f9f312eec52aed323618b5f9400cc,
  0x41e41f6171ae782433d2b28aa3c8c88, 0x9cd2ee595d7bcb1f4346f47fae0ba5f0, 0x999c400d63ce969cdde80521e81d3786, 0xc24277bfc44d4a78c6d3ad0659eaa7a6,
  0xc30689a2bb4d0ffa7d04ddaf28160550, 0x115a0fdf025d768f67314a9b81df6a8, 0x401e54321a5bcce835c12b8b18fea8, 0xe9bc7b8de3083bd59d22cd7313b3ac2a,
  0xc7198d01160a5d95df878880dd1a47f0, 0x5ec0c616e7019ad6a9248661c6134b16, 0x10005a0532db6a102634f7ca82be0, 0x64ca58349a38217edbca14cc40773784,
  0x3b4b6531f302f8014a0fe477037a95d2, 0xfd57582c53a0fd3a67a42a91f29fee8a, 0x2afbf97a8ba2f156a96332dc72d38fa4, 0x4f611ebd77d5447a4ff7097f877b03e0,
  0xd2a305476415357079381171cf3c5018, 0x743a7a2dd2eadbd3a1ffec9f3b0fd7d2, 0xd6a9010b3b5f5daf5ca2b78d62580a98, 0x648e073bf74528633167cd6a8fdc78ba,
  0xe9e87037c2f3810d137e1915fb8d940a, 0x100e143487c64f071f733d7a7abce88, 0x101b513e2d57379901a14571ab709b6, 0x9c86e1e22d8b25b16d3bf44fd134b726,
  0x100010116, 0xa383ca80ed540b8d2877653bb76743b4, 0xd7a8a4598c6f63beecf14eddbb33daee, 0x3b1a3ec47d6cde3c079c9ddd7162ba1a,
  0xf808f398cb60b18b1c2579266edce942, 0x649a57c0aeba1b47d7b901b908b3a704, 0x40b4119e516dd628424d9ff4317a3e0, 0x9cc3fee9aea46350c615b4b090c5e750,
  0x658ee378fb73bda680a052ad7b8820cc, 0x7065208a52e6bd1b4bc55ef06d7ad8ba, 0xd3e6af5aa5f9398a630e2dd87a973218, 0xece784263115c4e3c441e0bda8fba9b4,
  0xa7cc95d36e6b4226266521facbd569e2, 0x14bf2d0a9158a9e374ef36ba4e2cf396, 0x753f9f312eec52aed323610b5f9400cc, 0xe9ac3b6ceb6415f5f9bd7bdec741e3b4,
  0x41e41f6171ae782433d2a28aa3c8c88, 0x3b0f7b7b95296c9e8039790fb8d7e03a, 0x9cd2ee595d7bcb1f4346f67fae0ba5f0, 0x10b46c13740340d4b0cbe4228d745ea8,
  0x999c400d63ce969cdde80121e81d3786, 0xf94c1d94f5a0a385e7b7878995c0d4fc, 0xc24277bfc44d4a78c6d3a50659eaa7a6, 0x887c83e77188df8fd23861012291f24e,
  0xc30689a2bb4d0ffa7d04cdaf28160550, 0x8c32d8b1012fbbe7fd089a799ac7d24e, 0x115a0fdf025d768f67334a9b81df6a8, 0x11e087ab54dc35abcf799eb85a424bb6,
  0x401e54321a5bcce835812b8b18fea8, 0xc718c8158d53b66dbe30e43a5eaca86e, 0xe9bc7b8de3083bd59d224d7313b3ac2a, 0x4b2a00e02b9950bce372530ca4e351c0,
  0xc7198d01160a5d95df868880dd1a47f0, 0x9d8344fddfc89a113f6609a8426d006e, 0x5ec0c616e7019ad6a9268661c6134b16, 0xc71c9812b79409145cf65bcdfb2aef50,
  0x10005a0532db6a106634f7ca82be0, 0xd3b6b1cec5cff87ccf25c9a9893618ee, 0x64ca58349a38217edbc214cc40773784, 0x2aeabd1b36865eac8cdd971e5ef31572,
  0x3b4b6531f302f8014a1fe477037a95d2, 0x454d4accd8b89b2be7b0ed8f81ab40, 0xfd57582c53a0fd3a67842a91f29fee8a, 0xb62d0a39866c0283e854a143e2c0c942,
  0x2afbf97a8ba2f156a92332dc72d38fa4, 0xa6890ecaa9b2f10a5c01000e57dc0e7c, 0x4f611ebd77d5447a4f77097f877b03e0, 0x743bba6d00ac448a4076a465374b90ec,
  0xd2a305476415357078381171cf3c5018, 0x4e76eb474d06e439d975067409ce6940, 0x743a7a2dd2eadbd3a3ffec9f3b0fd7d2, 0xecee910fc0736ab4853a35115118647c,
  0xd6a9010b3b5f5daf58a2b78d62580a98, 0x745b26fc5717c7d5c865ae253175524c, 0x648e073bf74528633967cd6a8fdc78ba, 0x2b6e7096a704c04cbfb2de8d8d12eda4,
  0xe9e87037c2f3810d037e1915fb8d940a, 0xebfae498ca88928bf5d571de52ad89b4, 0x100e143487c64f051f733d7a7abce88, 0x80049e71220a5d47155685237ce4fd26,
  0x101b513e2d57379d01a14571ab709b6, 0x3237c8bab7ee1b9fde4d3213b61c3b60, 0x9c86e1e22d8b25b1ed3bf44fd134b726, 0x2287b5b2872232386cd6d3cf6c287018]
def app : List Nat → Nat → Nat
  | [], _ => 0
  | m :: ms, v => (if v % 2 = 1 then m else 0) ^^^ app ms (v / 2)
theorem app_lin : ∀ ms, Lin (app ms)
  | [] => fun _ _ => by simp [app]
  | m :: ms => fun a b => by
    simp only [app]
    rw [half_xor, app_lin ms, xor4]
    congr 1
    have h : (a ^^^ b) % 2 = 1 ↔ ((a % 2 = 1) ≠ (b % 2 = 1)) := by
      have h1 := Nat.testBit_xor a b 0
      simp only [Nat.testBit_zero] at h1
      rw [show ((a ^^^ b) % 2 = 1) ↔ (decide ((a ^^^ b) % 2 = 1) = true) from by simp, h1]
      by_cases ha : a % 2 = 1 <;> by_cases hb : b % 2 = 1 <;> simp [ha, hb]
    by_cases ha : a % 2 = 1 <;> by_cases hb : b % 2 = 1 <;> simp [h, ha, hb]
theorem cert_ok : ((List.range 128).all fun i => app cert (mulF R1 128 (2 ^ i) (2 ^ i) 0 ^^^ 2 ^ i) == (if i = 0 then 0 else 2 ^ i)) = true := by kernel_rfl
def sqF (R : Nat) : Nat → Nat → Nat
  | 0, a => a
  | k + 1, a => sqF R k (mulF R 128 a a 0)
theorem sqN_succ' (R : Nat) : ∀ k a, sqN R (k + 1) a = sqN R k (sq R a)
  | 0, _ => rfl
  | k + 1, a => by show sq R (sqN R (k + 1) a) = sq R (sqN R k (sq R a)); rw [sqN_succ' R k a]
theorem sqF_eq (R : Nat) : ∀ k a, sqF R k a = sqN R k a
  | 0, _ => rfl
  | k + 1, a => by rw [sqN_succ']; show sqF R k _ = _; rw [sqF_eq R k, ← mul_fast]; rfl
theorem two1 : sqN R1 128 2 = 2 := by rw [← sqF_eq]; kernel_rfl
theorem clear0_lin : Lin fun a => a ^^^ (if a.testBit 0 then 1 else 0) := Lin.id.xor fun a b => by rw [Nat.testBit_xor, if_xor]
theorem idem1 (e : Nat) (he : e < 2 ^ 128) (h : sq R1 e = e) : e = 0 ∨ e = 1 := by
  have key := lin_extB (f := fun a => app cert (sq R1 a ^^^ a)) (g := fun a => a ^^^ (if a.testBit 0 then 1 else 0)) (fun a b ha hb => by
      show app cert (sq R1 (a ^^^ b) ^^^ (a ^^^ b)) = _
      rw [sq_linB a b ha hb, xor4, app_lin]) clear0_lin.b 128 (Nat.le_refl _) (fun i hi => by
      have h1 := List.all_eq_true.1 cert_ok i (List.mem_range.2 hi)
      rw [beq_iff_eq, ← mul_fast] at h1
      refine (h1 : app cert (sq R1 (2 ^ i) ^^^ 2 ^ i) = _).trans ?_
      show _ = 2 ^ i ^^^ (if (2 ^ i).testBit 0 then 1 else 0)
      rw [Nat.testBit_two_pow]
      by_cases h0 : i = 0
      · subst h0; rfl
      · simp [h0]) e he
  simp only [h, Nat.xor_self, (app_lin cert).zero] at key
  have h2 : e = (if e.testBit 0 then 1 else 0) := by
    apply bit_ext; intro i
    have := congrArg (fun x => x.testBit i) key
    simp only [Nat.testBit_xor, Nat.zero_testBit] at this
    revert this
    cases e.testBit i <;> cases (if e.testBit 0 = true then 1 else 0 : Nat).testBit i <;> simp
  cases hb : e.testBit 0
  · left; rw [hb] at h2; simpa using h2
  · right; rw [hb] at h2; simpa using h2
theorem field1 {a b c : Nat} (ha : a < 2 ^ 128) (hb : b < 2 ^ 128) (hc : c < 2 ^ 128) (hne : c ≠ 0) : mul R1 a c = mul R1 b c ↔ a = b :=
  ⟨field_of R1_lt two1 idem1 ha hb hc hne, fun h => by rw [h]⟩
theorem fieldDot1 {a b c : Nat} (ha : a < 2 ^ 128) (hb : b < 2 ^ 128) (hc : c < 2 ^ 128) (hne : c ≠ 0) : dot R1 D1 a c = dot R1 D1 b c ↔ a = b := by
  refine ⟨fun h => (field1 ha hb hc hne).1 ?_, fun h => by rw [h]⟩
  rw [← upN_downN pair1 (mul_lt R1_lt ha c) 128, ← upN_downN pair1 (mul_lt R1_lt hb c) 128]
  exact congrArg _ h
end Gf
end Go.Proofs.YtaiffkajkbiidaaGreatDoor
/- Plain laws: doubling, halving, sums and bits of numbers of 128 bits in two words of 64. No program is spoken of. No condition. -/
namespace Go.Proofs.YtaiffkajkbiidaaGreatDoor
set_option linter.unusedSimpArgs false
set_option linter.unusedVariables false
set_option linter.unusedSectionVars false
namespace Gf
open Go.Proofs.YtaiffkajkbiidaaGreatDoor
/-- A number of 128 bits in two words. -/
def W2 (n : Nat) : List Nat := [n % 18446744073709551616, n / 18446744073709551616]
theorem W2_len (n : Nat) : (W2 n).length = 2 := rfl
theorem w64 : (18446744073709551616 : Nat) = 2 ^ 64 := by decide
theorem xor_lo (x y : Nat) : (x ^^^ y) % 18446744073709551616 = (x % 18446744073709551616) ^^^ (y % 18446744073709551616) := by
  rw [w64]; exact Nat.xor_mod_two_pow
theorem xor_hi (x y : Nat) : (x ^^^ y) / 18446744073709551616 = (x / 18446744073709551616) ^^^ (y / 18446744073709551616) := by
  rw [w64, ← Nat.shiftRight_eq_div_pow, ← Nat.shiftRight_eq_div_pow, ← Nat.shiftRight_eq_div_pow]; exact Nat.shiftRight_xor_distrib
theorem W2_xor (x y : Nat) : W2 (x ^^^ y) = [(x % 18446744073709551616) ^^^ (y % 18446744073709551616), (x / 18446744073709551616) ^^^ (y / 18446744073709551616)] := by
  unfold W2; rw [xor_lo, xor_hi]
/-- Bits that do not meet: both ways of putting them together are one. -/
theorem xor_add {a b : Nat} (i : Nat) (ha : a < 2 ^ i) : a ^^^ (b * 2 ^ i) = a + b * 2 ^ i := by
  have h1 := Nat.two_pow_add_eq_or_of_lt (i := i) (b := a) ha b
  rw [Nat.mul_comm b, Nat.add_comm, h1]
  apply bit_ext; intro j
  rw [Nat.testBit_xor, Nat.testBit_or, Nat.testBit_two_pow_mul]
  by_cases hj : i ≤ j
  · rw [Nat.testBit_lt_two_pow (Nat.lt_of_lt_of_le ha (Nat.pow_le_pow_right (by omega) hj))]
    simp
  · simp [hj]
theorem bit127 (n : Nat) (h : n < 2 ^ 128) : n.testBit 127 = decide (n / 18446744073709551616 / 9223372036854775808 = 1) := by
  rw [Nat.testBit_eq_decide_div_mod_eq, Nat.div_div_eq_div_mul]
  congr 1
  apply propext
  omega
theorem up_words {n : Nat} (h : n < 2 ^ 128) : W2 (up R1 n) = [(n % 18446744073709551616 * 2 % 18446744073709551616) ^^^ (n / 18446744073709551616 / 9223372036854775808), (n / 18446744073709551616 * 2 % 18446744073709551616) ^^^ (n % 18446744073709551616 / 9223372036854775808) ^^^ (n / 18446744073709551616 / 9223372036854775808 * 13979173243358019584)] := by
  unfold up
  rw [W2_xor, bit127 n h]
  have hx := xor_add (a := n % 18446744073709551616 / 9223372036854775808) (b := n / 18446744073709551616 % 9223372036854775808) 1 (by omega)
  have e1 : n / 18446744073709551616 * 2 % 18446744073709551616 = n / 18446744073709551616 % 9223372036854775808 * 2 ^ 1 := by omega
  have e2 : 2 * n % 2 ^ 128 / 18446744073709551616 = n % 18446744073709551616 / 9223372036854775808 + n / 18446744073709551616 % 9223372036854775808 * 2 ^ 1 := by omega
  have e3 : 2 * n % 2 ^ 128 % 18446744073709551616 = n % 18446744073709551616 * 2 % 18446744073709551616 := by omega
  rw [e1, e2, e3, ← hx, Nat.xor_comm (n % 18446744073709551616 / 9223372036854775808)]
  have h2 : n / 18446744073709551616 / 9223372036854775808 = 0 ∨ n / 18446744073709551616 / 9223372036854775808 = 1 := by omega
  rcases h2 with h2 | h2
  · rw [h2]; simp
  · rw [h2]
    simp only [decide_true, if_true]
    rw [show R1 % 18446744073709551616 = 1 by decide, show R1 / 18446744073709551616 = 1 * 13979173243358019584 by decide]
theorem down_words {n : Nat} (h : n < 2 ^ 128) : W2 (down D1 n) = [(n % 18446744073709551616 / 2) ^^^ (n / 18446744073709551616 * 9223372036854775808 % 18446744073709551616), (n / 18446744073709551616 / 2) ^^^ (n % 18446744073709551616 % 2 * 16212958658533785600)] := by
  unfold down
  rw [W2_xor, Nat.testBit_zero]
  have hx := xor_add (a := n % 18446744073709551616 / 2) (b := n / 18446744073709551616 % 2) 63 (by omega)
  have e1 : n / 18446744073709551616 * 9223372036854775808 % 18446744073709551616 = n / 18446744073709551616 % 2 * 2 ^ 63 := by omega
  have e2 : n / 2 % 18446744073709551616 = n % 18446744073709551616 / 2 + n / 18446744073709551616 % 2 * 2 ^ 63 := by omega
  have e3 : n / 2 / 18446744073709551616 = n / 18446744073709551616 / 2 := by omega
  have e4 : n % 18446744073709551616 % 2 = n % 2 := by omega
  rw [e1, hx, ← e2, e3, e4]
  have h2 : n % 2 = 0 ∨ n % 2 = 1 := by omega
  rcases h2 with h2 | h2
  · rw [h2]; simp
  · rw [h2]
    simp only [decide_true, if_true]
    rw [show D1 % 18446744073709551616 = 0 by decide, show D1 / 18446744073709551616 = 1 * 16212958658533785600 by decide, Nat.xor_zero]
theorem plus_words (a b f : Nat) (hf : f ≤ 1) : W2 (a ^^^ f * b) = [(a % 18446744073709551616) ^^^ (f * (b % 18446744073709551616)), (a / 18446744073709551616) ^^^ (f * (b / 18446744073709551616))] := by
  rw [W2_xor]
  have : f = 0 ∨ f = 1 := by omega
  rcases this with rfl | rfl <;> simp
theorem bit_words {n i : Nat} (h : n < 2 ^ 128) : (if i < 64 then n % 18446744073709551616 / 2 ^ i % 2 else n / 18446744073709551616 / 2 ^ (i - 64) % 2) = n / 2 ^ i % 2 := by
  by_cases hi : i < 64
  · rw [if_pos hi]
    have e : n.testBit i = (n % 2 ^ 64).testBit i := by rw [Nat.testBit_mod_two_pow]; simp [hi]
    rw [Nat.testBit_eq_decide_div_mod_eq, Nat.testBit_eq_decide_div_mod_eq] at e
    rw [w64]
    have := decide_eq_decide.1 e
    omega
  · rw [if_neg hi, Nat.div_div_eq_div_mul, w64, ← Nat.pow_add, show 64 + (i - 64) = i by omega]
theorem bit_le (n i : Nat) : n / 2 ^ i % 2 ≤ 1 := by omega
theorem if_bit (y x k : Nat) : (if y.testBit k then x else 0) = y / 2 ^ k % 2 * x := by
  rw [Nat.testBit_eq_decide_div_mod_eq]
  have : y / 2 ^ k % 2 = 0 ∨ y / 2 ^ k % 2 = 1 := by omega
  rcases this with h | h <;> rw [h] <;> simp
end Gf
end Go.Proofs.YtaiffkajkbiidaaGreatDoor
