/- Plain laws of the top: a message of one byte goes through rounds of its two halves, there and back. No program is spoken of. No condition. -/
import Derived.Test.YtaiffkajkbiidaaGreatDoorKA
namespace Go.Proofs.YtaiffkajkbiidaaGreatDoor
set_option linter.unusedSimpArgs false
set_option linter.unusedVariables false
set_option linter.unusedSectionVars false
set_option linter.unusedVariables false
/-- A round: the halves change places, and the one is added to by what the other brings. -/
def rndT (S : Nat → Nat → Nat) (j : Nat) (p : Nat × Nat) : Nat × Nat := (p.2, p.1 ^^^ S j p.2)
def swT (p : Nat × Nat) : Nat × Nat := (p.2, p.1)
def rndsT (S : Nat → Nat → Nat) : Nat → Nat × Nat → Nat × Nat
  | 0, p => p
  | n + 1, p => rndT S n (rndsT S n p)
def backT (S : Nat → Nat → Nat) : Nat → Nat × Nat → Nat × Nat
  | 0, p => p
  | n + 1, p => backT S n (rndT S n p)
theorem rnd_sw (S : Nat → Nat → Nat) (j : Nat) (p : Nat × Nat) : rndT S j (swT (rndT S j p)) = swT p := by
  obtain ⟨a, b⟩ := p
  simp only [rndT, swT]
  rw [Nat.xor_assoc, Nat.xor_self, Nat.xor_zero]
theorem sw_sw (p : Nat × Nat) : swT (swT p) = p := rfl
theorem back_rnds (S : Nat → Nat → Nat) : ∀ n p, backT S n (swT (rndsT S n p)) = swT p
  | 0, p => rfl
  | n + 1, p => by
    show backT S n (rndT S n (swT (rndT S n (rndsT S n p)))) = _
    rw [rnd_sw, back_rnds S n]
theorem rnds_back (S : Nat → Nat → Nat) : ∀ n p, rndsT S n (swT (backT S n p)) = swT p
  | 0, p => rfl
  | n + 1, p => by
    show rndT S n (rndsT S n (swT (backT S n (rndT S n p)))) = _
    rw [rnds_back S n, rnd_sw]
theorem rnd_lt {S : Nat → Nat → Nat} (hS : ∀ j x, S j x < 16) {j : Nat} {p : Nat × Nat} (h : p.1 < 16 ∧ p.2 < 16) : (rndT S j p).1 < 16 ∧ (rndT S j p).2 < 16 := ⟨h.2, Nat.xor_lt_two_pow (n := 4) h.1 (hS _ _)⟩
theorem rnds_lt {S : Nat → Nat → Nat} (hS : ∀ j x, S j x < 16) : ∀ n {p : Nat × Nat}, (p.1 < 16 ∧ p.2 < 16) → (rndsT S n p).1 < 16 ∧ (rndsT S n p).2 < 16
  | 0, _, h => h
  | n + 1, _, h => rnd_lt hS (rnds_lt hS n h)
theorem back_lt {S : Nat → Nat → Nat} (hS : ∀ j x, S j x < 16) : ∀ n {p : Nat × Nat}, (p.1 < 16 ∧ p.2 < 16) → (backT S n p).1 < 16 ∧ (backT S n p).2 < 16
  | 0, _, h => h
  | n + 1, _, h => back_lt hS n (rnd_lt hS h)
/-- A byte's halves, and both together. -/
def splT (b : Nat) : Nat × Nat := (b / 16, b % 16)
def jnT (p : Nat × Nat) : Nat := p.1 * 16 + p.2
theorem jn_spl (b : Nat) : jnT (splT b) = b := by unfold jnT splT; omega
theorem spl_jn {p : Nat × Nat} (h : p.1 < 16 ∧ p.2 < 16) : splT (jnT p) = p := by
  obtain ⟨a, b⟩ := p
  obtain ⟨h1, h2⟩ := h
  simp only at h1 h2
  unfold jnT splT
  simp only [Prod.mk.injEq]
  omega
theorem spl_lt {b : Nat} (h : b < 256) : (splT b).1 < 16 ∧ (splT b).2 < 16 := by unfold splT; simp only; omega
theorem jn_lt {p : Nat × Nat} (h : p.1 < 16 ∧ p.2 < 16) : jnT p < 256 := by unfold jnT; omega
theorem sw_lt {p : Nat × Nat} (h : p.1 < 16 ∧ p.2 < 16) : (swT p).1 < 16 ∧ (swT p).2 < 16 := ⟨h.2, h.1⟩
/-- The first bit, turned or not, by what the others bring. -/
def flT (G : Nat → Nat) (b : Nat) : Nat := b ^^^ (G (b ||| 128) &&& 128)
theorem and128 (n : Nat) : n &&& 128 = 0 ∨ n &&& 128 = 128 := by
  cases hb : n.testBit 7
  · left
    apply Nat.eq_of_testBit_eq
    intro i
    rw [Nat.testBit_and, show (128 : Nat) = 2 ^ 7 from rfl, Nat.testBit_two_pow]
    by_cases hi : 7 = i
    · subst hi; simp [hb]
    · simp [hi]
  · right
    apply Nat.eq_of_testBit_eq
    intro i
    rw [Nat.testBit_and, show (128 : Nat) = 2 ^ 7 from rfl, Nat.testBit_two_pow]
    by_cases hi : 7 = i
    · subst hi; simp [hb]
    · simp [hi]
set_option maxRecDepth 4000 in
theorem or_xor128 : ∀ b, b < 256 → (b ^^^ 128) ||| 128 = b ||| 128 := by decide
set_option maxRecDepth 4000 in
theorem xor128 : ∀ b, b < 256 → (b ^^^ 128) ^^^ 128 = b := by decide
theorem fl_fl (G : Nat → Nat) {b : Nat} (h : b < 256) : flT G (flT G b) = b := by
  rcases and128 (G (b ||| 128)) with e | e
  · have e1 : flT G b = b := by unfold flT; rw [e, Nat.xor_zero]
    rw [e1, e1]
  · have e1 : flT G b = b ^^^ 128 := by unfold flT; rw [e]
    rw [e1]
    unfold flT
    rw [or_xor128 b h, e, xor128 b h]
theorem fl_lt (G : Nat → Nat) {b : Nat} (h : b < 256) : flT G b < 256 := by
  unfold flT
  rcases and128 (G (b ||| 128)) with e | e
  · rw [e, Nat.xor_zero]; exact h
  · rw [e]; exact Nat.xor_lt_two_pow (n := 8) h (by decide)
/-- What a byte is enciphered to, and deciphered. -/
def encT (S : Nat → Nat → Nat) (G : Nat → Nat) (b : Nat) : Nat := flT G (jnT (swT (rndsT S 24 (splT b))))
def decT (S : Nat → Nat → Nat) (G : Nat → Nat) (b : Nat) : Nat := jnT (swT (backT S 24 (splT (flT G b))))
section
variable {S : Nat → Nat → Nat} (hS : ∀ j x, S j x < 16) (G : Nat → Nat)
include hS
theorem encT_lt {b : Nat} (h : b < 256) : encT S G b < 256 := fl_lt G (jn_lt (sw_lt (rnds_lt hS _ (spl_lt h))))
theorem decT_lt {b : Nat} (h : b < 256) : decT S G b < 256 := jn_lt (sw_lt (back_lt hS _ (spl_lt (fl_lt G h))))
theorem decT_encT {b : Nat} (h : b < 256) : decT S G (encT S G b) = b := by
  have h1 := sw_lt (rnds_lt hS 24 (spl_lt h))
  unfold decT encT
  rw [fl_fl G (jn_lt h1), spl_jn h1, back_rnds, sw_sw, jn_spl]
theorem encT_decT {b : Nat} (h : b < 256) : encT S G (decT S G b) = b := by
  have h1 := sw_lt (back_lt hS 24 (spl_lt (fl_lt G h)))
  unfold decT encT
  rw [spl_jn h1, rnds_back, sw_sw, jn_spl, fl_fl G h]
theorem encT_inj {a b : Nat} (ha : a < 256) (hb : b < 256) (h : encT S G a = encT S G b) : a = b := by
  rw [← decT_encT hS G ha, h, decT_encT hS G hb]
end
theorem pigT : ∀ (n : Nat) (f : Nat → Nat), (∀ i, i ≤ n → f i < n) → ∃ i j, i < j ∧ j ≤ n ∧ f i = f j
  | 0, f, h => absurd (h 0 (Nat.le_refl _)) (by omega)
  | n + 1, f, h => by
    by_cases hx : ∃ i, i ≤ n ∧ f i = f (n + 1)
    · obtain ⟨i, h1, h2⟩ := hx
      exact ⟨i, n + 1, by omega, Nat.le_refl _, h2⟩
    · have hx' : ∀ i, i ≤ n → f i ≠ f (n + 1) := fun i hi e => hx ⟨i, hi, e⟩
      obtain ⟨i, j, h1, h2, h3⟩ := pigT n (fun i => if f i = n then f (n + 1) else f i) fun i hi => by
        have h1 := h i (by omega)
        have h2 := h (n + 1) (by omega)
        have h3 := hx' i hi
        split <;> omega
      refine ⟨i, j, h1, by omega, ?_⟩
      have h4 := hx' i (by omega)
      have h5 := hx' j (by omega)
      split at h3 <;> split at h3 <;> omega
def itT (f : Nat → Nat) : Nat → Nat → Nat
  | 0, b => b
  | n + 1, b => f (itT f n b)
theorem it_lt {f : Nat → Nat} (hf : ∀ b, b < 256 → f b < 256) {b : Nat} (hb : b < 256) : ∀ n, itT f n b < 256
  | 0 => hb
  | n + 1 => hf _ (it_lt hf hb n)
theorem it_strip {f g : Nat → Nat} (hf : ∀ b, b < 256 → f b < 256) (hg : ∀ b, b < 256 → g (f b) = b) {b : Nat} (hb : b < 256) : ∀ i k, itT f i b = itT f (i + k) b → itT f k b = b
  | 0, k, h => by rw [Nat.zero_add] at h; exact h.symm
  | i + 1, k, h => by
    apply it_strip hf hg hb i k
    rw [show i + 1 + k = (i + k) + 1 by omega] at h
    have h2 := congrArg g h
    simp only [itT] at h2
    rwa [hg _ (it_lt hf hb i), hg _ (it_lt hf hb (i + k))] at h2
/-- Within 256 times it comes back. -/
theorem it_back {f g : Nat → Nat} (hf : ∀ b, b < 256 → f b < 256) (hg : ∀ b, b < 256 → g (f b) = b) {b : Nat} (hb : b < 256) : ∃ k, 1 ≤ k ∧ k ≤ 256 ∧ itT f k b = b := by
  obtain ⟨i, j, h1, h2, h3⟩ := pigT 256 (fun i => itT f i b) fun i _ => it_lt hf hb i
  exact ⟨j - i, by omega, by omega, it_strip hf hg hb i (j - i) (by rw [show i + (j - i) = j by omega]; exact h3)⟩
end Go.Proofs.YtaiffkajkbiidaaGreatDoor
