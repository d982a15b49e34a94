/- Plain arithmetic: numbers by digits, and that 2^130 - 5 is a prime (Pocklington's certificates). No program is spoken of. No condition. -/
import Derived.KernelRfl
import Derived.WalkKit
import Derived.WalkSpells
import Derived.WalkLawsBesides
import Derived.Lib.Hide
import Derived.Laws.CopyOwn
import Derived.ChangeKeysEq
import Derived.Deep.MidRow
import Derived.Deep.Quiet
import Derived.Deep.QuietTactic
import Derived.OwnWalk
import Derived.Laws.BytesArg
import Derived.Laws.OwnMore
import Derived.Laws.MakeOwn
namespace Go.Proofs.YtaiffkajkbiidaaGreatDoor
set_option linter.unusedSimpArgs false
set_option linter.unusedVariables false
set_option linter.unusedSectionVars false
set_option linter.unusedVariables false

/-! ### digits -/
def undig (b : Nat) : List Nat → Nat
  | [] => 0
  | x :: xs => x + b * undig b xs
def dig (b : Nat) : Nat → Nat → List Nat
  | 0, _ => []
  | n + 1, v => v % b :: dig b n (v / b)
@[simp] theorem dig_length (b n v : Nat) : (dig b n v).length = n := by
  induction n generalizing v with
  | zero => rfl
  | succ n ih => simp [dig, ih]
theorem undig_dig (b n v : Nat) : undig b (dig b n v) = v % b ^ n := by
  induction n generalizing v with
  | zero => simp [dig, undig, Nat.mod_one]
  | succ n ih =>
    simp only [dig, undig, ih]
    rw [Nat.pow_succ', Nat.mod_mul]
theorem dig_undig (b : Nat) (xs : List Nat) (h : ∀ x ∈ xs, x < b) : dig b xs.length (undig b xs) = xs := by
  induction xs with
  | nil => rfl
  | cons x xs ih =>
    have hx : x < b := h x (by simp)
    simp only [List.length_cons, dig, undig]
    rw [Nat.add_mul_mod_self_left, Nat.mod_eq_of_lt hx, Nat.add_mul_div_left _ _ (by omega), Nat.div_eq_of_lt hx, Nat.zero_add, ih fun y hy => h y (by simp [hy])]
theorem dig_lt {b : Nat} (hb : 0 < b) (n v : Nat) : ∀ x ∈ dig b n v, x < b := by
  induction n generalizing v with
  | zero => simp [dig]
  | succ n ih =>
    intro x hx
    simp only [dig, List.mem_cons] at hx
    rcases hx with rfl | hx
    · exact Nat.mod_lt _ hb
    · exact ih _ x hx
theorem undig_lt {b : Nat} (xs : List Nat) (h : ∀ x ∈ xs, x < b) : undig b xs < b ^ xs.length := by
  induction xs with
  | nil => simp [undig]
  | cons x xs ih =>
    have hx : x < b := h x (by simp)
    have := ih fun y hy => h y (by simp [hy])
    simp only [undig, List.length_cons, Nat.pow_succ']
    calc x + b * undig b xs < b + b * undig b xs := by omega
      _ = b * (undig b xs + 1) := by rw [Nat.mul_add, Nat.mul_one, Nat.add_comm]
      _ ≤ b * b ^ xs.length := Nat.mul_le_mul_left _ this
theorem dig_getD (b : Nat) (n v i : Nat) (hi : i < n) : (dig b n v).getD i 0 = v / b ^ i % b := by
  induction n generalizing v i with
  | zero => omega
  | succ n ih =>
    cases i with
    | zero => simp [dig]
    | succ i =>
      simp only [dig, List.getD_cons_succ]
      rw [ih _ _ (by omega), Nat.pow_succ', Nat.div_div_eq_div_mul]
theorem undig_append (b : Nat) (xs ys : List Nat) : undig b (xs ++ ys) = undig b xs + b ^ xs.length * undig b ys := by
  induction xs with
  | nil => simp [undig]
  | cons x xs ih =>
    simp only [List.cons_append, undig, ih, List.length_cons, Nat.pow_succ', Nat.mul_add, Nat.mul_assoc, Nat.add_assoc]
theorem undig_replicate (b n : Nat) : undig b (List.replicate n 0) = 0 := by
  induction n with
  | zero => rfl
  | succ n ih => simp [List.replicate_succ, undig, ih]
theorem dig_mod (b n v : Nat) : dig b n (v % b ^ n) = dig b n v := by
  induction n generalizing v with
  | zero => rfl
  | succ n ih =>
    simp only [dig]
    rw [Nat.pow_succ', Nat.mod_mul_right_mod, Nat.mod_mul_right_div_self, ih]
theorem dig_inj {b : Nat} (n : Nat) {v u : Nat} (hv : v < b ^ n) (hu : u < b ^ n) (h : dig b n v = dig b n u) : v = u := by
  have := congrArg (undig b) h
  rwa [undig_dig, undig_dig, Nat.mod_eq_of_lt hv, Nat.mod_eq_of_lt hu] at this
theorem dig_zero (b n : Nat) : dig b n 0 = List.replicate n 0 := by
  induction n with
  | zero => rfl
  | succ n ih => simp [dig, ih, List.replicate_succ]
theorem dig_append (b m n v : Nat) : dig b (m + n) v = dig b m v ++ dig b n (v / b ^ m) := by
  induction m generalizing v with
  | zero => simp [dig]
  | succ m ih =>
    rw [show m + 1 + n = (m + n) + 1 by omega]
    simp only [dig, ih, List.cons_append, Nat.pow_succ', Nat.div_div_eq_div_mul]

/-! ### pigeons -/
theorem pigeon : ∀ (m n : Nat) (f : Nat → Nat), (∀ i, i < n → f i < m) → (∀ i j, i < j → j < n → f i ≠ f j) → n ≤ m := by
  intro m
  induction m with
  | zero =>
    intro n f h _
    rcases Nat.eq_zero_or_pos n with h0 | h0
    · omega
    · exact absurd (h 0 h0) (by omega)
  | succ m ih =>
    intro n f h hinj
    cases n with
    | zero => omega
    | succ k =>
      have hk := h k (by omega)
      have := ih k (fun i => if f i = m then f k else f i) (fun i hi => by
        have hlt := h i (by omega)
        have hne := hinj i k hi (by omega)
        by_cases hm : f i = m
        · simp only [hm, if_true]; omega
        · simp only [hm, if_false]; omega) (fun i j hij hj => by
        have h1 := hinj i j hij (by omega)
        have h2 := hinj i k (by omega) (by omega)
        have h3 := hinj j k hj (by omega)
        by_cases ha : f i = m <;> by_cases hb : f j = m
        · omega
        · simp only [ha, hb, if_true, if_false]; omega
        · simp only [ha, hb, if_true, if_false]; omega
        · simp only [ha, hb, if_false]; exact h1)
      omega

/-! ### primes -/
def IsPrime (q : Nat) : Prop := 2 ≤ q ∧ ∀ d, d ∣ q → d = 1 ∨ d = q

theorem least (P : Nat → Prop) (n : Nat) (h : P n) : ∃ m, P m ∧ ∀ k, k < m → ¬ P k := by
  induction n using Nat.strongRecOn with
  | ind n ih =>
    by_cases hk : ∃ k, k < n ∧ P k
    · obtain ⟨k, hk, hp⟩ := hk
      exact ih k hk hp
    · exact ⟨n, h, fun k hk' hp => hk ⟨k, hk', hp⟩⟩

theorem mod_of_dvd_mod {a b p q : Nat} (hq : q ∣ p) (h : a % p = b % p) : a % q = b % q := by
  rw [← Nat.mod_mod_of_dvd a hq, ← Nat.mod_mod_of_dvd b hq, h]

/-- The least exponent behind 0 by which g is 1 modulo q. -/
theorem order (q g e : Nat) (hq : 1 < q) (he : 0 < e) (h : g ^ e % q = 1) :
    ∃ n, 0 < n ∧ g ^ n % q = 1 ∧ (∀ k, g ^ k % q = 1 → n ∣ k) ∧ n < q := by
  obtain ⟨n, ⟨hn0, hn⟩, hmin⟩ := least (fun n => 0 < n ∧ g ^ n % q = 1) e ⟨he, h⟩
  have hmul : ∀ j, g ^ (n * j) % q = 1 := by
    intro j
    rw [Nat.pow_mul, Nat.pow_mod, hn, Nat.one_pow, Nat.mod_eq_of_lt hq]
  refine ⟨n, hn0, hn, fun k hk => ?_, ?_⟩
  · rw [Nat.dvd_iff_mod_eq_zero]
    refine Classical.byContradiction fun hne => ?_
    refine hmin (k % n) (Nat.mod_lt _ hn0) ⟨Nat.pos_of_ne_zero hne, ?_⟩
    have e1 : g ^ k = g ^ (k % n) * g ^ (n * (k / n)) := by rw [← Nat.pow_add, Nat.mod_add_div]
    rw [e1, Nat.mul_mod, hmul, Nat.mul_one, Nat.mod_mod] at hk
    exact hk
  · -- the powers 0 .. n - 1 are unlike each other, and none is 0
    have hcan : ∀ i j, i ≤ j → j ≤ n → g ^ i % q = g ^ j % q → g ^ (j - i) % q = 1 := by
      intro i j hij hj hh
      have e1 : g ^ (n - i) * g ^ i % q = 1 := by rw [← Nat.pow_add, Nat.sub_add_cancel (by omega)]; exact hn
      have e2 : g ^ (n - i) * g ^ j % q = 1 := by rw [Nat.mul_mod, ← hh, ← Nat.mul_mod]; exact e1
      have e3 : g ^ (n - i) * g ^ j = g ^ n * g ^ (j - i) := by rw [← Nat.pow_add, ← Nat.pow_add]; congr 1; omega
      rw [e3, Nat.mul_mod, hn, Nat.one_mul, Nat.mod_mod] at e2
      exact e2
    have := pigeon (q - 1) n (fun i => g ^ i % q - 1) (fun i hi => by
      have hlt : g ^ i % q < q := Nat.mod_lt _ (by omega)
      have hpos : 0 < g ^ i % q := by
        refine Nat.pos_of_ne_zero fun h0 => ?_
        have e1 : g ^ (n - i) * g ^ i % q = 1 := by rw [← Nat.pow_add, Nat.sub_add_cancel (by omega)]; exact hn
        rw [Nat.mul_mod, h0, Nat.mul_zero, Nat.zero_mod] at e1
        cases e1
      omega) (fun i j hij hj hh => by
      have hposi : 0 < g ^ i % q := by
        refine Nat.pos_of_ne_zero fun h0 => ?_
        have e1 : g ^ (n - i) * g ^ i % q = 1 := by rw [← Nat.pow_add, Nat.sub_add_cancel (by omega)]; exact hn
        rw [Nat.mul_mod, h0, Nat.mul_zero, Nat.zero_mod] at e1
        cases e1
      have hposj : 0 < g ^ j % q := by
        refine Nat.pos_of_ne_zero fun h0 => ?_
        have e1 : g ^ (n - j) * g ^ j % q = 1 := by rw [← Nat.pow_add, Nat.sub_add_cancel (by omega)]; exact hn
        rw [Nat.mul_mod, h0, Nat.mul_zero, Nat.zero_mod] at e1
        cases e1
      exact hmin (j - i) (by omega) ⟨by omega, hcan i j (by omega) (by omega) (by have hh' : g ^ i % q - 1 = g ^ j % q - 1 := hh; omega)⟩)
    omega

/-- A prime r of p - 1 divides the order of g modulo whatever divides p. -/
theorem order_has {p q r m g u n : Nat} (hq : 1 < q) (hqp : q ∣ p) (hr : IsPrime r) (hm : p - 1 = r * m)
    (hu : (g ^ m + (p - 1)) * u % p = 1 % p) (hp1 : 1 ≤ p) (hn : n ∣ p - 1) (hdiv : g ^ n % q = 1) : r ∣ n := by
  have hnot : ¬ n ∣ m := by
    rintro ⟨j, rfl⟩
    have h1 : g ^ (n * j) % q = 1 := by rw [Nat.pow_mul, Nat.pow_mod, hdiv, Nat.one_pow, Nat.mod_eq_of_lt hq]
    have h2 := mod_of_dvd_mod hqp hu
    rw [Nat.mod_eq_of_lt hq, Nat.mul_mod, Nat.add_mod, h1] at h2
    obtain ⟨c, rfl⟩ := hqp
    have h3 : (1 + (q * c - 1) % q) % q = 0 := by
      rw [Nat.add_mod_mod, show 1 + (q * c - 1) = q * c by omega]
      exact Nat.mul_mod_right q c
    rw [h3, Nat.zero_mul, Nat.zero_mod] at h2
    cases h2
  rcases hr.2 (Nat.gcd r n) (Nat.gcd_dvd_left r n) with h1 | h1
  · exfalso
    apply hnot
    have hc : Nat.Coprime n r := by rw [Nat.Coprime, Nat.gcd_comm]; exact h1
    exact hc.dvd_of_dvd_mul_left (by rw [← hm]; exact hn)
  · rw [← h1]; exact Nat.gcd_dvd_right r n

theorem prime_of_no_small {p : Nat} (hp : 2 ≤ p) (h : ∀ q, 1 < q → q ∣ p → p < q * q) : IsPrime p := by
  refine ⟨hp, fun d hd => ?_⟩
  obtain ⟨c, hc⟩ := hd
  rcases Nat.lt_or_ge 1 d with h1 | h1
  · rcases Nat.lt_or_ge 1 c with h2 | h2
    · exfalso
      have ha := h d h1 ⟨c, hc⟩
      have hb := h c h2 ⟨d, by rw [hc, Nat.mul_comm]⟩
      rcases Nat.le_total d c with hle | hle
      · have := Nat.mul_le_mul_left d hle
        omega
      · have := Nat.mul_le_mul_right c hle
        omega
    · right
      have : c ≠ 0 := by rintro rfl; simp at hc; omega
      have : c = 1 := by omega
      subst this
      simp at hc; exact hc.symm
  · left
    have : d ≠ 0 := by rintro rfl; simp at hc; omega
    omega

/-- Pocklington, by one great prime of p - 1. -/
theorem pock1 {p r m g u : Nat} (hp : 2 ≤ p) (hr : IsPrime r) (hm : p - 1 = r * m) (hg : g ^ (p - 1) % p = 1) (hu : (g ^ m + (p - 1)) * u % p = 1) (hbig : p < r * r) : IsPrime p := by
  refine prime_of_no_small hp fun q hq hqp => ?_
  have hgq : g ^ (p - 1) % q = 1 := by
    have := mod_of_dvd_mod (a := g ^ (p - 1)) (b := 1) hqp (by rw [hg, Nat.mod_eq_of_lt (by omega)])
    rwa [Nat.mod_eq_of_lt hq] at this
  obtain ⟨n, hn0, hn, hdv, hlt⟩ := order q g (p - 1) hq (by omega) hgq
  have h1 := order_has hq hqp hr hm (by rw [hu, Nat.mod_eq_of_lt (by omega)]) (by omega) (hdv _ hgq) hn
  have h2 := Nat.le_of_dvd hn0 h1
  have : r * r ≤ q * q := Nat.mul_le_mul (by omega) (by omega)
  omega
/-- The same by two primes. -/
theorem pock2 {p r m u r' m' u' g : Nat} (hp : 2 ≤ p) (hr : IsPrime r) (hm : p - 1 = r * m) (hr' : IsPrime r') (hm' : p - 1 = r' * m') (hne : r ≠ r') (hg : g ^ (p - 1) % p = 1)
    (hu : (g ^ m + (p - 1)) * u % p = 1) (hu' : (g ^ m' + (p - 1)) * u' % p = 1) (hbig : p < (r * r') * (r * r')) : IsPrime p := by
  refine prime_of_no_small hp fun q hq hqp => ?_
  have hgq : g ^ (p - 1) % q = 1 := by
    have := mod_of_dvd_mod (a := g ^ (p - 1)) (b := 1) hqp (by rw [hg, Nat.mod_eq_of_lt (by omega)])
    rwa [Nat.mod_eq_of_lt hq] at this
  obtain ⟨n, hn0, hn, hdv, hlt⟩ := order q g (p - 1) hq (by omega) hgq
  have h1 := order_has hq hqp hr hm (by rw [hu, Nat.mod_eq_of_lt (by omega)]) (by omega) (hdv _ hgq) hn
  have h1' := order_has hq hqp hr' hm' (by rw [hu', Nat.mod_eq_of_lt (by omega)]) (by omega) (hdv _ hgq) hn
  have hc : Nat.Coprime r r' := by
    rcases hr.2 (Nat.gcd r r') (Nat.gcd_dvd_left _ _) with h | h
    · exact h
    · exfalso
      rcases hr'.2 r (by rw [← h]; exact Nat.gcd_dvd_right _ _) with h2 | h2
      · have := hr.1; omega
      · exact hne h2
  have h2 := Nat.le_of_dvd hn0 (hc.mul_dvd_of_dvd_of_dvd h1 h1')
  have : (r * r') * (r * r') ≤ q * q := Nat.mul_le_mul (by omega) (by omega)
  omega

/-- b^e modulo m, bit by bit. -/
def powmod (m : Nat) : Nat → Nat → Nat → Nat
  | 0, _, _ => 1 % m
  | f + 1, b, e => if e % 2 = 1 then b * powmod m f (b * b % m) (e / 2) % m else powmod m f (b * b % m) (e / 2)
theorem powmod_eq (m : Nat) : ∀ (f b e : Nat), e < 2 ^ f → powmod m f b e = b ^ e % m := by
  intro f
  induction f with
  | zero => intro b e h; have : e = 0 := by simpa using h
            subst this; simp [powmod]
  | succ f ih =>
    intro b e h
    have h2 : e / 2 < 2 ^ f := by rw [Nat.pow_succ] at h; omega
    simp only [powmod, ih _ _ h2]
    have e1 : b ^ e = b ^ (e % 2) * (b * b) ^ (e / 2) := by
      rw [← Nat.pow_two, ← Nat.pow_mul, ← Nat.pow_add, Nat.mod_add_div]
    rw [← Nat.pow_mod]
    by_cases hb : e % 2 = 1
    · rw [if_pos hb, e1, hb, Nat.pow_one, Nat.mul_mod_mod]
    · rw [if_neg hb, e1, show e % 2 = 0 by omega, Nat.pow_zero, Nat.one_mul]

def noDiv (n : Nat) : Nat → Bool
  | 0 => true
  | k + 1 => (n % (k + 2) != 0) && noDiv n k
theorem noDiv_spec (n : Nat) : ∀ k, noDiv n k = true → ∀ d, 2 ≤ d → d ≤ k + 1 → ¬ d ∣ n := by
  intro k
  induction k with
  | zero => intro _ d h1 h2; omega
  | succ k ih =>
    intro h d h1 h2 hd
    simp only [noDiv, Bool.and_eq_true, bne_iff_ne] at h
    by_cases he : d = k + 2
    · subst he; exact h.1 (Nat.mod_eq_zero_of_dvd hd)
    · exact ih h.2 d h1 (by omega) hd
theorem prime_small {n : Nat} (k : Nat) (hn : 2 ≤ n) (hk : n < (k + 2) * (k + 2)) (h : noDiv n k = true) : IsPrime n := by
  refine prime_of_no_small hn fun q hq hd => ?_
  refine Classical.byContradiction fun hle => ?_
  exact noDiv_spec n k h q hq (by
    refine Classical.byContradiction fun hgt => ?_
    have : (k + 2) * (k + 2) ≤ q * q := Nat.mul_le_mul (by omega) (by omega)
    omega) hd

theorem prime_a : IsPrime 221101 := prime_small 470 (by decide) (by decide) (by kernel_rfl)
theorem prime_b : IsPrime 37003 := prime_small 200 (by decide) (by decide) (by kernel_rfl)
theorem pmOne {p b e r : Nat} (f : Nat) (h1 : decide (e < 2 ^ f) = true) (h2 : (powmod p f b e == r) = true) : b ^ e % p = r := by
  rw [← powmod_eq p f b e (of_decide_eq_true h1)]
  exact beq_iff_eq.1 h2
theorem pmInv {p b e u : Nat} (f : Nat) (h1 : decide (e < 2 ^ f) = true) (h2 : ((powmod p f b e + (p - 1)) * u % p == 1) = true) : (b ^ e + (p - 1)) * u % p = 1 := by
  have h3 := beq_iff_eq.1 h2
  rw [powmod_eq p f b e (of_decide_eq_true h1)] at h3
  rw [Nat.mul_mod, Nat.mod_add_mod, ← Nat.mul_mod] at h3
  exact h3
theorem pock1' {p r m g u : Nat} (f : Nat) (hp : 2 ≤ p) (hr : IsPrime r) (hm : p - 1 = r * m) (hf : decide (p - 1 < 2 ^ f) = true) (hf' : decide (m < 2 ^ f) = true) (hg : (powmod p f g (p - 1) == 1) = true) (hu : ((powmod p f g m + (p - 1)) * u % p == 1) = true) (hbig : p < r * r) : IsPrime p :=
  pock1 hp hr hm (pmOne f hf hg) (pmInv f hf' hu) hbig
theorem pock2' {p r m u r' m' u' g : Nat} (f : Nat) (hp : 2 ≤ p) (hr : IsPrime r) (hm : p - 1 = r * m) (hr' : IsPrime r') (hm' : p - 1 = r' * m') (hne : r ≠ r') (hf : decide (p - 1 < 2 ^ f) = true) (hf1 : decide (m < 2 ^ f) = true) (hf2 : decide (m' < 2 ^ f) = true)
    (hg : (powmod p f g (p - 1) == 1) = true) (hu : ((powmod p f g m + (p - 1)) * u % p == 1) = true) (hu' : ((powmod p f g m' + (p - 1)) * u' % p == 1) = true) (hbig : p < (r * r') * (r * r')) : IsPrime p :=
  pock2 hp hr hm hr' hm' hne (pmOne f hf hg) (pmInv f hf1 hu) (pmInv f hf2 hu') hbig
/-- the prime 2^130 - 5 -/
def pp : Nat := 1361129467683753853853498429727072845819
theorem pp_eq : pp = 2 ^ 130 - 5 := by kernel_rfl
theorem prime_s : IsPrime 4024685905107147541 := pock2' 64 (r := 221101) (m := 18202929453540) (u := 1467464467400074184) (r' := 37003) (m' := 108766475829180) (u' := 1096848965921730071) (g := 2) (by decide) prime_a (by decide) prime_b (by decide) (by decide) (by kernel_rfl) (by kernel_rfl) (by kernel_rfl) (by kernel_rfl) (by kernel_rfl) (by kernel_rfl) (by decide)
theorem prime_r : IsPrime 897064739519922787230182993783 := pock1' 104 (r := 4024685905107147541) (m := 222890620702) (u := 779171088784275230984760184720) (g := 2) (by decide) prime_s (by decide) (by kernel_rfl) (by kernel_rfl) (by kernel_rfl) (by kernel_rfl) (by decide)
theorem prime_d : IsPrime 1361129467683753853853498429727072845819 := pock1' 132 (r := 897064739519922787230182993783) (m := 1517314646) (u := 15340630709746432533628977078564628162) (g := 2) (by decide) prime_r (by decide) (by kernel_rfl) (by kernel_rfl) (by kernel_rfl) (by kernel_rfl) (by decide)
theorem pp_prime : IsPrime pp := prime_d
/-- A factor that is not 0 can be told away. -/
theorem pp_cancel {a b c : Nat} (hc : c % pp ≠ 0) (h : a * c % pp = b * c % pp) : a % pp = b % pp := by
  have hcop : Nat.Coprime pp c := by
    rcases pp_prime.2 (Nat.gcd pp c) (Nat.gcd_dvd_left _ _) with h1 | h1
    · exact h1
    · exfalso
      apply hc
      exact Nat.mod_eq_zero_of_dvd (by rw [← h1]; exact Nat.gcd_dvd_right _ _)
  have key : ∀ a b, a ≤ b → a * c % pp = b * c % pp → a % pp = b % pp := by
    intro a b hab h
    have h1 : pp ∣ (b - a) * c := by
      rw [Nat.sub_mul]
      exact Nat.dvd_of_mod_eq_zero (Nat.sub_mod_eq_zero_of_mod_eq h.symm)
    have h2 : pp ∣ b - a := hcop.dvd_of_dvd_mul_right h1
    obtain ⟨k, hk⟩ := h2
    have h3 : b = a + pp * k := by omega
    rw [h3, Nat.add_mul_mod_self_left]
  rcases Nat.le_total a b with hab | hab
  · exact key a b hab h
  · exact (key b a hab h.symm).symm
end Go.Proofs.YtaiffkajkbiidaaGreatDoor
/- Small laws over the model's memory that all texts of this claim use: rows of whole numbers as array values, blocks known whole, one rule for a statement whose order Go leaves open. No condition. -/
namespace Go.Proofs.YtaiffkajkbiidaaGreatDoor
set_option linter.unusedSimpArgs false
set_option linter.unusedVariables false
set_option linter.unusedSectionVars false
set_option linter.unusedVariables false
open Go.RowKit

/-! ### rows of numbers -/
def ints (k : IntKind) (xs : List Nat) : Array Value := (xs.map fun n : Nat => Value.int k n).toArray
def AG (k : IntKind) (xs : List Nat) : Value := .agg (ints k xs)
theorem AG_def (k : IntKind) (xs : List Nat) : AG k xs = .agg (ints k xs) := rfl
theorem ints_get (k : IntKind) (xs : List Nat) (i : Nat) : (ints k xs)[i]? = (xs[i]?).map fun n : Nat => Value.int k n := by simp [ints]
theorem ints_set (k : IntKind) (xs : List Nat) (i n : Nat) : (ints k xs).setIfInBounds i (.int k n) = ints k (xs.set i n) := by simp [ints, List.map_set]
theorem ints_size (k : IntKind) (xs : List Nat) : (ints k xs).size = xs.length := by simp [ints]
theorem ints_one (k : IntKind) (xs : List Nat) : (ints k xs).all (·.oneCell') = true := by simp [ints, Value.oneCell']
theorem ints_append (k : IntKind) (xs ys : List Nat) : ints k xs ++ ints k ys = ints k (xs ++ ys) := by simp [ints]
theorem ints_replicate (k : IntKind) (n x : Nat) : ints k (List.replicate n x) = Array.replicate n (.int k x) := by
  apply Array.ext'; simp [ints]
theorem ints_inj {k : IntKind} {xs ys : List Nat} (h : ints k xs = ints k ys) : xs = ys := by
  have h' : (ints k xs).toList = (ints k ys).toList := by rw [h]
  simp only [ints] at h'
  refine (List.map_inj_right ?_).1 h'
  intro a b hab
  injection hab with _ hab
  exact Int.ofNat_inj.1 hab
theorem getD_lt {xs : List Nat} {i : Nat} (h : i < xs.length) : xs[i]? = some (xs.getD i 0) := by
  rw [List.getD_eq_getElem?_getD, List.getElem?_eq_getElem h]; rfl
theorem getD_mem {xs : List Nat} {i : Nat} (h : i < xs.length) : xs.getD i 0 ∈ xs := by
  rw [List.getD_eq_getElem?_getD, List.getElem?_eq_getElem h]; exact List.getElem_mem h
theorem getD_bound {xs : List Nat} {B : Nat} (hb : ∀ x ∈ xs, x < B) (hB : 0 < B) (i : Nat) : xs.getD i 0 < B := by
  by_cases h : i < xs.length
  · exact hb _ (getD_mem h)
  · rw [List.getD_eq_getElem?_getD, List.getElem?_eq_none (by omega)]; exact hB

/-! ### blocks -/
/-- Block g is just these cells, none frozen. -/
def Blk (w : World) (g : Nat) (t : TypeId) (cs : Array Value) : Prop := w.heap[g]? = some (.cells cs t (0, 0))
section
variable {w w' : World} {g : Nat} {t : TypeId} {cs : Array Value}
theorem Blk.lt (h : Blk w g t cs) : g < w.heap.size := by
  rcases Nat.lt_or_ge g w.heap.size with hlt | hge
  · exact hlt
  · unfold Blk at h; rw [Array.getElem?_eq_none hge] at h; cases h
theorem Blk.cell (h : Blk w g t cs) (i : Nat) : w.cell? ⟨g, i, none⟩ = cs[i]? := cell_of_row w g i cs t (0, 0) h
theorem Blk.frozen (h : Blk w g t cs) (i : Nat) : w.frozen? ⟨g, i, none⟩ = false := by
  unfold Blk at h
  simp [World.frozen?, h]
theorem Blk.new (w : World) (t : TypeId) (cs : Array Value) : Blk (w.alloc (.cells cs t)) w.heap.size t cs := heap_alloc_new w _
theorem Blk.new' {n : Nat} (h : n = w.heap.size) : Blk (w.alloc (.cells cs t)) n t cs := by subst h; exact heap_alloc_new w _
theorem Blk.drew (h : Blk w g t cs) : Blk w.drew g t cs := h
theorem Blk.drewN (h : Blk w g t cs) (n : Nat) : Blk (w.drewN n) g t cs := h
theorem Blk.alloc (h : Blk w g t cs) (o : Obj) : Blk (w.alloc o) g t cs := (Below.heap_alloc w o g h.lt).trans h
theorem Blk.set_ (h : Blk w g t cs) (i : Nat) (u : Value) : Blk (w.setCell ⟨g, i, none⟩ u) g t (cs.setIfInBounds i u) := heap_setCell_same _ _ _ _ _ _ h
theorem Blk.far (h : Blk w g t cs) {p : Addr} (hp : g ≠ p.block) (u : Value) : Blk (w.setCell p u) g t cs := (Below.heap_setCell w p u g hp).trans h
theorem Blk.below {B : Nat} (h : Blk w g t cs) (hb : Below B w w') (hg : g < B) : Blk w' g t cs := (hb.block g hg).trans h
theorem Blk.below' (h : Blk w g t cs) (hb : Below w.heap.size w w') : Blk w' g t cs := (hb.block g h.lt).trans h
theorem Blk.row (h : Blk w g t cs) (cs' : Array Value) : Blk (w.setRow g cs') g t cs' := setRow_heap _ _ _ _ _ _ h
theorem Blk.rowFar (h : Blk w g t cs) {k : Nat} (hk : g ≠ k) (cs' : Array Value) : Blk (w.setRow k cs') g t cs := (setRow_other _ _ _ _ hk).trans h
theorem Blk.grown {row : Option Nat} (h : Blk w g t cs) (hb : w.grownBy w' row) (hg : some g ≠ row) : Blk w' g t cs := (hb.block g h.lt hg).trans h
theorem Blk.ne_ {g' : Nat} {t' : TypeId} {cs' : Array Value} (h : Blk w g t cs) (h' : Blk w g' t' cs') (hne : t ≠ t') : g ≠ g' := by
  rintro rfl
  unfold Blk at h h'
  rw [h] at h'
  injection h' with h'
  injection h' with _ ht
  exact hne ht
/-- A cell of a row of numbers, in the walk's own form. -/
theorem Blk.int {k : IntKind} {xs : List Nat} (h : Blk w g t (ints k xs)) {i : Nat} (hi : i < xs.length) : w.cell? ⟨g, i, none⟩ = some (.int k ((xs.getD i 0 : Nat) : Int)) := by
  rw [h.cell, ints_get, getD_lt hi]; rfl
theorem Blk.intSet {k : IntKind} {xs : List Nat} (h : Blk w g t (ints k xs)) (i n : Nat) : Blk (w.setCell ⟨g, i, none⟩ (.int k n)) g t (ints k (xs.set i n)) := by
  have := h.set_ i (.int k n)
  rwa [ints_set] at this
end
/-- The numbers of a block of numbers (for a measure). -/
def rowNat (w : World) (g : Nat) : List Nat := match w.heap[g]? with | some (.cells cs _ _) => cs.toList.map fun v => (intOf v).toNat | _ => []
theorem rowNat_ints {w : World} {g : Nat} {t : TypeId} {k : IntKind} {xs : List Nat} (h : Blk w g t (ints k xs)) : rowNat w g = xs := by
  unfold Blk at h
  simp [rowNat, h, ints, Function.comp_def, intOf]
/-- The elements of a slice value with this address, of kind k, are these numbers. -/
def Sl (w : World) (a : Option Addr) (k : IntKind) (xs : List Nat) : Prop :=
  xs ≠ [] → ∃ g off, a = some ⟨g, off, none⟩ ∧ g < w.heap.size ∧ ∀ i, i < xs.length → w.cell? ⟨g, off + i, none⟩ = some (.int k ((xs.getD i 0 : Nat) : Int))
theorem Sl.below {w w' : World} {a : Option Addr} {k : IntKind} {xs : List Nat} (h : Sl w a k xs) (hb : Below w.heap.size w w') : Sl w' a k xs := fun hn => by
  obtain ⟨g, off, h1, h2, h3⟩ := h hn
  exact ⟨g, off, h1, Nat.lt_of_lt_of_le h2 hb.size, fun i hi => (hb.cell h2).trans (h3 i hi)⟩
theorem Sl.at_ {w : World} {a : Option Addr} {k : IntKind} {xs : List Nat} (h : Sl w a k xs) {i : Nat} (hi : i < xs.length) : ∃ g off, a = some ⟨g, off, none⟩ ∧ g < w.heap.size ∧ w.cell? ⟨g, off + i, none⟩ = some (.int k ((xs.getD i 0 : Nat) : Int)) := by
  obtain ⟨g, off, h1, h2, h3⟩ := h (by rintro rfl; simp at hi)
  exact ⟨g, off, h1, h2, h3 i hi⟩
theorem Sl.nil (w : World) (a : Option Addr) (k : IntKind) : Sl w a k [] := fun h => absurd rfl h
/-- A row of one's own, from its head. -/
theorem Sl.blk {w : World} {g : Nat} {t : TypeId} {k : IntKind} {xs : List Nat} (h : Blk w g t (ints k xs)) : Sl w (some ⟨g, 0, none⟩) k xs := fun _ =>
  ⟨g, 0, rfl, h.lt, fun i hi => by rw [Nat.zero_add]; exact h.int hi⟩
theorem Sl.sub {w : World} {g : Nat} {t : TypeId} {k : IntKind} {xs : List Nat} (h : Blk w g t (ints k xs)) (o n : Nat) (hn : o + n ≤ xs.length) : Sl w (some ⟨g, o, none⟩) k ((xs.drop o).take n) := fun _ =>
  ⟨g, o, rfl, h.lt, fun i hi => by
    rw [List.length_take, List.length_drop] at hi
    rw [h.int (i := o + i) (by omega)]
    congr 3
    rw [List.getD_eq_getElem?_getD, List.getD_eq_getElem?_getD, List.getElem?_take, if_pos (by omega), List.getElem?_drop]⟩
theorem bSetRow {B g : Nat} {w0 w : World} (hb : Below B w0 w) (hBg : B ≤ g) (cs : Array Value) : Below B w0 (w.setRow g cs) := below_setRow hb hBg cs
theorem bDrewN {B : Nat} {a w : World} (h : Below B a w) (n : Nat) : Below B a (w.drewN n) := ⟨h.os, h.tape, h.output, h.size, h.block⟩
theorem bCall {B : Nat} {a w w' : World} (h : Below B a w) (h' : Below w.heap.size w w') (hB : B ≤ w.heap.size) : Below B a w' := h.trans (h'.mono hB)

section
variable {P : Program} {n : Nat}
theorem wpList_store_row {ops : Array Oper} {rest : List Oper} {o : Oper} {a : Act} {w : World} {Q : Exit → Act → World → Prop} (hgd : o.guard = none) (ty : TypeId) (x y : Operand) (ho : o.op = .store ty x y)
    (g : Nat) (cells : Array Value) (hx : a.eval x = .pointer (some ⟨g, 0, none⟩)) (hy : a.eval y = .agg cells)
    (t : TypeId) (old : Array Value) (hg : w.heap[g]? = some (.cells old t (0, 0))) (hi : (P.info? ty).map (·.size) = some cells.size)
    (hold : old.size = cells.size) (h1 : cells.all (·.oneCell') = true)
    (h : wpList P ops Q rest (a.put o.dst undef) (w.setRow g cells)) : wpList P ops Q (o :: rest) a w :=
  wpList_plain hgd fun _ hK => wp_store_row ty x y ho g cells hx hy t old hg hi hold h1 (hK _ _ h)

/-- Type T is an array of n cells of one cell each. -/
def IsArr (P : Program) (T n : Nat) : Prop := (∃ d, P.underlying T = some d ∧ (match d with | .struct _ | .array _ _ => true | _ => false) = true) ∧ (P.info? T).map (·.size) = some n
theorem isArr {T n e : Nat} (h1 : P.underlying T = some (.array n e)) (h2 : (P.info? T).map (·.size) = some n) : IsArr P T n := ⟨⟨_, h1, rfl⟩, h2⟩
/-- A struct of n cells of one cell each. -/
theorem isStr {T n : Nat} {fs} (h1 : P.underlying T = some (.struct fs)) (h2 : (P.info? T).map (·.size) = some n) : IsArr P T n := ⟨⟨_, h1, rfl⟩, h2⟩
theorem wpList_load_ints {ops : Array Oper} {rest : List Oper} {o : Oper} {a : Act} {w : World} {Q : Exit → Act → World → Prop} (hgd : o.guard = none) (T : TypeId) (x : Operand) (ho : o.op = .load T x)
    (g : Nat) (hx : a.eval x = .pointer (some ⟨g, 0, none⟩)) {n t : Nat} {k : IntKind} {xs : List Nat} (hb : Blk w g t (ints k xs)) (ha : IsArr P T n) (hl : xs.length = n)
    (h : wpList P ops Q rest (a.put o.dst (.agg (ints k xs))) w) : wpList P ops Q (o :: rest) a w := by
  obtain ⟨⟨d, h1, hd⟩, h2⟩ := ha
  exact wpList_load_row hgd T x ho g hx t _ _ _ hb h1 (by cases d <;> first | rfl | cases hd) (by rw [ints_size, hl]; exact h2) h
theorem wpList_store_ints {ops : Array Oper} {rest : List Oper} {o : Oper} {a : Act} {w : World} {Q : Exit → Act → World → Prop} (hgd : o.guard = none) (T : TypeId) (x y : Operand) (ho : o.op = .store T x y)
    (g : Nat) {k : IntKind} {xs : List Nat} (hx : a.eval x = .pointer (some ⟨g, 0, none⟩)) (hy : a.eval y = .agg (ints k xs)) {n t : Nat} {old : Array Value} (hb : Blk w g t old) (hold : old.size = n) (ha : IsArr P T n) (hl : xs.length = n)
    (h : wpList P ops Q rest (a.put o.dst undef) (w.setRow g (ints k xs))) : wpList P ops Q (o :: rest) a w :=
  wpList_store_row hgd T x y ho g _ hx hy t old hb (by rw [ints_size, hl]; exact ha.2) (by rw [ints_size, hold, hl]) (ints_one _ _) h
/-- A part of a row, from an offset on. -/
theorem wpList_load_sub {ops : Array Oper} {rest : List Oper} {o : Oper} {a : Act} {w : World} {Q : Exit → Act → World → Prop} (hgd : o.guard = none) (T : TypeId) (x : Operand) (ho : o.op = .load T x)
    (g off : Nat) (hx : a.eval x = .pointer (some ⟨g, off, none⟩)) {n t : Nat} {k : IntKind} {xs : List Nat} (hb : Blk w g t (ints k xs)) (ha : IsArr P T n) (hl : off + n ≤ xs.length)
    (h : wpList P ops Q rest (a.put o.dst (.agg (ints k ((xs.drop off).take n)))) w) : wpList P ops Q (o :: rest) a w := by
  obtain ⟨⟨d, h1, hd⟩, h2⟩ := ha
  refine wpList_load_mid hgd T x ho g off hx (((xs.drop off).take n).map fun n : Nat => Value.int k n) _ ?_ h1 hd (by rw [h2]; simp; omega) h
  intro j v hv
  rw [hb.cell, ints_get]
  rw [List.getElem?_map] at hv
  by_cases hj : j < n
  · rw [List.getElem?_take, if_pos hj, List.getElem?_drop] at hv; exact hv
  · rw [List.getElem?_take, if_neg hj] at hv; cases hv

/-- As many noughts. -/
def zeros (n : Nat) : List Nat := List.replicate n 0
theorem zeros_len (n : Nat) : (zeros n).length = n := by simp [zeros]
theorem zeros_lt (n : Nat) {B : Nat} (hB : 0 < B) : ∀ x ∈ zeros n, x < B := by
  intro x hx
  rw [(List.mem_replicate.1 hx).2]; exact hB
theorem zeros_size (k : IntKind) (n : Nat) : (ints k (zeros n)).size = n := by rw [ints_size, zeros_len]
theorem take_set {n k v : Nat} {xs : List Nat} (hl : xs.length = n) (hk : k < n) (hv : xs.getD k 0 = v) : (xs.take k ++ zeros (n - k)).set k v = xs.take (k + 1) ++ zeros (n - (k + 1)) := by
  unfold zeros
  have e1 : n - k = (n - (k+1)) + 1 := by omega
  rw [List.set_append_right _ _ (by simp; omega), List.length_take, Nat.min_eq_left (by omega), Nat.sub_self, e1, List.replicate_succ, List.set_cons_zero, List.take_add_one, getD_lt (by omega), hv]
  simp
/-- Type T's zero value is n noughts of kind k. -/
def IsZero (P : Program) (T n : Nat) (k : IntKind) : Prop := (P.info? T).bind (·.zero) = some (.agg (ints k (zeros n)))
theorem isZero {T n : Nat} {k : IntKind} (h : (P.info? T).bind (·.zero) = some (.agg (ints k (zeros n)))) : IsZero P T n k := h
theorem run_alloc_ints {T n : Nat} {k : IntKind} (hz : IsZero P T n k) (w : World) : (Instr.alloc T true (.tuple #[])).run P w = .ok (.pointer (some ⟨w.heap.size, 0, none⟩)) (w.alloc (.cells (ints k (zeros n)) T)) := by
  unfold IsZero at hz
  rw [Option.bind_eq_some_iff] at hz
  obtain ⟨i, h1, h2⟩ := hz
  simp [Instr.alloc, zeroValue, typeInfo, h1, h2, newVar, newRow, newObj, Value.cells, Sem.run_bind]
  rfl
theorem wpList_alloc_ints {ops : Array Oper} {rest : List Oper} {o : Oper} {a : Act} {w : World} {Q : Exit → Act → World → Prop} (hgd : o.guard = none) (T : TypeId) (ho : o.op = .alloc T) {n : Nat} {k : IntKind} (hz : IsZero P T n k)
    (h : wpList P ops Q rest (a.put o.dst (.pointer (some ⟨w.heap.size, 0, none⟩))) (w.alloc (.cells (ints k (zeros n)) T))) : wpList P ops Q (o :: rest) a w :=
  wpList_plain hgd fun _ hK => by
    unfold Oper.wp execOp
    simp only [ho, Sem.run_bind, run_alloc_ints hz, Result.andThen_ok, Sem.run_pure]
    exact hK _ _ h
/-- A block from B on that was made behind the block B. -/
theorem heap2 (w : World) (A B : Obj) : ((w.alloc A).alloc B).heap.size = w.heap.size + 2 := by simp

/-- The end of a function whose one result is an array in a cell of its own. -/
theorem ret_ints {fn : Func} {p T : Nat} (h : fn.results = #[.cell p T]) {R : Ending → World → Prop} {tmps : Array Value} {w : World} {g n t : Nat} {k : IntKind} {xs : List Nat} (hp : tmps.getD p undef = .pointer (some ⟨g, 0, none⟩))
    (hb : Blk w g t (ints k xs)) (ha : IsArr P T n) (hl : xs.length = n) (hR : R (.returned (.agg (ints k xs))) w) : bodyPost P fn R .ret { tmps := tmps, defers := [] } w := by
  obtain ⟨⟨d, h1, hd⟩, h2⟩ := ha
  exact bodyPost_ret (results_cell_row h tmps w g t _ _ _ hp hb h1 (by cases d <;> first | rfl | cases hd) (by rw [ints_size, hl]; exact h2)) rfl hR

/-- .. whose first result is an array in a cell of its own, and whose second one stands in a slot. -/
theorem ret_ints_tmp {fn : Func} {p q T : Nat} (h : fn.results = #[.cell p T, .tmp q]) {R : Ending → World → Prop} {tmps : Array Value} {w : World} {g n t : Nat} {k : IntKind} {xs : List Nat} {v : Value} (hp : tmps.getD p undef = .pointer (some ⟨g, 0, none⟩)) (hq : tmps.getD q undef = v)
    (hb : Blk w g t (ints k xs)) (ha : IsArr P T n) (hl : xs.length = n) (hR : R (.returned (.tuple #[.agg (ints k xs), v])) w) : bodyPost P fn R .ret { tmps := tmps, defers := [] } w := by
  obtain ⟨⟨d, h1, hd⟩, h2⟩ := ha
  refine bodyPost_ret ?_ rfl hR
  have hp' : tmps[p]?.getD undef = .pointer (some ⟨g, 0, none⟩) := by simpa using hp
  have hq' : tmps[q]?.getD undef = v := by simpa using hq
  simp [results, h, hp', hq', asAddr, run_loadVar_row w g t T _ _ _ hb h1 (by cases d <;> first | rfl | cases hd) (by rw [ints_size, hl]; exact h2)]
/-! ### a statement whose order is open: an invariant over the set of what has come up -/
theorem ready_nil_all {md : Region.Mode} {ops : Array Oper} {listed : Array Bool} (hok : (ops.toList.zipIdx.all fun (o, i) => o.after.all fun e => decide (e.on < i)) = true)
    (hs : listed.size = ops.size) (h : Region.ready md ops listed = []) : ∀ j, j < ops.size → listed.getD j false = true := by
  intro j
  induction j using Nat.strongRecOn with
  | ind j ih =>
    intro hj
    refine Classical.byContradiction fun hn => ?_
    have hmem : j ∈ Region.ready md ops listed := by
      rw [mem_ready]
      refine ⟨?_, ops[j], by simp [hj], fun e he _ => ?_⟩
      · rw [Array.getD_eq_getD_getElem?, Array.getElem?_eq_getElem (by omega)] at hn ⊢
        simpa using hn
      · rw [List.all_eq_true] at hok
        have := hok (ops[j], j) (by rw [List.mem_zipIdx_iff_getElem?]; simp [hj])
        simp only [Array.all_eq_true_iff_forall_mem, decide_eq_true_eq] at this
        have hlt := this e he
        exact ih _ hlt (by omega)
    rw [h] at hmem
    cases hmem

theorem wp_region_inv {ops : Array Oper} {Q : Exit → Act → World → Prop} {rid : Nat} {a : Act} {w : World} (hm : P.follows .mixedOrders = true)
    (hok : (ops.toList.zipIdx.all fun (o, i) => o.after.all fun e => decide (e.on < i)) = true)
    (I : (Nat → Prop) → Act → World → Prop)
    (h0 : I (fun _ => False) a w.drew)
    (hstep : ∀ (i : Nat) (o : Oper), ops[i]? = some o → ∀ (D : Nat → Prop) (a : Act) (w : World), I D a w → ¬ D i → (∀ e ∈ o.after, Region.binds .any e = true → D e.on) →
      wpOp P ops Q i (fun a' w' => I (fun j => j = i ∨ D j) a' w') a w)
    (hend : ∀ (D : Nat → Prop) (a : Act) (w : World), I D a w → (∀ j, j < ops.size → D j) → Q .normal a w) :
    (Code.region rid ops true).wp P Q a w := by
  refine wp_region_any hm ?_
  have key : ∀ (fuel : Nat) (listed : Array Bool) (D : Nat → Prop) (a : Act) (w : World), listed.size = ops.size → (∀ j, D j ↔ listed.getD j false = true) → I D a w →
      (fuel + (listed.toList.filter _root_.id).length = ops.size) → wpAny P .any ops Q fuel listed a w := by
    intro fuel
    induction fuel with
    | zero =>
      intro listed D a w hs hD hI hf
      have hall : ∀ j, j < ops.size → listed.getD j false = true := by
        intro j hj
        have hl : (listed.toList.filter _root_.id).length = listed.toList.length := by simp at hf ⊢; omega
        have := List.length_filter_eq_length_iff.1 hl (listed[j]'(by omega)) (by simp)
        rw [Array.getD_eq_getD_getElem?, Array.getElem?_eq_getElem (by omega)]
        simpa using this
      refine ⟨?_, hend D a w hI fun j hj => (hD j).2 (hall j hj)⟩
      cases hr : Region.ready .any ops listed with
      | nil => rfl
      | cons i is =>
        have hi : i ∈ Region.ready .any ops listed := by rw [hr]; simp
        obtain ⟨h1, o, ho, -⟩ := mem_ready.1 hi
        have hlt : i < ops.size := (Array.getElem?_eq_some_iff.1 ho).1
        have := hall i hlt
        rw [Array.getD_eq_getD_getElem?, Array.getElem?_eq_getElem (by omega)] at this h1
        simp at this h1
        rw [this] at h1; cases h1
    | succ fuel ih =>
      intro listed D a w hs hD hI hf
      refine ⟨fun hr => hend D a w hI fun j hj => (hD j).2 (ready_nil_all hok hs hr j hj), fun i hi => ?_⟩
      obtain ⟨h1, o, ho, hall⟩ := mem_ready.1 hi
      have hlt : i < ops.size := (Array.getElem?_eq_some_iff.1 ho).1
      have hlf : listed[i]'(by omega) = false := by
        rw [Array.getD_eq_getD_getElem?, Array.getElem?_eq_getElem (by omega)] at h1
        simpa using h1
      refine wpOp_mono (fun a' w' hI' => ih (listed.setIfInBounds i true) (fun j => j = i ∨ D j) a' w' (by simpa using hs) ?_ hI' ?_)
        (hstep i o ho D a w hI (fun hDi => ?_) fun e he hb => (hD _).2 (hall e he hb))
      · intro j
        by_cases hj : i = j
        · subst hj
          simp [Array.getD_eq_getD_getElem?, hs, hlt]
        · rw [getD_set_ne false hj, ← hD]
          constructor
          · rintro (h | h)
            · exact absurd h.symm hj
            · exact h
          · exact Or.inr
      · have hcount : ((listed.setIfInBounds i true).toList.filter _root_.id).length = (listed.toList.filter _root_.id).length + 1 := by
          rw [Array.toList_setIfInBounds]
          have hi' : i < listed.toList.length := by simpa [hs] using hlt
          have e1 : listed.toList = listed.toList.take i ++ listed.toList[i] :: listed.toList.drop (i + 1) := by
            rw [List.getElem_cons_drop, List.take_append_drop]
          rw [List.set_eq_take_append_cons_drop, if_pos hi']
          conv => rhs; rw [e1]
          have hz : listed.toList[i] = false := by simpa using hlf
          simp only [List.filter_append, List.length_append, List.filter_cons, hz, _root_.id, if_true, Bool.false_eq_true, if_false, List.length_cons]
          omega
        have hcount' : ((listed.setIfInBounds i true).toList.filter _root_.id).length = (listed.toList.filter _root_.id).length + 1 := hcount
        omega
      · have := (hD i).1 hDi
        rw [Array.getD_eq_getD_getElem?, Array.getElem?_eq_getElem (by omega)] at this
        simp [hlf] at this
  refine key ops.size _ (fun _ => False) a _ (by simp) (fun j => ?_) h0 ?_
  · constructor
    · exact False.elim
    · intro h
      rw [Array.getD_eq_getD_getElem?] at h
      by_cases hj : j < ops.size
      · simp [hj] at h
      · simp [hj] at h
  · simp

/-! ### a scope whose label is jumped back to: the pass from the label on is walked once -/
theorem Exit.jump_mono {l : Nat} {J J' : Act → World → Prop} {Q : Exit → Act → World → Prop} (h : ∀ a w, J a w → J' a w) : ∀ e a w, Exit.jump l J Q e a w → Exit.jump l J' Q e a w := fun e a w q => by
  cases e with
  | goto l' => exact ⟨q.1, h _ _ q.2⟩
  | _ => exact q
theorem wp_scope_back {c rest : Code} {Q : Exit → Act → World → Prop} {a : Act} {w : World} (l : Nat) (J : Act → World → Prop) (μ : Act → World → Nat) (hf : findLabel c l = some rest)
    (pass : ∀ a w, J a w → rest.wp P (Exit.jump l (fun a' w' => J a' w' ∧ μ a' w' < μ a w) Q) a w)
    (first : (∀ a w, J a w → rest.wp P (Exit.jump l J Q) a w) → c.wp P (Exit.jump l J Q) a w) : (Code.scope c).wp P Q a w :=
  wp_scope_jumps l J μ hf (first fun a w h => Code.wp_mono (Exit.jump_mono fun _ _ hh => hh.1) (pass a w h)) pass
/-- The label stands first. -/
theorem wp_scope_top {c : Code} {Q : Exit → Act → World → Prop} {a : Act} {w : World} (l : Nat) (J : Act → World → Prop) (μ : Act → World → Nat) (h0 : J a w)
    (pass : ∀ a w, J a w → c.wp P (Exit.jump l (fun a' w' => J a' w' ∧ μ a' w' < μ a w) Q) a w) : (Code.scope (.seq (.label l) c)).wp P Q a w :=
  wp_scope_back l J μ (rest := .seq .skip c) (by simp [findLabel]) (fun a w h => wp_seq_k fun _ hK => wp_skip (hK _ _ (pass a w h)))
    (fun h => wp_seq_k fun _ hK => wp_label (hK _ _ (Code.wp_mono (Exit.jump_mono fun _ _ hh => hh.1) (pass a w h0))))

/-- The label stands ahead of the rest. -/
theorem wp_scope_mid {c c' : Code} {Q : Exit → Act → World → Prop} {a : Act} {w : World} (l : Nat) (J : Act → World → Prop) (μ : Act → World → Nat) (hf : findLabel c l = some (.seq .skip c'))
    (pass : ∀ a w, J a w → c'.wp P (Exit.jump l (fun a' w' => J a' w' ∧ μ a' w' < μ a w) Q) a w)
    (first : (∀ a w, J a w → c'.wp P (Exit.jump l J Q) a w) → c.wp P (Exit.jump l J Q) a w) : (Code.scope c).wp P Q a w :=
  wp_scope_jumps l J μ hf (first fun a w h => Code.wp_mono (Exit.jump_mono fun _ _ hh => hh.1) (pass a w h)) (fun a w h => wp_seq_k fun _ hK => wp_skip (hK _ _ (pass a w h)))
/-! ### whole arrays held against each other -/
theorem run_eqItems_ints (w : World) (d : Nat) {e : TypeId} {k : IntKind} (he : P.underlying e = some (.int k)) (hc : P.cellsOf e = 1) (xs ys : List Nat) : ∀ is : List Nat, (∀ i ∈ is, i < xs.length ∧ i < ys.length) →
    (Op.eqItems (d + 1) e (P.cellsOf e) (ints k xs) (ints k ys) is).run P w = .ok (is.all fun i => xs.getD i 0 == ys.getD i 0) w
  | [], _ => by simp [Op.eqItems]
  | i :: is, h => by
    obtain ⟨h1, h2⟩ := h i (by simp)
    have px : (part e (ints k xs) (i * P.cellsOf e)).run P w = .ok (.int k ((xs.getD i 0 : Nat) : Int)) w := by
      have gx : (ints k xs)[i]? = some (.int k ((xs.getD i 0 : Nat) : Int)) := by rw [ints_get, getD_lt h1]; rfl
      simp [part, isAgg, run_underlying he, hc, gx]
    have py : (part e (ints k ys) (i * P.cellsOf e)).run P w = .ok (.int k ((ys.getD i 0 : Nat) : Int)) w := by
      have gx : (ints k ys)[i]? = some (.int k ((ys.getD i 0 : Nat) : Int)) := by rw [ints_get, getD_lt h2]; rfl
      simp [part, isAgg, run_underlying he, hc, gx]
    have pe := run_equalIn_int (P := P) w d e k k ((xs.getD i 0 : Nat) : Int) ((ys.getD i 0 : Nat) : Int) he
    have ih := run_eqItems_ints w d he hc xs ys is fun j hj => h j (by simp [hj])
    have hb : (((xs.getD i 0 : Nat) : Int) == ((ys.getD i 0 : Nat) : Int)) = (xs.getD i 0 == ys.getD i 0) := by
      rw [Bool.eq_iff_iff]; simp only [beq_iff_eq]; omega
    simp only [Op.eqItems, Sem.run_bind, px, py, pe, hb, Result.andThen_ok, List.all_cons]
    cases xs.getD i 0 == ys.getD i 0
    · simp
    · simpa using ih
theorem all_getD_eq {xs ys : List Nat} (hl : xs.length = ys.length) : ((List.range xs.length).all fun i => xs.getD i 0 == ys.getD i 0) = (xs == ys) := by
  rw [Bool.eq_iff_iff]
  simp only [List.all_eq_true, List.mem_range, beq_iff_eq]
  constructor
  · intro h
    apply List.ext_getElem? fun i => ?_
    by_cases hi : i < xs.length
    · rw [getD_lt hi, getD_lt (hl ▸ hi), h i hi]
    · rw [List.getElem?_eq_none (by omega), List.getElem?_eq_none (by omega)]
  · rintro rfl _ _; rfl
theorem run_eql_ints {t e : TypeId} {k : IntKind} (ht : P.underlying t = some (.array n e)) (he : P.underlying e = some (.int k)) (hi : (P.info? e).isSome = true) (hc : P.cellsOf e = 1) (xs ys : List Nat) (hx : xs.length = n) (hy : ys.length = n) (w : World) :
    (binOp .eql t (.agg (ints k xs)) (.agg (ints k ys))).run P w = .ok (.bool (xs == ys)) w := by
  obtain ⟨i, hi⟩ := Option.isSome_iff_exists.1 hi
  have h := run_equalIn_array (P := P) (w := w) 9999 (ints k xs) (ints k ys) ht hi
  rw [run_eqItems_ints w 9998 he hc xs ys (List.range n) (fun j hj => by rw [List.mem_range] at hj; omega)] at h
  have h2 := all_getD_eq (hx.trans hy.symm)
  rw [hx] at h2
  rw [h2] at h
  simp only [binOp]
  simp only [Op.equal, Op.maxDepth, Sem.run_bind, h, Result.andThen_ok, Sem.run_pure]
theorem run_neq_ints {t e : TypeId} {k : IntKind} (ht : P.underlying t = some (.array n e)) (he : P.underlying e = some (.int k)) (hi : (P.info? e).isSome = true) (hc : P.cellsOf e = 1) (xs ys : List Nat) (hx : xs.length = n) (hy : ys.length = n) (w : World) :
    (binOp .neq t (.agg (ints k xs)) (.agg (ints k ys))).run P w = .ok (.bool (!(xs == ys))) w := by
  obtain ⟨i, hi⟩ := Option.isSome_iff_exists.1 hi
  have h := run_equalIn_array (P := P) (w := w) 9999 (ints k xs) (ints k ys) ht hi
  rw [run_eqItems_ints w 9998 he hc xs ys (List.range n) (fun j hj => by rw [List.mem_range] at hj; omega)] at h
  have h2 := all_getD_eq (hx.trans hy.symm)
  rw [hx] at h2
  rw [h2] at h
  simp only [binOp]
  simp only [Op.equal, Op.maxDepth, Sem.run_bind, h, Result.andThen_ok, Sem.run_pure]

/-- A number of an array value. -/
theorem run_index_ints {t e n : Nat} {k : IntKind} (ht : P.underlying t = some (.array n e)) (he : P.underlying e = some (.int k)) (hc : (P.info? e).map (·.size) = some 1) {xs : List Nat} (hl : xs.length = n) {i : Nat} (hi : i < n) (w : World) :
    (Instr.index t (.agg (ints k xs)) (.int .i64 i)).run P w = .ok (.int k ((xs.getD i 0 : Nat) : Int)) w := by
  have gx : (ints k xs)[i]? = some (.int k ((xs.getD i 0 : Nat) : Int)) := by rw [ints_get, getD_lt (by omega)]; rfl
  obtain ⟨d, hd, hd1⟩ := Option.map_eq_some_iff.1 hc
  simp [Instr.index, asIntOf, sizeOf, typeInfo, hd, hd1, Sem.run_bind, run_underlying ht, run_underlying he, part, isAgg, gx, hi]
/-! ### a statement whose order is open and whose calls make memory but change none: one walk in the order of the text -/
theorem enters {f : FuncId} {fn : Func} (hf : P.funcs[f]? = some fn) (hn : (fn.name == "runtime.NumGoroutine") = false) (hb : fn.body.isNone = false) (args : Array Value) (w : World) :
    (callFunc f args).run P w = .ok (.enter f args) w := by
  simp only [callFunc, Sem.run_bind, run_program, Result.andThen_ok, hf]
  rw [if_neg (by rw [hn]; exact Bool.false_ne_true), if_neg (by rw [hb]; exact Bool.false_ne_true)]
  simp
theorem wp_region_below {l : List Oper} {Q : Exit → Act → World → Prop} {rid : Nat} {a : Act} {w : World} (hm : P.follows .mixedOrders = true) (hB : Region.lexB .any l.toArray = true)
    (h : wpQuiet P l.toArray (Below w.heap.size w) (fun a' => ∀ w', Below w.heap.size w w' → Q .normal a' w') l a) : (Code.region rid l.toArray true).wp P Q a w :=
  wp_region_quiet (C := Below w.heap.size w) hm hB ⟨rfl, rfl, rfl, Nat.le_refl _, fun _ _ => rfl⟩ (by simpa using h)
section
variable {ops : Array Oper} {C : World → Prop} {K : Act → Prop} {o : Oper} {rest : List Oper} {a : Act} {w : World}
theorem quiet_skip (hw : Region.wanted o (yielded ops a.tmps) = false) (h : wpQuiet P ops C K rest (a.put o.dst undef)) : wpQuiet P ops C K (o :: rest) a := by
  unfold wpQuiet
  rw [if_neg (by rw [hw]; exact Bool.false_ne_true)]; exact h
theorem quiet_run {v : Value} (hw : Region.wanted o (yielded ops a.tmps) = true) (hr : ∀ W, (execOp a.eval o).run P W = .ok (.value v) W) (h : wpQuiet P ops C K rest (a.put o.dst v)) : wpQuiet P ops C K (o :: rest) a := by
  unfold wpQuiet
  rw [if_pos hw]
  refine ⟨v, fun W _ => ?_, h⟩
  unfold Oper.quietAt
  rw [hr W]; exact ⟨rfl, rfl⟩
theorem quiet_runC {v : Value} (hw : Region.wanted o (yielded ops a.tmps) = true) (hr : ∀ W, C W → (execOp a.eval o).run P W = .ok (.value v) W) (h : wpQuiet P ops C K rest (a.put o.dst v)) : wpQuiet P ops C K (o :: rest) a := by
  unfold wpQuiet
  rw [if_pos hw]
  refine ⟨v, fun W hC => ?_, h⟩
  unfold Oper.quietAt
  rw [hr W hC]; exact ⟨rfl, rfl⟩
theorem quiet_call {v : Value} (f : FuncId) {fn : Func} {xs : Array Operand} {ats : Array TypeId} (hw : Region.wanted o (yielded ops a.tmps) = true) (ho : o.op = .call { callee := .value (.func f), args := xs, argTypes := ats })
    (hf : P.funcs[f]? = some fn) (hn : (fn.name == "runtime.NumGoroutine") = false) (hb : fn.body.isNone = false)
    (hc : ∀ W, Below w.heap.size w W → Calls P f (xs.toList.map a.eval).toArray W fun e w' => e = .returned v ∧ Below W.heap.size W w')
    (h : wpQuiet P ops (Below w.heap.size w) K rest (a.put o.dst v)) : wpQuiet P ops (Below w.heap.size w) K (o :: rest) a := by
  unfold wpQuiet
  rw [if_pos hw]
  refine ⟨v, fun W hC => ?_, h⟩
  unfold Oper.quietAt
  have he : execOp a.eval o = callFunc f (#[] ++ xs.map a.eval ++ #[]) := by
    obtain ⟨dst, op, type, pos, after, guard⟩ := o
    subst ho
    rfl
  rw [he, enters hf hn hb]
  refine ⟨rfl, ?_⟩
  have e2 : #[] ++ xs.map a.eval ++ #[] = (xs.toList.map a.eval).toArray := by cases xs; simp
  rw [e2]
  exact (hc W hC).mono fun e w' ⟨h1, h2⟩ => ⟨h1, bCall hC h2 hC.size⟩
theorem quiet_load {T g n t : Nat} {k : IntKind} {xs : List Nat} {x : Operand} (hw : Region.wanted o (yielded ops a.tmps) = true) (ho : o.op = .load T x) (hx : a.eval x = .pointer (some ⟨g, 0, none⟩)) (hb : Blk w g t (ints k xs)) (ha : IsArr P T n) (hl : xs.length = n)
    (h : wpQuiet P ops (Below w.heap.size w) K rest (a.put o.dst (.agg (ints k xs)))) : wpQuiet P ops (Below w.heap.size w) K (o :: rest) a := by
  obtain ⟨⟨d, h1, hd⟩, h2⟩ := ha
  refine quiet_runC hw (fun W hC => ?_) h
  unfold execOp
  simp only [ho, hx, Instr.loadAt, Instr.sureAddr, Sem.run_bind, Sem.run_pure, Result.andThen_ok, run_loadVar_row W g t T _ _ _ (hb.below' hC) h1 (by cases d <;> first | rfl | cases hd) (by rw [ints_size, hl]; exact h2)]
theorem quiet_move {v : Value} {x : Operand} (hw : Region.wanted o (yielded ops a.tmps) = true) (ho : o.op = .move x) (hx : a.eval x = v) (h : wpQuiet P ops C K rest (a.put o.dst v)) : wpQuiet P ops C K (o :: rest) a :=
  quiet_run hw (fun W => by unfold execOp; simp only [ho, hx, Sem.run_bind, Sem.run_pure, Result.andThen_ok]) h
theorem quiet_assign {v : Value} {x : Operand} (hw : Region.wanted o (yielded ops a.tmps) = true) (ho : o.op = .assign x) (hx : a.eval x = v) (h : wpQuiet P ops C K rest (a.put o.dst v)) : wpQuiet P ops C K (o :: rest) a :=
  quiet_run hw (fun W => by unfold execOp; simp only [ho, hx, Sem.run_bind, Sem.run_pure, Result.andThen_ok]) h
theorem quiet_pick {b : Bool} {x y z : Operand} {v u : Value} (hw : Region.wanted o (yielded ops a.tmps) = true) (ho : o.op = .pick x y z) (hx : a.eval x = .bool b) (hy : a.eval y = v) (hz : a.eval z = u) (h : wpQuiet P ops C K rest (a.put o.dst (if b then v else u))) : wpQuiet P ops C K (o :: rest) a :=
  quiet_run hw (fun W => by unfold execOp; simp only [ho, hx, hy, hz, Sem.run_bind, Sem.run_pure, Result.andThen_ok]; cases b <;> simp [Sem.run_bind, asBool]) h
theorem quiet_eql {b : Bool} {x y : Operand} {T T' : TypeId} {xs ys : Array Value} (hw : Region.wanted o (yielded ops a.tmps) = true) (ho : o.op = .binOp .eql T x y T') (hx : a.eval x = .agg xs) (hy : a.eval y = .agg ys) (hm : P.eqGuardType P.depth T = false)
    (hr : ∀ W, (binOp .eql T (.agg xs) (.agg ys)).run P W = .ok (.bool b) W) (h : wpQuiet P ops C K rest (a.put o.dst (.bool b))) : wpQuiet P ops C K (o :: rest) a :=
  quiet_run hw (fun W => by unfold execOp; simp only [ho, hx, hy, Sem.run_bind, Sem.run_pure, Result.andThen_ok, run_eqGuard_agg W .eql T x y xs ys hm, hr]) h
theorem quiet_neq {b : Bool} {x y : Operand} {T T' : TypeId} {xs ys : Array Value} (hw : Region.wanted o (yielded ops a.tmps) = true) (ho : o.op = .binOp .neq T x y T') (hx : a.eval x = .agg xs) (hy : a.eval y = .agg ys) (hm : P.eqGuardType P.depth T = false)
    (hr : ∀ W, (binOp .neq T (.agg xs) (.agg ys)).run P W = .ok (.bool b) W) (h : wpQuiet P ops C K rest (a.put o.dst (.bool b))) : wpQuiet P ops C K (o :: rest) a :=
  quiet_run hw (fun W => by unfold execOp; simp only [ho, hx, hy, Sem.run_bind, Sem.run_pure, Result.andThen_ok, run_eqGuard_agg W .neq T x y xs ys hm, hr]) h
theorem quiet_eqlBool {b c : Bool} {x y : Operand} {T T' : TypeId} (hw : Region.wanted o (yielded ops a.tmps) = true) (ho : o.op = .binOp .eql T x y T') (hx : a.eval x = .bool b) (hy : a.eval y = .bool c)
    (ht : P.underlying T = some .bool) (h : wpQuiet P ops C K rest (a.put o.dst (.bool (b == c)))) : wpQuiet P ops C K (o :: rest) a := by
  refine quiet_run hw (fun W => ?_) h
  have h1 := run_equalIn_bool' (P := P) W 9999 T b c ht
  unfold execOp
  simp only [ho, hx, hy, Sem.run_bind, Sem.run_pure, Result.andThen_ok]
  simp [binOp, Op.equal, Op.maxDepth, h1, eqGuard, Sem.run_bind]
end

/-! ### the steps of a walk over an invariant ('wp_region_inv') -/
section
variable {ops : Array Oper} {Q : Exit → Act → World → Prop} {K : Act → World → Prop} {i : Nat} {o : Oper} {a : Act} {w : World}
theorem wpOp_value {v : Value} (hi : ops[i]? = some o) (hw : Region.wanted o (yielded ops a.tmps) = true) (hr : (execOp a.eval o).run P w = .ok (.value v) w) (h : K (a.put o.dst v) w) : wpOp P ops Q i K a w := by
  unfold wpOp
  simp only [hi, hw, if_true, Oper.wp, hr, Oper.upon]
  exact .inl h
theorem wpOp_call {v : Value} (f : FuncId) {fn : Func} {xs : Array Operand} {ats : Array TypeId} (hi : ops[i]? = some o) (hw : Region.wanted o (yielded ops a.tmps) = true) (ho : o.op = .call { callee := .value (.func f), args := xs, argTypes := ats })
    (hf : P.funcs[f]? = some fn) (hn : (fn.name == "runtime.NumGoroutine") = false) (hb : fn.body.isNone = false)
    (hc : Calls P f (xs.toList.map a.eval).toArray w fun e w' => e = .returned v ∧ Below w.heap.size w w') (h : ∀ w', Below w.heap.size w w' → K (a.put o.dst v) w') : wpOp P ops Q i K a w := by
  have he : execOp a.eval o = callFunc f (#[] ++ xs.map a.eval ++ #[]) := by
    obtain ⟨dst, op, type, pos, after, guard⟩ := o
    subst ho
    rfl
  unfold wpOp
  simp only [hi, hw, if_true, Oper.wp, he, enters hf hn hb, Oper.upon]
  have e2 : #[] ++ xs.map a.eval ++ #[] = (xs.toList.map a.eval).toArray := by cases xs; simp
  rw [e2]
  exact .inl (hc.mono fun e w' ⟨h1, h2⟩ => by subst h1; exact h w' h2)
theorem wpOp_load {T g n t : Nat} {k : IntKind} {xs : List Nat} {x : Operand} (hi : ops[i]? = some o) (hw : Region.wanted o (yielded ops a.tmps) = true) (ho : o.op = .load T x) (hx : a.eval x = .pointer (some ⟨g, 0, none⟩)) (hb : Blk w g t (ints k xs)) (ha : IsArr P T n) (hl : xs.length = n)
    (h : K (a.put o.dst (.agg (ints k xs))) w) : wpOp P ops Q i K a w := by
  obtain ⟨⟨d, h1, hd⟩, h2⟩ := ha
  refine wpOp_value hi hw ?_ h
  unfold execOp
  simp only [ho, hx, Instr.loadAt, Instr.sureAddr, Sem.run_bind, Sem.run_pure, Result.andThen_ok, run_loadVar_row w g t T _ _ _ hb h1 (by cases d <;> first | rfl | cases hd) (by rw [ints_size, hl]; exact h2)]
theorem wpOp_alloc {T n : Nat} {k : IntKind} (hi : ops[i]? = some o) (hw : Region.wanted o (yielded ops a.tmps) = true) (ho : o.op = .alloc T) (hz : IsZero P T n k)
    (h : K (a.put o.dst (.pointer (some ⟨w.heap.size, 0, none⟩))) (w.alloc (.cells (ints k (zeros n)) T))) : wpOp P ops Q i K a w := by
  have hr : (execOp a.eval o).run P w = .ok (.value (.pointer (some ⟨w.heap.size, 0, none⟩))) (w.alloc (.cells (ints k (zeros n)) T)) := by
    unfold execOp
    simp only [ho, Sem.run_bind, run_alloc_ints hz, Result.andThen_ok, Sem.run_pure]
  unfold wpOp
  simp only [hi, hw, if_true, Oper.wp, hr, Oper.upon]
  exact .inl h
theorem wpOp_store {T g n t : Nat} {k : IntKind} {xs : List Nat} {x y : Operand} {old : Array Value} (hi : ops[i]? = some o) (hw : Region.wanted o (yielded ops a.tmps) = true) (ho : o.op = .store T x y) (hx : a.eval x = .pointer (some ⟨g, 0, none⟩)) (hy : a.eval y = .agg (ints k xs))
    (hb : Blk w g t old) (hold : old.size = n) (ha : IsArr P T n) (hl : xs.length = n)
    (h : K (a.put o.dst undef) (w.setRow g (ints k xs))) : wpOp P ops Q i K a w := by
  unfold wpOp
  simp only [hi, hw, if_true]
  exact .inl (wp_store_row T x y ho g _ hx hy t old hb (by rw [ints_size, hl]; exact ha.2) (by rw [ints_size, hold, hl]) (ints_one _ _) h)
end

theorem pre_of {o : Oper} {D : Nat → Prop} (hall : ∀ e ∈ o.after, Region.binds .any e = true → D e.on) (j : Nat) (h : (o.after.toList.any fun e => e.on == j && Region.binds .any e) = true) : D j := by
  obtain ⟨e, he, hb⟩ := List.any_eq_true.1 h
  rw [Array.mem_toList_iff] at he
  simp only [Bool.and_eq_true, beq_iff_eq] at hb
  rw [← hb.1]; exact hall e he hb.2
/-- A pointer to a new block (from B on) of n numbers; once 'st' holds they are xs. -/
def Al (W : World) (B : Nat) (v : Value) (T n : Nat) (k : IntKind) (st : Prop) (xs : List Nat) : Prop :=
  ∃ g l, v = .pointer (some ⟨g, 0, none⟩) ∧ B ≤ g ∧ l.length = n ∧ Blk W g T (ints k l) ∧ (st → l = xs)
section
variable {W W' : World} {B T m : Nat} {v u : Value} {k : IntKind} {st st' : Prop} {xs : List Nat}
theorem Al.same (h : Al W B v T m k st xs) (hs : st' → st) : Al W B v T m k st' xs := let ⟨g, l, h1, h2, h3, h4, h5⟩ := h; ⟨g, l, h1, h2, h3, h4, fun x => h5 (hs x)⟩
theorem Al.below (h : Al W B v T m k st xs) (hb : Below W.heap.size W W') (hs : st' → st) : Al W' B v T m k st' xs := let ⟨g, l, h1, h2, h3, h4, h5⟩ := h; ⟨g, l, h1, h2, h3, h4.below' hb, fun x => h5 (hs x)⟩
theorem Al.alloc (h : Al W B v T m k st xs) (o : Obj) (hs : st' → st) : Al (W.alloc o) B v T m k st' xs := let ⟨g, l, h1, h2, h3, h4, h5⟩ := h; ⟨g, l, h1, h2, h3, h4.alloc o, fun x => h5 (hs x)⟩
theorem Al.new (hB : B ≤ W.heap.size) (hs : st → zeros m = xs) : Al (W.alloc (.cells (ints k (zeros m)) T)) B (.pointer (some ⟨W.heap.size, 0, none⟩)) T m k st xs := ⟨_, _, rfl, hB, zeros_len m, Blk.new _ _ _, hs⟩
theorem Al.set {g : Nat} {old : Array Value} (hb : Blk W g T old) (hB : B ≤ g) (hl : xs.length = m) : Al (W.setRow g (ints k xs)) B (.pointer (some ⟨g, 0, none⟩)) T m k st xs := ⟨g, xs, rfl, hB, hl, hb.row _, fun _ => rfl⟩
theorem Al.far (h : Al W B v T m k st xs) {g : Nat} {ys : List Nat} {k' : IntKind} (hne : v ≠ .pointer (some ⟨g, 0, none⟩)) (hs : st' → st) : Al (W.setRow g (ints k' ys)) B v T m k st' xs :=
  let ⟨g', l, h1, h2, h3, h4, h5⟩ := h
  ⟨g', l, h1, h2, h3, h4.rowFar (fun e => hne (by rw [h1, e])) _, fun x => h5 (hs x)⟩
theorem Al.ne_new (h : Al W B v T m k st xs) : v ≠ .pointer (some ⟨W.heap.size, 0, none⟩) := by
  obtain ⟨g, l, rfl, -, -, h4, -⟩ := h
  intro e
  have := h4.lt
  injection e with e
  injection e with e
  injection e with e
  omega
theorem Al.ne_new' (h : Al W B v T m k st xs) : .pointer (some ⟨W.heap.size, 0, none⟩) ≠ v := fun e => h.ne_new e.symm
end
end
end Go.Proofs.YtaiffkajkbiidaaGreatDoor
/- Small laws on slices of numbers that a call makes itself: appending one number, reading as a list. No condition. -/
namespace Go.Proofs.YtaiffkajkbiidaaGreatDoor
set_option linter.unusedSimpArgs false
set_option linter.unusedVariables false
set_option linter.unusedSectionVars false
set_option linter.unusedVariables false
open Go.RowKit
variable {P : Program}
/-- The slice value v owns a row (from block B on) of these numbers. -/
def Own (w : World) (B : Nat) (e : TypeId) (k : IntKind) (v : Value) (xs : List Nat) : Prop := w.ownsRow B e 1 v xs.length (xs.map fun n : Nat => Value.int k n)
theorem Own.nil (w : World) (B : Nat) (e : TypeId) (k : IntKind) : Own w B e k (.slice none 0 0) [] := World.ownsRow_nil w B e 1
theorem Own.alloc {w : World} {B : Nat} {e : TypeId} {k : IntKind} {v : Value} {xs : List Nat} (h : Own w B e k v xs) (o : Obj) : Own (w.alloc o) B e k v xs := World.ownsRow.alloc h o
theorem Own.drewN {w : World} {B : Nat} {e : TypeId} {k : IntKind} {v : Value} {xs : List Nat} (h : Own w B e k v xs) (n : Nat) : Own (w.drewN n) B e k v xs := h
theorem Own.below {w w' : World} {B : Nat} {e : TypeId} {k : IntKind} {v : Value} {xs : List Nat} (h : Own w B e k v xs) (hb : Below w.heap.size w w') : Own w' B e k v xs := by
  obtain ⟨h1, h2⟩ := h
  refine ⟨h1, h2.imp id ?_⟩
  rintro ⟨g, cap, cur, hv, hg, hh, r⟩
  exact ⟨g, cap, cur, hv, hg, (hb.block g (Blk.lt hh)).trans hh, r⟩
theorem Own.sl {w : World} {B : Nat} {e : TypeId} {k : IntKind} {v : Value} {xs : List Nat} (h : Own w B e k v xs) : ∃ a c, v = .slice a xs.length c ∧ Sl w a k xs ∧ xs.length ≤ c ∧ c ≤ maxLen := by
  obtain ⟨h1, h2⟩ := h
  rcases h2 with ⟨rfl, h2⟩ | ⟨g, cap, cur, rfl, hg, hh, hc, hm, hs, ht⟩
  · have : xs = [] := List.length_eq_zero_iff.1 h2
    subst this
    exact ⟨none, 0, rfl, Sl.nil _ _ _, Nat.le_refl _, by simp [maxLen]⟩
  · refine ⟨_, cap, rfl, fun _ => ⟨g, 0, rfl, Blk.lt hh, fun i hi => ?_⟩, hc, hm⟩
    rw [Nat.zero_add, cell_of_row w g i cur e _ hh, ← Array.getElem?_toList]
    have h3 : (cur.toList.take (xs.length * 1))[i]? = (xs.map fun n : Nat => Value.int k n)[i]? := by rw [ht]
    rw [List.getElem?_take, if_pos (by omega), List.getElem?_map, getD_lt hi] at h3
    exact h3
theorem Own.sl2 {w : World} {B : Nat} {e : TypeId} {k : IntKind} {v : Value} {xs : List Nat} (h : Own w B e k v xs) (hn : xs ≠ []) : ∃ g c, v = .slice (some ⟨g, 0, none⟩) xs.length c ∧ B ≤ g ∧ g < w.heap.size ∧ Sl w (some ⟨g, 0, none⟩) k xs ∧ xs.length ≤ c ∧ c ≤ maxLen := by
  obtain ⟨a, c, rfl, hsl, h3, h4⟩ := h.sl
  obtain ⟨h1, h2⟩ := h
  rcases h2 with ⟨hv, h2⟩ | ⟨g, cap, cur, hv, hg, hh, hc, hm, hs, ht⟩
  · exact absurd (List.length_eq_zero_iff.1 h2) hn
  · injection hv with e1 e2 e3
    subst e1
    exact ⟨g, c, rfl, hg, Blk.lt hh, hsl, h3, h4⟩
theorem Sl.far {w : World} {g off : Nat} {k : IntKind} {xs : List Nat} (h : Sl w (some ⟨g, off, none⟩) k xs) {p : Addr} (hp : g ≠ p.block) (u : Value) : Sl (w.setCell p u) (some ⟨g, off, none⟩) k xs := fun hn => by
  obtain ⟨g2, o2, q1, q2, q3⟩ := h hn
  injection q1 with q1
  injection q1 with q1 q4
  subst q1 q4
  refine ⟨g, off, rfl, by simp; exact q2, fun j hj => (World.cell?_setCell_other _ _ _ _ ?_).trans (q3 j hj)⟩
  intro e
  exact hp (by rw [e])
theorem Sl.eq {w : World} {g off : Nat} {k : IntKind} {xs : List Nat} (h : Sl w (some ⟨g, off, none⟩) k xs) {i : Nat} (hi : i < xs.length) : w.cell? ⟨g, off + i, none⟩ = some (.int k ((xs.getD i 0 : Nat) : Int)) := by
  obtain ⟨g2, o2, q1, q2, q3⟩ := h (by rintro rfl; simp at hi)
  injection q1 with q1
  injection q1 with q1 q4
  subst q1 q4
  exact q3 i hi
/-- A block that was made whole, as a slice of all its cells. -/
theorem Own.made {w : World} {B g : Nat} {e : TypeId} {k : IntKind} {xs : List Nat} (h : Blk w g e (ints k xs)) (hB : B ≤ g) (hm : xs.length ≤ maxLen) : Own w B e k (.slice (some ⟨g, 0, none⟩) xs.length xs.length) xs := by
  refine ⟨by simp, .inr ⟨g, xs.length, ints k xs, rfl, hB, h, Nat.le_refl _, hm, by simp [ints_size], ?_⟩⟩
  rw [Nat.mul_one, List.take_of_length_le (by simp [ints])]
  simp [ints]
theorem wpList_append_one {ops : Array Oper} {rest : List Oper} {o : Oper} {a : Act} {w : World} {Q : Exit → Act → World → Prop} {B e t n g c bytes : Nat} {k : IntKind} {z : Value} {v : Value} {xs : List Nat} {s x : Operand} (hgd : o.guard = none)
    (ho : o.op = .call { callee := .builtin .append, args := #[s, x], argTypes := #[t, t] }) (ht : P.underlying t = some (.slice e)) (hinf : (P.info? e).map (fun i => (i.zero, i.size, i.bytes)) = some (some z, 1, bytes)) (hz : z.cells.size = 1) (hby : bytes ≤ 64)
    (hs : a.eval s = v) (hown : Own w B e k v xs) (hx : a.eval x = .slice (some ⟨g, 0, none⟩) 1 c) (hc : w.cell? ⟨g, 0, none⟩ = some (.int k (n : Int))) (hl : xs.length < 2 ^ 40) (hB : B ≤ w.heap.size)
    (h : ∀ v' w', Own w' B e k v' (xs ++ [n]) → w.grownBy w' v.ownBlock → wpList P ops Q rest (a.put o.dst v') w') : wpList P ops Q (o :: rest) a w := by
  obtain ⟨i, hi, hz0, hz1, hz2⟩ := info_parts hinf
  refine wpList_append_own w hgd s x t ho B e i z 1 bytes ht hi hz0 hz1 hz2 hz (by omega) v xs.length _ hs hown ⟨g, 0, none⟩ 1 c [.int k (n : Int)] hx rfl ?_ ?_ ?_ ?_ hB ?_
  · intro j u hj
    match j, hj with
    | 0, hj => simp at hj; subst hj; exact hc
    | j + 1, hj => simp at hj
  · simp [Value.oneCell']
  · simp [maxLen]; omega
  · calc (xs.length + 1) * bytes ≤ (2 ^ 40 + 1) * 64 := Nat.mul_le_mul (by omega) hby
      _ ≤ _ := by omega
  · intro v' w' h1 h2 _
    refine h v' w' ?_ h2
    unfold Own
    rw [List.length_append, List.map_append]
    exact h1
/-- World w' is world w but for block g. -/
structure Only (w w' : World) (g : Nat) : Prop where
  other : ∀ g', g' ≠ g → w'.heap[g']? = w.heap[g']?
  size : w'.heap.size = w.heap.size
  below : ∀ B w0, Below B w0 w → B ≤ g → Below B w0 w'
theorem Only.refl (w : World) (g : Nat) : Only w w g := ⟨fun _ _ => rfl, rfl, fun _ _ h _ => h⟩
theorem Only.row (w : World) (g : Nat) (cs : Array Value) : Only w (w.setRow g cs) g := ⟨fun g' h => setRow_other _ _ _ _ h, setRow_size _ _ _, fun _ _ h hB => bSetRow h hB _⟩
theorem Only.cell (w : World) (p : Addr) (v : Value) : Only w (w.setCell p v) p.block := ⟨fun g' h => Below.heap_setCell _ _ _ _ h, by simp, fun _ _ h hB => h.setCell hB _⟩
theorem Blk.only {w w' : World} {g g' t : Nat} {cs : Array Value} (h : Blk w g' t cs) (ho : Only w w' g) (hne : g' ≠ g) : Blk w' g' t cs := (ho.other g' hne).trans h
theorem Sl.only {w w' : World} {g g' off : Nat} {k : IntKind} {xs : List Nat} (h : Sl w (some ⟨g', off, none⟩) k xs) (ho : Only w w' g) (hne : g' ≠ g) : Sl w' (some ⟨g', off, none⟩) k xs := fun hn => by
  obtain ⟨g2, o2, q1, q2, q3⟩ := h hn
  injection q1 with q1
  injection q1 with q1 q4
  subst q1 q4
  exact ⟨g', off, rfl, by rw [ho.size]; exact q2, fun j hj => (World.cell?_of_block (w := w) (ho.other _ hne)).trans (q3 j hj)⟩
theorem ints_splice (k : IntKind) (xs ys : List Nat) (off : Nat) : (((ints k xs).toList.take off ++ ((ys.map fun n : Nat => Value.int k n) ++ (ints k xs).toList.drop (off + ys.length))).toArray) = ints k (splice xs off ys) := by
  apply Array.ext'
  simp [ints, splice, List.map_take, List.map_drop]
theorem splice_len {α : Type} {L cs : List α} {off : Nat} (h : off + cs.length ≤ L.length) : (splice L off cs).length = L.length := length_splice L off cs h
/-- copy into a row of numbers. -/
theorem wpList_copy_ints {w : World} {ops : Array Oper} {rest : List Oper} {o : Oper} {a : Act} {Q : Exit → Act → World → Prop} {d s : Operand} {dT sT elem t g off dLen dCap sLen sCap : Nat} {dp sp : Option Addr} {k : IntKind} {xs zs : List Nat} (hgd : o.guard = none)
    (ho : o.op = .call { callee := .builtin .copy, args := #[d, s], argTypes := #[dT, sT] }) (hu : P.underlying dT = some (.slice elem)) (hsz : (P.info? elem).map (·.size) = some 1)
    (hd : a.eval d = .slice dp dLen dCap) (hs : a.eval s = .slice sp sLen sCap) (hg : Blk w g t (ints k xs)) (hsl : Sl w sp k zs) (hn : zs.length = Nat.min sLen dLen)
    (hpos : zs ≠ [] → dp = some ⟨g, off, none⟩) (hfit : off + zs.length ≤ xs.length)
    (h : ∀ w', Blk w' g t (ints k (splice xs off zs)) → Only w w' g → wpList P ops Q rest (a.put o.dst (goInt zs.length)) w') : wpList P ops Q (o :: rest) a w := by
  by_cases h0 : zs = []
  · subst h0
    refine wpList_copy_nothing hgd d s dT sT ho elem hu hsz dp sp dLen dCap sLen sCap hd hs hn.symm ?_
    refine h w ?_ (Only.refl _ _)
    simpa [splice] using hg
  · obtain ⟨g2, o2, rfl, hg2, hc⟩ := hsl h0
    obtain rfl := hpos h0
    have hml : (zs.map fun n : Nat => Value.int k n).length = zs.length := by simp
    refine wpList_copy_own hgd d s dT sT ho elem hu hsz g off dLen dCap ⟨g2, o2, none⟩ sLen sCap hd hs _ t hg (zs.map fun n : Nat => Value.int k n) (hml.trans hn) (fun j v hv => ?_) (by rw [hml, ints_size]; exact hfit) (by simp [Value.oneCell']) ?_
    · rw [List.getElem?_map] at hv
      obtain ⟨x, hx, rfl⟩ := Option.map_eq_some_iff.1 hv
      obtain ⟨hj, -⟩ := List.getElem?_eq_some_iff.1 hx
      rw [Addr.add_mid, hc j hj, List.getD_eq_getElem?_getD, hx]; rfl
    · rw [hml, ints_splice]
      exact h _ (hg.row _) (Only.row _ _ _)
theorem bGrown {B : Nat} {a w w' : World} {v : Value} {B' e : Nat} {k : IntKind} {xs : List Nat} (h : Below B a w) (hg : w.grownBy w' v.ownBlock) (hB : B ≤ w.heap.size) (hown : Own w B' e k v xs) (hB' : B ≤ B') : Below B a w' :=
  h.grown hg hB fun k hk => Nat.le_trans hB' (World.ownsRow.lt hown k hk).1
/-- What is not the row that grew is as it was. -/
theorem Blk.grownOwn {w w' : World} {g t B e : Nat} {cs : Array Value} {k : IntKind} {v : Value} {xs : List Nat} (h : Blk w g t cs) (hg : w.grownBy w' v.ownBlock) (hown : Own w B e k v xs) (hlt : g < B) : Blk w' g t cs :=
  h.grown hg fun e1 => by have := (World.ownsRow.lt hown g e1.symm).1; omega
theorem Sl.grownOwn {w w' : World} {B e : Nat} {k k' : IntKind} {v : Value} {xs ys : List Nat} {a : Option Addr} (h : Sl w a k' ys) (hg : w.grownBy w' v.ownBlock) (hown : Own w B e k v xs) (hlt : ∀ g off, a = some ⟨g, off, none⟩ → g < B) : Sl w' a k' ys := fun hn => by
  obtain ⟨g, off, h1, h2, h3⟩ := h hn
  refine ⟨g, off, h1, Nat.lt_of_lt_of_le h2 hg.size, fun i hi => ?_⟩
  refine (World.cell?_of_block (w := w) (hg.block g h2 fun e1 => ?_)).trans (h3 i hi)
  have := (World.ownsRow.lt hown g e1.symm).1
  have := hlt g off h1
  omega
theorem qsame {f : FuncId} {args : Array Value} {w : World} {n : Nat} {v : Value} (h : Calls P f args (w.drewN n) fun e w' => e = .returned v ∧ w.drewN n = w') : Calls P f args (w.drewN n) fun e w'' => e = .returned v ∧ ∃ m, w'' = w.drewN m :=
  h.mono fun _ _ ⟨he, hm⟩ => ⟨he, n, hm.symm⟩
theorem tmod_bit (x k : Nat) : ((x : Int) / 2 ^ k).tmod 2 = ((x / 2 ^ k % 2 : Nat) : Int) := by
  have e : (x : Int) / 2 ^ k = ((x / 2 ^ k : Nat) : Int) := by simp
  rw [e, Int.tmod_eq_emod_of_nonneg (Int.natCast_nonneg _)]; simp
theorem tmod_bit1 (x k : Nat) : (((x : Int) / 2 ^ k).tmod 2 == 1) = decide (x / 2 ^ k % 2 = 1) := by
  rw [tmod_bit, Bool.eq_iff_iff]
  simp only [beq_iff_eq, decide_eq_true_eq]
  omega
theorem wrap64_pow (m q : Nat) (hm : m < 2 ^ 60) (hq : q < 60) : wrap64 ((m : Int) + wrap64 (2 ^ q)) = ((m + 2 ^ q : Nat) : Int) := by
  have h2 : 2 ^ q ≤ 2 ^ 59 := Nat.pow_le_pow_right (by omega) (by omega)
  have e : (2 : Int) ^ q = ((2 ^ q : Nat) : Int) := by simp
  rw [e]
  generalize 2 ^ q = p at *
  rw [IntWalk.wrap64_in (p : Int) (by omega), IntWalk.wrap64_in _ (by omega)]
  simp
section
variable {ops : Array Oper} {C : World → Prop} {K : Act → Prop} {o : Oper} {rest : List Oper} {a : Act} {w : World}
theorem quiet_pickt {x y z : Operand} {v u : Value} (hw : Region.wanted o (yielded ops a.tmps) = true) (ho : o.op = .pick x y z) (hx : a.eval x = .bool true) (hy : a.eval y = v) (hz : a.eval z = u) (h : wpQuiet P ops C K rest (a.put o.dst v)) : wpQuiet P ops C K (o :: rest) a :=
  quiet_pick (b := true) hw ho hx hy hz (by simpa using h)
theorem quiet_pickf {x y z : Operand} {v u : Value} (hw : Region.wanted o (yielded ops a.tmps) = true) (ho : o.op = .pick x y z) (hx : a.eval x = .bool false) (hy : a.eval y = v) (hz : a.eval z = u) (h : wpQuiet P ops C K rest (a.put o.dst u)) : wpQuiet P ops C K (o :: rest) a :=
  quiet_pick (b := false) hw ho hx hy hz (by simpa using h)
end
end Go.Proofs.YtaiffkajkbiidaaGreatDoor
/- Small laws on strings of bytes: a row of bytes as a string, two of them held against each other; steps of a quiet region for them. No condition. -/
namespace Go.Proofs.YtaiffkajkbiidaaGreatDoor
set_option linter.unusedSimpArgs false
set_option linter.unusedVariables false
set_option linter.unusedSectionVars false
set_option linter.unusedVariables false
open Go.RowKit
variable {P : Program}
/-- A row of bytes as a string. -/
def strN (bs : List Nat) : ByteArray := ⟨(bs.map fun n : Nat => UInt8.ofNat n).toArray⟩
theorem strN_nums (bs : List Nat) : strOfNums (bs.map fun n : Nat => (n : Int)) = strN bs := by
  simp [strOfNums, strN]
theorem strN_inj {xs ys : List Nat} (hx : ∀ x ∈ xs, x < 256) (hy : ∀ y ∈ ys, y < 256) (h : strN xs = strN ys) : xs = ys := by
  have h1 : xs.map (fun n : Nat => UInt8.ofNat n) = ys.map (fun n : Nat => UInt8.ofNat n) := by
    have := congrArg (fun s : ByteArray => s.data.toList) h
    simpa [strN] using this
  have h2 := congrArg (List.map UInt8.toNat) h1
  have key : ∀ l : List Nat, (∀ x ∈ l, x < 256) → (l.map fun n : Nat => UInt8.ofNat n).map UInt8.toNat = l := by
    intro l hl
    induction l with
    | nil => rfl
    | cons a l ih =>
      simp only [List.map_cons]
      rw [ih fun x hx => hl x (by simp [hx])]
      have := hl a (by simp)
      simp [UInt8.toNat_ofNat', Nat.mod_eq_of_lt this]
  rw [key xs hx, key ys hy] at h2
  exact h2
theorem run_str {S T e : Nat} (hS : P.underlying S = some (.slice e)) (he : P.underlying e = some (.int .u8)) (hT : P.underlying T = some .string) {w : World} {a : Option Addr} {n c : Nat} {bs : List Nat} (hn : n = bs.length) (h : Sl w a .u8 bs) :
    (convert S T (.slice a n c)).run P w = .ok (.string (strN bs)) w := by
  subst hn
  by_cases h0 : bs = []
  · subst h0
    cases a with
    | none => exact run_convert_bytes_nil w S e hS he 0 c T hT
    | some ad =>
      rw [run_convert_bytes_string w S T e _ _ c hS he hT]
      exact run_bytesToString w ad 0 c [] (by simp [loadCells, loadCellsFrom, Sem.run_pure])
  · obtain ⟨g, off, rfl, -, hc⟩ := h h0
    have hm : ∀ i, i < bs.length → w.cell? ⟨g, off + i, none⟩ = some (.int .u8 ((bs.map fun n : Nat => (n : Int)).getD i 0)) := by
      intro i hi
      rw [hc i hi]
      simp [List.getD_eq_getElem?_getD, List.getElem?_eq_getElem hi]
    have := run_convert_bytes_arg w S e hS he g off bs.length c (bs.map fun n : Nat => (n : Int)) (by simp) hm T hT
    rw [this, strN_nums]
theorem run_eql_str {T : Nat} (x y : ByteArray) (w : World) : (binOp .eql T (.string x) (.string y)).run P w = .ok (.bool (x.toList == y.toList)) w := by
  simp [binOp, Op.stringOp, beq_toListBytes]
theorem strEq_same {xs ys : List Nat} (h : xs = ys) : ((strN xs).toList == (strN ys).toList) = true := by subst h; simp
theorem strEq {xs ys : List Nat} (hx : ∀ x ∈ xs, x < 256) (hy : ∀ y ∈ ys, y < 256) : ((strN xs).toList == (strN ys).toList) = (xs == ys) := by
  rw [Bool.eq_iff_iff]
  simp only [beq_iff_eq]
  constructor
  · intro h
    refine strN_inj hx hy (ByteArray.ext (Array.toList_inj.mp ?_))
    rw [← ByteArray.toList_eq, ← ByteArray.toList_eq]; exact h
  · rintro rfl; rfl
section
variable {ops : Array Oper} {K : Act → Prop} {C : World → Prop} {o : Oper} {rest : List Oper} {a : Act} {w : World}
theorem quiet_str {S T e n c : Nat} {x : Operand} {ad : Option Addr} {bs : List Nat} (hw : Region.wanted o (yielded ops a.tmps) = true) (ho : o.op = .convert S T x) (hx : a.eval x = .slice ad n c) (hn : n = bs.length)
    (hS : P.underlying S = some (.slice e)) (he : P.underlying e = some (.int .u8)) (hT : P.underlying T = some .string) (hs : Sl w ad .u8 bs)
    (h : wpQuiet P ops (Below w.heap.size w) K rest (a.put o.dst (.string (strN bs)))) : wpQuiet P ops (Below w.heap.size w) K (o :: rest) a :=
  quiet_runC hw (fun W hC => by
    unfold execOp
    simp only [ho, hx, Sem.run_bind, Sem.run_pure, Result.andThen_ok, run_str hS he hT hn (hs.below hC)]) h
theorem quiet_eqs {b : Bool} {T T' : TypeId} {x y : Operand} {s t : ByteArray} (hw : Region.wanted o (yielded ops a.tmps) = true) (ho : o.op = .binOp .eql T x y T') (hx : a.eval x = .string s) (hy : a.eval y = .string t) (hb : (s.toList == t.toList) = b)
    (h : wpQuiet P ops C K rest (a.put o.dst (.bool b))) : wpQuiet P ops C K (o :: rest) a :=
  quiet_run hw (fun W => by
    unfold execOp
    simp only [ho, hx, hy, Sem.run_bind, Sem.run_pure, Result.andThen_ok]
    have h1 := run_eql_str (P := P) (T := T) s t W
    rw [hb] at h1
    have h2 : (eqGuard .eql T x y (.string s) (.string t)).run P W = .ok () W := by simp [eqGuard, Sem.run_bind]
    simp only [h1, h2, Result.andThen_ok]) h
/-- A step that asks the world nothing. -/
theorem quiet_val {v : Value} (hw : Region.wanted o (yielded ops a.tmps) = true) (hr : ∀ W, (execOp a.eval o).run P W = .ok (.value v) W) (h : wpQuiet P ops C K rest (a.put o.dst v)) : wpQuiet P ops C K (o :: rest) a := quiet_run hw hr h
/-- One number of a row. -/
theorem quiet_cell {T g i : Nat} {k : IntKind} {x : Operand} {v : Value} (hw : Region.wanted o (yielded ops a.tmps) = true) (ho : o.op = .load T x) (hx : a.eval x = .pointer (some ⟨g, i, none⟩)) (hT : P.underlying T = some (.int k)) (hg : g < w.heap.size) (hc : w.cell? ⟨g, i, none⟩ = some v)
    (h : wpQuiet P ops (Below w.heap.size w) K rest (a.put o.dst v)) : wpQuiet P ops (Below w.heap.size w) K (o :: rest) a :=
  quiet_runC hw (fun W hC => by
    have hc' := (hC.cell (p := ⟨g, i, none⟩) hg).trans hc
    unfold execOp
    simp only [ho, hx, Instr.loadAt, Instr.sureAddr, Sem.run_bind, Sem.run_pure, Result.andThen_ok]
    simp [loadVar, isAgg, run_underlying hT, hc', go_sem]) h
end
theorem Sl.drop {w : World} {g off : Nat} {k : IntKind} {xs : List Nat} (h : Sl w (some ⟨g, off, none⟩) k xs) (m : Nat) : Sl w (some ⟨g, off + m, none⟩) k (xs.drop m) := fun hn => by
  obtain ⟨g2, o2, q1, q2, q3⟩ := h (by rintro rfl; simp at hn)
  injection q1 with q1
  injection q1 with q1 q4
  subst q1 q4
  refine ⟨g, off + m, rfl, q2, fun i hi => ?_⟩
  rw [List.length_drop] at hi
  rw [Nat.add_assoc, q3 (m + i) (by omega)]
  congr 3
  rw [List.getD_eq_getElem?_getD, List.getD_eq_getElem?_getD, List.getElem?_drop]
theorem Sl.take {w : World} {a : Option Addr} {k : IntKind} {xs : List Nat} (h : Sl w a k xs) (m : Nat) : Sl w a k (xs.take m) := fun hn => by
  obtain ⟨g2, o2, q1, q2, q3⟩ := h (by rintro rfl; simp at hn)
  refine ⟨g2, o2, q1, q2, fun i hi => ?_⟩
  rw [List.length_take] at hi
  rw [q3 i (by omega)]
  congr 3
  rw [List.getD_eq_getElem?_getD, List.getD_eq_getElem?_getD, List.getElem?_take, if_pos (by omega)]
end Go.Proofs.YtaiffkajkbiidaaGreatDoor
/- Small laws on slices of numbers: appending another slice to one that the call made itself. No condition. -/
namespace Go.Proofs.YtaiffkajkbiidaaGreatDoor
set_option linter.unusedSimpArgs false
set_option linter.unusedVariables false
set_option linter.unusedSectionVars false
set_option linter.unusedVariables false
open Go.RowKit
variable {P : Program}
theorem wpList_append_sl {ops : Array Oper} {rest : List Oper} {o : Oper} {a : Act} {w : World} {Q : Exit → Act → World → Prop} {B e t m c bytes : Nat} {k : IntKind} {z : Value} {v : Value} {ad : Option Addr} {xs zs : List Nat} {s x : Operand} (hgd : o.guard = none)
    (ho : o.op = .call { callee := .builtin .append, args := #[s, x], argTypes := #[t, t] }) (ht : P.underlying t = some (.slice e)) (hinf : (P.info? e).map (fun i => (i.zero, i.size, i.bytes)) = some (some z, 1, bytes)) (hz : z.cells.size = 1) (hby : bytes ≤ 64)
    (hs : a.eval s = v) (hown : Own w B e k v xs) (hx : a.eval x = .slice ad m c) (hm : m = zs.length) (hn : ad = none → c = 0) (hsl : Sl w ad k zs) (hl : xs.length + zs.length < 2 ^ 40) (hB : B ≤ w.heap.size)
    (h : ∀ v' w', Own w' B e k v' (xs ++ zs) → w.grownBy w' v.ownBlock → wpList P ops Q rest (a.put o.dst v') w') : wpList P ops Q (o :: rest) a w := by
  obtain ⟨i, hi, hz0, hz1, hz2⟩ := info_parts hinf
  subst hm
  cases ad with
  | none =>
    obtain rfl := hn rfl
    have hz0' : zs = [] := Classical.byContradiction fun hne => by obtain ⟨_, _, q, -⟩ := hsl hne; cases q
    subst hz0'
    refine wpList_plain hgd fun K hK => ?_
    have hrun := run_append_owned_none (P := P) w B t o.type e i 1 ht hi v xs.length _ hown
    unfold Oper.wp execOp
    simp only [ho, resolve, invoke, builtin, Sem.run_bind, Sem.run_pure, Result.andThen_ok, List.map_toArray, List.map_cons, List.map_nil, hs, hx, List.length_nil, hrun]
    refine hK _ _ (h v w (by rw [List.append_nil]; exact hown) ⟨rfl, rfl, rfl, Nat.le_refl _, fun _ _ _ => rfl⟩)
  | some ad =>
    refine wpList_append_own w hgd s x t ho B e i z 1 bytes ht hi hz0 hz1 hz2 hz (by omega) v xs.length _ hs hown ad zs.length c (zs.map fun n : Nat => Value.int k n) hx (by simp) ?_ ?_ ?_ ?_ hB ?_
    · intro j u hj
      rw [List.getElem?_map] at hj
      obtain ⟨y, hy, rfl⟩ := Option.map_eq_some_iff.1 hj
      obtain ⟨hjl, -⟩ := List.getElem?_eq_some_iff.1 hy
      obtain ⟨g, off, q1, q2, q3⟩ := hsl (by rintro rfl; simp at hjl)
      injection q1 with q1
      subst q1
      rw [Addr.add_mid, q3 j hjl, List.getD_eq_getElem?_getD, hy]; rfl
    · simp [Value.oneCell']
    · simp [maxLen]; omega
    · calc (xs.length + zs.length) * bytes ≤ 2 ^ 40 * 64 := Nat.mul_le_mul (by omega) hby
        _ ≤ _ := by omega
    · intro v' w' h1 h2 _
      refine h v' w' ?_ h2
      unfold Own
      rw [List.length_append, List.map_append]
      exact h1
theorem wpOp_cell {ops : Array Oper} {Q : Exit → Act → World → Prop} {K : Act → World → Prop} {j : Nat} {o : Oper} {a : Act} {w : World} {T g i : Nat} {k : IntKind} {x : Operand} {v : Value} (hi : ops[j]? = some o) (hw : Region.wanted o (yielded ops a.tmps) = true) (ho : o.op = .load T x) (hx : a.eval x = .pointer (some ⟨g, i, none⟩)) (hT : P.underlying T = some (.int k)) (hc : w.cell? ⟨g, i, none⟩ = some v)
    (h : K (a.put o.dst v) w) : wpOp P ops Q j K a w :=
  wpOp_value hi hw (by
    unfold execOp
    simp only [ho, hx, Instr.loadAt, Instr.sureAddr, Sem.run_bind, Sem.run_pure, Result.andThen_ok]
    simp [loadVar, isAgg, run_underlying hT, hc, go_sem]) h
/-- A region whose last operation waits for all others: these in whatever order, under an invariant over what has come up; then the last. -/
theorem wp_region_last {ops : Array Oper} {Q : Exit → Act → World → Prop} {rid : Nat} {a : Act} {w : World} (last : Nat) (hm : P.follows .mixedOrders = true)
    (hok : (ops.toList.zipIdx.all fun (o, i) => o.after.all fun e => decide (e.on < i)) = true)
    (hsz : (ops.size == last + 1) = true)
    (hall : ((List.range last).all fun j => (ops[last]?.map fun o => o.after.toList.any fun e => e.on == j && Region.binds .any e) == some true) = true)
    (I : (Nat → Prop) → Act → World → Prop)
    (h0 : I (fun _ => False) a w.drew)
    (hstep : ∀ (i : Nat) (o : Oper), i < last → ops[i]? = some o → ∀ (D : Nat → Prop) (a : Act) (w : World), I D a w → ¬ D i → (∀ e ∈ o.after, Region.binds .any e = true → D e.on) →
      wpOp P ops Q i (fun a' w' => I (fun j => j = i ∨ D j) a' w') a w)
    (hend : ∀ (D : Nat → Prop) (a : Act) (w : World), I D a w → (∀ j, j < last → D j) → wpOp P ops Q last (fun a' w' => Q .normal a' w') a w) :
    (Code.region rid ops true).wp P Q a w := by
  rw [beq_iff_eq] at hsz
  refine wp_region_inv hm hok (fun D a' w' => (¬ D last ∧ I D a' w') ∨ (D last ∧ (∀ j, j < last → D j) ∧ Q .normal a' w')) (.inl ⟨fun h => h, h0⟩) ?_ ?_
  · intro i o hi D a' w' hI hnD hpre
    have hlt : i < ops.size := (Array.getElem?_eq_some_iff.1 hi).1
    rcases hI with ⟨hl, hI⟩ | ⟨hl, hD, -⟩
    · by_cases h : i = last
      · subst h
        have hDall : ∀ j, j < i → D j := fun j hj => by
          have h1 := List.all_eq_true.1 hall j (List.mem_range.2 hj)
          rw [hi] at h1
          simp only [Option.map_some, beq_iff_eq, Option.some.injEq] at h1
          exact pre_of hpre j h1
        refine wpOp_mono (fun a2 w2 q => .inr ⟨.inl rfl, fun j hj => .inr (hDall j hj), q⟩) (hend D a' w' hI hDall)
      · refine wpOp_mono (fun a2 w2 q => .inl ⟨fun h2 => h2.elim (fun h3 => h h3.symm) hl, q⟩) (hstep i o (by omega) hi D a' w' hI hnD hpre)
    · exfalso
      by_cases h : i = last
      · subst h; exact hnD hl
      · exact hnD (hD i (by omega))
  · intro D a' w' hI hD
    rcases hI with ⟨hl, -⟩ | ⟨-, -, q⟩
    · exact absurd (hD last (by omega)) hl
    · exact q
/-- A row loaded under a guard that holds. -/
theorem wpList_load_intsG {ops : Array Oper} {rest : List Oper} {o : Oper} {a : Act} {w : World} {Q : Exit → Act → World → Prop} (hw : Region.wanted o (yielded ops a.tmps) = true) (T : TypeId) (x : Operand) (ho : o.op = .load T x)
    (g : Nat) (hx : a.eval x = .pointer (some ⟨g, 0, none⟩)) {n t : Nat} {k : IntKind} {xs : List Nat} (hb : Blk w g t (ints k xs)) (ha : IsArr P T n) (hl : xs.length = n)
    (h : wpList P ops Q rest (a.put o.dst (.agg (ints k xs))) w) : wpList P ops Q (o :: rest) a w := by
  obtain ⟨⟨d, h1, hd⟩, h2⟩ := ha
  exact wpList_step fun K hK => by
    rw [if_pos hw]
    exact wp_load_row T x ho g hx t _ _ _ hb h1 (by cases d <;> first | rfl | cases hd) (by rw [ints_size, hl]; exact h2) (hK _ _ h)
/-- What grew is as it was below. -/
theorem belowGrown {w w' : World} {B e : Nat} {k : IntKind} {v : Value} {xs : List Nat} (hg : w.grownBy w' v.ownBlock) (hown : Own w B e k v xs) (hB : B ≤ w.heap.size) : Below B w w' :=
  bGrown (Below.refl B w |>.mono (Nat.le_refl _)) hg hB hown (Nat.le_refl _)
theorem Own.mono {w : World} {B B' e : Nat} {k : IntKind} {v : Value} {xs : List Nat} (h : Own w B e k v xs) (hB : B' ≤ B) : Own w B' e k v xs := by
  obtain ⟨h1, h2⟩ := h
  refine ⟨h1, h2.imp id ?_⟩
  rintro ⟨g, cap, cur, hv, hg, r⟩
  exact ⟨g, cap, cur, hv, Nat.le_trans hB hg, r⟩
end Go.Proofs.YtaiffkajkbiidaaGreatDoor
/- A region whose last operation comes after all others, be it by way of others: these in whatever order, under an invariant; then the last. -/
namespace Go.Proofs.YtaiffkajkbiidaaGreatDoor
set_option linter.unusedSimpArgs false
set_option linter.unusedVariables false
set_option linter.unusedSectionVars false
open Go.RowKit
theorem rl {i j : Nat} {D : Nat → Prop} (h : j = i ∨ D j) (hne : (j == i) = false := by rfl) : D j := h.resolve_left (by simpa using hne)
section
variable {P : Program}
theorem wp_region_last2 {ops : Array Oper} {Q : Exit → Act → World → Prop} {rid : Nat} {a : Act} {w : World} (last : Nat) (hm : P.follows .mixedOrders = true)
    (hok : (ops.toList.zipIdx.all fun (o, i) => o.after.all fun e => decide (e.on < i)) = true)
    (hsz : (ops.size == last + 1) = true)
    (hall : ((List.range last).all fun j => (List.range (last + 1)).any fun m => decide (j < m) && ((ops[m]?.map fun o => o.after.toList.any fun e => e.on == j && Region.binds .any e) == some true)) = true)
    (I : (Nat → Prop) → Act → World → Prop)
    (h0 : I (fun _ => False) a w.drew)
    (hstep : ∀ (i : Nat) (o : Oper), i < last → ops[i]? = some o → ∀ (D : Nat → Prop) (a : Act) (w : World), I D a w → ¬ D i → (∀ e ∈ o.after, Region.binds .any e = true → D e.on) →
      wpOp P ops Q i (fun a' w' => I (fun j => j = i ∨ D j) a' w') a w)
    (hend : ∀ (D : Nat → Prop) (a : Act) (w : World), I D a w → (∀ j, j < last → D j) → wpOp P ops Q last (fun a' w' => Q .normal a' w') a w) :
    (Code.region rid ops true).wp P Q a w := by
  rw [beq_iff_eq] at hsz
  refine wp_region_inv hm hok (fun D a' w' => (¬ D last ∧ (∀ m o, D m → ops[m]? = some o → ∀ e ∈ o.after, Region.binds .any e = true → D e.on) ∧ I D a' w') ∨ (D last ∧ (∀ j, j < last → D j) ∧ Q .normal a' w')) (.inl ⟨fun h => h, fun _ _ h => h.elim, h0⟩) ?_ ?_
  · intro i o hi D a' w' hI hnD hpre
    have hlt : i < ops.size := (Array.getElem?_eq_some_iff.1 hi).1
    rcases hI with ⟨hl, hcl, hI⟩ | ⟨hl, hD, -⟩
    · by_cases h : i = last
      · subst h
        have hk : ∀ k j, j < i → i - j ≤ k → D j := fun k => by
          induction k with
          | zero => intro j hj hk; omega
          | succ k ih =>
            intro j hj hk
            have h1 := List.all_eq_true.1 hall j (List.mem_range.2 hj)
            obtain ⟨m, hm1, hm2⟩ := List.any_eq_true.1 h1
            rw [List.mem_range] at hm1
            simp only [Bool.and_eq_true, decide_eq_true_eq, beq_iff_eq] at hm2
            obtain ⟨hjm, hm2⟩ := hm2
            obtain ⟨om, hom⟩ : ∃ om, ops[m]? = some om := ⟨ops[m]'(by omega), Array.getElem?_eq_getElem (by omega)⟩
            rw [hom] at hm2
            simp only [Option.map_some, Option.some.injEq] at hm2
            by_cases hmi : m = i
            · subst hmi
              rw [hi] at hom
              cases hom
              exact pre_of hpre j hm2
            · exact pre_of (hcl m om (ih m (by omega) (by omega)) hom) j hm2
        have hDall : ∀ j, j < i → D j := fun j hj => hk _ j hj (Nat.le_refl _)
        refine wpOp_mono (fun a2 w2 q => .inr ⟨.inl rfl, fun j hj => .inr (hDall j hj), q⟩) (hend D a' w' hI hDall)
      · refine wpOp_mono (fun a2 w2 q => .inl ⟨fun h2 => h2.elim (fun h3 => h h3.symm) hl, ?_, q⟩) (hstep i o (by omega) hi D a' w' hI hnD hpre)
        intro m om hDm hom e he hb
        rcases hDm with rfl | hDm
        · rw [hi] at hom
          cases hom
          exact .inr (hpre e he hb)
        · exact .inr (hcl m om hDm hom e he hb)
    · exfalso
      by_cases h : i = last
      · subst h; exact hnD hl
      · exact hnD (hD i (by omega))
  · intro D a' w' hI hD
    rcases hI with ⟨hl, -⟩ | ⟨-, -, q⟩
    · exact absurd (hD last (by omega)) hl
    · exact q
end
end Go.Proofs.YtaiffkajkbiidaaGreatDoor
/- One number stored into a block of numbers: the new world by what is known of it, and not by its name. No condition. -/
namespace Go.Proofs.YtaiffkajkbiidaaGreatDoor
set_option linter.unusedSimpArgs false
set_option linter.unusedVariables false
set_option linter.unusedSectionVars false
set_option linter.unusedVariables false
open Go.RowKit
section
variable {P : Program} {ops : Array Oper} {rest : List Oper} {o : Oper} {a : Act} {w : World} {Q : Exit → Act → World → Prop}
/-- Type T is one cell. -/
def IsOne (P : Program) (T : TypeId) : Prop := (P.info? T).map (·.size) = some 1
theorem run_store_one {T : TypeId} (hT : IsOne P T) {g i t : Nat} {k : IntKind} {xs : List Nat} (hb : Blk w g t (ints k xs)) (hi : i < xs.length) (n : Nat) :
    (storeVar T ⟨g, i, none⟩ (.int k n)).run P w = .ok () (w.setCell ⟨g, i, none⟩ (.int k n)) := by
  unfold IsOne at hT
  obtain ⟨d, hd, h1⟩ := Option.map_eq_some_iff.1 hT
  have hc := hb.int hi
  have hf := hb.frozen i
  simp [storeVar, sizeOf, typeInfo, hd, h1, Value.cells, storeCells, go_sem, hc, hf]
/-- Block g alone may have changed. -/
structure Far (g : Nat) (w w' : World) : Prop where
  heap : ∀ g', g' ≠ g → w'.heap[g']? = w.heap[g']?
  below : ∀ {B : Nat} {w0 : World}, Below B w0 w → B ≤ g → Below B w0 w'
  size : w'.heap.size = w.heap.size
theorem Far.blk {g : Nat} {w w' : World} (h : Far g w w') {g' t' : Nat} {cs : Array Value} (hb : Blk w g' t' cs) (hne : g' ≠ g) : Blk w' g' t' cs := (h.heap g' hne).trans hb
theorem Far.set (w : World) (g i : Nat) (v : Value) : Far g w (w.setCell ⟨g, i, none⟩ v) := ⟨fun g' hg => Below.heap_setCell _ _ _ _ hg, fun h hB => h.setCell hB _, by simp⟩
theorem wpList_store_one (hgd : o.guard = none) (T : TypeId) (x y : Operand) (ho : o.op = .store T x y) (hT : IsOne P T) {g t : Nat} {k : IntKind} {xs : List Nat} (hb : Blk w g t (ints k xs)) (i n : Nat)
    (hx : a.eval x = .pointer (some ⟨g, i, none⟩)) (hy : a.eval y = .int k n) (hi : i < xs.length)
    (h : ∀ w', Blk w' g t (ints k (xs.set i n)) → Far g w w' → wpList P ops Q rest (a.put o.dst undef) w') : wpList P ops Q (o :: rest) a w :=
  wpList_plain hgd fun _ hK => by
    unfold Oper.wp execOp
    simp only [ho, hx, hy, Instr.storeAt, Instr.sureAddr, Sem.run_bind, Sem.run_pure, Result.andThen_ok, run_store_one hT hb hi n]
    exact hK _ _ (h _ (hb.intSet i n) (Far.set _ _ _ _))
end
section
variable {P : Program} {ops : Array Oper} {o : Oper} {a : Act} {w : World} {Q : Exit → Act → World → Prop} {K : Act → World → Prop} {j : Nat}
/-- A call that makes a block of numbers and gives a pointer to it. -/
theorem wpOp_callB {v : Value} {g t : Nat} {k : IntKind} {zs : List Nat} (f : FuncId) {fn : Func} {xs : Array Operand} {ats : Array TypeId} (hi : ops[j]? = some o) (hw : Region.wanted o (yielded ops a.tmps) = true) (ho : o.op = .call { callee := .value (.func f), args := xs, argTypes := ats })
    (hf : P.funcs[f]? = some fn) (hn : (fn.name == "runtime.NumGoroutine") = false) (hb : fn.body.isNone = false)
    (hc : Calls P f (xs.toList.map a.eval).toArray w fun e w' => e = .returned v ∧ Below w.heap.size w w' ∧ Blk w' g t (ints k zs)) (h : ∀ w', Below w.heap.size w w' → Blk w' g t (ints k zs) → K (a.put o.dst v) w') : wpOp P ops Q j K a w := by
  have he : execOp a.eval o = callFunc f (#[] ++ xs.map a.eval ++ #[]) := by
    obtain ⟨dst, op, type, pos, after, guard⟩ := o
    subst ho
    rfl
  unfold wpOp
  simp only [hi, hw, if_true, Oper.wp, he, enters hf hn hb, Oper.upon]
  have e2 : #[] ++ xs.map a.eval ++ #[] = (xs.toList.map a.eval).toArray := by cases xs; simp
  rw [e2]
  exact .inl (hc.mono fun e w' ⟨h1, h2, h3⟩ => by subst h1; exact h w' h2 h3)
theorem run_eqlOp {b : Bool} {x y : Operand} {T T' : TypeId} {xs ys : Array Value} (ho : o.op = .binOp .eql T x y T') (hx : a.eval x = .agg xs) (hy : a.eval y = .agg ys) (hm : P.eqGuardType P.depth T = false)
    (hr : ∀ W, (binOp .eql T (.agg xs) (.agg ys)).run P W = .ok (.bool b) W) : (execOp a.eval o).run P w = .ok (.value (.bool b)) w := by
  unfold execOp
  simp only [ho, hx, hy, Sem.run_bind, Sem.run_pure, Result.andThen_ok, run_eqGuard_agg w .eql T x y xs ys hm, hr]
end
/-- The first k numbers of ys, then xs from k on. -/
def mix (ys xs : List Nat) (k : Nat) : List Nat := ys.take k ++ xs.drop k
section
variable {ys xs : List Nat} {n k : Nat}
theorem mix_zero : mix ys xs 0 = xs := by simp [mix]
theorem mix_len (hy : ys.length = n) (hx : xs.length = n) (hk : k ≤ n) : (mix ys xs k).length = n := by
  unfold mix
  rw [List.length_append, List.length_take, List.length_drop]; omega
theorem mix_all (hy : ys.length = n) (hx : xs.length = n) : mix ys xs n = ys := by
  unfold mix
  rw [List.take_of_length_le (by omega), List.drop_eq_nil_of_le (by omega), List.append_nil]
theorem mix_get (hy : ys.length = n) (hk : k ≤ n) (i : Nat) (hi : k ≤ i) : (mix ys xs k).getD i 0 = xs.getD i 0 := by
  unfold mix
  rw [List.getD_eq_getElem?_getD, List.getElem?_append_right (by rw [List.length_take]; omega), List.length_take, Nat.min_eq_left (by omega), List.getElem?_drop, show k + (i - k) = i by omega, ← List.getD_eq_getElem?_getD]
theorem mix_set (hy : ys.length = n) (hx : xs.length = n) (hk : k < n) : (mix ys xs k).set k (ys.getD k 0) = mix ys xs (k + 1) := by
  unfold mix
  rw [List.set_append_right _ _ (by rw [List.length_take]; omega), List.length_take, Nat.min_eq_left (by omega), Nat.sub_self, List.drop_eq_getElem_cons (show k < xs.length by omega), List.set_cons_zero, List.take_succ_eq_append_getElem (show k < ys.length by omega), List.getD_eq_getElem?_getD, List.getElem?_eq_getElem (show k < ys.length by omega), List.append_assoc]
  rfl
end
end Go.Proofs.YtaiffkajkbiidaaGreatDoor
/- Making rows of a variable length; parts of a block, loaded and stored. No condition. -/
namespace Go.Proofs.YtaiffkajkbiidaaGreatDoor
set_option linter.unusedSimpArgs false
set_option linter.unusedVariables false
set_option linter.unusedSectionVars false
set_option linter.unusedVariables false
open Go.RowKit
section
variable {P : Program}
theorem madeCells_ints (k : IntKind) (n : Nat) : madeCells (Value.cells (.int k 0)) n = ints k (zeros n) := by
  unfold zeros
  rw [ints_replicate]
  apply Array.ext
  · simp [madeCells]
  · intro i h1 h2
    simp [madeCells, Value.cells, Nat.mod_one]
theorem run_make_ints {T e n bytes : Nat} {k : IntKind} (ht : P.underlying T = some (.slice e)) (hinf : (P.info? e).map (fun i => (i.zero, i.size, i.bytes)) = some (some (.int k 0), 1, bytes)) (hby : bytes ≤ 8) (hn : n < 2 ^ 40) (w : World) :
    (Instr.makeSlice T (.int .i64 (n : Int)) (.int .i64 (n : Int))).run P w = .ok (.slice (some ⟨w.heap.size, 0, none⟩) n n) (w.alloc (.cells (ints k (zeros n)) e)) := by
  obtain ⟨i, hi, hz0, hz1, hz2⟩ := info_parts hinf
  have hb : (i.bytes : Int) * (n : Int) ≤ 281474976710656 := by
    have h1 : i.bytes * n ≤ 8 * 2 ^ 40 := Nat.mul_le_mul (by omega) (by omega)
    have h2 : ((i.bytes * n : Nat) : Int) ≤ 281474976710656 := by omega
    rwa [Int.natCast_mul] at h2
  have hr := run_make (P := P) w T e i _ ht hi hz0 .i64 .i64 n n (by omega) (Int.le_refl _) hb (by omega)
  simp only [Int.toNat_natCast, hz1, Nat.mul_one, madeCells_ints] at hr
  exact hr
/-- Numbers of one kind as values. -/
def vals (k : IntKind) (xs : List Nat) : List Value := xs.map fun n : Nat => Value.int k n
theorem vals_len (k : IntKind) (xs : List Nat) : (vals k xs).length = xs.length := by simp [vals]
theorem vals_ints (k : IntKind) (xs : List Nat) : (vals k xs).toArray = ints k xs := rfl
theorem vals_one (k : IntKind) (xs : List Nat) : ∀ v ∈ vals k xs, v.oneCell' = true := by
  intro v hv
  obtain ⟨x, -, rfl⟩ := List.mem_map.1 hv
  rfl
section
variable {w : World} {g t : Nat} {pre old post vs : List Value}
theorem Blk.part (h : Blk w g t (pre ++ old ++ post).toArray) {o : Nat} (ho : o = pre.length) : w.rangeAt g o old := fun j v hv => by
  have hj := (List.getElem?_eq_some_iff.1 hv).1
  rw [h.cell, List.getElem?_toArray, List.append_assoc, List.getElem?_append_right (by omega), List.getElem?_append_left (by omega), show o + j - pre.length = j by omega]
  exact hv
theorem Blk.setCells : ∀ {vs old pre : List Value} {w : World}, Blk w g t (pre ++ old ++ post).toArray → old.length = vs.length → Blk (w.setCells g pre.length vs) g t (pre ++ vs ++ post).toArray
  | [], old, pre, w, h, hl => by
    obtain rfl := List.eq_nil_of_length_eq_zero hl
    exact h
  | v :: vs, [], pre, w, h, hl => by simp at hl
  | v :: vs, u :: old, pre, w, h, hl => by
    have h1 := h.set_ pre.length v
    have e : (pre ++ u :: old ++ post).toArray.setIfInBounds pre.length v = ((pre ++ [v]) ++ old ++ post).toArray := by
      simp [List.set_append_right]
    rw [e] at h1
    have h2 := Blk.setCells (vs := vs) h1 (by simpa using hl)
    rw [show (pre ++ [v]).length = pre.length + 1 by simp] at h2
    have e2 : (pre ++ v :: vs ++ post).toArray = ((pre ++ [v]) ++ vs ++ post).toArray := by simp
    rw [e2]
    exact h2
theorem Far.trans {g : Nat} {a b c : World} (h : Far g a b) (h' : Far g b c) : Far g a c := ⟨fun g' hg => (h'.heap g' hg).trans (h.heap g' hg), fun hb hB => h'.below (h.below hb hB) hB, h'.size.trans h.size⟩
theorem Far.refl (g : Nat) (w : World) : Far g w w := ⟨fun _ _ => rfl, fun h _ => h, rfl⟩
theorem Far.setCells (g : Nat) : ∀ (vs : List Value) (o : Nat) (w : World), Far g w (w.setCells g o vs)
  | [], o, w => Far.refl g w
  | v :: vs, o, w => (Far.set w g o v).trans (Far.setCells g vs (o + 1) _)
theorem Far.row (w : World) (g : Nat) (cs : Array Value) : Far g w (w.setRow g cs) := ⟨fun g' hg => setRow_other _ _ _ _ hg, fun h hB => bSetRow h hB _, setRow_size _ _ _⟩
theorem Only.far_ {w w' : World} {g : Nat} (h : Only w w' g) : Far g w w' := ⟨h.other, fun {B w0} hb hB => h.below B w0 hb hB, h.size⟩
/-- Of the blocks that there were, block g alone may have changed; there may be new ones. -/
structure Ch (g : Nat) (w w' : World) : Prop where
  heap : ∀ b, b < w.heap.size → b ≠ g → w'.heap[b]? = w.heap[b]?
  size : w.heap.size ≤ w'.heap.size
  below : ∀ {B : Nat} {w0 : World}, Below B w0 w → B ≤ g → B ≤ w.heap.size → Below B w0 w'
theorem Ch.refl (g : Nat) (w : World) : Ch g w w := ⟨fun _ _ _ => rfl, Nat.le_refl _, fun h _ _ => h⟩
theorem Ch.trans {g : Nat} {a b c : World} (h : Ch g a b) (h' : Ch g b c) : Ch g a c :=
  ⟨fun x hx hg => (h'.heap x (Nat.lt_of_lt_of_le hx h.size) hg).trans (h.heap x hx hg), Nat.le_trans h.size h'.size, fun hb hB hs => h'.below (h.below hb hB hs) hB (Nat.le_trans hs h.size)⟩
theorem Ch.of_far {g : Nat} {w w' : World} (h : Far g w w') : Ch g w w' := ⟨fun b _ hg => h.heap b hg, Nat.le_of_eq h.size.symm, fun hb hB _ => h.below hb hB⟩
theorem Ch.of_below {g : Nat} {w w' : World} (h : Below w.heap.size w w') : Ch g w w' := ⟨fun b hb _ => h.block b hb, h.size, fun hb _ hs => hb.trans (h.mono hs)⟩
theorem Ch.drew {g : Nat} {w w' : World} (h : Ch g w w') : Ch g w w'.drew := ⟨h.heap, h.size, fun hb hB hs => (h.below hb hB hs).drew⟩
theorem Ch.blk {g : Nat} {w w' : World} (h : Ch g w w') {g' t' : Nat} {cs : Array Value} (hb : Blk w g' t' cs) (hne : g' ≠ g) : Blk w' g' t' cs := (h.heap g' hb.lt hne).trans hb
theorem Ch.sl {g : Nat} {w w' : World} (h : Ch g w w') {ad : Option Addr} {k : IntKind} {xs : List Nat} (hs : Sl w ad k xs) (hne : ∀ b off, ad = some ⟨b, off, none⟩ → b ≠ g) : Sl w' ad k xs := fun hn => by
  obtain ⟨b, off, h1, h2, h3⟩ := hs hn
  exact ⟨b, off, h1, Nat.lt_of_lt_of_le h2 h.size, fun i hi => (World.cell?_of_block (w := w) (h.heap b h2 (hne b off h1))).trans (h3 i hi)⟩
end
section
variable {ops : Array Oper} {rest : List Oper} {o : Oper} {a : Act} {w : World} {Q : Exit → Act → World → Prop} {g t n : Nat} {pre old post vs : List Value}
theorem wpList_load_part (hgd : o.guard = none) (T : TypeId) (x : Operand) (ho : o.op = .load T x) (off : Nat) (hx : a.eval x = .pointer (some ⟨g, off, none⟩)) (hb : Blk w g t (pre ++ old ++ post).toArray) (hoff : off = pre.length)
    (ha : IsArr P T n) (hl : old.length = n) (h : wpList P ops Q rest (a.put o.dst (.agg old.toArray)) w) : wpList P ops Q (o :: rest) a w := by
  obtain ⟨⟨d, h1, hd⟩, h2⟩ := ha
  exact wpList_load_mid hgd T x ho g off hx old d (hb.part hoff) h1 hd (by rw [h2, hl]) h
theorem there_part (hb : Blk w g t (pre ++ old ++ post).toArray) {off : Nat} (hoff : off = pre.length) : w.there g off old.length := fun j hj => by
  refine ⟨?_, hb.frozen _⟩
  rw [hb.part hoff j _ (List.getElem?_eq_getElem hj)]; rfl
theorem wpList_store_part (hgd : o.guard = none) (T : TypeId) (x y : Operand) (ho : o.op = .store T x y) (off : Nat) (hx : a.eval x = .pointer (some ⟨g, off, none⟩)) (hy : a.eval y = .agg vs.toArray) (hb : Blk w g t (pre ++ old ++ post).toArray) (hoff : off = pre.length)
    (ha : IsArr P T n) (hl : old.length = n) (hl' : vs.length = n) (h1 : ∀ v ∈ vs, v.oneCell' = true)
    (h : ∀ w', Blk w' g t (pre ++ vs ++ post).toArray → Far g w w' → wpList P ops Q rest (a.put o.dst undef) w') : wpList P ops Q (o :: rest) a w := by
  refine wpList_store_mid hgd T x y ho g off vs.toArray hx hy (by rw [List.size_toArray, hl', ← hl]; exact there_part hb hoff) (by rw [List.size_toArray, hl']; exact ha.2) (all_oneCell_toArray h1) ?_
  refine h _ ?_ (Far.setCells _ _ _ _)
  subst hoff
  exact hb.setCells (by rw [hl, hl'])
/-- One cell of a block. -/
theorem wpList_store_cell (hgd : o.guard = none) (T : TypeId) (x y : Operand) (ho : o.op = .store T x y) (hT : IsOne P T) (off : Nat) {v u : Value} (hx : a.eval x = .pointer (some ⟨g, off, none⟩)) (hy : a.eval y = v) (h1 : v.oneCell' = true) (hcs : v.cells = #[v]) (hb : Blk w g t (pre ++ [u] ++ post).toArray) (hoff : off = pre.length)
    (h : ∀ w', Blk w' g t (pre ++ [v] ++ post).toArray → Far g w w' → wpList P ops Q rest (a.put o.dst undef) w') : wpList P ops Q (o :: rest) a w :=
  wpList_plain hgd fun _ hK => by
    unfold IsOne at hT
    obtain ⟨d, hd, hd1⟩ := Option.map_eq_some_iff.1 hT
    have hc := hb.part hoff 0 u rfl
    have hf := hb.frozen off
    rw [Nat.add_zero] at hc
    have hr : (storeVar T ⟨g, off, none⟩ v).run P w = .ok () (w.setCell ⟨g, off, none⟩ v) := by
      have ha : (⟨g, off, none⟩ : Addr).add 0 = ⟨g, off, none⟩ := by rw [Addr.add_mid]; rfl
      simp [storeVar, sizeOf, typeInfo, hd, hd1, hcs, storeCells, Sem.run_bind, run_store P w _ v _ h1, ha, hc, hf]
    unfold Oper.wp execOp
    simp only [ho, hx, hy, Instr.storeAt, Instr.sureAddr, Sem.run_bind, Sem.run_pure, Result.andThen_ok, hr]
    refine hK _ _ (h _ ?_ (Far.set _ _ _ _))
    subst hoff
    exact hb.setCells (vs := [v]) rfl
theorem wpOp_store_part {K : Act → World → Prop} {i : Nat} (hi : ops[i]? = some o) (hw : Region.wanted o (yielded ops a.tmps) = true) (T : TypeId) (x y : Operand) (ho : o.op = .store T x y) (off : Nat) (hx : a.eval x = .pointer (some ⟨g, off, none⟩)) (hy : a.eval y = .agg vs.toArray) (hb : Blk w g t (pre ++ old ++ post).toArray) (hoff : off = pre.length)
    (ha : IsArr P T n) (hl : old.length = n) (hl' : vs.length = n) (h1 : ∀ v ∈ vs, v.oneCell' = true)
    (h : ∀ w', Blk w' g t (pre ++ vs ++ post).toArray → Far g w w' → K (a.put o.dst undef) w') : wpOp P ops Q i K a w := by
  unfold wpOp
  simp only [hi, hw, if_true]
  refine .inl (wp_store_mid T x y ho g off vs.toArray hx hy (by rw [List.size_toArray, hl', ← hl]; exact there_part hb hoff) (by rw [List.size_toArray, hl']; exact ha.2) (all_oneCell_toArray h1) ?_)
  refine h _ ?_ (Far.setCells _ _ _ _)
  subst hoff
  exact hb.setCells (by rw [hl, hl'])
theorem wpOp_step {K : Act → World → Prop} {i : Nat} {v : Value} {w' : World} (hi : ops[i]? = some o) (hw : Region.wanted o (yielded ops a.tmps) = true) (hr : (execOp a.eval o).run P w = .ok (.value v) w') (h : K (a.put o.dst v) w') : wpOp P ops Q i K a w := by
  unfold wpOp
  simp only [hi, hw, if_true, Oper.wp, hr, Oper.upon]
  exact .inl h
/-- A call of which more is known than its answer. -/
theorem wpOp_callX {K : Act → World → Prop} {i : Nat} {R : Value → World → Prop} (f : FuncId) {fn : Func} {xs : Array Operand} {ats : Array TypeId} (hi : ops[i]? = some o) (hw : Region.wanted o (yielded ops a.tmps) = true) (ho : o.op = .call { callee := .value (.func f), args := xs, argTypes := ats })
    (hf : P.funcs[f]? = some fn) (hn : (fn.name == "runtime.NumGoroutine") = false) (hb : fn.body.isNone = false)
    (hc : Calls P f (xs.toList.map a.eval).toArray w fun e w' => ∃ v, e = .returned v ∧ R v w') (h : ∀ v w', R v w' → K (a.put o.dst v) w') : wpOp P ops Q i K a w := by
  have he : execOp a.eval o = callFunc f (#[] ++ xs.map a.eval ++ #[]) := by
    obtain ⟨dst, op, type, pos, after, guard⟩ := o
    subst ho
    rfl
  unfold wpOp
  simp only [hi, hw, if_true, Oper.wp, he, enters hf hn hb, Oper.upon]
  have e2 : #[] ++ xs.map a.eval ++ #[] = (xs.toList.map a.eval).toArray := by cases xs; simp
  rw [e2]
  exact .inl (hc.mono fun e w' ⟨v, h1, h2⟩ => by subst h1; exact h v w' h2)
/-- A pointer loaded. -/
theorem run_cellp {T e : TypeId} {x : Operand} {i : Nat} {v : Value} (ho : o.op = .load T x) (hx : a.eval x = .pointer (some ⟨g, i, none⟩)) (hT : P.underlying T = some (.pointer e)) (hc : w.cell? ⟨g, i, none⟩ = some v) :
    (execOp a.eval o).run P w = .ok (.value v) w := by
  unfold execOp
  simp only [ho, hx, Instr.loadAt, Instr.sureAddr, Sem.run_bind, Sem.run_pure, Result.andThen_ok]
  simp [loadVar, isAgg, run_underlying hT, hc, go_sem]
end
/-- A slice of all of a new block (from B on). -/
def AlS (W : World) (B : Nat) (v : Value) (T n : Nat) (k : IntKind) (xs : List Nat) : Prop := ∃ g, v = .slice (some ⟨g, 0, none⟩) n n ∧ B ≤ g ∧ xs.length = n ∧ Blk W g T (ints k xs)
section
variable {W W' : World} {B T m : Nat} {v : Value} {k : IntKind} {xs : List Nat}
theorem AlS.below (h : AlS W B v T m k xs) (hb : Below W.heap.size W W') : AlS W' B v T m k xs := let ⟨g, h1, h2, h3, h4⟩ := h; ⟨g, h1, h2, h3, h4.below' hb⟩
theorem AlS.alloc (h : AlS W B v T m k xs) (o : Obj) : AlS (W.alloc o) B v T m k xs := let ⟨g, h1, h2, h3, h4⟩ := h; ⟨g, h1, h2, h3, h4.alloc o⟩
end
end
end Go.Proofs.YtaiffkajkbiidaaGreatDoor
/- A part of a slice, as an operation. No condition. -/
namespace Go.Proofs.YtaiffkajkbiidaaGreatDoor
set_option linter.unusedSimpArgs false
set_option linter.unusedVariables false
set_option linter.unusedSectionVars false
set_option linter.unusedVariables false
open Go.RowKit
section
variable {P : Program} {o : Oper} {a : Act} {w : World}
theorem elem_of {T e : TypeId} (hT : P.underlying T = some (.slice e)) : P.elem T = e := by simp [Program.elem, hT]
theorem run_sliceOp {T e : TypeId} {x y z : Operand} {g off len cap lo hi : Nat} (hT : P.underlying T = some (.slice e)) (hs : (P.info? e).map (·.size) = some 1) (ho : o.op = .slice T x (some y) (some z) none)
    (hx : a.eval x = .slice (some ⟨g, off, none⟩) len cap) (hy : a.eval y = .int .i64 (lo : Int)) (hz : a.eval z = .int .i64 (hi : Int)) (h1 : lo ≤ hi) (h2 : hi ≤ cap) (h3 : lo < cap) :
    (execOp a.eval o).run P w = .ok (.value (.slice (some ⟨g, off + lo, none⟩) (hi - lo) (cap - lo))) w := by
  obtain ⟨d, hd, hd1⟩ := Option.map_eq_some_iff.1 hs
  have he := elem_of hT
  have hT' : P.underlying T = some (.slice (P.elem T)) := by rw [he]; exact hT
  have hr := run_slice_lh (P := P) (w := w) T (some ⟨g, off, none⟩) len cap hT' .i64 .i64 lo hi (by omega) (by omega) (by omega)
  have hsz : (sizeOf (P.elem T)).run P w = .ok 1 w := by simp [sizeOf, typeInfo, he, hd, hd1]
  rw [hsz] at hr
  have hne : ¬ cap = lo := by omega
  unfold execOp
  simp only [ho, hx, hy, hz, Option.map_some, Option.map_none, Sem.run_bind, Sem.run_pure, run_sliceAt_slice w T _ _ _ _ hT', hr, Result.andThen_ok, Int.toNat_natCast, sliced, if_neg hne, Nat.mul_one, Addr.add_mid]
end
end Go.Proofs.YtaiffkajkbiidaaGreatDoor
/- Plain laws: padded and marked rows; blocks of a row. No program is spoken of. No condition. -/
namespace Go.Proofs.YtaiffkajkbiidaaGreatDoor
set_option linter.unusedSimpArgs false
set_option linter.unusedVariables false
set_option linter.unusedSectionVars false
set_option linter.unusedVariables false
def padL (bs : List Nat) : List Nat := bs ++ zeros ((16 - bs.length % 16) % 16)
theorem padL_len (bs : List Nat) : (padL bs).length = bs.length + (16 - bs.length % 16) % 16 := by simp [padL, zeros_len]
theorem padL_mod (bs : List Nat) : (padL bs).length % 16 = 0 := by rw [padL_len]; omega
theorem padL_lt {bs : List Nat} (hb : ∀ x ∈ bs, x < 256) : ∀ x ∈ padL bs, x < 256 := fun x hx => by
  rcases List.mem_append.1 hx with h | h
  · exact hb x h
  · exact zeros_lt _ (by omega) x h
theorem padL_whole {bs : List Nat} (h : bs.length % 16 = 0) : padL bs = bs := by simp [padL, h, zeros]
/-- Block number i. -/
def blk (bs : List Nat) (i : Nat) : List Nat := (bs.drop (16 * i)).take 16
theorem blk_len {bs : List Nat} {i : Nat} (h : 16 * (i + 1) ≤ bs.length) : (blk bs i).length = 16 := by
  unfold blk; rw [List.length_take, List.length_drop]; omega
theorem blk_lt {bs : List Nat} (hb : ∀ x ∈ bs, x < 256) (i : Nat) : ∀ x ∈ blk bs i, x < 256 := fun x hx => hb x (List.mem_of_mem_drop (List.mem_of_mem_take hx))
theorem blk_append_l {a b : List Nat} {i : Nat} (h : 16 * (i + 1) ≤ a.length) : blk (a ++ b) i = blk a i := by
  unfold blk
  rw [List.drop_append_of_le_length (by omega), List.take_append_of_le_length (by rw [List.length_drop]; omega)]
theorem blk_append_r {a b : List Nat} {k : Nat} (h : a.length = 16 * k) (i : Nat) : blk (a ++ b) (k + i) = blk b i := by
  unfold blk
  rw [show 16 * (k + i) = a.length + 16 * i by omega, List.drop_append, List.drop_eq_nil_of_le (by omega), List.nil_append, show a.length + 16 * i - a.length = 16 * i by omega]
theorem zeros_add (a b : Nat) : zeros a ++ zeros b = zeros (a + b) := by simp [zeros]
/-- A message in a row: itself, or marked and padded. -/
def markL (m : List Nat) : List Nat := padL (m ++ [1])
def msgL (m : List Nat) : List Nat := if m.length % 16 = 0 then m else markL m
theorem msgL_mod (m : List Nat) : (msgL m).length % 16 = 0 := by
  unfold msgL
  split
  · assumption
  · exact padL_mod _
theorem strip_eq : ∀ (a b : Nat) (x y : List Nat), List.replicate a 0 ++ 1 :: x = List.replicate b 0 ++ 1 :: y → x = y
  | 0, 0, x, y, h => by simpa using h
  | 0, b + 1, x, y, h => by simp [List.replicate_succ] at h
  | a + 1, 0, x, y, h => by simp [List.replicate_succ] at h
  | a + 1, b + 1, x, y, h => strip_eq a b x y (by simpa [List.replicate_succ] using h)
theorem markL_inj {m m' : List Nat} (h : markL m = markL m') : m = m' := by
  have h2 : (markL m).reverse = (markL m').reverse := by rw [h]
  unfold markL padL zeros at h2
  simp only [List.reverse_append, List.reverse_replicate, List.reverse_cons, List.reverse_nil, List.nil_append, List.singleton_append, List.cons_append] at h2
  exact List.reverse_inj.1 (strip_eq _ _ _ _ h2)
theorem padL_inj {t t' : List Nat} (hl : t.length = t'.length) (h : padL t = padL t') : t = t' := (List.append_inj h hl).1
end Go.Proofs.YtaiffkajkbiidaaGreatDoor
