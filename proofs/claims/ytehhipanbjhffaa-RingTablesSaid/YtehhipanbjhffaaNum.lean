/- Plain arithmetic: numbers by digits, and that 2^130 - 5 is a prime (Pocklington's certificates). No program is spoken of. No condition. -/
import Derived.KernelRfl
namespace Go.Proofs.Ytehhipanbjhffaa
set_option linter.unusedSimpArgs false
set_option linter.unusedVariables false
set_option linter.unusedSectionVars false
set_option linter.unusedVariables false

/-! ### digits -/
def undig (b : Nat) : List Nat → Nat
  | [] => 0
  | x :: xs => x + b * undig b xs
def dig (b : Nat) : Nat → Nat → List Nat
  | 0, _ => []
  | n + 1, v => v % b :: dig b n (v / b)
@[simp] theorem dig_length (b n v : Nat) : (dig b n v).length = n := by
  induction n generalizing v with
  | zero => rfl
  | succ n ih => simp [dig, ih]
theorem undig_dig (b n v : Nat) : undig b (dig b n v) = v % b ^ n := by
  induction n generalizing v with
  | zero => simp [dig, undig, Nat.mod_one]
  | succ n ih =>
    simp only [dig, undig, ih]
    rw [Nat.pow_succ', Nat.mod_mul]
theorem dig_undig (b : Nat) (xs : List Nat) (h : ∀ x ∈ xs, x < b) : dig b xs.length (undig b xs) = xs := by
  induction xs with
  | nil => rfl
  | cons x xs ih =>
    have hx : x < b := h x (by simp)
    simp only [List.length_cons, dig, undig]
    rw [Nat.add_mul_mod_self_left, Nat.mod_eq_of_lt hx, Nat.add_mul_div_left _ _ (by omega), Nat.div_eq_of_lt hx, Nat.zero_add, ih fun y hy => h y (by simp [hy])]
theorem dig_lt {b : Nat} (hb : 0 < b) (n v : Nat) : ∀ x ∈ dig b n v, x < b := by
  induction n generalizing v with
  | zero => simp [dig]
  | succ n ih =>
    intro x hx
    simp only [dig, List.mem_cons] at hx
    rcases hx with rfl | hx
    · exact Nat.mod_lt _ hb
    · exact ih _ x hx
theorem undig_lt {b : Nat} (xs : List Nat) (h : ∀ x ∈ xs, x < b) : undig b xs < b ^ xs.length := by
  induction xs with
  | nil => simp [undig]
  | cons x xs ih =>
    have hx : x < b := h x (by simp)
    have := ih fun y hy => h y (by simp [hy])
    simp only [undig, List.length_cons, Nat.pow_succ']
    calc x + b * undig b xs < b + b * undig b xs := by omega
      _ = b * (undig b xs + 1) := by rw [Nat.mul_add, Nat.mul_one, Nat.add_comm]
      _ ≤ b * b ^ xs.length := Nat.mul_le_mul_left _ this
theorem dig_getD (b : Nat) (n v i : Nat) (hi : i < n) : (dig b n v).getD i 0 = v / b ^ i % b := by
  induction n generalizing v i with
  | zero => omega
  | succ n ih =>
    cases i with
    | zero => simp [dig]
    | succ i =>
      simp only [dig, List.getD_cons_succ]
      rw [ih _ _ (by omega), Nat.pow_succ', Nat.div_div_eq_div_mul]
theorem undig_append (b : Nat) (xs ys : List Nat) : undig b (xs ++ ys) = undig b xs + b ^ xs.length * undig b ys := by
  induction xs with
  | nil => simp [undig]
  | cons x xs ih =>
    simp only [List.cons_append, undig, ih, List.length_cons, Nat.pow_succ', Nat.mul_add, Nat.mul_assoc, Nat.add_assoc]
theorem undig_replicate (b n : Nat) : undig b (List.replicate n 0) = 0 := by
  induction n with
  | zero => rfl
  | succ n ih => simp [List.replicate_succ, undig, ih]
theorem dig_mod (b n v : Nat) : dig b n (v % b ^ n) = dig b n v := by
  induction n generalizing v with
  | zero => rfl
  | succ n ih =>
    simp only [dig]
    rw [Nat.pow_succ', Nat.mod_mul_right_mod, Nat.mod_mul_right_div_self, ih]
theorem dig_inj {b : Nat} (n : Nat) {v u : Nat} (hv : v < b ^ n) (hu : u < b ^ n) (h : dig b n v = dig b n u) : v = u := by
  have := congrArg (undig b) h
  rwa [undig_dig, undig_dig, Nat.mod_eq_of_lt hv, Nat.mod_eq_of_lt hu] at this
theorem dig_zero (b n : Nat) : dig b n 0 = List.replicate n 0 := by
  induction n with
  | zero => rfl
  | succ n ih => simp [dig, ih, List.replicate_succ]
theorem dig_append (b m n v : Nat) : dig b (m + n) v = dig b m v ++ dig b n (v / b ^ m) := by
  induction m generalizing v with
  | zero => simp [dig]
  | succ m ih =>
    rw [show m + 1 + n = (m + n) + 1 by omega]
    simp only [dig, ih, List.cons_append, Nat.pow_succ', Nat.div_div_eq_div_mul]

/-! ### pigeons -/
theorem pigeon : ∀ (m n : Nat) (f : Nat → Nat), (∀ i, i < n → f i < m) → (∀ i j, i < j → j < n → f i ≠ f j) → n ≤ m := by
  intro m
  induction m with
  | zero =>
    intro n f h _
    rcases Nat.eq_zero_or_pos n with h0 | h0
    · omega
    · exact absurd (h 0 h0) (by omega)
  | succ m ih =>
    intro n f h hinj
    cases n with
    | zero => omega
    | succ k =>
      have hk := h k (by omega)
      have := ih k (fun i => if f i = m then f k else f i) (fun i hi => by
        have hlt := h i (by omega)
        have hne := hinj i k hi (by omega)
        by_cases hm : f i = m
        · simp only [hm, if_true]; omega
        · simp only [hm, if_false]; omega) (fun i j hij hj => by
        have h1 := hinj i j hij (by omega)
        have h2 := hinj i k (by omega) (by omega)
        have h3 := hinj j k hj (by omega)
        by_cases ha : f i = m <;> by_cases hb : f j = m
        · omega
        · simp only [ha, hb, if_true, if_false]; omega
        · simp only [ha, hb, if_true, if_false]; omega
        · simp only [ha, hb, if_false]; exact h1)
      omega

/-! ### primes -/
def IsPrime (q : Nat) : Prop := 2 ≤ q ∧ ∀ d, d ∣ q → d = 1 ∨ d = q

theorem least (P : Nat → Prop) (n : Nat) (h : P n) : ∃ m, P m ∧ ∀ k, k < m → ¬ P k := by
  induction n using Nat.strongRecOn with
  | ind n ih =>
    by_cases hk : ∃ k, k < n ∧ P k
    · obtain ⟨k, hk, hp⟩ := hk
      exact ih k hk hp
    · exact ⟨n, h, fun k hk' hp => hk ⟨k, hk', hp⟩⟩

theorem mod_of_dvd_mod {a b p q : Nat} (hq : q ∣ p) (h : a % p = b % p) : a % q = b % q := by
  rw [← Nat.mod_mod_of_dvd a hq, ← Nat.mod_mod_of_dvd b hq, h]

/-- The least exponent behind 0 by which g is 1 modulo q. -/
theorem order (q g e : Nat) (hq : 1 < q) (he : 0 < e) (h : g ^ e % q = 1) :
    ∃ n, 0 < n ∧ g ^ n % q = 1 ∧ (∀ k, g ^ k % q = 1 → n ∣ k) ∧ n < q := by
  obtain ⟨n, ⟨hn0, hn⟩, hmin⟩ := least (fun n => 0 < n ∧ g ^ n % q = 1) e ⟨he, h⟩
  have hmul : ∀ j, g ^ (n * j) % q = 1 := by
    intro j
    rw [Nat.pow_mul, Nat.pow_mod, hn, Nat.one_pow, Nat.mod_eq_of_lt hq]
  refine ⟨n, hn0, hn, fun k hk => ?_, ?_⟩
  · rw [Nat.dvd_iff_mod_eq_zero]
    refine Classical.byContradiction fun hne => ?_
    refine hmin (k % n) (Nat.mod_lt _ hn0) ⟨Nat.pos_of_ne_zero hne, ?_⟩
    have e1 : g ^ k = g ^ (k % n) * g ^ (n * (k / n)) := by rw [← Nat.pow_add, Nat.mod_add_div]
    rw [e1, Nat.mul_mod, hmul, Nat.mul_one, Nat.mod_mod] at hk
    exact hk
  · -- the powers 0 .. n - 1 are unlike each other, and none is 0
    have hcan : ∀ i j, i ≤ j → j ≤ n → g ^ i % q = g ^ j % q → g ^ (j - i) % q = 1 := by
      intro i j hij hj hh
      have e1 : g ^ (n - i) * g ^ i % q = 1 := by rw [← Nat.pow_add, Nat.sub_add_cancel (by omega)]; exact hn
      have e2 : g ^ (n - i) * g ^ j % q = 1 := by rw [Nat.mul_mod, ← hh, ← Nat.mul_mod]; exact e1
      have e3 : g ^ (n - i) * g ^ j = g ^ n * g ^ (j - i) := by rw [← Nat.pow_add, ← Nat.pow_add]; congr 1; omega
      rw [e3, Nat.mul_mod, hn, Nat.one_mul, Nat.mod_mod] at e2
      exact e2
    have := pigeon (q - 1) n (fun i => g ^ i % q - 1) (fun i hi => by
      have hlt : g ^ i % q < q := Nat.mod_lt _ (by omega)
      have hpos : 0 < g ^ i % q := by
        refine Nat.pos_of_ne_zero fun h0 => ?_
        have e1 : g ^ (n - i) * g ^ i % q = 1 := by rw [← Nat.pow_add, Nat.sub_add_cancel (by omega)]; exact hn
        rw [Nat.mul_mod, h0, Nat.mul_zero, Nat.zero_mod] at e1
        cases e1
      omega) (fun i j hij hj hh => by
      have hposi : 0 < g ^ i % q := by
        refine Nat.pos_of_ne_zero fun h0 => ?_
        have e1 : g ^ (n - i) * g ^ i % q = 1 := by rw [← Nat.pow_add, Nat.sub_add_cancel (by omega)]; exact hn
        rw [Nat.mul_mod, h0, Nat.mul_zero, Nat.zero_mod] at e1
        cases e1
      have hposj : 0 < g ^ j % q := by
        refine Nat.pos_of_ne_zero fun h0 => ?_
        have e1 : g ^ (n - j) * g ^ j % q = 1 := by rw [← Nat.pow_add, Nat.sub_add_cancel (by omega)]; exact hn
        rw [Nat.mul_mod, h0, Nat.mul_zero, Nat.zero_mod] at e1
        cases e1
      exact hmin (j - i) (by omega) ⟨by omega, hcan i j (by omega) (by omega) (by have hh' : g ^ i % q - 1 = g ^ j % q - 1 := hh; omega)⟩)
    omega

/-- A prime r of p - 1 divides the order of g modulo whatever divides p. -/
theorem order_has {p q r m g u n : Nat} (hq : 1 < q) (hqp : q ∣ p) (hr : IsPrime r) (hm : p - 1 = r * m)
    (hu : (g ^ m + (p - 1)) * u % p = 1 % p) (hp1 : 1 ≤ p) (hn : n ∣ p - 1) (hdiv : g ^ n % q = 1) : r ∣ n := by
  have hnot : ¬ n ∣ m := by
    rintro ⟨j, rfl⟩
    have h1 : g ^ (n * j) % q = 1 := by rw [Nat.pow_mul, Nat.pow_mod, hdiv, Nat.one_pow, Nat.mod_eq_of_lt hq]
    have h2 := mod_of_dvd_mod hqp hu
    rw [Nat.mod_eq_of_lt hq, Nat.mul_mod, Nat.add_mod, h1] at h2
    obtain ⟨c, rfl⟩ := hqp
    have h3 : (1 + (q * c - 1) % q) % q = 0 := by
      rw [Nat.add_mod_mod, show 1 + (q * c - 1) = q * c by omega]
      exact Nat.mul_mod_right q c
    rw [h3, Nat.zero_mul, Nat.zero_mod] at h2
    cases h2
  rcases hr.2 (Nat.gcd r n) (Nat.gcd_dvd_left r n) with h1 | h1
  · exfalso
    apply hnot
    have hc : Nat.Coprime n r := by rw [Nat.Coprime, Nat.gcd_comm]; exact h1
    exact hc.dvd_of_dvd_mul_left (by rw [← hm]; exact hn)
  · rw [← h1]; exact Nat.gcd_dvd_right r n

theorem prime_of_no_small {p : Nat} (hp : 2 ≤ p) (h : ∀ q, 1 < q → q ∣ p → p < q * q) : IsPrime p := by
  refine ⟨hp, fun d hd => ?_⟩
  obtain ⟨c, hc⟩ := hd
  rcases Nat.lt_or_ge 1 d with h1 | h1
  · rcases Nat.lt_or_ge 1 c with h2 | h2
    · exfalso
      have ha := h d h1 ⟨c, hc⟩
      have hb := h c h2 ⟨d, by rw [hc, Nat.mul_comm]⟩
      rcases Nat.le_total d c with hle | hle
      · have := Nat.mul_le_mul_left d hle
        omega
      · have := Nat.mul_le_mul_right c hle
        omega
    · right
      have : c ≠ 0 := by rintro rfl; simp at hc; omega
      have : c = 1 := by omega
      subst this
      simp at hc; exact hc.symm
  · left
    have : d ≠ 0 := by rintro rfl; simp at hc; omega
    omega

/-- Pocklington, by one great prime of p - 1. -/
theorem pock1 {p r m g u : Nat} (hp : 2 ≤ p) (hr : IsPrime r) (hm : p - 1 = r * m) (hg : g ^ (p - 1) % p = 1) (hu : (g ^ m + (p - 1)) * u % p = 1) (hbig : p < r * r) : IsPrime p := by
  refine prime_of_no_small hp fun q hq hqp => ?_
  have hgq : g ^ (p - 1) % q = 1 := by
    have := mod_of_dvd_mod (a := g ^ (p - 1)) (b := 1) hqp (by rw [hg, Nat.mod_eq_of_lt (by omega)])
    rwa [Nat.mod_eq_of_lt hq] at this
  obtain ⟨n, hn0, hn, hdv, hlt⟩ := order q g (p - 1) hq (by omega) hgq
  have h1 := order_has hq hqp hr hm (by rw [hu, Nat.mod_eq_of_lt (by omega)]) (by omega) (hdv _ hgq) hn
  have h2 := Nat.le_of_dvd hn0 h1
  have : r * r ≤ q * q := Nat.mul_le_mul (by omega) (by omega)
  omega
/-- The same by two primes. -/
theorem pock2 {p r m u r' m' u' g : Nat} (hp : 2 ≤ p) (hr : IsPrime r) (hm : p - 1 = r * m) (hr' : IsPrime r') (hm' : p - 1 = r' * m') (hne : r ≠ r') (hg : g ^ (p - 1) % p = 1)
    (hu : (g ^ m + (p - 1)) * u % p = 1) (hu' : (g ^ m' + (p - 1)) * u' % p = 1) (hbig : p < (r * r') * (r * r')) : IsPrime p := by
  refine prime_of_no_small hp fun q hq hqp => ?_
  have hgq : g ^ (p - 1) % q = 1 := by
    have := mod_of_dvd_mod (a := g ^ (p - 1)) (b := 1) hqp (by rw [hg, Nat.mod_eq_of_lt (by omega)])
    rwa [Nat.mod_eq_of_lt hq] at this
  obtain ⟨n, hn0, hn, hdv, hlt⟩ := order q g (p - 1) hq (by omega) hgq
  have h1 := order_has hq hqp hr hm (by rw [hu, Nat.mod_eq_of_lt (by omega)]) (by omega) (hdv _ hgq) hn
  have h1' := order_has hq hqp hr' hm' (by rw [hu', Nat.mod_eq_of_lt (by omega)]) (by omega) (hdv _ hgq) hn
  have hc : Nat.Coprime r r' := by
    rcases hr.2 (Nat.gcd r r') (Nat.gcd_dvd_left _ _) with h | h
    · exact h
    · exfalso
      rcases hr'.2 r (by rw [← h]; exact Nat.gcd_dvd_right _ _) with h2 | h2
      · have := hr.1; omega
      · exact hne h2
  have h2 := Nat.le_of_dvd hn0 (hc.mul_dvd_of_dvd_of_dvd h1 h1')
  have : (r * r') * (r * r') ≤ q * q := Nat.mul_le_mul (by omega) (by omega)
  omega

/-- b^e modulo m, bit by bit. -/
def powmod (m : Nat) : Nat → Nat → Nat → Nat
  | 0, _, _ => 1 % m
  | f + 1, b, e => if e % 2 = 1 then b * powmod m f (b * b % m) (e / 2) % m else powmod m f (b * b % m) (e / 2)
theorem powmod_eq (m : Nat) : ∀ (f b e : Nat), e < 2 ^ f → powmod m f b e = b ^ e % m := by
  intro f
  induction f with
  | zero => intro b e h; have : e = 0 := by simpa using h
            subst this; simp [powmod]
  | succ f ih =>
    intro b e h
    have h2 : e / 2 < 2 ^ f := by rw [Nat.pow_succ] at h; omega
    simp only [powmod, ih _ _ h2]
    have e1 : b ^ e = b ^ (e % 2) * (b * b) ^ (e / 2) := by
      rw [← Nat.pow_two, ← Nat.pow_mul, ← Nat.pow_add, Nat.mod_add_div]
    rw [← Nat.pow_mod]
    by_cases hb : e % 2 = 1
    · rw [if_pos hb, e1, hb, Nat.pow_one, Nat.mul_mod_mod]
    · rw [if_neg hb, e1, show e % 2 = 0 by omega, Nat.pow_zero, Nat.one_mul]

def noDiv (n : Nat) : Nat → Bool
  | 0 => true
  | k + 1 => (n % (k + 2) != 0) && noDiv n k
theorem noDiv_spec (n : Nat) : ∀ k, noDiv n k = true → ∀ d, 2 ≤ d → d ≤ k + 1 → ¬ d ∣ n := by
  intro k
  induction k with
  | zero => intro _ d h1 h2; omega
  | succ k ih =>
    intro h d h1 h2 hd
    simp only [noDiv, Bool.and_eq_true, bne_iff_ne] at h
    by_cases he : d = k + 2
    · subst he; exact h.1 (Nat.mod_eq_zero_of_dvd hd)
    · exact ih h.2 d h1 (by omega) hd
theorem prime_small {n : Nat} (k : Nat) (hn : 2 ≤ n) (hk : n < (k + 2) * (k + 2)) (h : noDiv n k = true) : IsPrime n := by
  refine prime_of_no_small hn fun q hq hd => ?_
  refine Classical.byContradiction fun hle => ?_
  exact noDiv_spec n k h q hq (by
    refine Classical.byContradiction fun hgt => ?_
    have : (k + 2) * (k + 2) ≤ q * q := Nat.mul_le_mul (by omega) (by omega)
    omega) hd

theorem prime_a : IsPrime 221101 := prime_small 470 (by decide) (by decide) (by kernel_rfl)
theorem prime_b : IsPrime 37003 := prime_small 200 (by decide) (by decide) (by kernel_rfl)
theorem pmOne {p b e r : Nat} (f : Nat) (h1 : decide (e < 2 ^ f) = true) (h2 : (powmod p f b e == r) = true) : b ^ e % p = r := by
  rw [← powmod_eq p f b e (of_decide_eq_true h1)]
  exact beq_iff_eq.1 h2
theorem pmInv {p b e u : Nat} (f : Nat) (h1 : decide (e < 2 ^ f) = true) (h2 : ((powmod p f b e + (p - 1)) * u % p == 1) = true) : (b ^ e + (p - 1)) * u % p = 1 := by
  have h3 := beq_iff_eq.1 h2
  rw [powmod_eq p f b e (of_decide_eq_true h1)] at h3
  rw [Nat.mul_mod, Nat.mod_add_mod, ← Nat.mul_mod] at h3
  exact h3
theorem pock1' {p r m g u : Nat} (f : Nat) (hp : 2 ≤ p) (hr : IsPrime r) (hm : p - 1 = r * m) (hf : decide (p - 1 < 2 ^ f) = true) (hf' : decide (m < 2 ^ f) = true) (hg : (powmod p f g (p - 1) == 1) = true) (hu : ((powmod p f g m + (p - 1)) * u % p == 1) = true) (hbig : p < r * r) : IsPrime p :=
  pock1 hp hr hm (pmOne f hf hg) (pmInv f hf' hu) hbig
theorem pock2' {p r m u r' m' u' g : Nat} (f : Nat) (hp : 2 ≤ p) (hr : IsPrime r) (hm : p - 1 = r * m) (hr' : IsPrime r') (hm' : p - 1 = r' * m') (hne : r ≠ r') (hf : decide (p - 1 < 2 ^ f) = true) (hf1 : decide (m < 2 ^ f) = true) (hf2 : decide (m' < 2 ^ f) = true)
    (hg : (powmod p f g (p - 1) == 1) = true) (hu : ((powmod p f g m + (p - 1)) * u % p == 1) = true) (hu' : ((powmod p f g m' + (p - 1)) * u' % p == 1) = true) (hbig : p < (r * r') * (r * r')) : IsPrime p :=
  pock2 hp hr hm hr' hm' hne (pmOne f hf hg) (pmInv f hf1 hu) (pmInv f hf2 hu') hbig
/-- the prime 2^130 - 5 -/
def pp : Nat := 1361129467683753853853498429727072845819
theorem pp_eq : pp = 2 ^ 130 - 5 := by kernel_rfl
theorem prime_s : IsPrime 4024685905107147541 := pock2' 64 (r := 221101) (m := 18202929453540) (u := 1467464467400074184) (r' := 37003) (m' := 108766475829180) (u' := 1096848965921730071) (g := 2) (by decide) prime_a (by decide) prime_b (by decide) (by decide) (by kernel_rfl) (by kernel_rfl) (by kernel_rfl) (by kernel_rfl) (by kernel_rfl) (by kernel_rfl) (by decide)
theorem prime_r : IsPrime 897064739519922787230182993783 := pock1' 104 (r := 4024685905107147541) (m := 222890620702) (u := 779171088784275230984760184720) (g := 2) (by decide) prime_s (by decide) (by kernel_rfl) (by kernel_rfl) (by kernel_rfl) (by kernel_rfl) (by decide)
theorem prime_d : IsPrime 1361129467683753853853498429727072845819 := pock1' 132 (r := 897064739519922787230182993783) (m := 1517314646) (u := 15340630709746432533628977078564628162) (g := 2) (by decide) prime_r (by decide) (by kernel_rfl) (by kernel_rfl) (by kernel_rfl) (by kernel_rfl) (by decide)
theorem pp_prime : IsPrime pp := prime_d
/-- A factor that is not 0 can be told away. -/
theorem pp_cancel {a b c : Nat} (hc : c % pp ≠ 0) (h : a * c % pp = b * c % pp) : a % pp = b % pp := by
  have hcop : Nat.Coprime pp c := by
    rcases pp_prime.2 (Nat.gcd pp c) (Nat.gcd_dvd_left _ _) with h1 | h1
    · exact h1
    · exfalso
      apply hc
      exact Nat.mod_eq_zero_of_dvd (by rw [← h1]; exact Nat.gcd_dvd_right _ _)
  have key : ∀ a b, a ≤ b → a * c % pp = b * c % pp → a % pp = b % pp := by
    intro a b hab h
    have h1 : pp ∣ (b - a) * c := by
      rw [Nat.sub_mul]
      exact Nat.dvd_of_mod_eq_zero (Nat.sub_mod_eq_zero_of_mod_eq h.symm)
    have h2 : pp ∣ b - a := hcop.dvd_of_dvd_mul_right h1
    obtain ⟨k, hk⟩ := h2
    have h3 : b = a + pp * k := by omega
    rw [h3, Nat.add_mul_mod_self_left]
  rcases Nat.le_total a b with hab | hab
  · exact key a b hab h
  · exact (key b a hab h.symm).symm
end Go.Proofs.Ytehhipanbjhffaa
