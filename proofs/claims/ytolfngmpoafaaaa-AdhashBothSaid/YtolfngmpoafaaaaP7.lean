/- Plain laws of numbers modulo 2^130 - 5 in five parts of 26 bits: what carrying does, and what putting in form comes to. No program is spoken of. No condition. -/
import Derived.Test.YtolfngmpoafaaaaKA
namespace Go.Proofs.Ytolfngmpoafaaaa
set_option linter.unusedSimpArgs false
set_option linter.unusedVariables false
set_option linter.unusedSectionVars false
set_option linter.unusedVariables false

/-- The value of parts of 26 bits; the number in form. -/
def val (xs : List Nat) : Nat := undig 67108864 xs
def numOf (v : Nat) : List Nat := dig 67108864 5 (v % pp)

def cstep (s : Nat × List Nat) (k : Nat) : Nat × List Nat := ((s.2.getD k 0 + s.1) / 67108864, s.2.set k ((s.2.getD k 0 + s.1) % 67108864))
def carryN (xs : List Nat) : Nat → Nat × List Nat
  | 0 => (0, xs)
  | k+1 => cstep (carryN xs k) k
def carriedL (xs : List Nat) : List Nat := (carryN xs 5).2.set 0 ((carryN xs 5).2.getD 0 0 + 5 * (carryN xs 5).1)

theorem list5 {α : Type} {xs : List α} (h : xs.length = 5) : ∃ a b c d e, xs = [a, b, c, d, e] := by
  match xs, h with
  | [a, b, c, d, e], _ => exact ⟨a, b, c, d, e, rfl⟩

theorem carryN_len (xs : List Nat) (k : Nat) : (carryN xs k).2.length = xs.length := by
  induction k with
  | zero => rfl
  | succ k ih => simp [carryN, cstep, ih]
theorem carryN_bound (xs : List Nat) (B : Nat) (hB : B ≤ 2^60) (h26 : 67108864 ≤ B) (hb : ∀ x ∈ xs, x < B) (k : Nat) : (carryN xs k).1 < 2^35 ∧ ∀ x ∈ (carryN xs k).2, x < B := by
  induction k with
  | zero => exact ⟨by simp [carryN], hb⟩
  | succ k ih =>
    obtain ⟨h1, h2⟩ := ih
    have hv : (carryN xs k).2.getD k 0 < B := by
      by_cases h : k < (carryN xs k).2.length
      · rw [List.getD_eq_getElem?_getD, List.getElem?_eq_getElem h]
        exact h2 _ (List.getElem_mem h)
      · rw [List.getD_eq_getElem?_getD, List.getElem?_eq_none (by omega)]; show 0 < B; omega
    simp only [carryN, cstep]
    refine ⟨by omega, fun x hx => ?_⟩
    rcases List.mem_or_eq_of_mem_set hx with h | h
    · exact h2 x h
    · subst h; omega
theorem carriedL_len (xs : List Nat) : (carriedL xs).length = xs.length := by simp [carriedL, carryN_len]
theorem carriedL_bound {xs : List Nat} (hl : xs.length = 5) (hb : ∀ x ∈ xs, x < 2^60) : ∀ x ∈ carriedL xs, x < 2^60 := by
  obtain ⟨a, b, c, d, e, rfl⟩ := list5 hl
  intro x hx
  obtain ⟨h1, h2⟩ := carryN_bound [a, b, c, d, e] (2^60) (by omega) (by omega) hb 5
  unfold carriedL at hx
  rcases List.mem_or_eq_of_mem_set hx with h | h
  · exact h2 x h
  · subst h
    have : (carryN [a, b, c, d, e] 5).2.getD 0 0 = a % 67108864 := by simp [carryN, cstep]
    rw [this]; omega

def car5 (a b c d e : Nat) : List Nat :=
  [a % 67108864 + 5 * ((e + (d + (c + (b + a / 67108864) / 67108864) / 67108864) / 67108864) / 67108864), (b + a / 67108864) % 67108864, (c + (b + a / 67108864) / 67108864) % 67108864,
    (d + (c + (b + a / 67108864) / 67108864) / 67108864) % 67108864, (e + (d + (c + (b + a / 67108864) / 67108864) / 67108864) / 67108864) % 67108864]
theorem carriedL_eq (a b c d e : Nat) : carriedL [a, b, c, d, e] = car5 a b c d e := by simp [carriedL, carryN, cstep, car5]
/-- What is carried out at the top. -/
def car (a b c d e : Nat) : Nat := (e + (d + (c + (b + a / 67108864) / 67108864) / 67108864) / 67108864) / 67108864
theorem car5_val (a b c d e : Nat) : val (car5 a b c d e) + car a b c d e * pp = val [a, b, c, d, e] := by
  simp only [val, undig, car5, car, pp]
  omega
theorem val_pos_car {a b c d e : Nat} (h : car a b c d e ≠ 0) : val (car5 a b c d e) < val [a, b, c, d, e] := by
  have := car5_val a b c d e
  have h2 : 0 < car a b c d e * pp := Nat.mul_pos (Nat.pos_of_ne_zero h) (by decide)
  omega
theorem car_zero {a b c d e : Nat} (h : car a b c d e = 0) : ∀ x ∈ car5 a b c d e, x < 67108864 := by
  intro x hx
  unfold car at h
  simp only [car5, h, List.mem_cons, List.not_mem_nil, or_false] at hx
  rcases hx with rfl | rfl | rfl | rfl | rfl <;> omega
theorem carried_same {a b c d e : Nat} (h : ∀ x ∈ [a, b, c, d, e], x < 67108864) : car5 a b c d e = [a, b, c, d, e] := by
  have ha := h a (by simp)
  have hb := h b (by simp)
  have hc := h c (by simp)
  have hd := h d (by simp)
  have he := h e (by simp)
  have e1 : a / 67108864 = 0 := by omega
  have e2 : b / 67108864 = 0 := by omega
  have e3 : c / 67108864 = 0 := by omega
  have e4 : d / 67108864 = 0 := by omega
  have e5 : e / 67108864 = 0 := by omega
  simp only [car5, e1, e2, e3, e4, e5, Nat.add_zero]
  rw [Nat.mod_eq_of_lt ha, Nat.mod_eq_of_lt hb, Nat.mod_eq_of_lt hc, Nat.mod_eq_of_lt hd, Nat.mod_eq_of_lt he, Nat.mul_zero, Nat.add_zero]

/-- Of parts that carrying does not change all are below 2^26. -/
theorem fixed_small {xs : List Nat} (hl : xs.length = 5) (h : carriedL xs = xs) : ∀ x ∈ xs, x < 67108864 := by
  obtain ⟨a, b, c, d, e, rfl⟩ := list5 hl
  rw [carriedL_eq] at h
  have h0 : car a b c d e = 0 := by
    refine Classical.byContradiction fun hn => ?_
    have := val_pos_car hn
    rw [h] at this
    exact absurd this (Nat.lt_irrefl _)
  have := car_zero h0
  rwa [h] at this
/-- A measure of what is left to carry. -/
def left (xs : List Nat) : Nat := 2 * val xs + if carriedL xs = xs then 0 else 1
theorem left_lt {xs : List Nat} (hl : xs.length = 5) (h : carriedL xs ≠ xs) : left (carriedL xs) < left xs := by
  obtain ⟨a, b, c, d, e, rfl⟩ := list5 hl
  unfold left
  rw [if_neg h]
  by_cases h0 : car a b c d e = 0
  · have h1 := car_zero h0
    have h2 : carriedL (carriedL [a, b, c, d, e]) = carriedL [a, b, c, d, e] := by
      rw [carriedL_eq] at *
      generalize hcs : car5 a b c d e = cs at *
      obtain ⟨a', b', c', d', e', rfl⟩ : ∃ a b c d e, cs = [a, b, c, d, e] := list5 (by rw [← hcs]; rfl)
      rw [carriedL_eq, carried_same h1]
    rw [if_pos h2, carriedL_eq]
    have h3 := car5_val a b c d e
    rw [h0] at h3
    omega
  · rw [carriedL_eq]
    have h3 := val_pos_car h0
    split <;> omega
theorem carriedL_mod {xs : List Nat} (hl : xs.length = 5) : val (carriedL xs) % pp = val xs % pp := by
  obtain ⟨a, b, c, d, e, rfl⟩ := list5 hl
  rw [carriedL_eq, ← car5_val a b c d e, Nat.add_mul_mod_self_right]

theorem numOf_big {x : Nat} (h : ∀ y ∈ [x, 67108863, 67108863, 67108863, 67108863], y < 67108864) (hx : 67108858 < x) : numOf (val [x, 67108863, 67108863, 67108863, 67108863]) = [x - 67108859, 0, 0, 0, 0] := by
  have h0 := h x (by simp)
  have hv : val [x, 67108863, 67108863, 67108863, 67108863] % pp = x - 67108859 := by
    simp only [val, undig, pp]
    omega
  unfold numOf
  rw [hv]
  have e1 : (x - 67108859) / 67108864 = 0 := by omega
  simp only [dig, e1, Nat.zero_div, Nat.zero_mod]
  rw [Nat.mod_eq_of_lt (by omega)]
theorem numOf_small {xs : List Nat} (hl : xs.length = 5) (h : ∀ y ∈ xs, y < 67108864) (hn : ¬ (xs.drop 1 = [67108863, 67108863, 67108863, 67108863] ∧ 67108858 < xs.getD 0 0)) : numOf (val xs) = xs := by
  have hd := dig_undig 67108864 xs h
  rw [hl] at hd
  have hv : val xs < pp := by
    obtain ⟨a, b, c, d, e, rfl⟩ := list5 hl
    have ha := h a (by simp)
    have hb := h b (by simp)
    have hc := h c (by simp)
    have hd' := h d (by simp)
    have he := h e (by simp)
    simp only [List.drop_succ_cons, List.drop_zero, List.cons.injEq, and_true, List.getD_cons_zero] at hn
    simp only [val, undig, pp]
    omega
  unfold numOf
  rw [Nat.mod_eq_of_lt hv]
  exact hd
theorem numOf_len (v : Nat) : (numOf v).length = 5 := by simp [numOf]
theorem numOf_lt (v : Nat) : ∀ x ∈ numOf v, x < 67108864 := dig_lt (by omega) _ _
def addN (xs ys : List Nat) : Nat → List Nat
  | 0 => xs
  | k + 1 => (addN xs ys k).set k ((addN xs ys k).getD k 0 + ys.getD k 0)
theorem addN_succ (xs ys : List Nat) (k : Nat) : addN xs ys (k + 1) = (addN xs ys k).set k ((addN xs ys k).getD k 0 + ys.getD k 0) := rfl
theorem addN_len (xs ys : List Nat) (k : Nat) : (addN xs ys k).length = xs.length := by
  induction k with
  | zero => rfl
  | succ k ih => simp [addN, ih]
theorem addN_get (xs ys : List Nat) (k i : Nat) (h : k ≤ i) : (addN xs ys k).getD i 0 = xs.getD i 0 := by
  induction k with
  | zero => rfl
  | succ k ih =>
    rw [addN_succ, List.getD_eq_getElem?_getD, List.getElem?_set_ne (by omega), ← List.getD_eq_getElem?_getD, ih (by omega)]
theorem gD_bound {xs : List Nat} {B : Nat} (hb : ∀ x ∈ xs, x < B) (hB : 0 < B) (i : Nat) : xs.getD i 0 < B := by
  rw [List.getD_eq_getElem?_getD]
  by_cases h : i < xs.length
  · rw [List.getElem?_eq_getElem h]; exact hb _ (List.getElem_mem h)
  · rw [List.getElem?_eq_none (by omega)]; exact hB
theorem addN_lt {xs ys : List Nat} (_hl : xs.length = 5) (hx : ∀ x ∈ xs, x < 2^32) (hy : ∀ x ∈ ys, x < 2^32) (k : Nat) : ∀ x ∈ addN xs ys k, x < 2^33 := by
  induction k with
  | zero => intro x h; exact Nat.lt_trans (hx x h) (by omega)
  | succ k ih =>
    intro x h
    rw [addN_succ] at h
    rcases List.mem_or_eq_of_mem_set h with h | rfl
    · exact ih x h
    · rw [addN_get _ _ _ _ (Nat.le_refl _)]
      have h1 := gD_bound hx (by omega) k
      have h2 := gD_bound hy (by omega) k
      omega
theorem addN_val {xs ys : List Nat} (hl : xs.length = 5) (hl' : ys.length = 5) : val (addN xs ys 5) = val xs + val ys := by
  obtain ⟨a, b, c, d, e, rfl⟩ := list5 hl
  obtain ⟨a', b', c', d', e', rfl⟩ := list5 hl'
  simp [addN, val, undig]
  omega
theorem pp_pos : 0 < pp := by decide
theorem pp_lt : pp < 67108864 ^ 5 := by decide
theorem val_numOf (v : Nat) : val (numOf v) = v % pp := by
  unfold val numOf
  rw [undig_dig, Nat.mod_eq_of_lt (Nat.lt_trans (Nat.mod_lt _ pp_pos) pp_lt)]
theorem numOf_mod (v : Nat) : numOf (v % pp) = numOf v := by simp [numOf]
theorem numOf_congr {u v : Nat} (h : u % pp = v % pp) : numOf u = numOf v := by simp [numOf, h]
theorem numOf_inj {u v : Nat} (h : numOf u = numOf v) : u % pp = v % pp :=
  dig_inj 5 (Nat.lt_trans (Nat.mod_lt _ pp_pos) pp_lt) (Nat.lt_trans (Nat.mod_lt _ pp_pos) pp_lt) h
theorem numOf_iff {u v : Nat} : numOf u = numOf v ↔ u % pp = v % pp := ⟨numOf_inj, numOf_congr⟩
def mulStep (as bs l : List Nat) (i j : Nat) : List Nat := l.set ((i + j) % 5) (l.getD ((i + j) % 5) 0 + as.getD i 0 * bs.getD j 0 * (if 5 ≤ i + j then 5 else 1))
def mulS (as bs : List Nat) : Nat → List Nat
  | 0 => List.replicate 5 0
  | c + 1 => mulStep as bs (mulS as bs c) (c / 5) (c % 5)
theorem mulS_len (as bs : List Nat) (c : Nat) : (mulS as bs c).length = 5 := by
  induction c with
  | zero => rfl
  | succ c ih => simp [mulS, mulStep, ih]
theorem mulS_succ (as bs : List Nat) (i j : Nat) (hj : j < 5) : mulS as bs (5 * i + (j + 1)) = (mulS as bs (5 * i + j)).set ((i + j) % 5) ((mulS as bs (5 * i + j)).getD ((i + j) % 5) 0 + as.getD i 0 * bs.getD j 0 * (if 5 ≤ i + j then 5 else 1)) := by
  rw [show 5 * i + (j + 1) = (5 * i + j) + 1 by omega]
  simp only [mulS]
  rw [show (5 * i + j) / 5 = i by omega, show (5 * i + j) % 5 = j by omega]
  rfl
set_option maxRecDepth 20000 in
theorem mulS_le {as bs : List Nat} (ha : ∀ x ∈ as, x < 67108864) (hb : ∀ x ∈ bs, x < 67108864) (c : Nat) : ∀ x ∈ mulS as bs c, x ≤ c * 22517998136852480 := by
  induction c with
  | zero => intro x hx; simp [mulS] at hx; omega
  | succ c ih =>
    intro x hx
    simp only [mulS, mulStep] at hx
    rcases List.mem_or_eq_of_mem_set hx with h | h
    · exact Nat.le_trans (ih x h) (Nat.mul_le_mul_right _ (Nat.le_succ c))
    · subst h
      have h1 : (mulS as bs c).getD ((c / 5 + c % 5) % 5) 0 ≤ c * 22517998136852480 := by
        rw [List.getD_eq_getElem?_getD]
        by_cases h : (c / 5 + c % 5) % 5 < (mulS as bs c).length
        · rw [List.getElem?_eq_getElem h]; exact ih _ (List.getElem_mem h)
        · rw [List.getElem?_eq_none (by omega)]; exact Nat.zero_le _
      have h2 := gD_bound ha (by omega) (c / 5)
      have h3 := gD_bound hb (by omega) (c % 5)
      have h4 : as.getD (c / 5) 0 * bs.getD (c % 5) 0 ≤ 4503599627370496 := Nat.le_trans (Nat.mul_le_mul (Nat.le_of_lt h2) (Nat.le_of_lt h3)) (by omega)
      generalize as.getD (c / 5) 0 * bs.getD (c % 5) 0 = q at *
      generalize (mulS as bs c).getD ((c / 5 + c % 5) % 5) 0 = r at *
      split <;> omega
theorem mulS_lt' {as bs : List Nat} (ha : ∀ x ∈ as, x < 67108864) (hb : ∀ x ∈ bs, x < 67108864) (c : Nat) (hc : c ≤ 25) : ∀ x ∈ mulS as bs c, x < 576460752303423488 := fun x hx => by
  have := mulS_le ha hb c x hx
  omega
theorem undig_set (b : Nat) : ∀ (l : List Nat) (p x : Nat), p < l.length → undig b (l.set p (l.getD p 0 + x)) = undig b l + x * b ^ p
  | [], p, x, h => by simp at h
  | y :: l, 0, x, _ => by simp only [List.set_cons_zero, List.getD_cons_zero, undig, Nat.pow_zero]; omega
  | y :: l, p + 1, x, h => by
    simp only [List.set_cons_succ, List.getD_cons_succ, undig]
    rw [undig_set b l p x (by simpa using h), Nat.pow_succ', Nat.mul_add]
    have : b * (x * b ^ p) = x * (b * b ^ p) := Nat.mul_left_comm _ _ _
    omega
def sumS (as bs : List Nat) : Nat → Nat
  | 0 => 0
  | c + 1 => sumS as bs c + as.getD (c / 5) 0 * bs.getD (c % 5) 0 * 67108864 ^ (c / 5 + c % 5)
theorem pow5 (p : Nat) : 67108864 ^ (5 + p) % pp = 5 * 67108864 ^ p % pp := by
  rw [Nat.pow_add, Nat.mul_mod, show 67108864 ^ 5 % pp = 5 from by decide, Nat.mul_mod_mod]
theorem mulS_sum (as bs : List Nat) (c : Nat) (hc : c ≤ 25) : val (mulS as bs c) % pp = sumS as bs c % pp := by
  induction c with
  | zero => rfl
  | succ c ih =>
    have ih := ih (by omega)
    simp only [mulS, mulStep, sumS]
    unfold val at *
    rw [undig_set _ _ _ _ (by rw [mulS_len]; omega), Nat.add_mod, ih]
    conv => rhs; rw [Nat.add_mod]
    congr 2
    generalize as.getD (c / 5) 0 * bs.getD (c % 5) 0 = q
    by_cases h : 5 ≤ c / 5 + c % 5
    · rw [if_pos h, Nat.mul_assoc, Nat.mul_mod]
      have e : c / 5 + c % 5 = 5 + (c / 5 + c % 5) % 5 := by omega
      conv => rhs; rw [e, Nat.mul_mod, pow5]
    · rw [if_neg h, Nat.mul_one, Nat.mod_eq_of_lt (show c / 5 + c % 5 < 5 by omega)]
theorem sumS_row (as : List Nat) (b0 b1 b2 b3 b4 i : Nat) : sumS as [b0, b1, b2, b3, b4] (5 * i + 5) = sumS as [b0, b1, b2, b3, b4] (5 * i) + as.getD i 0 * 67108864 ^ i * val [b0, b1, b2, b3, b4] := by
  have e : ∀ j, j < 5 → sumS as [b0, b1, b2, b3, b4] (5 * i + (j + 1)) = sumS as [b0, b1, b2, b3, b4] (5 * i + j) + as.getD i 0 * 67108864 ^ i * ([b0, b1, b2, b3, b4].getD j 0 * 67108864 ^ j) := by
    intro j hj
    rw [show 5 * i + (j + 1) = (5 * i + j) + 1 by omega]
    simp only [sumS]
    rw [show (5 * i + j) / 5 = i by omega, show (5 * i + j) % 5 = j by omega, Nat.pow_add]
    congr 1
    generalize as.getD i 0 = x
    generalize [b0, b1, b2, b3, b4].getD j 0 = y
    rw [Nat.mul_assoc, Nat.mul_assoc]
    congr 1
    rw [← Nat.mul_assoc, ← Nat.mul_assoc]
    congr 1
    exact Nat.mul_comm _ _
  have e0 := e 0 (by omega)
  have e1 := e 1 (by omega)
  have e2 := e 2 (by omega)
  have e3 := e 3 (by omega)
  have e4 := e 4 (by omega)
  rw [show 5 * i + 5 = 5 * i + (4 + 1) by omega, e4, e3, e2, e1, e0]
  simp only [List.getD_cons_zero, List.getD_cons_succ, Nat.add_zero]
  generalize as.getD i 0 * 67108864 ^ i = x
  have ev : val [b0, b1, b2, b3, b4] = b0 * 67108864 ^ 0 + (b1 * 67108864 ^ 1 + (b2 * 67108864 ^ 2 + (b3 * 67108864 ^ 3 + b4 * 67108864 ^ 4))) := by
    simp only [val, undig]; omega
  rw [ev, Nat.mul_add, Nat.mul_add, Nat.mul_add, Nat.mul_add]
  omega
theorem mulS_val {as bs : List Nat} (ha : as.length = 5) (hb : bs.length = 5) : val (mulS as bs 25) % pp = val as * val bs % pp := by
  rw [mulS_sum _ _ _ (by omega)]
  obtain ⟨b0, b1, b2, b3, b4, rfl⟩ := list5 hb
  have r0 := sumS_row as b0 b1 b2 b3 b4 0
  have r1 := sumS_row as b0 b1 b2 b3 b4 1
  have r2 := sumS_row as b0 b1 b2 b3 b4 2
  have r3 := sumS_row as b0 b1 b2 b3 b4 3
  have r4 := sumS_row as b0 b1 b2 b3 b4 4
  simp only [Nat.mul_zero, Nat.zero_add, Nat.mul_one, Nat.reduceMul, Nat.reduceAdd] at r0 r1 r2 r3 r4
  rw [r4, r3, r2, r1, r0]
  obtain ⟨a0, a1, a2, a3, a4, rfl⟩ := list5 ha
  simp only [List.getD_cons_zero, List.getD_cons_succ, sumS]
  congr 1
  have ev : val [a0, a1, a2, a3, a4] = a0 * 67108864 ^ 0 + (a1 * 67108864 ^ 1 + (a2 * 67108864 ^ 2 + (a3 * 67108864 ^ 3 + a4 * 67108864 ^ 4))) := by
    simp only [val, undig]; omega
  rw [ev, Nat.add_mul, Nat.add_mul, Nat.add_mul, Nat.add_mul]
  omega
theorem mulS_mod (u v : Nat) : numOf (val (mulS (numOf u) (numOf v) 25)) = numOf (u * v) := by
  refine numOf_congr ?_
  rw [mulS_val (by simp [numOf]) (by simp [numOf])]
  have e : ∀ x, val (numOf x) % pp = x % pp := fun x => by
    unfold val numOf
    rw [undig_dig, Nat.mod_eq_of_lt (Nat.lt_trans (Nat.mod_lt _ (by decide)) (by decide : pp < 67108864 ^ 5)), Nat.mod_mod]
  rw [Nat.mul_mod, e, e, ← Nat.mul_mod]
end Go.Proofs.Ytolfngmpoafaaaa
