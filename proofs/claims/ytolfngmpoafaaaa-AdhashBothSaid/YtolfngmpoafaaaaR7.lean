/- Plain laws of numbers in bytes: comparing, subtracting, doubling, dividing bit by bit. No program is spoken of. No condition. -/
import Derived.Test.YtolfngmpoafaaaaP7
namespace Go.Proofs.Ytolfngmpoafaaaa
set_option linter.unusedSimpArgs false
set_option linter.unusedVariables false
set_option linter.unusedSectionVars false
set_option linter.unusedVariables false
/-- A number in bytes, the lowest first; a rest in seventeen bytes. -/
def le (xs : List Nat) : Nat := undig 256 xs
def restOf (v : Nat) : List Nat := dig 256 17 v
theorem restOf_len (v : Nat) : (restOf v).length = 17 := by simp [restOf]
theorem restOf_lt (v : Nat) : ∀ x ∈ restOf v, x < 256 := dig_lt (by omega) _ _
theorem le_restOf {v : Nat} (h : v < 256 ^ 17) : le (restOf v) = v := by
  unfold le restOf
  rw [undig_dig, Nat.mod_eq_of_lt h]
theorem restOf_le {xs : List Nat} (hl : xs.length = 17) (h : ∀ x ∈ xs, x < 256) : restOf (le xs) = xs := by
  have := dig_undig 256 xs h
  rw [hl] at this
  exact this
theorem le_lt {xs : List Nat} {n : Nat} (hl : xs.length = n) (h : ∀ x ∈ xs, x < 256) : le xs < 256 ^ n := by
  rw [← hl]; exact undig_lt xs h
theorem pp_lt17 : pp < 256 ^ 17 := by decide
theorem undig_split (b : Nat) (xs : List Nat) (i : Nat) (hi : i < xs.length) : undig b xs = undig b (xs.take i) + b ^ i * (xs.getD i 0 + b * undig b (xs.drop (i + 1))) := by
  have h1 := undig_append b (xs.take i) (xs.drop i)
  rw [List.take_append_drop, List.length_take, Nat.min_eq_left (by omega)] at h1
  rw [h1]
  have h2 : xs.drop i = xs.getD i 0 :: xs.drop (i + 1) := by
    rw [List.getD_eq_getElem?_getD, List.getElem?_eq_getElem hi]
    exact List.drop_eq_getElem_cons hi
  rw [h2]; rfl
theorem drop_eq_of {xs ys : List Nat} {i : Nat} (hl : xs.length = ys.length) (h : ∀ j, i ≤ j → j < xs.length → xs.getD j 0 = ys.getD j 0) : xs.drop i = ys.drop i := by
  apply List.ext_getElem? fun j => ?_
  rw [List.getElem?_drop, List.getElem?_drop]
  by_cases hj : i + j < xs.length
  · have := h (i + j) (by omega) hj
    rw [List.getD_eq_getElem?_getD, List.getD_eq_getElem?_getD, List.getElem?_eq_getElem hj, List.getElem?_eq_getElem (hl ▸ hj)] at this
    rw [List.getElem?_eq_getElem hj, List.getElem?_eq_getElem (hl ▸ hj)]
    exact congrArg some this
  · rw [List.getElem?_eq_none (by omega), List.getElem?_eq_none (by omega)]
theorem undig_cmp {b : Nat} {xs ys : List Nat} {i : Nat} (hl : xs.length = ys.length) (hi : i < xs.length) (hx : ∀ x ∈ xs, x < b) (hy : ∀ x ∈ ys, x < b)
    (h : ∀ j, i + 1 ≤ j → j < xs.length → xs.getD j 0 = ys.getD j 0) (hlt : xs.getD i 0 < ys.getD i 0) : undig b xs < undig b ys := by
  rw [undig_split b xs i hi, undig_split b ys i (hl ▸ hi), drop_eq_of hl h]
  have h1 := undig_lt (b := b) (xs.take i) fun x hx' => hx x (List.mem_of_mem_take hx')
  rw [List.length_take, Nat.min_eq_left (by omega)] at h1
  generalize undig b (ys.drop (i + 1)) = q
  have h2 : b ^ i * (xs.getD i 0 + b * q) + b ^ i ≤ b ^ i * (ys.getD i 0 + b * q) := by
    rw [← Nat.mul_succ]
    exact Nat.mul_le_mul_left _ (by omega)
  omega
/-- What 'less' tells at the first place (from above) at which the two part. -/
theorem less_at {xs ys : List Nat} {i : Nat} (hl : xs.length = ys.length) (hi : i < xs.length) (hx : ∀ x ∈ xs, x < 256) (hy : ∀ x ∈ ys, x < 256)
    (h : ∀ j, i + 1 ≤ j → j < xs.length → xs.getD j 0 = ys.getD j 0) (hne : xs.getD i 0 ≠ ys.getD i 0) : decide (xs.getD i 0 < ys.getD i 0) = decide (le xs < le ys) := by
  rw [decide_eq_decide]
  constructor
  · exact undig_cmp hl hi hx hy h
  · intro hlt
    refine Classical.byContradiction fun hn => ?_
    have := undig_cmp (xs := ys) (ys := xs) hl.symm (hl ▸ hi) hy hx (fun j h1 h2 => (h j h1 (hl ▸ h2)).symm) (by omega)
    exact absurd this (Nat.not_lt.2 (Nat.le_of_lt hlt))
theorem less_same {xs ys : List Nat} (hl : xs.length = ys.length) (h : ∀ j, 0 ≤ j → j < xs.length → xs.getD j 0 = ys.getD j 0) : decide (le xs < le ys) = false := by
  have := drop_eq_of (i := 0) hl h
  simp at this
  subst this
  simp
/-! subtracting, byte by byte: (borrow, bytes) behind k bytes -/
def subN (xs ys : List Nat) : Nat → Nat × List Nat
  | 0 => (0, xs)
  | k + 1 => (1 - (256 + xs.getD k 0 - ys.getD k 0 - (subN xs ys k).1) / 256, (subN xs ys k).2.set k ((256 + xs.getD k 0 - ys.getD k 0 - (subN xs ys k).1) % 256))
theorem subN_spec {xs ys : List Nat} (hl : xs.length = ys.length) (hx : ∀ x ∈ xs, x < 256) (hy : ∀ x ∈ ys, x < 256) (k : Nat) (hk : k ≤ xs.length) :
    (subN xs ys k).2.length = xs.length ∧ (subN xs ys k).1 ≤ 1 ∧ (∀ j, k ≤ j → (subN xs ys k).2.getD j 0 = xs.getD j 0) ∧ (∀ x ∈ (subN xs ys k).2, x < 256) ∧
      undig 256 ((subN xs ys k).2.take k) + undig 256 (ys.take k) = undig 256 (xs.take k) + 256 ^ k * (subN xs ys k).1 := by
  induction k with
  | zero => exact ⟨rfl, by simp [subN], fun _ _ => rfl, hx, by simp [undig, subN]⟩
  | succ k ih =>
    obtain ⟨h1, h2, h3, h4, h5⟩ := ih (by omega)
    have hxk := gD_bound hx (by omega) k
    have hyk := gD_bound hy (by omega) k
    have tk : ∀ l : List Nat, k < l.length → undig 256 (l.take (k + 1)) = undig 256 (l.take k) + 256 ^ k * l.getD k 0 := by
      intro l hlk
      rw [List.take_add_one, undig_append, List.length_take, Nat.min_eq_left (by omega), List.getD_eq_getElem?_getD, List.getElem?_eq_getElem hlk]
      simp [undig]
    simp only [subN]
    generalize hb : (subN xs ys k).1 = bo at *
    generalize hs : (subN xs ys k).2 = s at *
    refine ⟨by simpa using h1, by omega, fun j hj => ?_, fun x hxm => ?_, ?_⟩
    · rw [List.getD_eq_getElem?_getD, List.getElem?_set_ne (by omega), ← List.getD_eq_getElem?_getD]; exact h3 j (by omega)
    · rcases List.mem_or_eq_of_mem_set hxm with h | h
      · exact h4 x h
      · omega
    · rw [tk _ (by simp; omega), tk ys (by omega), tk xs (by omega)]
      rw [List.take_set, List.set_eq_of_length_le (by simp; omega)]
      rw [List.getD_eq_getElem?_getD, List.getElem?_set_self (by omega)]
      simp only [Option.getD_some]
      rw [Nat.pow_succ]
      generalize undig 256 (s.take k) = A at *
      generalize undig 256 (ys.take k) = B at *
      generalize undig 256 (xs.take k) = C at *
      generalize xs.getD k 0 = x at *
      generalize ys.getD k 0 = y at *
      have e : (256 + x - y - bo) % 256 + y + bo = x + 256 * (1 - (256 + x - y - bo) / 256) := by omega
      generalize (256 + x - y - bo) % 256 = r at *
      generalize 1 - (256 + x - y - bo) / 256 = q at *
      have e2 : 256 ^ k * (r + y + bo) = 256 ^ k * (x + 256 * q) := by rw [e]
      rw [Nat.mul_add, Nat.mul_add, Nat.mul_add, ← Nat.mul_assoc (256 ^ k) 256 q] at e2
      omega
theorem subN_rest {xs ys : List Nat} (hlx : xs.length = 17) (hly : ys.length = 17) (hx : ∀ x ∈ xs, x < 256) (hy : ∀ x ∈ ys, x < 256) (hle : le ys ≤ le xs) : (subN xs ys 17).2 = restOf (le xs - le ys) := by
  obtain ⟨h1, h2, -, h4, h5⟩ := subN_spec (hlx.trans hly.symm) hx hy 17 (by omega)
  rw [List.take_of_length_le (by omega), List.take_of_length_le (by omega), List.take_of_length_le (by omega)] at h5
  have hb : (subN xs ys 17).1 = 0 := by
    refine Classical.byContradiction fun hn => ?_
    have h6 : (subN xs ys 17).1 = 1 := by omega
    rw [h6] at h5
    have h7 := undig_lt _ h4
    rw [h1, hlx] at h7
    unfold le at hle
    omega
  rw [hb, Nat.mul_zero, Nat.add_zero] at h5
  have h8 := restOf_le (xs := (subN xs ys 17).2) (h1.trans hlx) h4
  rw [← h8]
  refine congrArg restOf ?_
  unfold le at *
  generalize undig 256 (subN xs ys 17).2 = A at *
  generalize undig 256 xs = X at *
  generalize undig 256 ys = Y at *
  omega
/-! doubling, byte by byte -/
def dblN (xs : List Nat) (c : Nat) : Nat → Nat × List Nat
  | 0 => (c, xs)
  | k + 1 => ((2 * xs.getD k 0 + (dblN xs c k).1) / 256, (dblN xs c k).2.set k ((2 * xs.getD k 0 + (dblN xs c k).1) % 256))
theorem dblN_spec {xs : List Nat} (hx : ∀ x ∈ xs, x < 256) {c : Nat} (hc : c ≤ 1) (k : Nat) (hk : k ≤ xs.length) :
    (dblN xs c k).2.length = xs.length ∧ (dblN xs c k).1 ≤ 1 ∧ (∀ j, k ≤ j → (dblN xs c k).2.getD j 0 = xs.getD j 0) ∧ (∀ x ∈ (dblN xs c k).2, x < 256) ∧
      undig 256 ((dblN xs c k).2.take k) + 256 ^ k * (dblN xs c k).1 = 2 * undig 256 (xs.take k) + c := by
  induction k with
  | zero => exact ⟨rfl, hc, fun _ _ => rfl, hx, by simp [undig, dblN]⟩
  | succ k ih =>
    obtain ⟨h1, h2, h3, h4, h5⟩ := ih (by omega)
    have hxk := gD_bound hx (by omega) k
    have tk : ∀ l : List Nat, k < l.length → undig 256 (l.take (k + 1)) = undig 256 (l.take k) + 256 ^ k * l.getD k 0 := by
      intro l hlk
      rw [List.take_add_one, undig_append, List.length_take, Nat.min_eq_left (by omega), List.getD_eq_getElem?_getD, List.getElem?_eq_getElem hlk]
      simp [undig]
    simp only [dblN]
    generalize hb : (dblN xs c k).1 = bo at *
    generalize hs : (dblN xs c k).2 = s at *
    refine ⟨by simpa using h1, by omega, fun j hj => ?_, fun x hxm => ?_, ?_⟩
    · rw [List.getD_eq_getElem?_getD, List.getElem?_set_ne (by omega), ← List.getD_eq_getElem?_getD]; exact h3 j (by omega)
    · rcases List.mem_or_eq_of_mem_set hxm with h | h
      · exact h4 x h
      · omega
    · rw [tk _ (by simp; omega), tk xs (by omega)]
      rw [List.take_set, List.set_eq_of_length_le (by simp; omega)]
      rw [List.getD_eq_getElem?_getD, List.getElem?_set_self (by omega)]
      simp only [Option.getD_some]
      rw [Nat.pow_succ]
      generalize undig 256 (s.take k) = A at *
      generalize undig 256 (xs.take k) = C at *
      generalize xs.getD k 0 = x at *
      have e : (2 * x + bo) % 256 + 256 * ((2 * x + bo) / 256) = 2 * x + bo := Nat.mod_add_div _ _
      generalize (2 * x + bo) % 256 = r at *
      generalize (2 * x + bo) / 256 = q at *
      have e2 : 256 ^ k * (r + 256 * q) = 256 ^ k * (2 * x + bo) := by rw [e]
      rw [Nat.mul_add, Nat.mul_add, ← Nat.mul_assoc (256 ^ k) 256 q, Nat.mul_left_comm] at e2
      omega
theorem dblN_rest {v c : Nat} (hv : v < pp) (hc : c ≤ 1) : (dblN (restOf v) c 17).2 = restOf (2 * v + c) := by
  obtain ⟨h1, h2, -, h4, h5⟩ := dblN_spec (restOf_lt v) hc 17 (by simp [restOf])
  rw [List.take_of_length_le (by rw [h1, restOf_len]; omega), List.take_of_length_le (by rw [restOf_len]; omega)] at h5
  have e := le_restOf (Nat.lt_trans hv pp_lt17)
  unfold le at e
  rw [e] at h5
  have h7 := undig_lt _ h4
  rw [h1, restOf_len] at h7
  have hb : (dblN (restOf v) c 17).1 = 0 := by
    refine Classical.byContradiction fun hn => ?_
    have h6 : (dblN (restOf v) c 17).1 = 1 := by omega
    rw [h6] at h5
    unfold pp at hv
    omega
  rw [hb, Nat.mul_zero, Nat.add_zero] at h5
  have h8 := restOf_le (xs := (dblN (restOf v) c 17).2) (h1.trans (restOf_len v)) h4
  rw [← h8]
  exact congrArg restOf h5
/-! dividing, bit by bit from the highest one: k bits of the bytes are left to be taken -/
theorem bit_step (n k : Nat) : n / 2 ^ k = 2 * (n / 2 ^ (k + 1)) + n / 2 ^ k % 2 := by
  rw [Nat.pow_succ, ← Nat.div_div_eq_div_mul]
  omega
theorem mod_step (q c : Nat) : (2 * q + c) % pp = (2 * (q % pp) + c) % pp := by
  unfold pp; omega
theorem sub_step {v c : Nat} (hv : v < pp) (hc : c ≤ 1) (h : pp ≤ 2 * v + c) : (2 * v + c) % pp = 2 * v + c - pp := by
  rw [Nat.mod_eq_sub_mod h, Nat.mod_eq_of_lt (by omega)]
theorem byte_bit (xs : List Nat) (hx : ∀ x ∈ xs, x < 256) (i k : Nat) (hk : k < 8) (hi : i < xs.length) : le xs / 2 ^ (8 * i + k) % 2 = xs.getD i 0 / 2 ^ k % 2 := by
  unfold le
  rw [undig_split 256 xs i hi, Nat.pow_add, Nat.pow_mul, show 2 ^ 8 = 256 from rfl, ← Nat.div_div_eq_div_mul]
  have h1 := undig_lt (b := 256) (xs.take i) fun x hx' => hx x (List.mem_of_mem_take hx')
  rw [List.length_take, Nat.min_eq_left (by omega)] at h1
  rw [Nat.add_mul_div_left _ _ (Nat.pow_pos (by omega)), Nat.div_eq_of_lt h1, Nat.zero_add]
  have hxi := gD_bound hx (by omega) i
  generalize xs.getD i 0 = x at *
  generalize undig 256 (xs.drop (i + 1)) = q
  match k, hk with
  | 0, _ => omega
  | 1, _ => omega
  | 2, _ => omega
  | 3, _ => omega
  | 4, _ => omega
  | 5, _ => omega
  | 6, _ => omega
  | 7, _ => omega
end Go.Proofs.Ytolfngmpoafaaaa
