/- Plain laws on rows of numbers: products gone through place by place, values gone through bit by bit. No program is spoken of. No condition. -/
import Derived.Test.YtolfngmpoafaaaaR7
namespace Go.Proofs.Ytolfngmpoafaaaa
set_option linter.unusedSimpArgs false
set_option linter.unusedVariables false
set_option linter.unusedSectionVars false
set_option linter.unusedVariables false
theorem undig_take (b : Nat) (xs : List Nat) (j : Nat) (h : j < xs.length) : undig b (xs.take (j + 1)) = undig b (xs.take j) + xs.getD j 0 * b ^ j := by
  rw [List.take_add_one, undig_append, List.length_take, Nat.min_eq_left (by omega), List.getD_eq_getElem?_getD, List.getElem?_eq_getElem h]
  simp [undig, Nat.mul_comm]
/-! the product, place by place -/
def prodN (n m : Nat) (xs ys : List Nat) : Nat → List Nat
  | 0 => List.replicate m 0
  | c + 1 => (prodN n m xs ys c).set (c / n + c % n) ((prodN n m xs ys c).getD (c / n + c % n) 0 + xs.getD (c / n) 0 * ys.getD (c % n) 0)
theorem prodN_len (n m : Nat) (xs ys : List Nat) (c : Nat) : (prodN n m xs ys c).length = m := by
  induction c with
  | zero => simp [prodN]
  | succ c ih => simp [prodN, ih]
theorem prodN_succ {n m : Nat} (xs ys : List Nat) (i j : Nat) (hj : j < n) : prodN n m xs ys (n * i + (j + 1)) = (prodN n m xs ys (n * i + j)).set (i + j) ((prodN n m xs ys (n * i + j)).getD (i + j) 0 + xs.getD i 0 * ys.getD j 0) := by
  rw [show n * i + (j + 1) = (n * i + j) + 1 by omega]
  simp only [prodN]
  rw [show (n * i + j) / n = i by rw [Nat.mul_add_div (by omega), Nat.div_eq_of_lt hj, Nat.add_zero], show (n * i + j) % n = j by rw [Nat.mul_add_mod, Nat.mod_eq_of_lt hj]]
theorem prodN_val {n : Nat} (b : Nat) {xs ys : List Nat} (hx : xs.length = n) (hy : ys.length = n) (hn : 0 < n) : undig b (prodN n (2 * n - 1) xs ys (n * n)) = undig b xs * undig b ys := by
  have row : ∀ i, i < n → ∀ j, j ≤ n → undig b (prodN n (2 * n - 1) xs ys (n * i + j)) = undig b (prodN n (2 * n - 1) xs ys (n * i)) + xs.getD i 0 * b ^ i * undig b (ys.take j) := by
    intro i hi j
    induction j with
    | zero => intro _; simp [undig]
    | succ j ih =>
      intro hj
      rw [prodN_succ xs ys i j (by omega), undig_set _ _ _ _ (by rw [prodN_len]; omega), ih (by omega), undig_take b ys j (by omega), Nat.mul_add, Nat.add_assoc]
      congr 1
      congr 1
      rw [Nat.pow_add]
      generalize xs.getD i 0 = x
      generalize ys.getD j 0 = y
      rw [Nat.mul_assoc x, Nat.mul_assoc x, Nat.mul_left_comm y]
  have tot : ∀ i, i ≤ n → undig b (prodN n (2 * n - 1) xs ys (n * i)) = undig b (xs.take i) * undig b ys := by
    intro i
    induction i with
    | zero => intro _; rw [Nat.mul_zero]; simp [prodN, undig, undig_replicate]
    | succ i ih =>
      intro hi
      rw [Nat.mul_succ, row i (by omega) n (Nat.le_refl n), ih (by omega), List.take_of_length_le (Nat.le_of_eq hy), undig_take b xs i (by omega), Nat.add_mul]
  rw [tot n (Nat.le_refl n), List.take_of_length_le (Nat.le_of_eq hx)]
theorem prodN_le {n m B : Nat} {xs ys : List Nat} (hx : ∀ x ∈ xs, x < B) (hy : ∀ x ∈ ys, x < B) (hB : 0 < B) (c : Nat) : ∀ x ∈ prodN n m xs ys c, x ≤ c * (B * B) := by
  induction c with
  | zero => intro x hx; simp [prodN] at hx; omega
  | succ c ih =>
    intro x hx'
    simp only [prodN] at hx'
    rcases List.mem_or_eq_of_mem_set hx' with h | h
    · exact Nat.le_trans (ih x h) (Nat.mul_le_mul_right _ (Nat.le_succ c))
    · subst h
      have h1 : (prodN n m xs ys c).getD (c / n + c % n) 0 ≤ c * (B * B) := by
        rw [List.getD_eq_getElem?_getD]
        by_cases h : c / n + c % n < (prodN n m xs ys c).length
        · rw [List.getElem?_eq_getElem h]; exact ih _ (List.getElem_mem h)
        · rw [List.getElem?_eq_none (by omega)]; exact Nat.zero_le _
      have h2 := gD_bound hx hB (c / n)
      have h3 := gD_bound hy hB (c % n)
      have h4 : xs.getD (c / n) 0 * ys.getD (c % n) 0 ≤ B * B := Nat.mul_le_mul (Nat.le_of_lt h2) (Nat.le_of_lt h3)
      rw [Nat.succ_mul]
      omega
/-! parts of 26 bits, bit by bit: the row of bytes' places, behind k bits of the part i -/
def valN (ns : List Nat) : Nat → List Nat
  | 0 => List.replicate 18 0
  | c + 1 => if ns.getD (c / 32) 0 / 2 ^ (c % 32) % 2 = 1 then (valN ns c).set ((26 * (c / 32) + c % 32) / 8) ((valN ns c).getD ((26 * (c / 32) + c % 32) / 8) 0 + 2 ^ ((26 * (c / 32) + c % 32) % 8)) else valN ns c
theorem valN_len (ns : List Nat) (c : Nat) : (valN ns c).length = 18 := by
  induction c with
  | zero => simp [valN]
  | succ c ih => simp only [valN]; split <;> simp [ih]
theorem valN_succ (ns : List Nat) (i k : Nat) (hk : k < 32) : valN ns (32 * i + (k + 1)) = if ns.getD i 0 / 2 ^ k % 2 = 1 then (valN ns (32 * i + k)).set ((26 * i + k) / 8) ((valN ns (32 * i + k)).getD ((26 * i + k) / 8) 0 + 2 ^ ((26 * i + k) % 8)) else valN ns (32 * i + k) := by
  rw [show 32 * i + (k + 1) = (32 * i + k) + 1 by omega]
  simp only [valN]
  rw [show (32 * i + k) / 32 = i by omega, show (32 * i + k) % 32 = k by omega]
theorem valN_le (ns : List Nat) (c : Nat) : ∀ x ∈ valN ns c, x ≤ c * 128 := by
  induction c with
  | zero => intro x hx; simp [valN] at hx; omega
  | succ c ih =>
    intro x hx
    simp only [valN] at hx
    split at hx
    · rcases List.mem_or_eq_of_mem_set hx with h | h
      · have := ih x h; omega
      · subst h
        have h1 : (valN ns c).getD ((26 * (c / 32) + c % 32) / 8) 0 ≤ c * 128 := by
          rw [List.getD_eq_getElem?_getD]
          by_cases h : (26 * (c / 32) + c % 32) / 8 < (valN ns c).length
          · rw [List.getElem?_eq_getElem h]; exact ih _ (List.getElem_mem h)
          · rw [List.getElem?_eq_none (by omega)]; exact Nat.zero_le _
        have h2 : 2 ^ ((26 * (c / 32) + c % 32) % 8) ≤ 2 ^ 7 := Nat.pow_le_pow_right (by omega) (by omega)
        omega
    · have := ih x hx; omega
theorem bit_mod (x k : Nat) : x % 2 ^ (k + 1) = x % 2 ^ k + 2 ^ k * (x / 2 ^ k % 2) := by rw [Nat.pow_succ, Nat.mod_mul]
theorem valN_val {ns : List Nat} (hl : ns.length = 5) (hb : ∀ x ∈ ns, x < 2 ^ 32) : undig 256 (valN ns 160) = val ns := by
  have row : ∀ i, i < 5 → ∀ k, k ≤ 32 → undig 256 (valN ns (32 * i + k)) = undig 256 (valN ns (32 * i)) + ns.getD i 0 % 2 ^ k * 67108864 ^ i := by
    intro i hi k
    induction k with
    | zero => intro _; simp [Nat.mod_one]
    | succ k ih =>
      intro hk
      rw [valN_succ ns i k (by omega), bit_mod]
      have e : 2 ^ ((26 * i + k) % 8) * 256 ^ ((26 * i + k) / 8) = 2 ^ k * 67108864 ^ i := by
        rw [show (256 : Nat) = 2 ^ 8 from rfl, show (67108864 : Nat) = 2 ^ 26 from rfl, ← Nat.pow_mul, ← Nat.pow_mul, ← Nat.pow_add, ← Nat.pow_add]
        congr 1; omega
      split
      · rename_i h1
        rw [undig_set _ _ _ _ (by rw [valN_len]; omega), ih (by omega), h1, e, Nat.mul_one, Nat.add_mul, Nat.add_assoc]
      · rename_i h1
        have h0 : ns.getD i 0 / 2 ^ k % 2 = 0 := by omega
        rw [ih (by omega), h0, Nat.mul_zero, Nat.add_zero]
  have tot : ∀ i, i ≤ 5 → undig 256 (valN ns (32 * i)) = undig 67108864 (ns.take i) := by
    intro i
    induction i with
    | zero => intro _; rw [Nat.mul_zero]; simp [valN, undig]
    | succ i ih =>
      intro hi
      rw [Nat.mul_succ, row i (by omega) 32 (by omega), ih (by omega), Nat.mod_eq_of_lt (gD_bound hb (by omega) i), undig_take _ _ _ (by omega)]
  have := tot 5 (by omega)
  rw [List.take_of_length_le (by omega)] at this
  exact this
/-! a number's parts of 26 bits, behind so many bits -/
def partN (v at_ j : Nat) : Nat := v / 2 ^ (26 * j) % 2 ^ (min 26 (at_ - 26 * j))
theorem partN_zero (v j : Nat) : partN v 0 j = 0 := by simp [partN, Nat.mod_one]
theorem partN_full (v : Nat) {j : Nat} (hj : j < 5) : partN v 130 j = v / 67108864 ^ j % 67108864 := by
  unfold partN
  rw [show min 26 (130 - 26 * j) = 26 by omega, Nat.pow_mul]
theorem partN_step (v at_ j : Nat) : partN v (at_ + 1) j = partN v at_ j + (if at_ / 26 = j then 2 ^ (at_ % 26) * (v / 2 ^ at_ % 2) else 0) := by
  unfold partN
  split
  · rename_i h
    subst h
    rw [show min 26 (at_ + 1 - 26 * (at_ / 26)) = at_ % 26 + 1 by omega, show min 26 (at_ - 26 * (at_ / 26)) = at_ % 26 by omega, bit_mod, Nat.div_div_eq_div_mul, ← Nat.pow_add, show 26 * (at_ / 26) + at_ % 26 = at_ by omega]
  · rw [Nat.add_zero]
    congr 2
    omega
theorem parts_full (v : Nat) : (List.range 5).map (fun j => partN v 130 j) = dig 67108864 5 v := by
  have e : (List.range 5).map (fun j => partN v 130 j) = [partN v 130 0, partN v 130 1, partN v 130 2, partN v 130 3, partN v 130 4] := rfl
  rw [e, partN_full v (by omega), partN_full v (by omega), partN_full v (by omega), partN_full v (by omega), partN_full v (by omega)]
  simp only [dig, Nat.div_div_eq_div_mul, Nat.pow_succ, Nat.pow_zero, Nat.one_mul, Nat.div_one]
theorem partsL_one (v k : Nat) (hk : k < 130) (h : v / 2 ^ k % 2 = 1) : ((List.range 5).map fun j => partN v k j).set (k / 26) (partN v k (k / 26) + 2 ^ (k % 26)) = (List.range 5).map fun j => partN v (k + 1) j := by
  apply List.ext_getElem? fun j => ?_
  by_cases hj : j < 5
  · by_cases he : k / 26 = j
    · subst he
      rw [List.getElem?_set_self (by simp; omega), List.getElem?_map, List.getElem?_range hj]
      simp only [Option.map_some]
      rw [partN_step v k (k / 26), if_pos rfl, h, Nat.mul_one]
    · rw [List.getElem?_set_ne he, List.getElem?_map, List.getElem?_map, List.getElem?_range hj]
      simp only [Option.map_some]
      rw [partN_step v k j, if_neg he, Nat.add_zero]
  · rw [List.getElem?_eq_none (by simp; omega), List.getElem?_eq_none (by simp; omega)]
theorem partsL_none (v k : Nat) (h : v / 2 ^ k % 2 ≠ 1) : ((List.range 5).map fun j => partN v k j) = (List.range 5).map fun j => partN v (k + 1) j := by
  have h0 : v / 2 ^ k % 2 = 0 := by omega
  refine List.map_congr_left fun j _ => ?_
  rw [partN_step v k j, h0, Nat.mul_zero]
  split <;> rfl
end Go.Proofs.Ytolfngmpoafaaaa
