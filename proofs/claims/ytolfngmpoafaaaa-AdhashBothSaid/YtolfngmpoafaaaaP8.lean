/- Plain laws of chapter 08: a clamped key, and the value of bytes. No program is spoken of. No condition. -/
import Derived.Test.YtolfngmpoafaaaaW7g
import Derived.Test.YtolfngmpoafaaaaR7
import Derived.Test.YtolfngmpoafaaaaKA
namespace Go.Proofs.Ytolfngmpoafaaaa
set_option linter.unusedSimpArgs false
set_option linter.unusedVariables false
set_option linter.unusedSectionVars false
set_option linter.unusedVariables false
/-- A clamped key. -/
def clampB (i x : Nat) : Nat := if i % 4 = 3 then x % 16 else if i = 4 ∨ i = 8 ∨ i = 12 then x / 4 * 4 else x
def clampL (key : List Nat) : List Nat := (List.range 16).map fun i => clampB i (key.getD i 0)
theorem clampL_len (key : List Nat) : (clampL key).length = 16 := by simp [clampL]
theorem clampB_lt {i x : Nat} (h : x < 256) : clampB i x < 256 := by unfold clampB; split; omega; split <;> omega
theorem clampB_idem (i x : Nat) : clampB i (clampB i x) = clampB i x := by unfold clampB; split; omega; split <;> omega
theorem clampL_getD (key : List Nat) {i : Nat} (hi : i < 16) : (clampL key).getD i 0 = clampB i (key.getD i 0) := by
  unfold clampL
  rw [List.getD_eq_getElem?_getD, List.getElem?_map, List.getElem?_range hi]; rfl
theorem clampL_lt {key : List Nat} (hb : ∀ x ∈ key, x < 256) : ∀ x ∈ clampL key, x < 256 := fun x hx => by
  obtain ⟨i, -, rfl⟩ := List.mem_map.1 hx
  exact clampB_lt (getD_bound hb (by omega) i)
theorem clampL_idem (key : List Nat) : clampL (clampL key) = clampL key := by
  apply List.map_congr_left
  intro i hi
  rw [clampL_getD key (List.mem_range.1 hi), clampB_idem]
theorem clampL_zeros : clampL (zeros 16) = zeros 16 := by decide
/-- The key's number. -/
def byN (key : List Nat) : Nat := ofN (clampL key) 0
theorem byN_clamp (key : List Nat) : byN (clampL key) = byN key := by unfold byN; rw [clampL_idem]
theorem byN_zeros : byN (zeros 16) = 0 := by decide
theorem byN_zero {key : List Nat} (h : clampL key = zeros 16) : byN key = 0 := by rw [← byN_clamp, h]; exact byN_zeros
theorem byN_lt {key : List Nat} (hb : ∀ x ∈ key, x < 256) : byN key < pp := by
  have h := le_lt (clampL_len key) (clampL_lt hb)
  have e : (256 : Nat) ^ 16 < pp := by decide
  unfold byN ofN
  omega
/-- A part, with a one behind it. -/
def chunkN (bs : List Nat) (i : Nat) : Nat := le (blk bs i ++ [1])
theorem le_one (xs : List Nat) : le (xs ++ [1]) = le xs + 256 ^ xs.length := by
  unfold le; rw [undig_append]; simp [undig]
theorem le_zeros (xs : List Nat) (n : Nat) : le (xs ++ zeros n) = le xs := by
  unfold le zeros; rw [undig_append, undig_replicate]; simp
theorem chunk_ofN {xs : List Nat} (h : xs.length = 16) : le (xs ++ [1]) = ofN xs 1 := by
  rw [le_one, h]; rfl
theorem chunk_whole {bs : List Nat} {i : Nat} (h : 16 * (i + 1) ≤ bs.length) : chunkN bs i = ofN (blk bs i) 1 := chunk_ofN (blk_len h)
theorem chunk_part (xs : List Nat) (n : Nat) : ofN (xs ++ [1] ++ zeros n) 0 = le (xs ++ [1]) := by
  unfold ofN; rw [le_zeros]; omega
/-- The value of so many parts, from a value on. -/
def polyV (r v : Nat) (bs : List Nat) : Nat → Nat
  | 0 => v % pp
  | n + 1 => ((polyV r v bs n + chunkN bs n) * r) % pp
theorem polyV_succ (r v : Nat) (bs : List Nat) (n : Nat) : polyV r v bs (n + 1) = ((polyV r v bs n + chunkN bs n) * r) % pp := rfl
theorem polyV_lt (r v : Nat) (bs : List Nat) : ∀ n, polyV r v bs n < pp
  | 0 => Nat.mod_lt _ pp_pos
  | n + 1 => Nat.mod_lt _ pp_pos
theorem chunk_append_l {a : List Nat} (b : List Nat) {i : Nat} (h : 16 * (i + 1) ≤ a.length) : chunkN (a ++ b) i = chunkN a i := by
  unfold chunkN; rw [blk_append_l h]
theorem polyV_append_l (r v : Nat) {a : List Nat} (b : List Nat) : ∀ n, 16 * n ≤ a.length → polyV r v (a ++ b) n = polyV r v a n
  | 0, _ => rfl
  | n + 1, h => by rw [polyV_succ, polyV_succ, polyV_append_l r v b n (by omega), chunk_append_l b h]
theorem polyV_append_r (r v : Nat) {a : List Nat} (b : List Nat) {k : Nat} (h : a.length = 16 * k) : ∀ n, polyV r v (a ++ b) (k + n) = polyV r (polyV r v a k) b n
  | 0 => by
    show polyV r v (a ++ b) k = polyV r v a k % pp
    rw [polyV_append_l r v b k (by omega), Nat.mod_eq_of_lt (polyV_lt _ _ _ _)]
  | n + 1 => by
    rw [← Nat.add_assoc, polyV_succ, polyV_succ, polyV_append_r r v b h n]
    unfold chunkN
    rw [blk_append_r h]
theorem polyV_from (r v : Nat) (bs : List Nat) : ∀ n, polyV r v bs n = (v * r ^ n + polyV r 0 bs n) % pp
  | 0 => by show v % pp = (v * r ^ 0 + 0 % pp) % pp; rw [Nat.pow_zero, Nat.mul_one, Nat.zero_mod, Nat.add_zero]
  | n + 1 => by
    rw [polyV_succ, polyV_succ, polyV_from r v bs n]
    rw [Nat.mul_mod, Nat.add_mod, Nat.mod_mod, ← Nat.add_mod, ← Nat.mul_mod]
    rw [Nat.add_mod (v * r ^ (n + 1)), Nat.mod_mod, ← Nat.add_mod]
    congr 1
    rw [Nat.pow_succ, Nat.add_assoc, Nat.add_mul, Nat.mul_assoc]
theorem polyV_rmod (r v : Nat) (bs : List Nat) (h : r = 0) : ∀ n, v % pp = 0 → polyV r v bs n = 0
  | 0, hv => hv
  | n + 1, _ => by rw [polyV_succ, h, Nat.mul_zero, Nat.zero_mod]
def chunks (n : Nat) : Nat := (n + 15) / 16
/-- The value of a key and bytes; their hash. -/
def polyA (key bs : List Nat) : Nat := polyV (byN key) 0 bs (chunks bs.length)
theorem polyA_lt (key bs : List Nat) : polyA key bs < pp := polyV_lt _ _ _ _
theorem polyA_clamp (key bs : List Nat) : polyA (clampL key) bs = polyA key bs := by unfold polyA; rw [byN_clamp]
theorem polyA_zero {key : List Nat} (h : byN key = 0) (bs : List Nat) : polyA key bs = 0 := polyV_rmod _ _ _ h _ (by decide)
theorem polyA_nil (key : List Nat) : polyA key [] = 0 := by
  show polyV (byN key) 0 [] 0 = 0
  exact Nat.zero_mod _
theorem polyA_on (key : List Nat) {a : List Nat} (b : List Nat) (h : a.length % 16 = 0) : polyA key (a ++ b) = (polyA key a * byN key ^ chunks b.length + polyA key b) % pp := by
  unfold polyA
  have e1 : chunks (a ++ b).length = a.length / 16 + chunks b.length := by unfold chunks; rw [List.length_append]; omega
  have e2 : chunks a.length = a.length / 16 := by unfold chunks; omega
  rw [e1, polyV_append_r _ _ b (by omega), polyV_from, e2]
def hashP (key bs : List Nat) : List Nat := dig 256 16 (polyA key bs)
theorem hashP_len (key bs : List Nat) : (hashP key bs).length = 16 := dig_length _ _ _
theorem hashP_lt (key bs : List Nat) : ∀ x ∈ hashP key bs, x < 256 := dig_lt (by omega) _ _
theorem hashP_low (key bs : List Nat) : dig 256 16 (val (numOf (polyA key bs)) % pp) = hashP key bs := by
  rw [val_numOf, Nat.mod_mod, Nat.mod_eq_of_lt (polyA_lt key bs)]; rfl
theorem hashP_rlow (key bs : List Nat) : (restOf (polyA key bs)).take 16 = hashP key bs := by
  unfold restOf hashP
  rw [dig_append 256 16 1, List.take_left' (dig_length _ _ _)]
/-- The sum of parts from the end, each times a power. -/
def sumP (r : Nat) (bs : List Nat) (n : Nat) : Nat → Nat
  | 0 => 0
  | j + 1 => sumP r bs n j + chunkN bs (n - 1 - j) * r ^ (j + 1)
theorem polyV_sum (r : Nat) (bs : List Nat) (n : Nat) : ∀ j, j ≤ n → polyV r 0 bs n = (polyV r 0 bs (n - j) * r ^ j + sumP r bs n j) % pp
  | 0, _ => by
    show polyV r 0 bs n = (polyV r 0 bs n * r ^ 0 + 0) % pp
    rw [Nat.pow_zero, Nat.mul_one, Nat.add_zero, Nat.mod_eq_of_lt (polyV_lt _ _ _ _)]
  | j + 1, h => by
    rw [polyV_sum r bs n j (by omega)]
    have e : n - j = n - (j + 1) + 1 := by omega
    have e2 : n - 1 - j = n - (j + 1) := by omega
    rw [e, polyV_succ]
    show ((polyV r 0 bs (n - (j + 1)) + chunkN bs (n - (j + 1))) * r % pp * r ^ j + sumP r bs n j) % pp = (polyV r 0 bs (n - (j + 1)) * r ^ (j + 1) + (sumP r bs n j + chunkN bs (n - 1 - j) * r ^ (j + 1))) % pp
    rw [e2]
    generalize polyV r 0 bs (n - (j + 1)) = V
    generalize chunkN bs (n - (j + 1)) = c
    generalize sumP r bs n j = S
    rw [Nat.add_mod, Nat.mul_mod, Nat.mod_mod, ← Nat.mul_mod, ← Nat.add_mod]
    congr 1
    rw [Nat.mul_assoc, ← Nat.pow_succ', Nat.add_mul, Nat.add_assoc, Nat.add_comm S]
theorem polyV_sums (r : Nat) (bs : List Nat) (n : Nat) : polyV r 0 bs n = sumP r bs n n % pp := by
  have h := polyV_sum r bs n n (Nat.le_refl n)
  rw [h, Nat.sub_self]
  show (0 % pp * r ^ n + sumP r bs n n) % pp = _
  rw [Nat.zero_mod, Nat.zero_mul, Nat.zero_add]
end Go.Proofs.Ytolfngmpoafaaaa
