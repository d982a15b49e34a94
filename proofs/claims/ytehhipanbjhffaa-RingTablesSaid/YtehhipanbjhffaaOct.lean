/- What octet's functions answer: a number out of bytes. No condition but that places are below 2^62. -/
import Derived.Test.YtehhipanbjhffaaRows
import Derived.Test.YtehhipanbjhffaaKit
import Derived.Test.YtehhipanbjhffaaTy
import Derived.Test.YtehhipanbjhffaaNum
namespace Go.Proofs.Ytehhipanbjhffaa
set_option linter.unusedSimpArgs false
set_option linter.unusedVariables false
set_option linter.unusedSectionVars false
set_option linter.unusedVariables false
open Go.RowKit
/-- So many bytes from a place on, as a number; noughts where there are none. -/
def numAt (bs : List Nat) (at_ n : Nat) : Nat := undig 256 ((List.range n).map fun k => bs.getD (at_ + k) 0)
theorem numAt_succ (bs : List Nat) (p k : Nat) : numAt bs p (k + 1) = numAt bs p k + bs.getD (p + k) 0 * 256 ^ k := by
  unfold numAt
  rw [List.range_succ, List.map_append, undig_append]
  simp [undig, Nat.mul_comm]
theorem numAt_lt {bs : List Nat} (hb : ∀ x ∈ bs, x < 256) (p n : Nat) : numAt bs p n < 256 ^ n := by
  have h := undig_lt (b := 256) ((List.range n).map fun k => bs.getD (p + k) 0) (fun x hx => by
    obtain ⟨k, -, rfl⟩ := List.mem_map.1 hx
    exact getD_bound hb (by omega) _)
  rw [List.length_map, List.length_range] at h
  exact h
/-- The block behind a captured variable that holds one value. -/
def One (w : World) (g : Nat) (t : TypeId) (v : Value) : Prop := Blk w g t #[v]
theorem One.cell {w : World} {g t : Nat} {v : Value} (h : One w g t v) : w.cell? ⟨g, 0, none⟩ = some v := by rw [Blk.cell h]; rfl
set_option maxHeartbeats 400000 in
theorem from1_c (a : Option Addr) (c : Nat) (bs : List Nat) (hb : ∀ x ∈ bs, x < 256) (hlen : bs.length ≤ maxLen) (p k g1 g2 : Nat) (hp : p < 2 ^ 62) (hk : k < 8) (w : World) (hs : Sl w a .u8 bs) (h1 : One w g1 3 (.int .i64 p)) (h2 : One w g2 40 (.slice a bs.length c)) :
    Calls Try.prog 46 #[.int .i64 k, .pointer (some ⟨g1, 0, none⟩), .pointer (some ⟨g2, 0, none⟩)] w fun e w' => e = .returned (.int .u8 (bs.getD (p + k) 0 : Nat)) ∧ w = w' := by
  have c1 := h1.cell
  have c2 := h2.cell
  unfold maxLen at hlen
  by_cases hin : p + k < bs.length
  · obtain ⟨ga, off, rfl, hga, hcell⟩ := hs.at_ hin
    have hv := getD_bound hb (by omega) (p + k)
    generalize bs.getD (p + k) 0 = v at *
    go_enter Try.func46, Try.ntmps46
    go_wp2
    go_ret
    exact ⟨rfl, rfl⟩
  · have e : bs.getD (p + k) 0 = 0 := by rw [List.getD_eq_getElem?_getD, List.getElem?_eq_none (by omega)]; rfl
    rw [e]
    clear e
    go_enter Try.func46, Try.ntmps46
    go_wp2
    go_ret
    exact ⟨rfl, rfl⟩
theorem or_shift {m v k : Nat} (hm : m < 256 ^ k) (hv : v < 256) (hk : k < 8) : bits BinOp.or IntKind.u64 (m : Int) (IntKind.u64.wrap ((v : Int) * 2 ^ (8 * k))) = ((m + v * 256 ^ k : Nat) : Int) := by
  have e8 : (2 : Nat) ^ (8 * k) = 256 ^ k := by rw [Nat.pow_mul]
  have h1 : v * 256 ^ k < 256 ^ 8 := by
    calc v * 256 ^ k ≤ 255 * 256 ^ k := Nat.mul_le_mul_right _ (by omega)
      _ < 256 * 256 ^ k := (Nat.mul_lt_mul_right (Nat.pow_pos (by omega))).2 (by omega)
      _ = 256 ^ (k + 1) := by rw [Nat.pow_succ, Nat.mul_comm]
      _ ≤ 256 ^ 8 := Nat.pow_le_pow_right (by omega) (by omega)
  have h2 : m < 256 ^ 8 := Nat.lt_of_lt_of_le hm (Nat.pow_le_pow_right (by omega) (by omega))
  have e1 : ((v : Int) * 2 ^ (8 * k)) = ((v * 256 ^ k : Nat) : Int) := by rw [← e8]; simp
  have h256 : (256 : Nat) ^ 8 = 18446744073709551616 := by decide
  rw [h256] at h1 h2
  rw [e1, IntWalk.u64_in _ (by omega), u64_or_nat m _ h2 h1]
  have := Nat.two_pow_add_eq_or_of_lt (i := 8 * k) (b := m) (by rw [e8]; exact hm) v
  rw [e8] at this
  rw [Nat.or_comm, Nat.mul_comm v, ← this, Nat.add_comm]
set_option maxHeartbeats 400000 in
theorem gather_c (a : Option Addr) (c : Nat) (bs : List Nat) (hb : ∀ x ∈ bs, x < 256) (hlen : bs.length ≤ maxLen) (p n g1 g2 : Nat) (hp : p < 2 ^ 62) (hn : n ≤ 8) (w : World) (hs : Sl w a .u8 bs) (h1 : One w g1 3 (.int .i64 p)) (h2 : One w g2 40 (.slice a bs.length c)) :
    Calls Try.prog 44 #[.int .i64 n, .func (.func 46) #[] #[.pointer (some ⟨g1, 0, none⟩), .pointer (some ⟨g2, 0, none⟩)]] w fun e w' => e = .returned (.int .u64 (numAt bs p n : Nat)) ∧ w = w' := by
  go_enter Try.func44, Try.ntmps44
  go_wp2
  go_loop [5, 8] (fun s t => ∃ k : Nat, k ≤ n ∧ t = .int .i64 k ∧ s = .int .u64 (numAt bs p k)) (fun s t => n - (intOf t).toNat)
  case atStart => exact ⟨0, by omega, rfl, rfl⟩
  case round =>
    rename_i hrel
    obtain ⟨k, hk, rfl, rfl⟩ := hrel
    by_cases hlt : k < n
    · have hsucc := numAt_succ bs p k
      have hnl := numAt_lt hb p k
      have hv := getD_bound hb (by omega) (p + k)
      go_wp2_with (fail)
      refine (from1_c a c bs hb hlen p k g1 g2 hp (by omega) _ hs h1 h2).mono ?_
      rintro e w' ⟨rfl, rfl⟩
      generalize numAt bs p k = m at *
      generalize bs.getD (p + k) 0 = v at *
      have HS := Lib.hid hsucc
      clear hsucc
      go_wp2
      rw [or_shift hnl hv (by omega)]
      exact ⟨⟨k + 1, by omega, by go_num, by rw [HS.out]⟩, by simp [intOf] <;> omega⟩
    · obtain rfl : k = n := by omega
      go_wp2
      go_ret
      exact ⟨rfl, rfl⟩
theorem from_c (a : Option Addr) (n c : Nat) (p : Int) (w : World) : Calls Try.prog 45 #[.slice a n c, .int .i64 p] w fun e w' => e = .returned (.func (.func 46) #[] #[.pointer (some ⟨w.heap.size + 1, 0, none⟩), .pointer (some ⟨w.heap.size, 0, none⟩)]) ∧ w' = (w.alloc (.cells #[.slice a n c] 40)).alloc (.cells #[.int .i64 p] 3) := by
  go_enter Try.func45, Try.ntmps45
  go_wp2
  go_ret
  exact ⟨rfl, rfl⟩
set_option maxHeartbeats 400000 in
theorem long_c (a : Option Addr) (c : Nat) (bs : List Nat) (hb : ∀ x ∈ bs, x < 256) (hlen : bs.length ≤ maxLen) (p : Nat) (hp : p < 2 ^ 62) (w : World) (hs : Sl w a .u8 bs) :
    Calls Try.prog 39 #[.slice a bs.length c, .int .i64 p] w fun e w' => e = .returned (.int .u64 (numAt bs p 8 : Nat)) ∧ Below w.heap.size w w' := by
  have hn : numAt bs p 8 < 18446744073709551616 := numAt_lt hb p 8
  have hbel := ((Below.refl w.heap.size w).alloc (Nat.le_refl _) (.cells #[.slice a bs.length c] 40)).alloc (by simp) (.cells #[.int .i64 p] 3)
  go_enter Try.func39, Try.ntmps39
  go_wp2_with (fail)
  refine (from_c _ _ _ _ _).mono ?_
  rintro e w1 ⟨rfl, rfl⟩
  go_wp2_with (fail)
  refine (gather_c a c bs hb hlen p 8 (w.heap.size + 1) w.heap.size hp (by omega) _ (hs.below hbel) (Blk.new' (by simp)) ((Blk.new _ _ _).alloc _)).mono ?_
  rintro e w1 ⟨rfl, rfl⟩
  go_wp2
  go_ret
  exact ⟨rfl, hbel⟩
theorem numAt_head (bs : List Nat) (p n : Nat) : numAt bs p (n + 1) = bs.getD p 0 + 256 * numAt bs (p + 1) n := by
  unfold numAt
  rw [List.range_succ_eq_map, List.map_cons, List.map_map]
  simp only [undig, Nat.add_zero]
  congr 3
  apply List.map_congr_left
  intro k _
  simp only [Function.comp_apply]
  rw [show p + Nat.succ k = p + 1 + k by omega]
/-! ### a number's bytes -/
theorem shr_byte (n k : Nat) : (n : Int) / 2 ^ (8 * k) % 256 = ((n / 256 ^ k % 256 : Nat) : Int) := by
  rw [show (256 : Nat) ^ k = 2 ^ (8 * k) by rw [Nat.pow_mul]]; simp
set_option maxHeartbeats 800000 in
theorem putLong_c (n : Nat) (hn : n < 18446744073709551616) (w : World) :
    Calls Try.prog 40 #[.int .u64 n] w fun e w' => e = .returned (.agg (ints .u8 (dig 256 8 n))) ∧ Below w.heap.size w w' := by
  go_enter Try.func40, Try.ntmps40
  go_wp2_with (first | (refine wpList_alloc_ints rfl 58 rfl Try.z58 ?_; (try simp only [Act.put, List.setIfInBounds_toArray, List.set_cons_zero, List.set_cons_succ, World.size_alloc, setRow_size, Nat.add_assoc, Nat.reduceAdd])))
  go_loopw [5] (fun t wr => ∃ k : Nat, k ≤ 8 ∧ t = .int .i64 k ∧ Blk wr w.heap.size 58 (ints .u8 (zeros 8)) ∧ Blk wr (w.heap.size + 1) 58 (ints .u8 ((dig 256 8 n).take k ++ zeros (8 - k))) ∧ Below w.heap.size w wr) (fun t wr => 8 - (intOf t).toNat)
  case atStart => exact ⟨0, by omega, rfl, (Blk.new _ _ _).alloc _, Blk.new' (by simp), (((Below.refl _ _).alloc (Nat.le_refl _) _).alloc (by simp) _)⟩
  case round =>
    rename_i hrel
    obtain ⟨k, hk, rfl, C0, C1, hbelr⟩ := hrel
    by_cases hlt : k < 8
    · have hl : ((dig 256 8 n).take k ++ zeros (8 - k)).length = 8 := by simp [zeros]; omega
      have c1 := C1.int (i := k) (by omega)
      have z1 := C1.frozen k
      have hv : (dig 256 8 n).getD k 0 = n / 256 ^ k % 256 := dig_getD 256 8 n k hlt
      have C1' := C1.intSet k (n / 256 ^ k % 256)
      rw [take_set (n := 8) (dig_length _ _ _) hlt hv] at C1'
      have HC := Lib.hid C1'
      clear C1' hl hv
      go_wp2
      rw [shr_byte]
      exact ⟨⟨k + 1, by omega, by go_num, C0.far (by first | omega | (simp; done) | (simp; omega)) _, HC.out, hbelr.setCell (by first | omega | (simp; done) | (simp; omega)) _⟩, by simp [intOf] <;> omega⟩
    · obtain rfl : k = 8 := by omega
      have he : (dig 256 8 n).take 8 ++ zeros (8 - 8) = dig 256 8 n := by rw [List.take_of_length_le (by simp)]; simp [zeros]
      rw [he] at C1
      clear he
      go_wp2_with (first | (refine wpList_load_ints rfl 58 _ rfl _ rfl C1 Try.ar58 (dig_length _ _ _) ?_; (try simp only [Act.put, List.setIfInBounds_toArray, List.set_cons_zero, List.set_cons_succ, World.size_alloc, setRow_size, Nat.add_assoc, Nat.reduceAdd])) | (refine wpList_store_ints rfl 58 _ _ rfl _ rfl rfl C0 (zeros_size _ _) Try.ar58 (dig_length _ _ _) ?_; (try simp only [Act.put, List.setIfInBounds_toArray, List.set_cons_zero, List.set_cons_succ, World.size_alloc, setRow_size, Nat.add_assoc, Nat.reduceAdd])))
      refine ret_ints rfl rfl (C0.row _) Try.ar58 (dig_length _ _ _) ⟨rfl, ?_⟩
      exact bSetRow hbelr (by simp) _
end Go.Proofs.Ytehhipanbjhffaa
