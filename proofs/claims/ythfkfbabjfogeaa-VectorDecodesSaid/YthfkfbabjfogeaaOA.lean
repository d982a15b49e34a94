/- Closed facts on the program's types: how many cells an array has, what its zero value is. No condition. -/
import Derived.Test.YthfkfbabjfogeaaRows
import Derived.Test.YthfkfbabjfogeaaKA
import Derived.BigQuiet
import Derived.Lib.AppendZerosOnto
import Derived.Lib.SliceRun
import Derived.Lib.Walk
import Derived.OwnWalk
namespace Go.Proofs.Ythfkfbabjfogeaa
set_option linter.unusedSimpArgs false
set_option linter.unusedVariables false
set_option linter.unusedSectionVars false
set_option linter.unusedVariables false
theorem Try.s148 : (Try.prog.info? 48).map (·.size) = some 1 := by kernel_rfl
theorem Try.s171 : (Try.prog.info? 71).map (·.size) = some 1 := by kernel_rfl
theorem Try.s15 : (Try.prog.info? 5).map (·.size) = some 1 := by kernel_rfl
theorem Try.sz48 : Try.prog.cellsOf 48 = 1 := by kernel_rfl
theorem Try.is48 : (Try.prog.info? 48).isSome = true := by kernel_rfl
theorem Try.sz71 : Try.prog.cellsOf 71 = 1 := by kernel_rfl
theorem Try.is71 : (Try.prog.info? 71).isSome = true := by kernel_rfl
theorem Try.sz5 : Try.prog.cellsOf 5 = 1 := by kernel_rfl
theorem Try.is5 : (Try.prog.info? 5).isSome = true := by kernel_rfl
theorem Try.ar46 : IsArr Try.prog 46 8 := isArr Try.underlying46 (by kernel_rfl)
theorem Try.z46 : IsZero Try.prog 46 8 .u8 := isZero (by kernel_rfl)
end Go.Proofs.Ythfkfbabjfogeaa
/- What octet's functions answer: a number out of bytes. No condition but that places are below 2^62. -/
namespace Go.Proofs.Ythfkfbabjfogeaa
set_option linter.unusedSimpArgs false
set_option linter.unusedVariables false
set_option linter.unusedSectionVars false
set_option linter.unusedVariables false
open Go.RowKit
/-- So many bytes from a place on, as a number; noughts where there are none. -/
def numAt (bs : List Nat) (at_ n : Nat) : Nat := undig 256 ((List.range n).map fun k => bs.getD (at_ + k) 0)
theorem numAt_succ (bs : List Nat) (p k : Nat) : numAt bs p (k + 1) = numAt bs p k + bs.getD (p + k) 0 * 256 ^ k := by
  unfold numAt
  rw [List.range_succ, List.map_append, undig_append]
  simp [undig, Nat.mul_comm]
theorem numAt_lt {bs : List Nat} (hb : ∀ x ∈ bs, x < 256) (p n : Nat) : numAt bs p n < 256 ^ n := by
  have h := undig_lt (b := 256) ((List.range n).map fun k => bs.getD (p + k) 0) (fun x hx => by
    obtain ⟨k, -, rfl⟩ := List.mem_map.1 hx
    exact getD_bound hb (by omega) _)
  rw [List.length_map, List.length_range] at h
  exact h
/-- The block behind a captured variable that holds one value. -/
def One (w : World) (g : Nat) (t : TypeId) (v : Value) : Prop := Blk w g t #[v]
theorem One.cell {w : World} {g t : Nat} {v : Value} (h : One w g t v) : w.cell? ⟨g, 0, none⟩ = some v := by rw [Blk.cell h]; rfl
set_option maxHeartbeats 400000 in
theorem from1_c (a : Option Addr) (c : Nat) (bs : List Nat) (hb : ∀ x ∈ bs, x < 256) (hlen : bs.length ≤ maxLen) (p k g1 g2 : Nat) (hp : p < 2 ^ 62) (hk : k < 8) (w : World) (hs : Sl w a .u8 bs) (h1 : One w g1 3 (.int .i64 p)) (h2 : One w g2 22 (.slice a bs.length c)) :
    Calls Try.prog 35 #[.int .i64 k, .pointer (some ⟨g1, 0, none⟩), .pointer (some ⟨g2, 0, none⟩)] w fun e w' => e = .returned (.int .u8 (bs.getD (p + k) 0 : Nat)) ∧ w = w' := by
  have c1 := h1.cell
  have c2 := h2.cell
  unfold maxLen at hlen
  by_cases hin : p + k < bs.length
  · obtain ⟨ga, off, rfl, hga, hcell⟩ := hs.at_ hin
    have hv := getD_bound hb (by omega) (p + k)
    generalize bs.getD (p + k) 0 = v at *
    go_enter Try.func35, Try.ntmps35
    go_wp2
    go_ret
    exact ⟨rfl, rfl⟩
  · have e : bs.getD (p + k) 0 = 0 := by rw [List.getD_eq_getElem?_getD, List.getElem?_eq_none (by omega)]; rfl
    rw [e]
    clear e
    go_enter Try.func35, Try.ntmps35
    go_wp2
    go_ret
    exact ⟨rfl, rfl⟩
theorem or_shift {m v k : Nat} (hm : m < 256 ^ k) (hv : v < 256) (hk : k < 8) : bits BinOp.or IntKind.u64 (m : Int) (IntKind.u64.wrap ((v : Int) * 2 ^ (8 * k))) = ((m + v * 256 ^ k : Nat) : Int) := by
  have e8 : (2 : Nat) ^ (8 * k) = 256 ^ k := by rw [Nat.pow_mul]
  have h1 : v * 256 ^ k < 256 ^ 8 := by
    calc v * 256 ^ k ≤ 255 * 256 ^ k := Nat.mul_le_mul_right _ (by omega)
      _ < 256 * 256 ^ k := (Nat.mul_lt_mul_right (Nat.pow_pos (by omega))).2 (by omega)
      _ = 256 ^ (k + 1) := by rw [Nat.pow_succ, Nat.mul_comm]
      _ ≤ 256 ^ 8 := Nat.pow_le_pow_right (by omega) (by omega)
  have h2 : m < 256 ^ 8 := Nat.lt_of_lt_of_le hm (Nat.pow_le_pow_right (by omega) (by omega))
  have e1 : ((v : Int) * 2 ^ (8 * k)) = ((v * 256 ^ k : Nat) : Int) := by rw [← e8]; simp
  have h256 : (256 : Nat) ^ 8 = 18446744073709551616 := by decide
  rw [h256] at h1 h2
  rw [e1, IntWalk.u64_in _ (by omega), u64_or_nat m _ h2 h1]
  have := Nat.two_pow_add_eq_or_of_lt (i := 8 * k) (b := m) (by rw [e8]; exact hm) v
  rw [e8] at this
  rw [Nat.or_comm, Nat.mul_comm v, ← this, Nat.add_comm]
set_option maxHeartbeats 400000 in
theorem gather_c (a : Option Addr) (c : Nat) (bs : List Nat) (hb : ∀ x ∈ bs, x < 256) (hlen : bs.length ≤ maxLen) (p n g1 g2 : Nat) (hp : p < 2 ^ 62) (hn : n ≤ 8) (w : World) (hs : Sl w a .u8 bs) (h1 : One w g1 3 (.int .i64 p)) (h2 : One w g2 22 (.slice a bs.length c)) :
    Calls Try.prog 31 #[.int .i64 n, .func (.func 35) #[] #[.pointer (some ⟨g1, 0, none⟩), .pointer (some ⟨g2, 0, none⟩)]] w fun e w' => e = .returned (.int .u64 (numAt bs p n : Nat)) ∧ w = w' := by
  go_enter Try.func31, Try.ntmps31
  go_wp2
  go_loop [5, 8] (fun s t => ∃ k : Nat, k ≤ n ∧ t = .int .i64 k ∧ s = .int .u64 (numAt bs p k)) (fun s t => n - (intOf t).toNat)
  case atStart => exact ⟨0, by omega, rfl, rfl⟩
  case round =>
    rename_i hrel
    obtain ⟨k, hk, rfl, rfl⟩ := hrel
    by_cases hlt : k < n
    · have hsucc := numAt_succ bs p k
      have hnl := numAt_lt hb p k
      have hv := getD_bound hb (by omega) (p + k)
      go_wp2_with (fail)
      refine (from1_c a c bs hb hlen p k g1 g2 hp (by omega) _ hs h1 h2).mono ?_
      rintro e w' ⟨rfl, rfl⟩
      generalize numAt bs p k = m at *
      generalize bs.getD (p + k) 0 = v at *
      have HS := Lib.hid hsucc
      clear hsucc
      go_wp2
      rw [or_shift hnl hv (by omega)]
      exact ⟨⟨k + 1, by omega, by go_num, by rw [HS.out]⟩, by simp [intOf] <;> omega⟩
    · obtain rfl : k = n := by omega
      go_wp2
      go_ret
      exact ⟨rfl, rfl⟩
theorem from_c (a : Option Addr) (n c : Nat) (p : Int) (w : World) : Calls Try.prog 32 #[.slice a n c, .int .i64 p] w fun e w' => e = .returned (.func (.func 35) #[] #[.pointer (some ⟨w.heap.size + 1, 0, none⟩), .pointer (some ⟨w.heap.size, 0, none⟩)]) ∧ w' = (w.alloc (.cells #[.slice a n c] 22)).alloc (.cells #[.int .i64 p] 3) := by
  go_enter Try.func32, Try.ntmps32
  go_wp2
  go_ret
  exact ⟨rfl, rfl⟩
set_option maxHeartbeats 400000 in
theorem long_c (a : Option Addr) (c : Nat) (bs : List Nat) (hb : ∀ x ∈ bs, x < 256) (hlen : bs.length ≤ maxLen) (p : Nat) (hp : p < 2 ^ 62) (w : World) (hs : Sl w a .u8 bs) :
    Calls Try.prog 27 #[.slice a bs.length c, .int .i64 p] w fun e w' => e = .returned (.int .u64 (numAt bs p 8 : Nat)) ∧ Below w.heap.size w w' := by
  have hn : numAt bs p 8 < 18446744073709551616 := numAt_lt hb p 8
  have hbel := ((Below.refl w.heap.size w).alloc (Nat.le_refl _) (.cells #[.slice a bs.length c] 22)).alloc (by simp) (.cells #[.int .i64 p] 3)
  go_enter Try.func27, Try.ntmps27
  go_wp2_with (fail)
  refine (from_c _ _ _ _ _).mono ?_
  rintro e w1 ⟨rfl, rfl⟩
  go_wp2_with (fail)
  refine (gather_c a c bs hb hlen p 8 (w.heap.size + 1) w.heap.size hp (by omega) _ (hs.below hbel) (Blk.new' (by simp)) ((Blk.new _ _ _).alloc _)).mono ?_
  rintro e w1 ⟨rfl, rfl⟩
  go_wp2
  go_ret
  exact ⟨rfl, hbel⟩
theorem numAt_head (bs : List Nat) (p n : Nat) : numAt bs p (n + 1) = bs.getD p 0 + 256 * numAt bs (p + 1) n := by
  unfold numAt
  rw [List.range_succ_eq_map, List.map_cons, List.map_map]
  simp only [undig, Nat.add_zero]
  congr 3
  apply List.map_congr_left
  intro k _
  simp only [Function.comp_apply]
  rw [show p + Nat.succ k = p + 1 + k by omega]
/-! ### a number's bytes -/
theorem shr_byte (n k : Nat) : (n : Int) / 2 ^ (8 * k) % 256 = ((n / 256 ^ k % 256 : Nat) : Int) := by
  rw [show (256 : Nat) ^ k = 2 ^ (8 * k) by rw [Nat.pow_mul]]; simp
set_option maxHeartbeats 800000 in
theorem putLong_c (n : Nat) (hn : n < 18446744073709551616) (w : World) :
    Calls Try.prog 22 #[.int .u64 n] w fun e w' => e = .returned (.agg (ints .u8 (dig 256 8 n))) ∧ Below w.heap.size w w' := by
  go_enter Try.func22, Try.ntmps22
  go_wp2_with (first | (refine wpList_alloc_ints rfl 46 rfl Try.z46 ?_; (try simp only [Act.put, List.setIfInBounds_toArray, List.set_cons_zero, List.set_cons_succ, World.size_alloc, setRow_size, Nat.add_assoc, Nat.reduceAdd])))
  go_loopw [5] (fun t wr => ∃ k : Nat, k ≤ 8 ∧ t = .int .i64 k ∧ Blk wr w.heap.size 46 (ints .u8 (zeros 8)) ∧ Blk wr (w.heap.size + 1) 46 (ints .u8 ((dig 256 8 n).take k ++ zeros (8 - k))) ∧ Below w.heap.size w wr) (fun t wr => 8 - (intOf t).toNat)
  case atStart => exact ⟨0, by omega, rfl, (Blk.new _ _ _).alloc _, Blk.new' (by simp), (((Below.refl _ _).alloc (Nat.le_refl _) _).alloc (by simp) _)⟩
  case round =>
    rename_i hrel
    obtain ⟨k, hk, rfl, C0, C1, hbelr⟩ := hrel
    by_cases hlt : k < 8
    · have hl : ((dig 256 8 n).take k ++ zeros (8 - k)).length = 8 := by simp [zeros]; omega
      have c1 := C1.int (i := k) (by omega)
      have z1 := C1.frozen k
      have hv : (dig 256 8 n).getD k 0 = n / 256 ^ k % 256 := dig_getD 256 8 n k hlt
      have C1' := C1.intSet k (n / 256 ^ k % 256)
      rw [take_set (n := 8) (dig_length _ _ _) hlt hv] at C1'
      have HC := Lib.hid C1'
      clear C1' hl hv
      go_wp2
      rw [shr_byte]
      exact ⟨⟨k + 1, by omega, by go_num, C0.far (by first | omega | (simp; done) | (simp; omega)) _, HC.out, hbelr.setCell (by first | omega | (simp; done) | (simp; omega)) _⟩, by simp [intOf] <;> omega⟩
    · obtain rfl : k = 8 := by omega
      have he : (dig 256 8 n).take 8 ++ zeros (8 - 8) = dig 256 8 n := by rw [List.take_of_length_le (by simp)]; simp [zeros]
      rw [he] at C1
      clear he
      go_wp2_with (first | (refine wpList_load_ints rfl 46 _ rfl _ rfl C1 Try.ar46 (dig_length _ _ _) ?_; (try simp only [Act.put, List.setIfInBounds_toArray, List.set_cons_zero, List.set_cons_succ, World.size_alloc, setRow_size, Nat.add_assoc, Nat.reduceAdd])) | (refine wpList_store_ints rfl 46 _ _ rfl _ rfl rfl C0 (zeros_size _ _) Try.ar46 (dig_length _ _ _) ?_; (try simp only [Act.put, List.setIfInBounds_toArray, List.set_cons_zero, List.set_cons_succ, World.size_alloc, setRow_size, Nat.add_assoc, Nat.reduceAdd])))
      refine ret_ints rfl rfl (C0.row _) Try.ar46 (dig_length _ _ _) ⟨rfl, ?_⟩
      exact bSetRow hbelr (by simp) _
end Go.Proofs.Ythfkfbabjfogeaa
/- What the reference of layer 1 answers: a byte, a number of bytes, a number's bytes. No condition but that places are below 2^62. -/
namespace Go.Proofs.Ythfkfbabjfogeaa
set_option linter.unusedSimpArgs false
set_option linter.unusedVariables false
set_option linter.unusedSectionVars false
set_option linter.unusedVariables false
open Go.RowKit
set_option maxHeartbeats 400000 in
theorem at_c (a : Option Addr) (c : Nat) (bs : List Nat) (hb : ∀ x ∈ bs, x < 256) (hlen : bs.length ≤ maxLen) (p k : Nat) (hp : p < 2 ^ 62) (hk : k < 256) (w : World) (hs : Sl w a .u8 bs) :
    Calls Try.prog 33 #[.slice a bs.length c, .int .i64 p, .int .i64 k] w fun e w' => e = .returned (.int .u8 (bs.getD (p + k) 0 : Nat)) ∧ w = w' := by
  unfold maxLen at hlen
  by_cases hin : p + k < bs.length
  · obtain ⟨ga, off, rfl, hga, hcell⟩ := hs.at_ hin
    have hv := getD_bound hb (by omega) (p + k)
    generalize bs.getD (p + k) 0 = v at *
    go_enter Try.func33, Try.ntmps33
    go_wp2
    go_ret
    exact ⟨rfl, rfl⟩
  · have e : bs.getD (p + k) 0 = 0 := by rw [List.getD_eq_getElem?_getD, List.getElem?_eq_none (by omega)]; rfl
    rw [e]
    clear e
    by_cases hin2 : p < bs.length
    all_goals
      go_enter Try.func33, Try.ntmps33
      go_wp2
      go_ret
      exact ⟨rfl, rfl⟩
set_option maxHeartbeats 400000 in
theorem number_c (a : Option Addr) (c : Nat) (bs : List Nat) (hb : ∀ x ∈ bs, x < 256) (hlen : bs.length ≤ maxLen) (p n : Nat) (hp : p < 2 ^ 62) (hn : n ≤ 8) (w : World) (hs : Sl w a .u8 bs) :
    Calls Try.prog 28 #[.slice a bs.length c, .int .i64 p, .int .i64 n] w fun e w' => e = .returned (.int .u64 (numAt bs p n : Nat)) ∧ w = w' := by
  go_enter Try.func28, Try.ntmps28
  go_wp2
  go_loop [7, 8] (fun s t => ∃ j : Nat, j ≤ n ∧ t = .int .i64 ((j : Int) - 1) ∧ s = .int .u64 (numAt bs (p + j) (n - j))) (fun s t => (intOf t + 1).toNat)
  case atStart => exact ⟨n, by omega, rfl, by rw [Nat.sub_self]; rfl⟩
  case round =>
    rename_i hrel
    obtain ⟨k, hk, rfl, rfl⟩ := hrel
    rcases k with _ | k
    · have e0 : ((0 : Nat) : Int) - 1 = -1 := rfl
      rw [e0]
      go_wp2
      go_ret
      exact ⟨rfl, rfl⟩
    · have e1 : ((k + 1 : Nat) : Int) - 1 = (k : Int) := by omega
      rw [e1]
      clear e1
      have hge : (0 : Int) ≤ k := by omega
      have hd := numAt_head bs (p + k) (n - (k + 1))
      rw [show n - (k + 1) + 1 = n - k by omega, show p + k + 1 = p + (k + 1) by omega] at hd
      have hv := getD_bound hb (by omega) (p + k)
      have hm : numAt bs (p + (k + 1)) (n - (k + 1)) < 256 ^ 7 := Nat.lt_of_lt_of_le (numAt_lt hb _ _) (Nat.pow_le_pow_right (by omega) (by omega))
      have h7 : (256 : Nat) ^ 7 = 72057594037927936 := by decide
      rw [h7] at hm
      have HD := Lib.hid hd
      clear hd h7
      generalize numAt bs (p + (k + 1)) (n - (k + 1)) = m at *
      go_wp2_with (fail)
      refine (at_c a c bs hb hlen p k hp (by omega) _ hs).mono ?_
      rintro e w' ⟨rfl, rfl⟩
      generalize bs.getD (p + k) 0 = v at *
      go_wp2
      refine ⟨⟨k, by omega, rfl, ?_⟩, by simp [intOf] <;> omega⟩
      rw [HD.out]
      congr 1
      simp
      omega
theorem number_at (a : Option Addr) (c : Nat) (bs : List Nat) (hb : ∀ x ∈ bs, x < 256) (hlen : bs.length ≤ maxLen) (p n : Nat) (z : Int) (hz : z = p) (hp : p < 2 ^ 62) (hn : n ≤ 8) (w : World) (hs : Sl w a .u8 bs) :
    Calls Try.prog 28 #[.slice a bs.length c, .int .i64 z, .int .i64 n] w fun e w' => e = .returned (.int .u64 (numAt bs p n : Nat)) ∧ w = w' := by
  subst hz; exact number_c a c bs hb hlen p n hp hn w hs
theorem take_snoc {xs : List Nat} {k v : Nat} (hk : k < xs.length) (hv : xs.getD k 0 = v) : xs.take (k + 1) = xs.take k ++ [v] := by
  rw [List.take_add_one, getD_lt hk, hv]; rfl
theorem u8_inf : (Try.prog.info? 5).map (fun i => (i.zero, i.size, i.bytes)) = some (some (.int .u8 0), 1, 1) := by kernel_rfl
set_option maxHeartbeats 800000 in
theorem put_c (n m : Nat) (hn : n < 18446744073709551616) (hm : m < 2 ^ 30) (w : World) :
    Calls Try.prog 25 #[.int .u64 n, .int .i64 m] w fun e w' => ∃ v, e = .returned v ∧ Own w' w.heap.size 5 .u8 v (dig 256 m n) ∧ Below w.heap.size w w' := by
  go_enter Try.func25, Try.ntmps25
  go_wp2
  go_loopw [0, 5, 6] (fun s v t wr => ∃ k : Nat, k ≤ m ∧ t = .int .i64 k ∧ s = .int .u64 (n / 256 ^ k : Nat) ∧ Own wr w.heap.size 5 .u8 v ((dig 256 m n).take k) ∧ Below w.heap.size w wr) (fun s v t wr => m - (intOf t).toNat)
  case atStart => exact ⟨0, by omega, rfl, by simp, Own.nil _ _ _ _, Below.refl _ _⟩
  case round =>
    rename_i hrel
    obtain ⟨k, hk, rfl, rfl, hown, hbel⟩ := hrel
    have hq : n / 256 ^ k < 18446744073709551616 := Nat.lt_of_le_of_lt (Nat.div_le_self _ _) hn
    by_cases hlt : k < m
    · have hv : (dig 256 m n).getD k 0 = n / 256 ^ k % 256 := dig_getD 256 m n k hlt
      have ht := take_snoc (by simp; exact hlt) hv
      have hdd : n / 256 ^ (k + 1) = n / 256 ^ k / 256 := by rw [Nat.div_div_eq_div_mul, ← Nat.pow_succ]
      have hsz : ((dig 256 m n).take k).length < 2 ^ 40 := by simp; omega
      have HT := Lib.hid ht
      have HD := Lib.hid hdd
      clear ht hdd hv
      generalize n / 256 ^ k = q at *
      go_wp2_with (first | (refine wpList_append_one (n := q % 256) rfl rfl Try.underlying22 u8_inf rfl (by omega) rfl (hown.alloc _) rfl (by simp) hsz (Nat.le_trans hbel.size (by simp)) ?_; intro v' w' hown' hgr; (try simp only [Act.put, List.setIfInBounds_toArray, List.set_cons_zero, List.set_cons_succ, World.size_alloc, setRow_size, Nat.add_assoc, Nat.reduceAdd])))
      refine ⟨⟨k + 1, by omega, by go_num, ?_, ?_, bGrown (hbel.alloc hbel.size _) hgr (Nat.le_trans hbel.size (by simp)) (hown.alloc _) (Nat.le_refl _)⟩, by simp [intOf] <;> omega⟩
      · rw [HD.out]; simp
      · rw [HT.out]; exact hown'
    · obtain rfl : k = m := by omega
      have he : (dig 256 k n).take k = dig 256 k n := List.take_of_length_le (by simp)
      rw [he] at hown
      clear he
      go_wp2
      go_ret
      exact ⟨_, rfl, hown, hbel⟩
end Go.Proofs.Ythfkfbabjfogeaa
/- slices.Grow of a nil slice; slices.Concat of byte slices. No condition but that all together are shorter than 2^31. -/
namespace Go.Proofs.Ythfkfbabjfogeaa
set_option linter.unusedSimpArgs false
set_option linter.unusedVariables false
set_option linter.unusedSectionVars false
set_option linter.unusedVariables false
open Go.RowKit
theorem u8_cat : (Try.prog.info? 5).map (fun i => (i.zero, i.size, i.bytes)) = some (some (.int .u8 0), 1, 1) := by kernel_rfl
theorem grow_run (w : World) (n : Nat) (h0 : 0 < n) (hn : n < 2 ^ 31) : ∀ ty, ∃ w' c, (Builtin.append_ #[22, 3] ty #[.slice none 0 0, .int .i64 (n : Int)]).run Try.prog w = .ok (.slice (some ⟨w.heap.size, 0, none⟩) n c) w' ∧ n ≤ c ∧ Own w' w.heap.size 5 .u8 (.slice (some ⟨w.heap.size, 0, none⟩) 0 c) [] ∧ Below w.heap.size w w' := fun ty => by
  obtain ⟨i, hi, hz0, hz1, hz2⟩ := info_parts u8_cat
  have hold : (Builtin.firstCells i.size 0 (.slice none 0 0)).run Try.prog w.drew = .ok ([] : List Value).toArray w.drew := run_firstCells_none w.drew i.size 0 0 0
  have hr := Lib.run_append_grow_zeros (P := Try.prog) w 22 3 ty 5 i (.int .u8 0) .i64 .i64 Try.underlying22 Try.underlying3 hi hz0 none 0 0 [] hold n h0 (by omega) (by omega) (by omega) (by rw [hz2]; omega)
    (growslice_fits (by omega) (by rw [hz2]; omega))
  rw [Nat.zero_add] at hr
  have hG := grownCap_ge w n 0 5
  have hG2 := grownCap_le_maxLen w n 0 5 (by unfold maxLen; omega)
  refine ⟨_, _, hr, hG, ?_, (Below.refl _ _).drew.alloc (Nat.le_refl _) _⟩
  refine ⟨by simp, .inr ⟨w.heap.size, _, _, rfl, Nat.le_refl _, heap_alloc_new _ _, by simp, hG2, ?_, by simp⟩⟩
  simp [Builtin.zeroCells, Value.cells]
  omega
set_option maxRecDepth 100000 in
set_option maxHeartbeats 2000000 in
theorem grow_c (n : Nat) (hn : n < 2 ^ 31) (w : World) :
    Calls Try.prog 34 #[.slice none 0 0, .int .i64 n] w fun e w' => ∃ v, e = .returned v ∧ Own w' w.heap.size 5 .u8 v [] ∧ Below w.heap.size w w' := by
  by_cases h0 : n = 0
  · subst h0
    go_enter Try.func34, Try.ntmps34
    go_wp2
    go_ret
    exact ⟨_, rfl, Own.nil _ _ _ _, Below.refl _ _⟩
  · have hr := grow_run w n (by omega) hn
    have hgt : decide ((n : Int) > 0) = true := by simp; omega
    go_enter Try.func34, Try.ntmps34
    obtain ⟨w1, c, hrun, hnc, hown, hbel⟩ := hr 22
    clear hr
    go_wp2_with (at_builtin; refine Lib.wpList_append_run _ rfl _ _ _ _ rfl _ _ rfl rfl _ _ hrun ?_)
    go_ret
    exact ⟨_, rfl, hown, hbel⟩
/-- The slices in a row of slices of bytes. -/
def SlS (w : World) (a : Option Addr) (xss : List (List Nat)) : Prop :=
  ∀ i, i < xss.length → ∃ g off ai ci, a = some ⟨g, off, none⟩ ∧ g < w.heap.size ∧ w.cell? ⟨g, off + i, none⟩ = some (.slice ai (xss.getD i []).length ci) ∧ Sl w ai .u8 (xss.getD i []) ∧ (ai = none → ci = 0)
theorem SlS.below {w w' : World} {a : Option Addr} {xss : List (List Nat)} (h : SlS w a xss) (hb : Below w.heap.size w w') : SlS w' a xss := fun i hi => by
  obtain ⟨g, off, ai, ci, h1, h2, h3, h4, h5⟩ := h i hi
  exact ⟨g, off, ai, ci, h1, Nat.lt_of_lt_of_le h2 hb.size, (hb.cell h2).trans h3, h4.below hb, h5⟩
def lens (xss : List (List Nat)) (k : Nat) : Nat := (xss.take k).flatten.length
theorem getD_some {xss : List (List Nat)} {k : Nat} (hk : k < xss.length) : xss[k]? = some (xss.getD k []) := by
  rw [List.getD_eq_getElem?_getD, List.getElem?_eq_getElem hk]; rfl
theorem flat_succ {xss : List (List Nat)} {k : Nat} (hk : k < xss.length) : (xss.take (k + 1)).flatten = (xss.take k).flatten ++ xss.getD k [] := by
  rw [List.take_add_one, getD_some hk]
  simp
theorem lens_succ {xss : List (List Nat)} {k : Nat} (hk : k < xss.length) : lens xss (k + 1) = lens xss k + (xss.getD k []).length := by
  unfold lens
  rw [flat_succ hk, List.length_append]
theorem lens_le (xss : List (List Nat)) (k : Nat) : lens xss k ≤ xss.flatten.length := by
  unfold lens
  have := congrArg List.length (List.flatten_append (L₁ := xss.take k) (L₂ := xss.drop k))
  rw [List.take_append_drop, List.length_append] at this
  omega
theorem slS_of {w : World} {g t : Nat} {vs : List Value} {xss : List (List Nat)} (hb : Blk w g t vs.toArray) (h : ∀ i, i < xss.length → ∃ ai ci, vs[i]? = some (.slice ai (xss.getD i []).length ci) ∧ Sl w ai .u8 (xss.getD i []) ∧ (ai = none → ci = 0)) : SlS w (some ⟨g, 0, none⟩) xss := fun i hi => by
  obtain ⟨ai, ci, h1, h2, h3⟩ := h i hi
  exact ⟨g, 0, ai, ci, rfl, hb.lt, by rw [Nat.zero_add, hb.cell, List.getElem?_toArray, h1], h2, h3⟩
/-- A slice of these slices. -/
def SlV (w : World) (v : Value) (xss : List (List Nat)) : Prop := ∃ g c, v = .slice (some ⟨g, 0, none⟩) xss.length c ∧ SlS w (some ⟨g, 0, none⟩) xss
theorem SlV.below {w w' : World} {v : Value} {xss : List (List Nat)} (h : SlV w v xss) (hb : Below w.heap.size w w') : SlV w' v xss := let ⟨g, c, h1, h2⟩ := h; ⟨g, c, h1, h2.below hb⟩
set_option maxRecDepth 100000 in
set_option maxHeartbeats 8000000 in
theorem concat_c (a : Option Addr) (c : Nat) (xss : List (List Nat)) (hm : xss.length < 2 ^ 31) (hlen : xss.flatten.length < 2 ^ 31) (w : World) (hs : SlS w a xss) :
    Calls Try.prog 30 #[.slice a xss.length c] w fun e w' => ∃ v, e = .returned v ∧ Own w' w.heap.size 5 .u8 v xss.flatten ∧ Below w.heap.size w w' := by
  obtain ⟨m, HM⟩ : ∃ m, Hid (xss.length = m) := ⟨_, Lib.hid rfl⟩
  rw [HM.out] at hm ⊢
  go_enter Try.func30, Try.ntmps30
  go_wp2
  go_loop [3, 11] (fun s t => ∃ k : Nat, k ≤ m ∧ t = .int .i64 k ∧ s = .int .i64 (lens xss k : Nat)) (fun s t => m - (intOf t).toNat)
  case atStart => exact ⟨0, by omega, rfl, rfl⟩
  case round =>
    rename_i hrel
    obtain ⟨k, hk, rfl, rfl⟩ := hrel
    by_cases hlt : k < m
    · obtain ⟨g, off, ai, ci, rfl, hg, hc, -, -⟩ := hs k (by rw [HM.out]; exact hlt)
      have hls := lens_succ (xss := xss) (k := k) (by rw [HM.out]; exact hlt)
      have hle := lens_le xss (k + 1)
      have hd0 : decide ((k : Int) < (m : Int)) = true := by simp; omega
      have Hls := Lib.hid hls
      have hle1 : lens xss k + (xss.getD k []).length < 2 ^ 31 := by omega
      clear hls hle
      generalize lens xss k = s at *
      generalize (xss.getD k []).length = q at *
      go_wp2_with fail
      exact ⟨⟨k + 1, by omega, by go_num, by rw [Hls.out]; go_num⟩, by simp [intOf] <;> omega⟩
    · obtain rfl : k = m := by omega
      have hd0 : decide ((k : Int) < (k : Int)) = false := by simp
      have hle := lens_le xss k
      have hq : lens xss k < 2 ^ 31 := by omega
      clear hle
      go_wp2_with fail
      refine (grow_c (lens xss k) hq _).mono ?_
      rintro e w1 ⟨v, rfl, hown, hbel⟩
      have hs1 := hs.below hbel
      generalize lens xss k = q at *
      clear hq
      go_wp2_with fail
      go_loopw [6, 27] (fun v t wr => ∃ i : Nat, i ≤ k ∧ t = .int .i64 i ∧ Own wr w.heap.size 5 .u8 v ((xss.take i).flatten) ∧ Below w.heap.size w wr) (fun v t wr => k - (intOf t).toNat)
      case atStart => exact ⟨0, by omega, rfl, hown, hbel⟩
      case round =>
        clear hown hbel hs1
        obtain ⟨i, hi, rfl, hown, hbel⟩ := hrel
        by_cases hlt : i < k
        · have hs1 := hs.below hbel
          obtain ⟨g, off, ai, ci, rfl, hg, hc, hsl, hnil⟩ := hs1 i (by rw [HM.out]; exact hlt)
          have hfl := flat_succ (xss := xss) (k := i) (by rw [HM.out]; exact hlt)
          have hle := lens_le xss i
          have hle2 := lens_le xss (i + 1)
          have hls := lens_succ (xss := xss) (k := i) (by rw [HM.out]; exact hlt)
          have hln : (xss.take i).flatten.length + (xss.getD i []).length < 2 ^ 40 := by unfold lens at *; omega
          have Hfl := Lib.hid hfl
          have hd0 : decide ((i : Int) < (k : Int)) = true := by simp; omega
          have hB := hbel.size
          clear hfl hle hle2 hls hs hs1
          generalize (xss.take i).flatten = zs at *
          generalize xss.getD i [] = ys at *
          go_wp2_with (refine wpList_append_sl rfl rfl Try.underlying22 u8_cat rfl (by omega) rfl hown rfl rfl hnil hsl hln hB ?_; intro v' w' hown' hgr; (try simp only [Act.put, List.setIfInBounds_toArray, List.set_cons_zero, List.set_cons_succ, World.size_alloc, setRow_size, Nat.add_assoc, Nat.reduceAdd]))
          exact ⟨⟨i + 1, by omega, by go_num, by rw [Hfl.out]; exact hown', bGrown hbel hgr hB hown (Nat.le_refl _)⟩, by simp [intOf] <;> omega⟩
        · obtain rfl : i = k := by omega
          have he : xss.take i = xss := List.take_of_length_le (by rw [HM.out]; omega)
          rw [he] at hown
          have hd0 : decide ((i : Int) < (i : Int)) = false := by simp
          clear he
          go_wp2_with fail
          go_ret
          exact ⟨_, rfl, hown, hbel⟩
end Go.Proofs.Ythfkfbabjfogeaa
