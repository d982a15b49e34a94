/- Closed facts on the program's types: how many cells an array has, what its zero value is. No condition. -/
import Derived.Test.YtolfngmpoafaaaaRows
import Derived.Test.YtolfngmpoafaaaaKA
import Derived.StillTailTactics
import Derived.BigQuiet
import Derived.Lib.AppendZerosOnto
import Derived.Lib.SliceRun
import Derived.Lib.Walk
import Derived.OwnWalk
namespace Go.Proofs.Ytolfngmpoafaaaa
set_option linter.unusedSimpArgs false
set_option linter.unusedVariables false
set_option linter.unusedSectionVars false
set_option linter.unusedVariables false
theorem Try.s128 : (Try.prog.info? 28).map (·.size) = some 1 := by kernel_rfl
theorem Try.s171 : (Try.prog.info? 71).map (·.size) = some 1 := by kernel_rfl
theorem Try.s15 : (Try.prog.info? 5).map (·.size) = some 1 := by kernel_rfl
theorem Try.sz28 : Try.prog.cellsOf 28 = 1 := by kernel_rfl
theorem Try.is28 : (Try.prog.info? 28).isSome = true := by kernel_rfl
theorem Try.sz71 : Try.prog.cellsOf 71 = 1 := by kernel_rfl
theorem Try.is71 : (Try.prog.info? 71).isSome = true := by kernel_rfl
theorem Try.sz5 : Try.prog.cellsOf 5 = 1 := by kernel_rfl
theorem Try.is5 : (Try.prog.info? 5).isSome = true := by kernel_rfl
theorem Try.ar101 : IsArr Try.prog 101 5 := isArr Try.underlying101 (by kernel_rfl)
theorem Try.z101 : IsZero Try.prog 101 5 .u64 := isZero (by kernel_rfl)
theorem Try.ar83 : IsArr Try.prog 83 5 := isArr Try.underlying83 (by kernel_rfl)
theorem Try.z83 : IsZero Try.prog 83 5 .u32 := isZero (by kernel_rfl)
theorem Try.ar82 : IsArr Try.prog 82 5 := isArr Try.underlying82 (by kernel_rfl)
theorem Try.z82 : IsZero Try.prog 82 5 .u32 := isZero (by kernel_rfl)
theorem Try.ar75 : IsArr Try.prog 75 4 := isArr Try.underlying75 (by kernel_rfl)
theorem Try.z75 : IsZero Try.prog 75 4 .u32 := isZero (by kernel_rfl)
theorem Try.ar74 : IsArr Try.prog 74 4 := isArr Try.underlying74 (by kernel_rfl)
theorem Try.z74 : IsZero Try.prog 74 4 .u64 := isZero (by kernel_rfl)
theorem Try.ar77 : IsArr Try.prog 77 8 := isArr Try.underlying77 (by kernel_rfl)
theorem Try.z77 : IsZero Try.prog 77 8 .u8 := isZero (by kernel_rfl)
theorem Try.ar35 : IsArr Try.prog 35 16 := isArr Try.underlying35 (by kernel_rfl)
theorem Try.z35 : IsZero Try.prog 35 16 .u8 := isZero (by kernel_rfl)
theorem Try.ar47 : IsArr Try.prog 47 32 := isArr Try.underlying47 (by kernel_rfl)
theorem Try.z47 : IsZero Try.prog 47 32 .u8 := isZero (by kernel_rfl)
theorem Try.ar91 : IsArr Try.prog 91 17 := isArr Try.underlying91 (by kernel_rfl)
theorem Try.z91 : IsZero Try.prog 91 17 .u8 := isZero (by kernel_rfl)
end Go.Proofs.Ytolfngmpoafaaaa
/- What octet's functions answer: a number out of bytes. No condition but that places are below 2^62. -/
namespace Go.Proofs.Ytolfngmpoafaaaa
set_option linter.unusedSimpArgs false
set_option linter.unusedVariables false
set_option linter.unusedSectionVars false
set_option linter.unusedVariables false
open Go.RowKit
/-- So many bytes from a place on, as a number; noughts where there are none. -/
def numAt (bs : List Nat) (at_ n : Nat) : Nat := undig 256 ((List.range n).map fun k => bs.getD (at_ + k) 0)
theorem numAt_succ (bs : List Nat) (p k : Nat) : numAt bs p (k + 1) = numAt bs p k + bs.getD (p + k) 0 * 256 ^ k := by
  unfold numAt
  rw [List.range_succ, List.map_append, undig_append]
  simp [undig, Nat.mul_comm]
theorem numAt_lt {bs : List Nat} (hb : ∀ x ∈ bs, x < 256) (p n : Nat) : numAt bs p n < 256 ^ n := by
  have h := undig_lt (b := 256) ((List.range n).map fun k => bs.getD (p + k) 0) (fun x hx => by
    obtain ⟨k, -, rfl⟩ := List.mem_map.1 hx
    exact getD_bound hb (by omega) _)
  rw [List.length_map, List.length_range] at h
  exact h
/-- The block behind a captured variable that holds one value. -/
def One (w : World) (g : Nat) (t : TypeId) (v : Value) : Prop := Blk w g t #[v]
theorem One.cell {w : World} {g t : Nat} {v : Value} (h : One w g t v) : w.cell? ⟨g, 0, none⟩ = some v := by rw [Blk.cell h]; rfl
set_option maxHeartbeats 400000 in
theorem from1_c (a : Option Addr) (c : Nat) (bs : List Nat) (hb : ∀ x ∈ bs, x < 256) (hlen : bs.length ≤ maxLen) (p k g1 g2 : Nat) (hp : p < 2 ^ 62) (hk : k < 8) (w : World) (hs : Sl w a .u8 bs) (h1 : One w g1 3 (.int .i64 p)) (h2 : One w g2 22 (.slice a bs.length c)) :
    Calls Try.prog 69 #[.int .i64 k, .pointer (some ⟨g1, 0, none⟩), .pointer (some ⟨g2, 0, none⟩)] w fun e w' => e = .returned (.int .u8 (bs.getD (p + k) 0 : Nat)) ∧ w = w' := by
  have c1 := h1.cell
  have c2 := h2.cell
  unfold maxLen at hlen
  by_cases hin : p + k < bs.length
  · obtain ⟨ga, off, rfl, hga, hcell⟩ := hs.at_ hin
    have hv := getD_bound hb (by omega) (p + k)
    generalize bs.getD (p + k) 0 = v at *
    go_enter Try.func69, Try.ntmps69
    go_wp2
    go_ret
    exact ⟨rfl, rfl⟩
  · have e : bs.getD (p + k) 0 = 0 := by rw [List.getD_eq_getElem?_getD, List.getElem?_eq_none (by omega)]; rfl
    rw [e]
    clear e
    go_enter Try.func69, Try.ntmps69
    go_wp2
    go_ret
    exact ⟨rfl, rfl⟩
theorem or_shift {m v k : Nat} (hm : m < 256 ^ k) (hv : v < 256) (hk : k < 8) : bits BinOp.or IntKind.u64 (m : Int) (IntKind.u64.wrap ((v : Int) * 2 ^ (8 * k))) = ((m + v * 256 ^ k : Nat) : Int) := by
  have e8 : (2 : Nat) ^ (8 * k) = 256 ^ k := by rw [Nat.pow_mul]
  have h1 : v * 256 ^ k < 256 ^ 8 := by
    calc v * 256 ^ k ≤ 255 * 256 ^ k := Nat.mul_le_mul_right _ (by omega)
      _ < 256 * 256 ^ k := (Nat.mul_lt_mul_right (Nat.pow_pos (by omega))).2 (by omega)
      _ = 256 ^ (k + 1) := by rw [Nat.pow_succ, Nat.mul_comm]
      _ ≤ 256 ^ 8 := Nat.pow_le_pow_right (by omega) (by omega)
  have h2 : m < 256 ^ 8 := Nat.lt_of_lt_of_le hm (Nat.pow_le_pow_right (by omega) (by omega))
  have e1 : ((v : Int) * 2 ^ (8 * k)) = ((v * 256 ^ k : Nat) : Int) := by rw [← e8]; simp
  have h256 : (256 : Nat) ^ 8 = 18446744073709551616 := by decide
  rw [h256] at h1 h2
  rw [e1, IntWalk.u64_in _ (by omega), u64_or_nat m _ h2 h1]
  have := Nat.two_pow_add_eq_or_of_lt (i := 8 * k) (b := m) (by rw [e8]; exact hm) v
  rw [e8] at this
  rw [Nat.or_comm, Nat.mul_comm v, ← this, Nat.add_comm]
set_option maxHeartbeats 400000 in
theorem gather_c (a : Option Addr) (c : Nat) (bs : List Nat) (hb : ∀ x ∈ bs, x < 256) (hlen : bs.length ≤ maxLen) (p n g1 g2 : Nat) (hp : p < 2 ^ 62) (hn : n ≤ 8) (w : World) (hs : Sl w a .u8 bs) (h1 : One w g1 3 (.int .i64 p)) (h2 : One w g2 22 (.slice a bs.length c)) :
    Calls Try.prog 56 #[.int .i64 n, .func (.func 69) #[] #[.pointer (some ⟨g1, 0, none⟩), .pointer (some ⟨g2, 0, none⟩)]] w fun e w' => e = .returned (.int .u64 (numAt bs p n : Nat)) ∧ w = w' := by
  go_enter Try.func56, Try.ntmps56
  go_wp2
  go_loop [5, 8] (fun s t => ∃ k : Nat, k ≤ n ∧ t = .int .i64 k ∧ s = .int .u64 (numAt bs p k)) (fun s t => n - (intOf t).toNat)
  case atStart => exact ⟨0, by omega, rfl, rfl⟩
  case round =>
    rename_i hrel
    obtain ⟨k, hk, rfl, rfl⟩ := hrel
    by_cases hlt : k < n
    · have hsucc := numAt_succ bs p k
      have hnl := numAt_lt hb p k
      have hv := getD_bound hb (by omega) (p + k)
      go_wp2_with (fail)
      refine (from1_c a c bs hb hlen p k g1 g2 hp (by omega) _ hs h1 h2).mono ?_
      rintro e w' ⟨rfl, rfl⟩
      generalize numAt bs p k = m at *
      generalize bs.getD (p + k) 0 = v at *
      have HS := Lib.hid hsucc
      clear hsucc
      go_wp2
      rw [or_shift hnl hv (by omega)]
      exact ⟨⟨k + 1, by omega, by go_num, by rw [HS.out]⟩, by simp [intOf] <;> omega⟩
    · obtain rfl : k = n := by omega
      go_wp2
      go_ret
      exact ⟨rfl, rfl⟩
theorem from_c (a : Option Addr) (n c : Nat) (p : Int) (w : World) : Calls Try.prog 57 #[.slice a n c, .int .i64 p] w fun e w' => e = .returned (.func (.func 69) #[] #[.pointer (some ⟨w.heap.size + 1, 0, none⟩), .pointer (some ⟨w.heap.size, 0, none⟩)]) ∧ w' = (w.alloc (.cells #[.slice a n c] 22)).alloc (.cells #[.int .i64 p] 3) := by
  go_enter Try.func57, Try.ntmps57
  go_wp2
  go_ret
  exact ⟨rfl, rfl⟩
set_option maxHeartbeats 400000 in
theorem word_c (a : Option Addr) (c : Nat) (bs : List Nat) (hb : ∀ x ∈ bs, x < 256) (hlen : bs.length ≤ maxLen) (p : Nat) (hp : p < 2 ^ 62) (w : World) (hs : Sl w a .u8 bs) :
    Calls Try.prog 40 #[.slice a bs.length c, .int .i64 p] w fun e w' => e = .returned (.int .u32 (numAt bs p 4 : Nat)) ∧ Below w.heap.size w w' := by
  have hn : numAt bs p 4 < 4294967296 := numAt_lt hb p 4
  have hbel := ((Below.refl w.heap.size w).alloc (Nat.le_refl _) (.cells #[.slice a bs.length c] 22)).alloc (by simp) (.cells #[.int .i64 p] 3)
  go_enter Try.func40, Try.ntmps40
  go_wp2_with (fail)
  refine (from_c _ _ _ _ _).mono ?_
  rintro e w1 ⟨rfl, rfl⟩
  go_wp2_with (fail)
  refine (gather_c a c bs hb hlen p 4 (w.heap.size + 1) w.heap.size hp (by omega) _ (hs.below hbel) (Blk.new' (by simp)) ((Blk.new _ _ _).alloc _)).mono ?_
  rintro e w1 ⟨rfl, rfl⟩
  go_wp2
  go_ret
  exact ⟨rfl, hbel⟩
theorem word_at (a : Option Addr) (c : Nat) (bs : List Nat) (hb : ∀ x ∈ bs, x < 256) (hlen : bs.length ≤ maxLen) (p : Nat) (z : Int) (hz : z = p) (hp : p < 2 ^ 62) (w : World) (hs : Sl w a .u8 bs) :
    Calls Try.prog 40 #[.slice a bs.length c, .int .i64 z] w fun e w' => e = .returned (.int .u32 (numAt bs p 4 : Nat)) ∧ Below w.heap.size w w' := by
  subst hz; exact word_c a c bs hb hlen p hp w hs
set_option maxHeartbeats 400000 in
theorem long_c (a : Option Addr) (c : Nat) (bs : List Nat) (hb : ∀ x ∈ bs, x < 256) (hlen : bs.length ≤ maxLen) (p : Nat) (hp : p < 2 ^ 62) (w : World) (hs : Sl w a .u8 bs) :
    Calls Try.prog 45 #[.slice a bs.length c, .int .i64 p] w fun e w' => e = .returned (.int .u64 (numAt bs p 8 : Nat)) ∧ Below w.heap.size w w' := by
  have hn : numAt bs p 8 < 18446744073709551616 := numAt_lt hb p 8
  have hbel := ((Below.refl w.heap.size w).alloc (Nat.le_refl _) (.cells #[.slice a bs.length c] 22)).alloc (by simp) (.cells #[.int .i64 p] 3)
  go_enter Try.func45, Try.ntmps45
  go_wp2_with (fail)
  refine (from_c _ _ _ _ _).mono ?_
  rintro e w1 ⟨rfl, rfl⟩
  go_wp2_with (fail)
  refine (gather_c a c bs hb hlen p 8 (w.heap.size + 1) w.heap.size hp (by omega) _ (hs.below hbel) (Blk.new' (by simp)) ((Blk.new _ _ _).alloc _)).mono ?_
  rintro e w1 ⟨rfl, rfl⟩
  go_wp2
  go_ret
  exact ⟨rfl, hbel⟩
theorem numAt_head (bs : List Nat) (p n : Nat) : numAt bs p (n + 1) = bs.getD p 0 + 256 * numAt bs (p + 1) n := by
  unfold numAt
  rw [List.range_succ_eq_map, List.map_cons, List.map_map]
  simp only [undig, Nat.add_zero]
  congr 3
  apply List.map_congr_left
  intro k _
  simp only [Function.comp_apply]
  rw [show p + Nat.succ k = p + 1 + k by omega]
/-! ### a number's bytes -/
theorem shr_byte (n k : Nat) : (n : Int) / 2 ^ (8 * k) % 256 = ((n / 256 ^ k % 256 : Nat) : Int) := by
  rw [show (256 : Nat) ^ k = 2 ^ (8 * k) by rw [Nat.pow_mul]]; simp
set_option maxHeartbeats 800000 in
theorem putLong_c (n : Nat) (hn : n < 18446744073709551616) (w : World) :
    Calls Try.prog 43 #[.int .u64 n] w fun e w' => e = .returned (.agg (ints .u8 (dig 256 8 n))) ∧ Below w.heap.size w w' := by
  go_enter Try.func43, Try.ntmps43
  go_wp2_with (first | (refine wpList_alloc_ints rfl 77 rfl Try.z77 ?_; (try simp only [Act.put, List.setIfInBounds_toArray, List.set_cons_zero, List.set_cons_succ, World.size_alloc, setRow_size, Nat.add_assoc, Nat.reduceAdd])))
  go_loopw [5] (fun t wr => ∃ k : Nat, k ≤ 8 ∧ t = .int .i64 k ∧ Blk wr w.heap.size 77 (ints .u8 (zeros 8)) ∧ Blk wr (w.heap.size + 1) 77 (ints .u8 ((dig 256 8 n).take k ++ zeros (8 - k))) ∧ Below w.heap.size w wr) (fun t wr => 8 - (intOf t).toNat)
  case atStart => exact ⟨0, by omega, rfl, (Blk.new _ _ _).alloc _, Blk.new' (by simp), (((Below.refl _ _).alloc (Nat.le_refl _) _).alloc (by simp) _)⟩
  case round =>
    rename_i hrel
    obtain ⟨k, hk, rfl, C0, C1, hbelr⟩ := hrel
    by_cases hlt : k < 8
    · have hl : ((dig 256 8 n).take k ++ zeros (8 - k)).length = 8 := by simp [zeros]; omega
      have c1 := C1.int (i := k) (by omega)
      have z1 := C1.frozen k
      have hv : (dig 256 8 n).getD k 0 = n / 256 ^ k % 256 := dig_getD 256 8 n k hlt
      have C1' := C1.intSet k (n / 256 ^ k % 256)
      rw [take_set (n := 8) (dig_length _ _ _) hlt hv] at C1'
      have HC := Lib.hid C1'
      clear C1' hl hv
      go_wp2
      rw [shr_byte]
      exact ⟨⟨k + 1, by omega, by go_num, C0.far (by first | omega | (simp; done) | (simp; omega)) _, HC.out, hbelr.setCell (by first | omega | (simp; done) | (simp; omega)) _⟩, by simp [intOf] <;> omega⟩
    · obtain rfl : k = 8 := by omega
      have he : (dig 256 8 n).take 8 ++ zeros (8 - 8) = dig 256 8 n := by rw [List.take_of_length_le (by simp)]; simp [zeros]
      rw [he] at C1
      clear he
      go_wp2_with (first | (refine wpList_load_ints rfl 77 _ rfl _ rfl C1 Try.ar77 (dig_length _ _ _) ?_; (try simp only [Act.put, List.setIfInBounds_toArray, List.set_cons_zero, List.set_cons_succ, World.size_alloc, setRow_size, Nat.add_assoc, Nat.reduceAdd])) | (refine wpList_store_ints rfl 77 _ _ rfl _ rfl rfl C0 (zeros_size _ _) Try.ar77 (dig_length _ _ _) ?_; (try simp only [Act.put, List.setIfInBounds_toArray, List.set_cons_zero, List.set_cons_succ, World.size_alloc, setRow_size, Nat.add_assoc, Nat.reduceAdd])))
      refine ret_ints rfl rfl (C0.row _) Try.ar77 (dig_length _ _ _) ⟨rfl, ?_⟩
      exact bSetRow hbelr (by simp) _
end Go.Proofs.Ytolfngmpoafaaaa
/- What octet's functions on numbers of 128 bits answer: sixteen bytes as a number, a number's bytes, sixteen bytes of a row. No condition. -/
namespace Go.Proofs.Ytolfngmpoafaaaa
set_option linter.unusedSimpArgs false
set_option linter.unusedVariables false
set_option linter.unusedSectionVars false
set_option linter.unusedVariables false
open Go.RowKit
theorem Try.ar30 : IsArr Try.prog 30 2 := isStr Try.underlying30 (by kernel_rfl)
theorem Try.z30 : IsZero Try.prog 30 2 .u64 := isZero (by kernel_rfl)
set_option maxHeartbeats 1000000 in
theorem load_c (a : Option Addr) (c : Nat) (bs : List Nat) (hb : ∀ x ∈ bs, x < 256) (hlen : bs.length ≤ maxLen) (w : World) (hs : Sl w a .u8 bs) :
    Calls Try.prog 24 #[.slice a bs.length c] w fun e w' => e = .returned (.agg (ints .u64 [numAt bs 0 8, numAt bs 8 8])) ∧ Below w.heap.size w w' := by
  have Z := Blk.new w 30 (ints .u64 (zeros 2))
  have hbel := (Below.refl w.heap.size w).alloc (Nat.le_refl _) (.cells (ints .u64 (zeros 2)) 30)
  go_enter Try.func24, Try.ntmps24
  go_wp2_with (refine wpList_alloc_ints rfl 30 rfl Try.z30 ?_; (try simp only [Act.put, List.setIfInBounds_toArray, List.set_cons_zero, List.set_cons_succ, World.size_alloc, setRow_size, Nat.add_assoc, Nat.reduceAdd]))
  refine (long_c a c bs hb hlen 0 (by omega) _ (hs.below hbel)).mono ?_
  rintro e w1 ⟨rfl, hb1⟩
  have hbel1 := bCall hbel hb1 hbel.size
  go_wp2_with (fail)
  refine (long_c a c bs hb hlen 8 (by omega) _ (hs.below hbel1)).mono ?_
  rintro e w2 ⟨rfl, hb2⟩
  have Z2 := (Z.below' hb1).below' hb2
  have hbel2 := bCall hbel1 hb2 hbel1.size
  go_wp2_with (refine wpList_store_ints rfl 30 _ _ rfl w.heap.size (k := .u64) (xs := [numAt bs 0 8, numAt bs 8 8]) rfl rfl Z2 (zeros_size _ _) Try.ar30 rfl ?_; (try simp only [Act.put, List.setIfInBounds_toArray, List.set_cons_zero, List.set_cons_succ, World.size_alloc, setRow_size, Nat.add_assoc, Nat.reduceAdd]))
  exact ret_ints rfl rfl (Z2.row _) Try.ar30 rfl ⟨rfl, bSetRow hbel2 (Nat.le_refl _) _⟩
theorem splice_lo {xs : List Nat} (h : xs.length = 8) : splice (zeros 16) 0 xs = xs ++ zeros 8 := by
  unfold splice
  rw [h]; simp [zeros]
theorem splice_hi {xs ys : List Nat} (h : xs.length = 8) (h' : ys.length = 8) : splice (xs ++ zeros 8) 8 ys = xs ++ ys := by
  unfold splice
  rw [h', ← h, List.take_left, List.drop_of_length_le (by simp [zeros, h])]; simp
set_option maxRecDepth 100000 in
set_option maxHeartbeats 2000000 in
theorem wbytes_c (lo hi : Nat) (h0 : lo < 18446744073709551616) (h1 : hi < 18446744073709551616) (w : World) :
    Calls Try.prog 27 #[.agg (ints .u64 [lo, hi])] w fun e w' => e = .returned (.agg (ints .u8 (dig 256 8 lo ++ dig 256 8 hi))) ∧ Below w.heap.size w w' := by
  have B0 := ((Blk.new w 30 (ints .u64 [lo, hi])).alloc (.cells (ints .u8 (zeros 16)) 35)).alloc (.cells (ints .u8 (zeros 16)) 35)
  have B1 := (Blk.new (w.alloc (.cells (ints .u64 [lo, hi]) 30)) 35 (ints .u8 (zeros 16))).alloc (.cells (ints .u8 (zeros 16)) 35)
  have B2 := Blk.new ((w.alloc (.cells (ints .u64 [lo, hi]) 30)).alloc (.cells (ints .u8 (zeros 16)) 35)) 35 (ints .u8 (zeros 16))
  rw [World.size_alloc] at B1
  rw [World.size_alloc, World.size_alloc] at B2
  have hbel := (((Below.refl w.heap.size w).alloc (Nat.le_refl _) (.cells (ints .u64 [lo, hi]) 30)).alloc (by simp) (.cells (ints .u8 (zeros 16)) 35)).alloc (by simp; omega) (.cells (ints .u8 (zeros 16)) 35)
  simp only [Nat.add_assoc, Nat.reduceAdd] at B2
  have hsz : Hid ((((w.alloc (.cells (ints .u64 [lo, hi]) 30)).alloc (.cells (ints .u8 (zeros 16)) 35)).alloc (.cells (ints .u8 (zeros 16)) 35)).heap.size = w.heap.size + 3) := Lib.hid (by simp)
  go_enter Try.func27, Try.ntmps27
  go_wp2_with (refine wpList_alloc_ints rfl 35 rfl Try.z35 ?_; (try simp only [Act.put, List.setIfInBounds_toArray, List.set_cons_zero, List.set_cons_succ, World.size_alloc, setRow_size, Nat.add_assoc, Nat.reduceAdd]))
  generalize (((w.alloc (.cells (ints .u64 [lo, hi]) 30)).alloc (.cells (ints .u8 (zeros 16)) 35)).alloc (.cells (ints .u8 (zeros 16)) 35)) = w0 at *
  have c0 := B0.int (i := 0) (by simp)
  have c1 := B0.int (i := 1) (by simp)
  simp only [List.getD_cons_zero, List.getD_cons_succ] at c0 c1
  have hlt0 := B0.lt
  have hlo := dig_length 256 8 lo
  have hhi := dig_length 256 8 hi
  refine wp_region_inv (by kernel_rfl) (by kernel_rfl) (fun D act_ W => ∃ u4 u5 u6 u7 u8 u9 u10 u11 : Value, act_ = { tmps := #[.agg (ints .u64 [lo, hi]), .pointer (some ⟨w.heap.size, 0, none⟩), .pointer (some ⟨w.heap.size + 1, 0, none⟩), .pointer (some ⟨w.heap.size + 2, 0, none⟩), u4, u5, u6, u7, u8, u9, u10, u11, undef, undef, undef, undef, undef, undef, undef], defers := [] } ∧ Below w0.heap.size w0 W ∧ (D 0 → u6 = .pointer (some ⟨w.heap.size, 0, none⟩)) ∧ (D 1 → u7 = .int .u64 lo) ∧ (D 2 → u8 = .agg (ints .u8 (dig 256 8 lo))) ∧ (D 3 → u9 = .pointer (some ⟨w.heap.size, 1, none⟩)) ∧ (D 4 → u10 = .int .u64 hi) ∧ (D 5 → u11 = .agg (ints .u8 (dig 256 8 hi))) ∧ (D 6 → Al W w0.heap.size u4 77 8 .u8 (D 8) (dig 256 8 lo)) ∧ (D 7 → Al W w0.heap.size u5 77 8 .u8 (D 9) (dig 256 8 hi)) ∧ (D 8 → D 6) ∧ (D 9 → D 7) ∧ (D 6 → D 7 → u4 ≠ u5)) ?_ ?_ ?_
  · exact ⟨_, _, _, _, _, _, _, _, rfl, ⟨rfl, rfl, rfl, Nat.le_refl _, fun _ _ => rfl⟩, (fun h => h.elim), (fun h => h.elim), (fun h => h.elim), (fun h => h.elim), (fun h => h.elim), (fun h => h.elim), (fun h => h.elim), (fun h => h.elim), (fun h => h.elim), (fun h => h.elim), (fun h => h.elim)⟩
  · intro i o hi D act_ W hI hnD hall
    obtain ⟨u4, u5, u6, u7, u8, u9, u10, u11, rfl, hW, f0, f1, f2, f3, f4, f5, f6, f7, f8, f9, f10⟩ := hI
    rcases i with _ | _ | _ | _ | _ | _ | _ | _ | _ | _ | i
    · simp only [Nat.zero_add, Nat.reduceAdd, List.getElem?_toArray, List.getElem?_cons_succ, List.getElem?_cons_zero, Option.some.injEq] at hi
      subst hi
      refine wpOp_value (v := .pointer (some ⟨w.heap.size, 0, none⟩)) rfl rfl (by kernel_rfl) ?_
      exact ⟨_, _, _, _, _, _, _, _, rfl, hW, (fun _ => rfl), (fun h => f1 (h.resolve_left (by decide))), (fun h => f2 (h.resolve_left (by decide))), (fun h => f3 (h.resolve_left (by decide))), (fun h => f4 (h.resolve_left (by decide))), (fun h => f5 (h.resolve_left (by decide))), (fun h => (f6 (h.resolve_left (by decide))).same (fun h' => h'.resolve_left (by decide))), (fun h => (f7 (h.resolve_left (by decide))).same (fun h' => h'.resolve_left (by decide))), (fun h => .inr (f8 (h.resolve_left (by decide)))), (fun h => .inr (f9 (h.resolve_left (by decide)))), (fun h h2 => f10 (h.resolve_left (by decide)) (h2.resolve_left (by decide)))⟩
    · simp only [Nat.zero_add, Nat.reduceAdd, List.getElem?_toArray, List.getElem?_cons_succ, List.getElem?_cons_zero, Option.some.injEq] at hi
      subst hi
      obtain rfl := f0 (pre_of hall 0 rfl)
      refine wpOp_cell rfl rfl rfl rfl Try.underlying28 ((hW.cell (p := ⟨_, _, none⟩) hlt0).trans c0) ?_
      exact ⟨_, _, _, _, _, _, _, _, rfl, hW, (fun h => f0 (h.resolve_left (by decide))), (fun _ => rfl), (fun h => f2 (h.resolve_left (by decide))), (fun h => f3 (h.resolve_left (by decide))), (fun h => f4 (h.resolve_left (by decide))), (fun h => f5 (h.resolve_left (by decide))), (fun h => (f6 (h.resolve_left (by decide))).same (fun h' => h'.resolve_left (by decide))), (fun h => (f7 (h.resolve_left (by decide))).same (fun h' => h'.resolve_left (by decide))), (fun h => .inr (f8 (h.resolve_left (by decide)))), (fun h => .inr (f9 (h.resolve_left (by decide)))), (fun h h2 => f10 (h.resolve_left (by decide)) (h2.resolve_left (by decide)))⟩
    · simp only [Nat.zero_add, Nat.reduceAdd, List.getElem?_toArray, List.getElem?_cons_succ, List.getElem?_cons_zero, Option.some.injEq] at hi
      subst hi
      obtain rfl := f1 (pre_of hall 1 rfl)
      refine wpOp_call 43 rfl rfl rfl Try.func43 (by kernel_rfl) (by kernel_rfl) (putLong_c lo h0 W) ?_
      intro W' hW'
      exact ⟨_, _, _, _, _, _, _, _, rfl, bCall hW hW' hW.size, (fun h => f0 (h.resolve_left (by decide))), (fun h => f1 (h.resolve_left (by decide))), (fun _ => rfl), (fun h => f3 (h.resolve_left (by decide))), (fun h => f4 (h.resolve_left (by decide))), (fun h => f5 (h.resolve_left (by decide))), (fun h => (f6 (h.resolve_left (by decide))).below hW' (fun h' => h'.resolve_left (by decide))), (fun h => (f7 (h.resolve_left (by decide))).below hW' (fun h' => h'.resolve_left (by decide))), (fun h => .inr (f8 (h.resolve_left (by decide)))), (fun h => .inr (f9 (h.resolve_left (by decide)))), (fun h h2 => f10 (h.resolve_left (by decide)) (h2.resolve_left (by decide)))⟩
    · simp only [Nat.zero_add, Nat.reduceAdd, List.getElem?_toArray, List.getElem?_cons_succ, List.getElem?_cons_zero, Option.some.injEq] at hi
      subst hi
      refine wpOp_value (v := .pointer (some ⟨w.heap.size, 1, none⟩)) rfl rfl (by kernel_rfl) ?_
      exact ⟨_, _, _, _, _, _, _, _, rfl, hW, (fun h => f0 (h.resolve_left (by decide))), (fun h => f1 (h.resolve_left (by decide))), (fun h => f2 (h.resolve_left (by decide))), (fun _ => rfl), (fun h => f4 (h.resolve_left (by decide))), (fun h => f5 (h.resolve_left (by decide))), (fun h => (f6 (h.resolve_left (by decide))).same (fun h' => h'.resolve_left (by decide))), (fun h => (f7 (h.resolve_left (by decide))).same (fun h' => h'.resolve_left (by decide))), (fun h => .inr (f8 (h.resolve_left (by decide)))), (fun h => .inr (f9 (h.resolve_left (by decide)))), (fun h h2 => f10 (h.resolve_left (by decide)) (h2.resolve_left (by decide)))⟩
    · simp only [Nat.zero_add, Nat.reduceAdd, List.getElem?_toArray, List.getElem?_cons_succ, List.getElem?_cons_zero, Option.some.injEq] at hi
      subst hi
      obtain rfl := f3 (pre_of hall 3 rfl)
      refine wpOp_cell rfl rfl rfl rfl Try.underlying28 ((hW.cell (p := ⟨_, _, none⟩) hlt0).trans c1) ?_
      exact ⟨_, _, _, _, _, _, _, _, rfl, hW, (fun h => f0 (h.resolve_left (by decide))), (fun h => f1 (h.resolve_left (by decide))), (fun h => f2 (h.resolve_left (by decide))), (fun h => f3 (h.resolve_left (by decide))), (fun _ => rfl), (fun h => f5 (h.resolve_left (by decide))), (fun h => (f6 (h.resolve_left (by decide))).same (fun h' => h'.resolve_left (by decide))), (fun h => (f7 (h.resolve_left (by decide))).same (fun h' => h'.resolve_left (by decide))), (fun h => .inr (f8 (h.resolve_left (by decide)))), (fun h => .inr (f9 (h.resolve_left (by decide)))), (fun h h2 => f10 (h.resolve_left (by decide)) (h2.resolve_left (by decide)))⟩
    · simp only [Nat.zero_add, Nat.reduceAdd, List.getElem?_toArray, List.getElem?_cons_succ, List.getElem?_cons_zero, Option.some.injEq] at hi
      subst hi
      obtain rfl := f4 (pre_of hall 4 rfl)
      refine wpOp_call 43 rfl rfl rfl Try.func43 (by kernel_rfl) (by kernel_rfl) (putLong_c hi h1 W) ?_
      intro W' hW'
      exact ⟨_, _, _, _, _, _, _, _, rfl, bCall hW hW' hW.size, (fun h => f0 (h.resolve_left (by decide))), (fun h => f1 (h.resolve_left (by decide))), (fun h => f2 (h.resolve_left (by decide))), (fun h => f3 (h.resolve_left (by decide))), (fun h => f4 (h.resolve_left (by decide))), (fun _ => rfl), (fun h => (f6 (h.resolve_left (by decide))).below hW' (fun h' => h'.resolve_left (by decide))), (fun h => (f7 (h.resolve_left (by decide))).below hW' (fun h' => h'.resolve_left (by decide))), (fun h => .inr (f8 (h.resolve_left (by decide)))), (fun h => .inr (f9 (h.resolve_left (by decide)))), (fun h h2 => f10 (h.resolve_left (by decide)) (h2.resolve_left (by decide)))⟩
    · simp only [Nat.zero_add, Nat.reduceAdd, List.getElem?_toArray, List.getElem?_cons_succ, List.getElem?_cons_zero, Option.some.injEq] at hi
      subst hi
      refine wpOp_alloc rfl rfl rfl Try.z77 ?_
      have hnS : ¬ (8 = 6 ∨ D 8) := fun h => h.elim (by decide) (fun h => hnD (f8 h))
      exact ⟨_, _, _, _, _, _, _, _, rfl, hW.alloc hW.size _, (fun h => f0 (h.resolve_left (by decide))), (fun h => f1 (h.resolve_left (by decide))), (fun h => f2 (h.resolve_left (by decide))), (fun h => f3 (h.resolve_left (by decide))), (fun h => f4 (h.resolve_left (by decide))), (fun h => f5 (h.resolve_left (by decide))), (fun _ => Al.new hW.size (fun h => (hnS h).elim)), (fun h => (f7 (h.resolve_left (by decide))).alloc _ (fun h' => h'.resolve_left (by decide))), (fun _ => .inl rfl), (fun h => .inr (f9 (h.resolve_left (by decide)))), (fun _ h => (f7 (h.resolve_left (by decide))).ne_new')⟩
    · simp only [Nat.zero_add, Nat.reduceAdd, List.getElem?_toArray, List.getElem?_cons_succ, List.getElem?_cons_zero, Option.some.injEq] at hi
      subst hi
      refine wpOp_alloc rfl rfl rfl Try.z77 ?_
      have hnS : ¬ (9 = 7 ∨ D 9) := fun h => h.elim (by decide) (fun h => hnD (f9 h))
      exact ⟨_, _, _, _, _, _, _, _, rfl, hW.alloc hW.size _, (fun h => f0 (h.resolve_left (by decide))), (fun h => f1 (h.resolve_left (by decide))), (fun h => f2 (h.resolve_left (by decide))), (fun h => f3 (h.resolve_left (by decide))), (fun h => f4 (h.resolve_left (by decide))), (fun h => f5 (h.resolve_left (by decide))), (fun h => (f6 (h.resolve_left (by decide))).alloc _ (fun h' => h'.resolve_left (by decide))), (fun _ => Al.new hW.size (fun h => (hnS h).elim)), (fun h => .inr (f8 (h.resolve_left (by decide)))), (fun _ => .inl rfl), (fun h _ => (f6 (h.resolve_left (by decide))).ne_new)⟩
    · simp only [Nat.zero_add, Nat.reduceAdd, List.getElem?_toArray, List.getElem?_cons_succ, List.getElem?_cons_zero, Option.some.injEq] at hi
      subst hi
      obtain rfl := f2 (pre_of hall 2 rfl)
      obtain ⟨g, l, rfl, hg, hl0, hB, hst⟩ := f6 (pre_of hall 6 rfl)
      refine wpOp_store rfl rfl rfl rfl rfl hB ((ints_size _ _).trans hl0) Try.ar77 hlo ?_
      exact ⟨_, _, _, _, _, _, _, _, rfl, bSetRow hW hg _, (fun h => f0 (h.resolve_left (by decide))), (fun h => f1 (h.resolve_left (by decide))), (fun h => f2 (h.resolve_left (by decide))), (fun h => f3 (h.resolve_left (by decide))), (fun h => f4 (h.resolve_left (by decide))), (fun h => f5 (h.resolve_left (by decide))), (fun _ => Al.set hB hg hlo), (fun h => (f7 (h.resolve_left (by decide))).far (fun e => f10 (pre_of hall 6 rfl) (pre_of hall 7 rfl) e.symm) (fun h' => h'.resolve_left (by decide))), (fun _ => .inr (pre_of hall 6 rfl)), (fun h => .inr (f9 (h.resolve_left (by decide)))), (fun h h2 => f10 (h.resolve_left (by decide)) (h2.resolve_left (by decide)))⟩
    · simp only [Nat.zero_add, Nat.reduceAdd, List.getElem?_toArray, List.getElem?_cons_succ, List.getElem?_cons_zero, Option.some.injEq] at hi
      subst hi
      obtain rfl := f5 (pre_of hall 5 rfl)
      obtain ⟨g, l, rfl, hg, hl0, hB, hst⟩ := f7 (pre_of hall 7 rfl)
      refine wpOp_store rfl rfl rfl rfl rfl hB ((ints_size _ _).trans hl0) Try.ar77 hhi ?_
      exact ⟨_, _, _, _, _, _, _, _, rfl, bSetRow hW hg _, (fun h => f0 (h.resolve_left (by decide))), (fun h => f1 (h.resolve_left (by decide))), (fun h => f2 (h.resolve_left (by decide))), (fun h => f3 (h.resolve_left (by decide))), (fun h => f4 (h.resolve_left (by decide))), (fun h => f5 (h.resolve_left (by decide))), (fun h => (f6 (h.resolve_left (by decide))).far (fun e => f10 (pre_of hall 6 rfl) (pre_of hall 7 rfl) e) (fun h' => h'.resolve_left (by decide))), (fun _ => Al.set hB hg hhi), (fun h => .inr (f8 (h.resolve_left (by decide)))), (fun _ => .inr (pre_of hall 7 rfl)), (fun h h2 => f10 (h.resolve_left (by decide)) (h2.resolve_left (by decide)))⟩
    · exfalso; simp at hi
  · rintro D act_ W ⟨u4, u5, u6, u7, u8, u9, u10, u11, rfl, hW, f0, f1, f2, f3, f4, f5, f6, f7, f8, f9, f10⟩ hall
    obtain rfl := f0 (hall 0 (by decide))
    obtain rfl := f1 (hall 1 (by decide))
    obtain rfl := f2 (hall 2 (by decide))
    obtain rfl := f3 (hall 3 (by decide))
    obtain rfl := f4 (hall 4 (by decide))
    obtain rfl := f5 (hall 5 (by decide))
    obtain ⟨g4, l4, rfl, hg4, -, hB4, hl4⟩ := f6 (hall 6 (by decide))
    obtain rfl := hl4 (hall 8 (by decide))
    obtain ⟨g5, l5, rfl, hg5, -, hB5, hl5⟩ := f7 (hall 7 (by decide))
    obtain rfl := hl5 (hall 9 (by decide))
    have hne10 := f10 (hall 6 (by decide)) (hall 7 (by decide))
    clear f0 f1 f2 f3 f4 f5 f6 f7 f8 f9 f10 hall
    have hbel1 := bCall hbel hW (by have := hsz.out; omega)
    have K2 := B2.below' hW
    have K1 := B1.below' hW
    have l2 := B2.lt
    clear B0 B1 B2 hW hbel c0 c1
    go_wp2
    refine wp_region_still_tail 2 (by kernel_rfl) (by kernel_rfl) ?_
    simp only [List.take_succ_cons, List.take_zero, List.drop_succ_cons, List.drop_zero]
    repeat still_step
    refine wpStill_nil ?_
    change wpList _ _ _ _ _ W.drew
    refine wpList_copy_ints (off := 0) (dLen := 16) (sLen := 8) rfl rfl Try.underlying22 Try.s15 rfl rfl K2.drew (Sl.blk hB4.drew) (by rw [hlo]; rfl) (fun _ => rfl) (by rw [zeros_len, hlo]; omega) ?_
    intro w3 L2 ho
    rw [splice_lo hlo] at L2
    have L1 := K1.drew.only ho (by omega)
    have L5 := hB5.drew.only ho (by omega)
    have hbel2 := ho.below _ _ hbel1.drew (by omega)
    clear K1 K2 hB4 hB5 hbel1 ho
    go_wp2
    refine wp_region_still_tail 2 (by kernel_rfl) (by kernel_rfl) ?_
    simp only [List.take_succ_cons, List.take_zero, List.drop_succ_cons, List.drop_zero]
    repeat still_step
    refine wpStill_nil ?_
    change wpList _ _ _ _ _ w3.drew
    refine wpList_copy_ints (off := 8) (dLen := 8) (sLen := 8) rfl rfl Try.underlying22 Try.s15 rfl rfl L2.drew (Sl.blk L5.drew) (by rw [hhi]; rfl) (fun _ => rfl) (by simp [zeros, hhi, hlo]) ?_
    intro w4 M2 ho2
    rw [splice_hi hlo hhi] at M2
    have M1 := L1.drew.only ho2 (by omega)
    have hbel3 := ho2.below _ _ hbel2.drew (by omega)
    have hlen : (dig 256 8 lo ++ dig 256 8 hi).length = 16 := by simp
    go_wp2_with (first | (refine wpList_load_ints rfl 35 _ rfl (w.heap.size + 2) rfl M2 Try.ar35 hlen ?_; (try simp only [Act.put, List.setIfInBounds_toArray, List.set_cons_zero, List.set_cons_succ, World.size_alloc, setRow_size, Nat.add_assoc, Nat.reduceAdd])) | (refine wpList_store_ints rfl 35 _ _ rfl (w.heap.size + 1) rfl rfl M1 (zeros_size _ _) Try.ar35 hlen ?_; (try simp only [Act.put, List.setIfInBounds_toArray, List.set_cons_zero, List.set_cons_succ, World.size_alloc, setRow_size, Nat.add_assoc, Nat.reduceAdd])))
    exact ret_ints rfl rfl (M1.row _) Try.ar35 hlen ⟨rfl, bSetRow hbel3 (by omega) _⟩
/-- Sixteen bytes of a row, noughts where it has none. -/
def blockN (bs : List Nat) : List Nat := (List.range 16).map fun i => bs.getD i 0
theorem blockN_len (bs : List Nat) : (blockN bs).length = 16 := by simp [blockN]
theorem blockN_lt {bs : List Nat} (hb : ∀ x ∈ bs, x < 256) : ∀ x ∈ blockN bs, x < 256 := fun x hx => by
  obtain ⟨i, -, rfl⟩ := List.mem_map.1 hx
  exact getD_bound hb (by omega) _
theorem splice_block (bs : List Nat) : splice (zeros 16) 0 (bs.take 16) = blockN bs := by
  apply List.ext_getElem? fun i => ?_
  unfold splice blockN
  rw [List.take_zero, List.nil_append, Nat.zero_add]
  by_cases hi : i < 16
  · rw [List.getElem?_map, List.getElem?_range hi]
    simp only [Option.map_some]
    by_cases h : i < bs.length
    · rw [List.getElem?_append_left (by rw [List.length_take]; omega), List.getElem?_take, if_pos hi, getD_lt h]
    · rw [List.getElem?_append_right (by rw [List.length_take]; omega), List.getElem?_drop, List.getD_eq_getElem?_getD, List.getElem?_eq_none (show bs.length ≤ i by omega)]
      unfold zeros
      rw [List.getElem?_replicate, if_pos (by rw [List.length_take]; omega)]; rfl
  · rw [List.getElem?_eq_none (by simp [zeros]; omega), List.getElem?_eq_none (by simp; omega)]
set_option maxHeartbeats 1000000 in
theorem block_c (a : Option Addr) (c : Nat) (bs : List Nat) (w : World) (hs : Sl w a .u8 bs) :
    Calls Try.prog 23 #[.slice a bs.length c] w fun e w' => e = .returned (.agg (ints .u8 (blockN bs))) ∧ Below w.heap.size w w' := by
  have B1 := (Blk.new w 35 (ints .u8 (zeros 16))).alloc (.cells (ints .u8 (zeros 16)) 35)
  have B2 := Blk.new (w.alloc (.cells (ints .u8 (zeros 16)) 35)) 35 (ints .u8 (zeros 16))
  rw [World.size_alloc] at B2
  have hbel := ((Below.refl w.heap.size w).alloc (Nat.le_refl _) (.cells (ints .u8 (zeros 16)) 35)).alloc (by simp) (.cells (ints .u8 (zeros 16)) 35)
  have hs1 := (hs.below hbel).take 16
  have hmin : (bs.take 16).length = Nat.min bs.length 16 := by exact List.length_take.trans (Nat.min_comm _ _)
  have Hmin := Lib.hid hmin
  clear hmin
  have hbl := blockN_len bs
  go_enter Try.func23, Try.ntmps23
  go_wp2_with (first | (refine wpList_alloc_ints rfl 35 rfl Try.z35 ?_; (try simp only [Act.put, List.setIfInBounds_toArray, List.set_cons_zero, List.set_cons_succ, World.size_alloc, setRow_size, Nat.add_assoc, Nat.reduceAdd])) | (refine wpList_copy_ints (off := 0) (dLen := 16) rfl rfl Try.underlying22 Try.s15 rfl rfl B2 hs1 Hmin.out (fun _ => rfl) (by rw [zeros_len, List.length_take]; omega) ?_; intro w3 L2 ho; rw [splice_block] at L2; have L1 := B1.only ho (by omega); have hbel2 := ho.below _ _ hbel (by omega)) | (refine wpList_load_ints rfl 35 _ rfl (w.heap.size + 1) rfl L2 Try.ar35 hbl ?_; (try simp only [Act.put, List.setIfInBounds_toArray, List.set_cons_zero, List.set_cons_succ, World.size_alloc, setRow_size, Nat.add_assoc, Nat.reduceAdd])) | (refine wpList_store_ints rfl 35 _ _ rfl w.heap.size rfl rfl L1 (zeros_size _ _) Try.ar35 hbl ?_; (try simp only [Act.put, List.setIfInBounds_toArray, List.set_cons_zero, List.set_cons_succ, World.size_alloc, setRow_size, Nat.add_assoc, Nat.reduceAdd])))
  exact ret_ints rfl rfl (L1.row _) Try.ar35 hbl ⟨rfl, bSetRow hbel2 (by omega) _⟩
end Go.Proofs.Ytolfngmpoafaaaa
/- octet.Padded, octet.Marked, octet.Xor. No condition but that rows are shorter than 2^32 and bytes below 256. -/
namespace Go.Proofs.Ytolfngmpoafaaaa
set_option linter.unusedSimpArgs false
set_option linter.unusedVariables false
set_option linter.unusedSectionVars false
set_option linter.unusedVariables false
open Go.RowKit
theorem u8_row : (Try.prog.info? 5).map (fun i => (i.zero, i.size, i.bytes)) = some (some (.int .u8 0), 1, 1) := by kernel_rfl
theorem Try.one8 : IsOne Try.prog 5 := by unfold IsOne; kernel_rfl
theorem mk_u8 (n : Nat) (hn : n < 2 ^ 40) (W : World) : (Instr.makeSlice 22 (.int .i64 (n : Int)) (.int .i64 (n : Int))).run Try.prog W = .ok (.slice (some ⟨W.heap.size, 0, none⟩) n n) (W.alloc (.cells (ints .u8 (zeros n)) 5)) :=
  run_make_ints Try.underlying22 u8_row (by omega) hn W
theorem splice_zeros (bs : List Nat) (n : Nat) : splice (zeros (bs.length + n)) 0 bs = bs ++ zeros n := by
  unfold splice zeros
  simp
set_option maxHeartbeats 1000000 in
theorem room_c (n : Nat) (hn : n < 2 ^ 32) (w : World) :
    Calls Try.prog 41 #[.int .i64 n, .int .i64 16] w fun e w' => e = .returned (.int .i64 (((16 - n % 16) % 16 : Nat) : Int)) ∧ w = w' := by
  have h1 : (n : Int) % 16 = ((n % 16 : Nat) : Int) := by omega
  have h2 : (16 : Int) - ((n % 16 : Nat) : Int) = ((16 - n % 16 : Nat) : Int) := by omega
  have h3 : ((16 - n % 16 : Nat) : Int) % 16 = (((16 - n % 16) % 16 : Nat) : Int) := by omega
  generalize (16 - n % 16) % 16 = r at *
  generalize 16 - n % 16 = q at *
  generalize n % 16 = p at *
  go_enter Try.func41, Try.ntmps41
  go_wp2
  go_ret
  exact ⟨by show Ending.returned (.int .i64 ((q : Int) % 16)) = _; rw [h3], rfl⟩
set_option maxRecDepth 100000 in
set_option maxHeartbeats 2000000 in
theorem padded_c (a : Option Addr) (c : Nat) (bs : List Nat) (hlen : bs.length < 2 ^ 32) (w : World) (hs : Sl w a .u8 bs) :
    Calls Try.prog 20 #[.slice a bs.length c, .int .i64 16] w fun e w' => e = .returned (.slice (some ⟨w.heap.size, 0, none⟩) (padL bs).length (padL bs).length) ∧ Below w.heap.size w w' ∧ Blk w' w.heap.size 5 (ints .u8 (padL bs)) := by
  have hpl := padL_len bs
  have hmk := fun W => mk_u8 (bs.length + (16 - bs.length % 16) % 16) (by omega) W
  have hsp := splice_zeros bs ((16 - bs.length % 16) % 16)
  have hmin : bs.length = Nat.min bs.length (bs.length + (16 - bs.length % 16) % 16) := (Nat.min_eq_left (by omega)).symm
  have hr : (16 - bs.length % 16) % 16 < 16 := by omega
  simp only [Int.natCast_add] at hmk
  have HP := Lib.hid (show bs ++ zeros ((16 - bs.length % 16) % 16) = padL bs from rfl)
  have Hpl := Lib.hid hpl
  have Hmin := Lib.hid hmin
  have Hsp := Lib.hid hsp
  have hroom := room_c bs.length hlen
  clear hpl hmin hsp
  generalize (16 - bs.length % 16) % 16 = r at *
  go_enter Try.func20, Try.ntmps20
  go_wp2_with fail
  refine (hroom _).mono ?_
  rintro e w1 ⟨rfl, rfl⟩
  clear hroom
  have B0 := Blk.new w 5 (ints .u8 (zeros (bs.length + r)))
  have hs1 : Sl (w.alloc (.cells (ints .u8 (zeros (bs.length + r))) 5)) a .u8 bs := hs.below ((Below.refl _ _).alloc (Nat.le_refl _) _)
  have hbel := (Below.refl w.heap.size w).alloc (Nat.le_refl _) (.cells (ints .u8 (zeros (bs.length + r))) 5)
  go_wp2_with (refine wpList_copy_ints (zs := bs) rfl rfl Try.underlying22 Try.s15 rfl rfl B0 hs1 Hmin.out (fun _ => rfl) (by rw [zeros_len]; omega) ?_; intro w2 C0 O2; (try simp only [Act.put, List.setIfInBounds_toArray, List.set_cons_zero, List.set_cons_succ, World.size_alloc, setRow_size, Nat.add_assoc, Nat.reduceAdd]))
  go_ret
  rw [Hsp.out, HP.out] at C0
  exact ⟨by rw [Hpl.out]; rfl, O2.below _ _ hbel (Nat.le_refl _), C0⟩
end Go.Proofs.Ytolfngmpoafaaaa
/- What the reference of layer 1 answers: a byte, a number of bytes, a number's bytes. No condition but that places are below 2^62. -/
namespace Go.Proofs.Ytolfngmpoafaaaa
set_option linter.unusedSimpArgs false
set_option linter.unusedVariables false
set_option linter.unusedSectionVars false
set_option linter.unusedVariables false
open Go.RowKit
set_option maxHeartbeats 400000 in
theorem at_c (a : Option Addr) (c : Nat) (bs : List Nat) (hb : ∀ x ∈ bs, x < 256) (hlen : bs.length ≤ maxLen) (p k : Nat) (hp : p < 2 ^ 62) (hk : k < 256) (w : World) (hs : Sl w a .u8 bs) :
    Calls Try.prog 53 #[.slice a bs.length c, .int .i64 p, .int .i64 k] w fun e w' => e = .returned (.int .u8 (bs.getD (p + k) 0 : Nat)) ∧ w = w' := by
  unfold maxLen at hlen
  by_cases hin : p + k < bs.length
  · obtain ⟨ga, off, rfl, hga, hcell⟩ := hs.at_ hin
    have hv := getD_bound hb (by omega) (p + k)
    generalize bs.getD (p + k) 0 = v at *
    go_enter Try.func53, Try.ntmps53
    go_wp2
    go_ret
    exact ⟨rfl, rfl⟩
  · have e : bs.getD (p + k) 0 = 0 := by rw [List.getD_eq_getElem?_getD, List.getElem?_eq_none (by omega)]; rfl
    rw [e]
    clear e
    by_cases hin2 : p < bs.length
    all_goals
      go_enter Try.func53, Try.ntmps53
      go_wp2
      go_ret
      exact ⟨rfl, rfl⟩
set_option maxHeartbeats 400000 in
theorem number_c (a : Option Addr) (c : Nat) (bs : List Nat) (hb : ∀ x ∈ bs, x < 256) (hlen : bs.length ≤ maxLen) (p n : Nat) (hp : p < 2 ^ 62) (hn : n ≤ 8) (w : World) (hs : Sl w a .u8 bs) :
    Calls Try.prog 54 #[.slice a bs.length c, .int .i64 p, .int .i64 n] w fun e w' => e = .returned (.int .u64 (numAt bs p n : Nat)) ∧ w = w' := by
  go_enter Try.func54, Try.ntmps54
  go_wp2
  go_loop [7, 8] (fun s t => ∃ j : Nat, j ≤ n ∧ t = .int .i64 ((j : Int) - 1) ∧ s = .int .u64 (numAt bs (p + j) (n - j))) (fun s t => (intOf t + 1).toNat)
  case atStart => exact ⟨n, by omega, rfl, by rw [Nat.sub_self]; rfl⟩
  case round =>
    rename_i hrel
    obtain ⟨k, hk, rfl, rfl⟩ := hrel
    rcases k with _ | k
    · have e0 : ((0 : Nat) : Int) - 1 = -1 := rfl
      rw [e0]
      go_wp2
      go_ret
      exact ⟨rfl, rfl⟩
    · have e1 : ((k + 1 : Nat) : Int) - 1 = (k : Int) := by omega
      rw [e1]
      clear e1
      have hge : (0 : Int) ≤ k := by omega
      have hd := numAt_head bs (p + k) (n - (k + 1))
      rw [show n - (k + 1) + 1 = n - k by omega, show p + k + 1 = p + (k + 1) by omega] at hd
      have hv := getD_bound hb (by omega) (p + k)
      have hm : numAt bs (p + (k + 1)) (n - (k + 1)) < 256 ^ 7 := Nat.lt_of_lt_of_le (numAt_lt hb _ _) (Nat.pow_le_pow_right (by omega) (by omega))
      have h7 : (256 : Nat) ^ 7 = 72057594037927936 := by decide
      rw [h7] at hm
      have HD := Lib.hid hd
      clear hd h7
      generalize numAt bs (p + (k + 1)) (n - (k + 1)) = m at *
      go_wp2_with (fail)
      refine (at_c a c bs hb hlen p k hp (by omega) _ hs).mono ?_
      rintro e w' ⟨rfl, rfl⟩
      generalize bs.getD (p + k) 0 = v at *
      go_wp2
      refine ⟨⟨k, by omega, rfl, ?_⟩, by simp [intOf] <;> omega⟩
      rw [HD.out]
      congr 1
      simp
      omega
theorem number_at (a : Option Addr) (c : Nat) (bs : List Nat) (hb : ∀ x ∈ bs, x < 256) (hlen : bs.length ≤ maxLen) (p n : Nat) (z : Int) (hz : z = p) (hp : p < 2 ^ 62) (hn : n ≤ 8) (w : World) (hs : Sl w a .u8 bs) :
    Calls Try.prog 54 #[.slice a bs.length c, .int .i64 z, .int .i64 n] w fun e w' => e = .returned (.int .u64 (numAt bs p n : Nat)) ∧ w = w' := by
  subst hz; exact number_c a c bs hb hlen p n hp hn w hs
theorem take_snoc {xs : List Nat} {k v : Nat} (hk : k < xs.length) (hv : xs.getD k 0 = v) : xs.take (k + 1) = xs.take k ++ [v] := by
  rw [List.take_add_one, getD_lt hk, hv]; rfl
theorem u8_inf : (Try.prog.info? 5).map (fun i => (i.zero, i.size, i.bytes)) = some (some (.int .u8 0), 1, 1) := by kernel_rfl
set_option maxHeartbeats 800000 in
theorem put_c (n m : Nat) (hn : n < 18446744073709551616) (hm : m < 2 ^ 30) (w : World) :
    Calls Try.prog 33 #[.int .u64 n, .int .i64 m] w fun e w' => ∃ v, e = .returned v ∧ Own w' w.heap.size 5 .u8 v (dig 256 m n) ∧ Below w.heap.size w w' := by
  go_enter Try.func33, Try.ntmps33
  go_wp2
  go_loopw [0, 5, 6] (fun s v t wr => ∃ k : Nat, k ≤ m ∧ t = .int .i64 k ∧ s = .int .u64 (n / 256 ^ k : Nat) ∧ Own wr w.heap.size 5 .u8 v ((dig 256 m n).take k) ∧ Below w.heap.size w wr) (fun s v t wr => m - (intOf t).toNat)
  case atStart => exact ⟨0, by omega, rfl, by simp, Own.nil _ _ _ _, Below.refl _ _⟩
  case round =>
    rename_i hrel
    obtain ⟨k, hk, rfl, rfl, hown, hbel⟩ := hrel
    have hq : n / 256 ^ k < 18446744073709551616 := Nat.lt_of_le_of_lt (Nat.div_le_self _ _) hn
    by_cases hlt : k < m
    · have hv : (dig 256 m n).getD k 0 = n / 256 ^ k % 256 := dig_getD 256 m n k hlt
      have ht := take_snoc (by simp; exact hlt) hv
      have hdd : n / 256 ^ (k + 1) = n / 256 ^ k / 256 := by rw [Nat.div_div_eq_div_mul, ← Nat.pow_succ]
      have hsz : ((dig 256 m n).take k).length < 2 ^ 40 := by simp; omega
      have HT := Lib.hid ht
      have HD := Lib.hid hdd
      clear ht hdd hv
      generalize n / 256 ^ k = q at *
      go_wp2_with (first | (refine wpList_append_one (n := q % 256) rfl rfl Try.underlying22 u8_inf rfl (by omega) rfl (hown.alloc _) rfl (by simp) hsz (Nat.le_trans hbel.size (by simp)) ?_; intro v' w' hown' hgr; (try simp only [Act.put, List.setIfInBounds_toArray, List.set_cons_zero, List.set_cons_succ, World.size_alloc, setRow_size, Nat.add_assoc, Nat.reduceAdd])))
      refine ⟨⟨k + 1, by omega, by go_num, ?_, ?_, bGrown (hbel.alloc hbel.size _) hgr (Nat.le_trans hbel.size (by simp)) (hown.alloc _) (Nat.le_refl _)⟩, by simp [intOf] <;> omega⟩
      · rw [HD.out]; simp
      · rw [HT.out]; exact hown'
    · obtain rfl : k = m := by omega
      have he : (dig 256 k n).take k = dig 256 k n := List.take_of_length_le (by simp)
      rw [he] at hown
      clear he
      go_wp2
      go_ret
      exact ⟨_, rfl, hown, hbel⟩
end Go.Proofs.Ytolfngmpoafaaaa
/- wringerref01's Padded, Marked, Block, Sixteen. No condition but that bytes are below 256 and rows shorter than 2^32. -/
namespace Go.Proofs.Ytolfngmpoafaaaa
set_option linter.unusedSimpArgs false
set_option linter.unusedVariables false
set_option linter.unusedSectionVars false
set_option linter.unusedVariables false
open Go.RowKit
theorem Try.one8r : IsOne Try.prog 5 := by unfold IsOne; kernel_rfl
/-- A slice's length. -/
def lenOfV : Value → Nat
  | .slice _ n _ => n
  | _ => 0
theorem Own.empty (w : World) (B : Nat) (hB : B ≤ w.heap.size) : Own (w.alloc (.cells #[] 5)) B 5 .u8 (.slice (some ⟨w.heap.size, 0, none⟩) 0 0) [] :=
  Own.made (xs := []) (Blk.new w 5 #[]) hB (by simp [maxLen])
set_option maxRecDepth 100000 in
set_option maxHeartbeats 4000000 in
theorem padR_c (a : Option Addr) (c : Nat) (bs : List Nat) (hc : a = none → c = 0) (hlen : bs.length < 2 ^ 32) (w : World) (hs : Sl w a .u8 bs) :
    Calls Try.prog 37 #[.slice a bs.length c, .int .i64 16] w fun e w' => ∃ v, e = .returned v ∧ Own w' w.heap.size 5 .u8 v (padL bs) ∧ Below w.heap.size w w' := by
  have hown0 := Own.empty w w.heap.size (Nat.le_refl _)
  have hs1 := hs.below ((Below.refl w.heap.size w).alloc (Nat.le_refl _) (.cells #[] 5))
  have hln : ([] : List Nat).length + bs.length < 2 ^ 40 := by simp; omega
  have HP : Hid (padL bs = bs ++ zeros ((16 - bs.length % 16) % 16)) := Lib.hid rfl
  go_enter Try.func37, Try.ntmps37
  go_wp2_with (refine wpList_append_sl rfl rfl Try.underlying22 u8_inf rfl (by omega) rfl hown0 rfl rfl hc hs1 hln (by simp) ?_; intro v' w' hown' hgr; (try simp only [Act.put, List.setIfInBounds_toArray, List.set_cons_zero, List.set_cons_succ, World.size_alloc, setRow_size, Nat.add_assoc, Nat.reduceAdd]))
  rw [List.nil_append] at hown'
  have hbel' := bGrown ((Below.refl w.heap.size w).alloc (Nat.le_refl _) (.cells #[] 5)) hgr (by simp) hown0 (Nat.le_refl _)
  clear hown0 hgr hs1 hln
  go_loopw [5] (fun v wr => ∃ j : Nat, j ≤ (16 - bs.length % 16) % 16 ∧ Own wr w.heap.size 5 .u8 v (bs ++ zeros j) ∧ Below w.heap.size w wr) (fun v wr => (16 - lenOfV v % 16) % 16)
  case atStart => exact ⟨0, by omega, by simpa [zeros] using hown', hbel'⟩
  case round =>
    rename_i hrel
    obtain ⟨j, hj, hown, hbel⟩ := hrel
    clear hbel' hown'
    obtain ⟨av, cv, rfl, hslv, -, -⟩ := hown.sl
    have hlv : (bs ++ zeros j).length = bs.length + j := by rw [List.length_append, zeros_len]
    by_cases hlt : j < (16 - bs.length % 16) % 16
    · have hne : (((((bs ++ zeros j).length : Nat) : Int) % 16) == 0) = false := by rw [hlv]; simp; omega
      have hln1 : (bs ++ zeros j).length < 2 ^ 40 := by rw [hlv]; omega
      have HZ : Hid ((bs ++ zeros j) ++ [0] = bs ++ zeros (j + 1)) := Lib.hid (by rw [List.append_assoc, show [0] = zeros 1 from rfl, zeros_add])
      have Hl1 : Hid ((bs ++ zeros (j + 1)).length = bs.length + (j + 1)) := Lib.hid (by rw [List.length_append, zeros_len])
      have Hlv := Lib.hid hlv
      have hB := hbel.size
      clear hlv hslv
      generalize bs ++ zeros j = zs at *
      go_wp2_with (first | (refine wpList_append_one (n := 0) rfl rfl Try.underlying22 u8_inf rfl (by omega) rfl (hown.alloc _) rfl (by simp) hln1 (by simp; omega) ?_; intro v' w' hown' hgr; (try simp only [Act.put, List.setIfInBounds_toArray, List.set_cons_zero, List.set_cons_succ, World.size_alloc, setRow_size, Nat.add_assoc, Nat.reduceAdd])))
      rw [HZ.out] at hown'
      have hbel2 := bGrown (hbel.alloc hB (.cells #[.int .u8 0] 5)) hgr (by simp; omega) (hown.alloc _) (Nat.le_refl _)
      obtain ⟨av2, cv2, rfl, -, -, -⟩ := hown'.sl
      refine ⟨⟨j + 1, by omega, hown', hbel2⟩, ?_⟩
      have h1 := Hl1.out
      have h2 := Hlv.out
      show (16 - (bs ++ zeros (j + 1)).length % 16) % 16 < (16 - zs.length % 16) % 16
      omega
    · obtain rfl : j = (16 - bs.length % 16) % 16 := by omega
      have hne : (((((bs ++ zeros ((16 - bs.length % 16) % 16)).length : Nat) : Int) % 16) == 0) = true := by rw [hlv]; simp; omega
      rw [← HP.out] at hown hne ⊢
      clear hlv
      go_wp2
      go_ret
      exact ⟨_, rfl, hown, hbel⟩
theorem blockN_getD (bs : List Nat) {i : Nat} (hi : i < 16) : (blockN bs).getD i 0 = bs.getD i 0 := by
  unfold blockN
  rw [List.getD_eq_getElem?_getD, List.getElem?_map, List.getElem?_range hi]; rfl
set_option maxRecDepth 100000 in
set_option maxHeartbeats 4000000 in
theorem blkR_c (a : Option Addr) (c : Nat) (bs : List Nat) (hb : ∀ x ∈ bs, x < 256) (hlen : bs.length ≤ maxLen) (w : World) (hs : Sl w a .u8 bs) :
    Calls Try.prog 35 #[.slice a bs.length c] w fun e w' => e = .returned (.agg (ints .u8 (blockN bs))) ∧ Below w.heap.size w w' := by
  have hxl := blockN_len bs
  have B2 := (Blk.new w 35 (ints .u8 (zeros 16))).alloc (.cells (ints .u8 (zeros 16)) 35)
  have B3 := Blk.new (w.alloc (.cells (ints .u8 (zeros 16)) 35)) 35 (ints .u8 (zeros 16))
  rw [World.size_alloc] at B3
  have hbel := ((Below.refl w.heap.size w).alloc (Nat.le_refl _) (.cells (ints .u8 (zeros 16)) 35)).alloc (by simp) (.cells (ints .u8 (zeros 16)) 35)
  have HL := Lib.hid hlen
  clear hlen
  go_enter Try.func35, Try.ntmps35
  go_wp2_with (refine wpList_alloc_ints rfl 35 rfl Try.z35 ?_; (try simp only [Act.put, List.setIfInBounds_toArray, List.set_cons_zero, List.set_cons_succ, World.size_alloc, setRow_size, Nat.add_assoc, Nat.reduceAdd]))
  generalize ((w.alloc (.cells (ints .u8 (zeros 16)) 35)).alloc (.cells (ints .u8 (zeros 16)) 35)) = w1 at *
  go_loopw [4] (fun t wr => ∃ k : Nat, k ≤ 16 ∧ t = .int .i64 k ∧ Blk wr w.heap.size 35 (ints .u8 (zeros 16)) ∧ Blk wr (w.heap.size + 1) 35 (ints .u8 ((blockN bs).take k ++ zeros (16 - k))) ∧ Below w.heap.size w wr) (fun t wr => 16 - (intOf t).toNat)
  case atStart => exact ⟨0, by omega, rfl, B2, B3, hbel⟩
  case round =>
    rename_i hrel
    obtain ⟨k, hk, rfl, C2, C3, hbelr⟩ := hrel
    by_cases hlt : k < 16
    · have hll : ((blockN bs).take k ++ zeros (16 - k)).length = 16 := by rw [List.length_append, List.length_take, hxl, zeros_len]; omega
      have hv := blockN_getD bs hlt
      have HC := Lib.hid (take_set hxl hlt hv)
      have hac := at_c a c bs hb HL.out 0 k (by omega) (by omega) wr (hs.below hbelr)
      rw [Nat.zero_add] at hac
      clear hv
      generalize bs.getD k 0 = x at *
      go_wp2_with fail
      refine hac.mono ?_
      rintro e w' ⟨rfl, rfl⟩
      go_wp2_with (refine wpList_store_one rfl 5 _ _ rfl Try.one8r C3 k x rfl rfl (by omega) ?_; intro w2 E3 F2; rw [HC.out] at E3; (try simp only [Act.put, List.setIfInBounds_toArray, List.set_cons_zero, List.set_cons_succ, World.size_alloc, setRow_size, Nat.add_assoc, Nat.reduceAdd]))
      exact ⟨⟨k + 1, by omega, by go_num, F2.blk C2 (by omega), E3, F2.below hbelr (by omega)⟩, by simp [intOf] <;> omega⟩
    · obtain rfl : k = 16 := by omega
      have he : (blockN bs).take 16 ++ zeros (16 - 16) = blockN bs := by rw [List.take_of_length_le (by omega)]; simp [zeros]
      rw [he] at C3
      go_wp2_with (first | (refine wpList_load_ints rfl 35 _ rfl (w.heap.size + 1) rfl C3 Try.ar35 hxl ?_; (try simp only [Act.put, List.setIfInBounds_toArray, List.set_cons_zero, List.set_cons_succ, World.size_alloc, setRow_size, Nat.add_assoc, Nat.reduceAdd])) | (refine wpList_store_ints rfl 35 _ _ rfl w.heap.size rfl rfl C2 (zeros_size _ _) Try.ar35 hxl ?_; (try simp only [Act.put, List.setIfInBounds_toArray, List.set_cons_zero, List.set_cons_succ, World.size_alloc, setRow_size, Nat.add_assoc, Nat.reduceAdd])))
      exact ret_ints rfl rfl (C2.row _) Try.ar35 hxl ⟨rfl, bSetRow hbelr (by omega) _⟩
end Go.Proofs.Ytolfngmpoafaaaa
/- slices.Grow of a nil slice; slices.Concat of byte slices. No condition but that all together are shorter than 2^31. -/
namespace Go.Proofs.Ytolfngmpoafaaaa
set_option linter.unusedSimpArgs false
set_option linter.unusedVariables false
set_option linter.unusedSectionVars false
set_option linter.unusedVariables false
open Go.RowKit
theorem u8_cat : (Try.prog.info? 5).map (fun i => (i.zero, i.size, i.bytes)) = some (some (.int .u8 0), 1, 1) := by kernel_rfl
theorem grow_run (w : World) (n : Nat) (h0 : 0 < n) (hn : n < 2 ^ 31) : ∀ ty, ∃ w' c, (Builtin.append_ #[22, 3] ty #[.slice none 0 0, .int .i64 (n : Int)]).run Try.prog w = .ok (.slice (some ⟨w.heap.size, 0, none⟩) n c) w' ∧ n ≤ c ∧ Own w' w.heap.size 5 .u8 (.slice (some ⟨w.heap.size, 0, none⟩) 0 c) [] ∧ Below w.heap.size w w' := fun ty => by
  obtain ⟨i, hi, hz0, hz1, hz2⟩ := info_parts u8_cat
  have hold : (Builtin.firstCells i.size 0 (.slice none 0 0)).run Try.prog w.drew = .ok ([] : List Value).toArray w.drew := run_firstCells_none w.drew i.size 0 0 0
  have hr := Lib.run_append_grow_zeros (P := Try.prog) w 22 3 ty 5 i (.int .u8 0) .i64 .i64 Try.underlying22 Try.underlying3 hi hz0 none 0 0 [] hold n h0 (by omega) (by omega) (by omega) (by rw [hz2]; omega)
    (growslice_fits (by omega) (by rw [hz2]; omega))
  rw [Nat.zero_add] at hr
  have hG := grownCap_ge w n 0 5
  have hG2 := grownCap_le_maxLen w n 0 5 (by unfold maxLen; omega)
  refine ⟨_, _, hr, hG, ?_, (Below.refl _ _).drew.alloc (Nat.le_refl _) _⟩
  refine ⟨by simp, .inr ⟨w.heap.size, _, _, rfl, Nat.le_refl _, heap_alloc_new _ _, by simp, hG2, ?_, by simp⟩⟩
  simp [Builtin.zeroCells, Value.cells]
  omega
/-- The slices in a row of slices of bytes. -/
def SlS (w : World) (a : Option Addr) (xss : List (List Nat)) : Prop :=
  ∀ i, i < xss.length → ∃ g off ai ci, a = some ⟨g, off, none⟩ ∧ g < w.heap.size ∧ w.cell? ⟨g, off + i, none⟩ = some (.slice ai (xss.getD i []).length ci) ∧ Sl w ai .u8 (xss.getD i []) ∧ (ai = none → ci = 0)
theorem SlS.below {w w' : World} {a : Option Addr} {xss : List (List Nat)} (h : SlS w a xss) (hb : Below w.heap.size w w') : SlS w' a xss := fun i hi => by
  obtain ⟨g, off, ai, ci, h1, h2, h3, h4, h5⟩ := h i hi
  exact ⟨g, off, ai, ci, h1, Nat.lt_of_lt_of_le h2 hb.size, (hb.cell h2).trans h3, h4.below hb, h5⟩
def lens (xss : List (List Nat)) (k : Nat) : Nat := (xss.take k).flatten.length
theorem getD_some {xss : List (List Nat)} {k : Nat} (hk : k < xss.length) : xss[k]? = some (xss.getD k []) := by
  rw [List.getD_eq_getElem?_getD, List.getElem?_eq_getElem hk]; rfl
theorem flat_succ {xss : List (List Nat)} {k : Nat} (hk : k < xss.length) : (xss.take (k + 1)).flatten = (xss.take k).flatten ++ xss.getD k [] := by
  rw [List.take_add_one, getD_some hk]
  simp
theorem lens_succ {xss : List (List Nat)} {k : Nat} (hk : k < xss.length) : lens xss (k + 1) = lens xss k + (xss.getD k []).length := by
  unfold lens
  rw [flat_succ hk, List.length_append]
theorem lens_le (xss : List (List Nat)) (k : Nat) : lens xss k ≤ xss.flatten.length := by
  unfold lens
  have := congrArg List.length (List.flatten_append (L₁ := xss.take k) (L₂ := xss.drop k))
  rw [List.take_append_drop, List.length_append] at this
  omega
theorem slS_of {w : World} {g t : Nat} {vs : List Value} {xss : List (List Nat)} (hb : Blk w g t vs.toArray) (h : ∀ i, i < xss.length → ∃ ai ci, vs[i]? = some (.slice ai (xss.getD i []).length ci) ∧ Sl w ai .u8 (xss.getD i []) ∧ (ai = none → ci = 0)) : SlS w (some ⟨g, 0, none⟩) xss := fun i hi => by
  obtain ⟨ai, ci, h1, h2, h3⟩ := h i hi
  exact ⟨g, 0, ai, ci, rfl, hb.lt, by rw [Nat.zero_add, hb.cell, List.getElem?_toArray, h1], h2, h3⟩
/-- A slice of these slices. -/
def SlV (w : World) (v : Value) (xss : List (List Nat)) : Prop := ∃ g c, v = .slice (some ⟨g, 0, none⟩) xss.length c ∧ SlS w (some ⟨g, 0, none⟩) xss
theorem SlV.below {w w' : World} {v : Value} {xss : List (List Nat)} (h : SlV w v xss) (hb : Below w.heap.size w w') : SlV w' v xss := let ⟨g, c, h1, h2⟩ := h; ⟨g, c, h1, h2.below hb⟩
end Go.Proofs.Ytolfngmpoafaaaa
