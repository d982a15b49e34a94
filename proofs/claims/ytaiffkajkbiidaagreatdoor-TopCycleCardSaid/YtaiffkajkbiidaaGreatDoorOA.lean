/- Closed facts on the program's types: how many cells an array has, what its zero value is. No condition. -/
import Derived.Test.YtaiffkajkbiidaaGreatDoorRows
import Derived.Test.YtaiffkajkbiidaaGreatDoorKA
import Derived.StillTailTactics
import Derived.BigQuiet
import Derived.Lib.AppendZerosOnto
import Derived.Lib.SliceRun
import Derived.Lib.Walk
import Derived.OwnWalk
namespace Go.Proofs.YtaiffkajkbiidaaGreatDoor
set_option linter.unusedSimpArgs false
set_option linter.unusedVariables false
set_option linter.unusedSectionVars false
set_option linter.unusedVariables false
theorem Tryz.s1106 : (Tryz.prog.info? 106).map (·.size) = some 1 := by kernel_rfl
theorem Tryz.s152 : (Tryz.prog.info? 52).map (·.size) = some 1 := by kernel_rfl
theorem Tryz.s15 : (Tryz.prog.info? 5).map (·.size) = some 1 := by kernel_rfl
theorem Tryz.sz106 : Tryz.prog.cellsOf 106 = 1 := by kernel_rfl
theorem Tryz.is106 : (Tryz.prog.info? 106).isSome = true := by kernel_rfl
theorem Tryz.sz52 : Tryz.prog.cellsOf 52 = 1 := by kernel_rfl
theorem Tryz.is52 : (Tryz.prog.info? 52).isSome = true := by kernel_rfl
theorem Tryz.sz5 : Tryz.prog.cellsOf 5 = 1 := by kernel_rfl
theorem Tryz.is5 : (Tryz.prog.info? 5).isSome = true := by kernel_rfl
theorem Tryz.ar222 : IsArr Tryz.prog 222 5 := isArr Tryz.underlying222 (by kernel_rfl)
theorem Tryz.z222 : IsZero Tryz.prog 222 5 .u64 := isZero (by kernel_rfl)
theorem Tryz.ar213 : IsArr Tryz.prog 213 5 := isArr Tryz.underlying213 (by kernel_rfl)
theorem Tryz.z213 : IsZero Tryz.prog 213 5 .u32 := isZero (by kernel_rfl)
theorem Tryz.ar212 : IsArr Tryz.prog 212 5 := isArr Tryz.underlying212 (by kernel_rfl)
theorem Tryz.z212 : IsZero Tryz.prog 212 5 .u32 := isZero (by kernel_rfl)
theorem Tryz.ar219 : IsArr Tryz.prog 219 4 := isArr Tryz.underlying219 (by kernel_rfl)
theorem Tryz.z219 : IsZero Tryz.prog 219 4 .u32 := isZero (by kernel_rfl)
theorem Tryz.ar218 : IsArr Tryz.prog 218 4 := isArr Tryz.underlying218 (by kernel_rfl)
theorem Tryz.z218 : IsZero Tryz.prog 218 4 .u64 := isZero (by kernel_rfl)
theorem Tryz.ar107 : IsArr Tryz.prog 107 8 := isArr Tryz.underlying107 (by kernel_rfl)
theorem Tryz.z107 : IsZero Tryz.prog 107 8 .u8 := isZero (by kernel_rfl)
theorem Tryz.ar96 : IsArr Tryz.prog 96 16 := isArr Tryz.underlying96 (by kernel_rfl)
theorem Tryz.z96 : IsZero Tryz.prog 96 16 .u8 := isZero (by kernel_rfl)
theorem Tryz.ar85 : IsArr Tryz.prog 85 32 := isArr Tryz.underlying85 (by kernel_rfl)
theorem Tryz.z85 : IsZero Tryz.prog 85 32 .u8 := isZero (by kernel_rfl)
end Go.Proofs.YtaiffkajkbiidaaGreatDoor
/- What octet's functions answer: a number out of bytes. No condition but that places are below 2^62. -/
namespace Go.Proofs.YtaiffkajkbiidaaGreatDoor
set_option linter.unusedSimpArgs false
set_option linter.unusedVariables false
set_option linter.unusedSectionVars false
set_option linter.unusedVariables false
open Go.RowKit
/-- So many bytes from a place on, as a number; noughts where there are none. -/
def numAt (bs : List Nat) (at_ n : Nat) : Nat := undig 256 ((List.range n).map fun k => bs.getD (at_ + k) 0)
theorem numAt_succ (bs : List Nat) (p k : Nat) : numAt bs p (k + 1) = numAt bs p k + bs.getD (p + k) 0 * 256 ^ k := by
  unfold numAt
  rw [List.range_succ, List.map_append, undig_append]
  simp [undig, Nat.mul_comm]
theorem numAt_lt {bs : List Nat} (hb : ∀ x ∈ bs, x < 256) (p n : Nat) : numAt bs p n < 256 ^ n := by
  have h := undig_lt (b := 256) ((List.range n).map fun k => bs.getD (p + k) 0) (fun x hx => by
    obtain ⟨k, -, rfl⟩ := List.mem_map.1 hx
    exact getD_bound hb (by omega) _)
  rw [List.length_map, List.length_range] at h
  exact h
/-- The block behind a captured variable that holds one value. -/
def One (w : World) (g : Nat) (t : TypeId) (v : Value) : Prop := Blk w g t #[v]
theorem One.cell {w : World} {g t : Nat} {v : Value} (h : One w g t v) : w.cell? ⟨g, 0, none⟩ = some v := by rw [Blk.cell h]; rfl
set_option maxHeartbeats 400000 in
theorem from1_c (a : Option Addr) (c : Nat) (bs : List Nat) (hb : ∀ x ∈ bs, x < 256) (hlen : bs.length ≤ maxLen) (p k g1 g2 : Nat) (hp : p < 2 ^ 62) (hk : k < 8) (w : World) (hs : Sl w a .u8 bs) (h1 : One w g1 3 (.int .i64 p)) (h2 : One w g2 23 (.slice a bs.length c)) :
    Calls Tryz.prog 68 #[.int .i64 k, .pointer (some ⟨g1, 0, none⟩), .pointer (some ⟨g2, 0, none⟩)] w fun e w' => e = .returned (.int .u8 (bs.getD (p + k) 0 : Nat)) ∧ w = w' := by
  have c1 := h1.cell
  have c2 := h2.cell
  unfold maxLen at hlen
  by_cases hin : p + k < bs.length
  · obtain ⟨ga, off, rfl, hga, hcell⟩ := hs.at_ hin
    have hv := getD_bound hb (by omega) (p + k)
    generalize bs.getD (p + k) 0 = v at *
    go_enter Tryz.func68, Tryz.ntmps68
    go_wp2
    go_ret
    exact ⟨rfl, rfl⟩
  · have e : bs.getD (p + k) 0 = 0 := by rw [List.getD_eq_getElem?_getD, List.getElem?_eq_none (by omega)]; rfl
    rw [e]
    clear e
    go_enter Tryz.func68, Tryz.ntmps68
    go_wp2
    go_ret
    exact ⟨rfl, rfl⟩
theorem or_shift {m v k : Nat} (hm : m < 256 ^ k) (hv : v < 256) (hk : k < 8) : bits BinOp.or IntKind.u64 (m : Int) (IntKind.u64.wrap ((v : Int) * 2 ^ (8 * k))) = ((m + v * 256 ^ k : Nat) : Int) := by
  have e8 : (2 : Nat) ^ (8 * k) = 256 ^ k := by rw [Nat.pow_mul]
  have h1 : v * 256 ^ k < 256 ^ 8 := by
    calc v * 256 ^ k ≤ 255 * 256 ^ k := Nat.mul_le_mul_right _ (by omega)
      _ < 256 * 256 ^ k := (Nat.mul_lt_mul_right (Nat.pow_pos (by omega))).2 (by omega)
      _ = 256 ^ (k + 1) := by rw [Nat.pow_succ, Nat.mul_comm]
      _ ≤ 256 ^ 8 := Nat.pow_le_pow_right (by omega) (by omega)
  have h2 : m < 256 ^ 8 := Nat.lt_of_lt_of_le hm (Nat.pow_le_pow_right (by omega) (by omega))
  have e1 : ((v : Int) * 2 ^ (8 * k)) = ((v * 256 ^ k : Nat) : Int) := by rw [← e8]; simp
  have h256 : (256 : Nat) ^ 8 = 18446744073709551616 := by decide
  rw [h256] at h1 h2
  rw [e1, IntWalk.u64_in _ (by omega), u64_or_nat m _ h2 h1]
  have := Nat.two_pow_add_eq_or_of_lt (i := 8 * k) (b := m) (by rw [e8]; exact hm) v
  rw [e8] at this
  rw [Nat.or_comm, Nat.mul_comm v, ← this, Nat.add_comm]
set_option maxHeartbeats 400000 in
theorem gather_c (a : Option Addr) (c : Nat) (bs : List Nat) (hb : ∀ x ∈ bs, x < 256) (hlen : bs.length ≤ maxLen) (p n g1 g2 : Nat) (hp : p < 2 ^ 62) (hn : n ≤ 8) (w : World) (hs : Sl w a .u8 bs) (h1 : One w g1 3 (.int .i64 p)) (h2 : One w g2 23 (.slice a bs.length c)) :
    Calls Tryz.prog 60 #[.int .i64 n, .func (.func 68) #[] #[.pointer (some ⟨g1, 0, none⟩), .pointer (some ⟨g2, 0, none⟩)]] w fun e w' => e = .returned (.int .u64 (numAt bs p n : Nat)) ∧ w = w' := by
  go_enter Tryz.func60, Tryz.ntmps60
  go_wp2
  go_loop [5, 8] (fun s t => ∃ k : Nat, k ≤ n ∧ t = .int .i64 k ∧ s = .int .u64 (numAt bs p k)) (fun s t => n - (intOf t).toNat)
  case atStart => exact ⟨0, by omega, rfl, rfl⟩
  case round =>
    rename_i hrel
    obtain ⟨k, hk, rfl, rfl⟩ := hrel
    by_cases hlt : k < n
    · have hsucc := numAt_succ bs p k
      have hnl := numAt_lt hb p k
      have hv := getD_bound hb (by omega) (p + k)
      go_wp2_with (fail)
      refine (from1_c a c bs hb hlen p k g1 g2 hp (by omega) _ hs h1 h2).mono ?_
      rintro e w' ⟨rfl, rfl⟩
      generalize numAt bs p k = m at *
      generalize bs.getD (p + k) 0 = v at *
      have HS := Lib.hid hsucc
      clear hsucc
      go_wp2
      rw [or_shift hnl hv (by omega)]
      exact ⟨⟨k + 1, by omega, by go_num, by rw [HS.out]⟩, by simp [intOf] <;> omega⟩
    · obtain rfl : k = n := by omega
      go_wp2
      go_ret
      exact ⟨rfl, rfl⟩
theorem from_c (a : Option Addr) (n c : Nat) (p : Int) (w : World) : Calls Tryz.prog 61 #[.slice a n c, .int .i64 p] w fun e w' => e = .returned (.func (.func 68) #[] #[.pointer (some ⟨w.heap.size + 1, 0, none⟩), .pointer (some ⟨w.heap.size, 0, none⟩)]) ∧ w' = (w.alloc (.cells #[.slice a n c] 23)).alloc (.cells #[.int .i64 p] 3) := by
  go_enter Tryz.func61, Tryz.ntmps61
  go_wp2
  go_ret
  exact ⟨rfl, rfl⟩
set_option maxHeartbeats 400000 in
theorem word_c (a : Option Addr) (c : Nat) (bs : List Nat) (hb : ∀ x ∈ bs, x < 256) (hlen : bs.length ≤ maxLen) (p : Nat) (hp : p < 2 ^ 62) (w : World) (hs : Sl w a .u8 bs) :
    Calls Tryz.prog 45 #[.slice a bs.length c, .int .i64 p] w fun e w' => e = .returned (.int .u32 (numAt bs p 4 : Nat)) ∧ Below w.heap.size w w' := by
  have hn : numAt bs p 4 < 4294967296 := numAt_lt hb p 4
  have hbel := ((Below.refl w.heap.size w).alloc (Nat.le_refl _) (.cells #[.slice a bs.length c] 23)).alloc (by simp) (.cells #[.int .i64 p] 3)
  go_enter Tryz.func45, Tryz.ntmps45
  go_wp2_with (fail)
  refine (from_c _ _ _ _ _).mono ?_
  rintro e w1 ⟨rfl, rfl⟩
  go_wp2_with (fail)
  refine (gather_c a c bs hb hlen p 4 (w.heap.size + 1) w.heap.size hp (by omega) _ (hs.below hbel) (Blk.new' (by simp)) ((Blk.new _ _ _).alloc _)).mono ?_
  rintro e w1 ⟨rfl, rfl⟩
  go_wp2
  go_ret
  exact ⟨rfl, hbel⟩
theorem word_at (a : Option Addr) (c : Nat) (bs : List Nat) (hb : ∀ x ∈ bs, x < 256) (hlen : bs.length ≤ maxLen) (p : Nat) (z : Int) (hz : z = p) (hp : p < 2 ^ 62) (w : World) (hs : Sl w a .u8 bs) :
    Calls Tryz.prog 45 #[.slice a bs.length c, .int .i64 z] w fun e w' => e = .returned (.int .u32 (numAt bs p 4 : Nat)) ∧ Below w.heap.size w w' := by
  subst hz; exact word_c a c bs hb hlen p hp w hs
set_option maxHeartbeats 400000 in
theorem long_c (a : Option Addr) (c : Nat) (bs : List Nat) (hb : ∀ x ∈ bs, x < 256) (hlen : bs.length ≤ maxLen) (p : Nat) (hp : p < 2 ^ 62) (w : World) (hs : Sl w a .u8 bs) :
    Calls Tryz.prog 74 #[.slice a bs.length c, .int .i64 p] w fun e w' => e = .returned (.int .u64 (numAt bs p 8 : Nat)) ∧ Below w.heap.size w w' := by
  have hn : numAt bs p 8 < 18446744073709551616 := numAt_lt hb p 8
  have hbel := ((Below.refl w.heap.size w).alloc (Nat.le_refl _) (.cells #[.slice a bs.length c] 23)).alloc (by simp) (.cells #[.int .i64 p] 3)
  go_enter Tryz.func74, Tryz.ntmps74
  go_wp2_with (fail)
  refine (from_c _ _ _ _ _).mono ?_
  rintro e w1 ⟨rfl, rfl⟩
  go_wp2_with (fail)
  refine (gather_c a c bs hb hlen p 8 (w.heap.size + 1) w.heap.size hp (by omega) _ (hs.below hbel) (Blk.new' (by simp)) ((Blk.new _ _ _).alloc _)).mono ?_
  rintro e w1 ⟨rfl, rfl⟩
  go_wp2
  go_ret
  exact ⟨rfl, hbel⟩
theorem numAt_head (bs : List Nat) (p n : Nat) : numAt bs p (n + 1) = bs.getD p 0 + 256 * numAt bs (p + 1) n := by
  unfold numAt
  rw [List.range_succ_eq_map, List.map_cons, List.map_map]
  simp only [undig, Nat.add_zero]
  congr 3
  apply List.map_congr_left
  intro k _
  simp only [Function.comp_apply]
  rw [show p + Nat.succ k = p + 1 + k by omega]
/-! ### a number's bytes -/
theorem shr_byte (n k : Nat) : (n : Int) / 2 ^ (8 * k) % 256 = ((n / 256 ^ k % 256 : Nat) : Int) := by
  rw [show (256 : Nat) ^ k = 2 ^ (8 * k) by rw [Nat.pow_mul]]; simp
set_option maxHeartbeats 800000 in
theorem putLong_c (n : Nat) (hn : n < 18446744073709551616) (w : World) :
    Calls Tryz.prog 40 #[.int .u64 n] w fun e w' => e = .returned (.agg (ints .u8 (dig 256 8 n))) ∧ Below w.heap.size w w' := by
  go_enter Tryz.func40, Tryz.ntmps40
  go_wp2_with (first | (refine wpList_alloc_ints rfl 107 rfl Tryz.z107 ?_; (try simp only [Act.put, List.setIfInBounds_toArray, List.set_cons_zero, List.set_cons_succ, World.size_alloc, setRow_size, Nat.add_assoc, Nat.reduceAdd])))
  go_loopw [5] (fun t wr => ∃ k : Nat, k ≤ 8 ∧ t = .int .i64 k ∧ Blk wr w.heap.size 107 (ints .u8 (zeros 8)) ∧ Blk wr (w.heap.size + 1) 107 (ints .u8 ((dig 256 8 n).take k ++ zeros (8 - k))) ∧ Below w.heap.size w wr) (fun t wr => 8 - (intOf t).toNat)
  case atStart => exact ⟨0, by omega, rfl, (Blk.new _ _ _).alloc _, Blk.new' (by simp), (((Below.refl _ _).alloc (Nat.le_refl _) _).alloc (by simp) _)⟩
  case round =>
    rename_i hrel
    obtain ⟨k, hk, rfl, C0, C1, hbelr⟩ := hrel
    by_cases hlt : k < 8
    · have hl : ((dig 256 8 n).take k ++ zeros (8 - k)).length = 8 := by simp [zeros]; omega
      have c1 := C1.int (i := k) (by omega)
      have z1 := C1.frozen k
      have hv : (dig 256 8 n).getD k 0 = n / 256 ^ k % 256 := dig_getD 256 8 n k hlt
      have C1' := C1.intSet k (n / 256 ^ k % 256)
      rw [take_set (n := 8) (dig_length _ _ _) hlt hv] at C1'
      have HC := Lib.hid C1'
      clear C1' hl hv
      go_wp2
      rw [shr_byte]
      exact ⟨⟨k + 1, by omega, by go_num, C0.far (by first | omega | (simp; done) | (simp; omega)) _, HC.out, hbelr.setCell (by first | omega | (simp; done) | (simp; omega)) _⟩, by simp [intOf] <;> omega⟩
    · obtain rfl : k = 8 := by omega
      have he : (dig 256 8 n).take 8 ++ zeros (8 - 8) = dig 256 8 n := by rw [List.take_of_length_le (by simp)]; simp [zeros]
      rw [he] at C1
      clear he
      go_wp2_with (first | (refine wpList_load_ints rfl 107 _ rfl _ rfl C1 Tryz.ar107 (dig_length _ _ _) ?_; (try simp only [Act.put, List.setIfInBounds_toArray, List.set_cons_zero, List.set_cons_succ, World.size_alloc, setRow_size, Nat.add_assoc, Nat.reduceAdd])) | (refine wpList_store_ints rfl 107 _ _ rfl _ rfl rfl C0 (zeros_size _ _) Tryz.ar107 (dig_length _ _ _) ?_; (try simp only [Act.put, List.setIfInBounds_toArray, List.set_cons_zero, List.set_cons_succ, World.size_alloc, setRow_size, Nat.add_assoc, Nat.reduceAdd])))
      refine ret_ints rfl rfl (C0.row _) Tryz.ar107 (dig_length _ _ _) ⟨rfl, ?_⟩
      exact bSetRow hbelr (by simp) _
end Go.Proofs.YtaiffkajkbiidaaGreatDoor
/- What octet's functions on numbers of 128 bits answer: sixteen bytes as a number, a number's bytes, sixteen bytes of a row. No condition. -/
namespace Go.Proofs.YtaiffkajkbiidaaGreatDoor
set_option linter.unusedSimpArgs false
set_option linter.unusedVariables false
set_option linter.unusedSectionVars false
set_option linter.unusedVariables false
open Go.RowKit
theorem Tryz.ar149 : IsArr Tryz.prog 149 2 := isStr Tryz.underlying149 (by kernel_rfl)
theorem Tryz.z149 : IsZero Tryz.prog 149 2 .u64 := isZero (by kernel_rfl)
set_option maxHeartbeats 1000000 in
theorem load_c (a : Option Addr) (c : Nat) (bs : List Nat) (hb : ∀ x ∈ bs, x < 256) (hlen : bs.length ≤ maxLen) (w : World) (hs : Sl w a .u8 bs) :
    Calls Tryz.prog 108 #[.slice a bs.length c] w fun e w' => e = .returned (.agg (ints .u64 [numAt bs 0 8, numAt bs 8 8])) ∧ Below w.heap.size w w' := by
  have Z := Blk.new w 149 (ints .u64 (zeros 2))
  have hbel := (Below.refl w.heap.size w).alloc (Nat.le_refl _) (.cells (ints .u64 (zeros 2)) 149)
  go_enter Tryz.func108, Tryz.ntmps108
  go_wp2_with (refine wpList_alloc_ints rfl 149 rfl Tryz.z149 ?_; (try simp only [Act.put, List.setIfInBounds_toArray, List.set_cons_zero, List.set_cons_succ, World.size_alloc, setRow_size, Nat.add_assoc, Nat.reduceAdd]))
  refine (long_c a c bs hb hlen 0 (by omega) _ (hs.below hbel)).mono ?_
  rintro e w1 ⟨rfl, hb1⟩
  have hbel1 := bCall hbel hb1 hbel.size
  go_wp2_with (fail)
  refine (long_c a c bs hb hlen 8 (by omega) _ (hs.below hbel1)).mono ?_
  rintro e w2 ⟨rfl, hb2⟩
  have Z2 := (Z.below' hb1).below' hb2
  have hbel2 := bCall hbel1 hb2 hbel1.size
  go_wp2_with (refine wpList_store_ints rfl 149 _ _ rfl w.heap.size (k := .u64) (xs := [numAt bs 0 8, numAt bs 8 8]) rfl rfl Z2 (zeros_size _ _) Tryz.ar149 rfl ?_; (try simp only [Act.put, List.setIfInBounds_toArray, List.set_cons_zero, List.set_cons_succ, World.size_alloc, setRow_size, Nat.add_assoc, Nat.reduceAdd]))
  exact ret_ints rfl rfl (Z2.row _) Tryz.ar149 rfl ⟨rfl, bSetRow hbel2 (Nat.le_refl _) _⟩
theorem splice_lo {xs : List Nat} (h : xs.length = 8) : splice (zeros 16) 0 xs = xs ++ zeros 8 := by
  unfold splice
  rw [h]; simp [zeros]
theorem splice_hi {xs ys : List Nat} (h : xs.length = 8) (h' : ys.length = 8) : splice (xs ++ zeros 8) 8 ys = xs ++ ys := by
  unfold splice
  rw [h', ← h, List.take_left, List.drop_of_length_le (by simp [zeros, h])]; simp
set_option maxRecDepth 100000 in
set_option maxHeartbeats 2000000 in
theorem wbytes_c (lo hi : Nat) (h0 : lo < 18446744073709551616) (h1 : hi < 18446744073709551616) (w : World) :
    Calls Tryz.prog 111 #[.agg (ints .u64 [lo, hi])] w fun e w' => e = .returned (.agg (ints .u8 (dig 256 8 lo ++ dig 256 8 hi))) ∧ Below w.heap.size w w' := by
  have B0 := ((Blk.new w 149 (ints .u64 [lo, hi])).alloc (.cells (ints .u8 (zeros 16)) 96)).alloc (.cells (ints .u8 (zeros 16)) 96)
  have B1 := (Blk.new (w.alloc (.cells (ints .u64 [lo, hi]) 149)) 96 (ints .u8 (zeros 16))).alloc (.cells (ints .u8 (zeros 16)) 96)
  have B2 := Blk.new ((w.alloc (.cells (ints .u64 [lo, hi]) 149)).alloc (.cells (ints .u8 (zeros 16)) 96)) 96 (ints .u8 (zeros 16))
  rw [World.size_alloc] at B1
  rw [World.size_alloc, World.size_alloc] at B2
  have hbel := (((Below.refl w.heap.size w).alloc (Nat.le_refl _) (.cells (ints .u64 [lo, hi]) 149)).alloc (by simp) (.cells (ints .u8 (zeros 16)) 96)).alloc (by simp; omega) (.cells (ints .u8 (zeros 16)) 96)
  simp only [Nat.add_assoc, Nat.reduceAdd] at B2
  have hsz : Hid ((((w.alloc (.cells (ints .u64 [lo, hi]) 149)).alloc (.cells (ints .u8 (zeros 16)) 96)).alloc (.cells (ints .u8 (zeros 16)) 96)).heap.size = w.heap.size + 3) := Lib.hid (by simp)
  go_enter Tryz.func111, Tryz.ntmps111
  go_wp2_with (refine wpList_alloc_ints rfl 96 rfl Tryz.z96 ?_; (try simp only [Act.put, List.setIfInBounds_toArray, List.set_cons_zero, List.set_cons_succ, World.size_alloc, setRow_size, Nat.add_assoc, Nat.reduceAdd]))
  generalize (((w.alloc (.cells (ints .u64 [lo, hi]) 149)).alloc (.cells (ints .u8 (zeros 16)) 96)).alloc (.cells (ints .u8 (zeros 16)) 96)) = w0 at *
  have c0 := B0.int (i := 0) (by simp)
  have c1 := B0.int (i := 1) (by simp)
  simp only [List.getD_cons_zero, List.getD_cons_succ] at c0 c1
  have hlt0 := B0.lt
  have hlo := dig_length 256 8 lo
  have hhi := dig_length 256 8 hi
  refine wp_region_inv (by kernel_rfl) (by kernel_rfl) (fun D act_ W => ∃ u4 u5 u6 u7 u8 u9 u10 u11 : Value, act_ = { tmps := #[.agg (ints .u64 [lo, hi]), .pointer (some ⟨w.heap.size, 0, none⟩), .pointer (some ⟨w.heap.size + 1, 0, none⟩), .pointer (some ⟨w.heap.size + 2, 0, none⟩), u4, u5, u6, u7, u8, u9, u10, u11, undef, undef, undef, undef, undef, undef, undef], defers := [] } ∧ Below w0.heap.size w0 W ∧ (D 0 → u6 = .pointer (some ⟨w.heap.size, 0, none⟩)) ∧ (D 1 → u7 = .int .u64 lo) ∧ (D 2 → u8 = .agg (ints .u8 (dig 256 8 lo))) ∧ (D 3 → u9 = .pointer (some ⟨w.heap.size, 1, none⟩)) ∧ (D 4 → u10 = .int .u64 hi) ∧ (D 5 → u11 = .agg (ints .u8 (dig 256 8 hi))) ∧ (D 6 → Al W w0.heap.size u4 107 8 .u8 (D 8) (dig 256 8 lo)) ∧ (D 7 → Al W w0.heap.size u5 107 8 .u8 (D 9) (dig 256 8 hi)) ∧ (D 8 → D 6) ∧ (D 9 → D 7) ∧ (D 6 → D 7 → u4 ≠ u5)) ?_ ?_ ?_
  · exact ⟨_, _, _, _, _, _, _, _, rfl, ⟨rfl, rfl, rfl, Nat.le_refl _, fun _ _ => rfl⟩, (fun h => h.elim), (fun h => h.elim), (fun h => h.elim), (fun h => h.elim), (fun h => h.elim), (fun h => h.elim), (fun h => h.elim), (fun h => h.elim), (fun h => h.elim), (fun h => h.elim), (fun h => h.elim)⟩
  · intro i o hi D act_ W hI hnD hall
    obtain ⟨u4, u5, u6, u7, u8, u9, u10, u11, rfl, hW, f0, f1, f2, f3, f4, f5, f6, f7, f8, f9, f10⟩ := hI
    rcases i with _ | _ | _ | _ | _ | _ | _ | _ | _ | _ | i
    · simp only [Nat.zero_add, Nat.reduceAdd, List.getElem?_toArray, List.getElem?_cons_succ, List.getElem?_cons_zero, Option.some.injEq] at hi
      subst hi
      refine wpOp_value (v := .pointer (some ⟨w.heap.size, 0, none⟩)) rfl rfl (by kernel_rfl) ?_
      exact ⟨_, _, _, _, _, _, _, _, rfl, hW, (fun _ => rfl), (fun h => f1 (h.resolve_left (by decide))), (fun h => f2 (h.resolve_left (by decide))), (fun h => f3 (h.resolve_left (by decide))), (fun h => f4 (h.resolve_left (by decide))), (fun h => f5 (h.resolve_left (by decide))), (fun h => (f6 (h.resolve_left (by decide))).same (fun h' => h'.resolve_left (by decide))), (fun h => (f7 (h.resolve_left (by decide))).same (fun h' => h'.resolve_left (by decide))), (fun h => .inr (f8 (h.resolve_left (by decide)))), (fun h => .inr (f9 (h.resolve_left (by decide)))), (fun h h2 => f10 (h.resolve_left (by decide)) (h2.resolve_left (by decide)))⟩
    · simp only [Nat.zero_add, Nat.reduceAdd, List.getElem?_toArray, List.getElem?_cons_succ, List.getElem?_cons_zero, Option.some.injEq] at hi
      subst hi
      obtain rfl := f0 (pre_of hall 0 rfl)
      refine wpOp_cell rfl rfl rfl rfl Tryz.underlying106 ((hW.cell (p := ⟨_, _, none⟩) hlt0).trans c0) ?_
      exact ⟨_, _, _, _, _, _, _, _, rfl, hW, (fun h => f0 (h.resolve_left (by decide))), (fun _ => rfl), (fun h => f2 (h.resolve_left (by decide))), (fun h => f3 (h.resolve_left (by decide))), (fun h => f4 (h.resolve_left (by decide))), (fun h => f5 (h.resolve_left (by decide))), (fun h => (f6 (h.resolve_left (by decide))).same (fun h' => h'.resolve_left (by decide))), (fun h => (f7 (h.resolve_left (by decide))).same (fun h' => h'.resolve_left (by decide))), (fun h => .inr (f8 (h.resolve_left (by decide)))), (fun h => .inr (f9 (h.resolve_left (by decide)))), (fun h h2 => f10 (h.resolve_left (by decide)) (h2.resolve_left (by decide)))⟩
    · simp only [Nat.zero_add, Nat.reduceAdd, List.getElem?_toArray, List.getElem?_cons_succ, List.getElem?_cons_zero, Option.some.injEq] at hi
      subst hi
      obtain rfl := f1 (pre_of hall 1 rfl)
      refine wpOp_call 40 rfl rfl rfl Tryz.func40 (by kernel_rfl) (by kernel_rfl) (putLong_c lo h0 W) ?_
      intro W' hW'
      exact ⟨_, _, _, _, _, _, _, _, rfl, bCall hW hW' hW.size, (fun h => f0 (h.resolve_left (by decide))), (fun h => f1 (h.resolve_left (by decide))), (fun _ => rfl), (fun h => f3 (h.resolve_left (by decide))), (fun h => f4 (h.resolve_left (by decide))), (fun h => f5 (h.resolve_left (by decide))), (fun h => (f6 (h.resolve_left (by decide))).below hW' (fun h' => h'.resolve_left (by decide))), (fun h => (f7 (h.resolve_left (by decide))).below hW' (fun h' => h'.resolve_left (by decide))), (fun h => .inr (f8 (h.resolve_left (by decide)))), (fun h => .inr (f9 (h.resolve_left (by decide)))), (fun h h2 => f10 (h.resolve_left (by decide)) (h2.resolve_left (by decide)))⟩
    · simp only [Nat.zero_add, Nat.reduceAdd, List.getElem?_toArray, List.getElem?_cons_succ, List.getElem?_cons_zero, Option.some.injEq] at hi
      subst hi
      refine wpOp_value (v := .pointer (some ⟨w.heap.size, 1, none⟩)) rfl rfl (by kernel_rfl) ?_
      exact ⟨_, _, _, _, _, _, _, _, rfl, hW, (fun h => f0 (h.resolve_left (by decide))), (fun h => f1 (h.resolve_left (by decide))), (fun h => f2 (h.resolve_left (by decide))), (fun _ => rfl), (fun h => f4 (h.resolve_left (by decide))), (fun h => f5 (h.resolve_left (by decide))), (fun h => (f6 (h.resolve_left (by decide))).same (fun h' => h'.resolve_left (by decide))), (fun h => (f7 (h.resolve_left (by decide))).same (fun h' => h'.resolve_left (by decide))), (fun h => .inr (f8 (h.resolve_left (by decide)))), (fun h => .inr (f9 (h.resolve_left (by decide)))), (fun h h2 => f10 (h.resolve_left (by decide)) (h2.resolve_left (by decide)))⟩
    · simp only [Nat.zero_add, Nat.reduceAdd, List.getElem?_toArray, List.getElem?_cons_succ, List.getElem?_cons_zero, Option.some.injEq] at hi
      subst hi
      obtain rfl := f3 (pre_of hall 3 rfl)
      refine wpOp_cell rfl rfl rfl rfl Tryz.underlying106 ((hW.cell (p := ⟨_, _, none⟩) hlt0).trans c1) ?_
      exact ⟨_, _, _, _, _, _, _, _, rfl, hW, (fun h => f0 (h.resolve_left (by decide))), (fun h => f1 (h.resolve_left (by decide))), (fun h => f2 (h.resolve_left (by decide))), (fun h => f3 (h.resolve_left (by decide))), (fun _ => rfl), (fun h => f5 (h.resolve_left (by decide))), (fun h => (f6 (h.resolve_left (by decide))).same (fun h' => h'.resolve_left (by decide))), (fun h => (f7 (h.resolve_left (by decide))).same (fun h' => h'.resolve_left (by decide))), (fun h => .inr (f8 (h.resolve_left (by decide)))), (fun h => .inr (f9 (h.resolve_left (by decide)))), (fun h h2 => f10 (h.resolve_left (by decide)) (h2.resolve_left (by decide)))⟩
    · simp only [Nat.zero_add, Nat.reduceAdd, List.getElem?_toArray, List.getElem?_cons_succ, List.getElem?_cons_zero, Option.some.injEq] at hi
      subst hi
      obtain rfl := f4 (pre_of hall 4 rfl)
      refine wpOp_call 40 rfl rfl rfl Tryz.func40 (by kernel_rfl) (by kernel_rfl) (putLong_c hi h1 W) ?_
      intro W' hW'
      exact ⟨_, _, _, _, _, _, _, _, rfl, bCall hW hW' hW.size, (fun h => f0 (h.resolve_left (by decide))), (fun h => f1 (h.resolve_left (by decide))), (fun h => f2 (h.resolve_left (by decide))), (fun h => f3 (h.resolve_left (by decide))), (fun h => f4 (h.resolve_left (by decide))), (fun _ => rfl), (fun h => (f6 (h.resolve_left (by decide))).below hW' (fun h' => h'.resolve_left (by decide))), (fun h => (f7 (h.resolve_left (by decide))).below hW' (fun h' => h'.resolve_left (by decide))), (fun h => .inr (f8 (h.resolve_left (by decide)))), (fun h => .inr (f9 (h.resolve_left (by decide)))), (fun h h2 => f10 (h.resolve_left (by decide)) (h2.resolve_left (by decide)))⟩
    · simp only [Nat.zero_add, Nat.reduceAdd, List.getElem?_toArray, List.getElem?_cons_succ, List.getElem?_cons_zero, Option.some.injEq] at hi
      subst hi
      refine wpOp_alloc rfl rfl rfl Tryz.z107 ?_
      have hnS : ¬ (8 = 6 ∨ D 8) := fun h => h.elim (by decide) (fun h => hnD (f8 h))
      exact ⟨_, _, _, _, _, _, _, _, rfl, hW.alloc hW.size _, (fun h => f0 (h.resolve_left (by decide))), (fun h => f1 (h.resolve_left (by decide))), (fun h => f2 (h.resolve_left (by decide))), (fun h => f3 (h.resolve_left (by decide))), (fun h => f4 (h.resolve_left (by decide))), (fun h => f5 (h.resolve_left (by decide))), (fun _ => Al.new hW.size (fun h => (hnS h).elim)), (fun h => (f7 (h.resolve_left (by decide))).alloc _ (fun h' => h'.resolve_left (by decide))), (fun _ => .inl rfl), (fun h => .inr (f9 (h.resolve_left (by decide)))), (fun _ h => (f7 (h.resolve_left (by decide))).ne_new')⟩
    · simp only [Nat.zero_add, Nat.reduceAdd, List.getElem?_toArray, List.getElem?_cons_succ, List.getElem?_cons_zero, Option.some.injEq] at hi
      subst hi
      refine wpOp_alloc rfl rfl rfl Tryz.z107 ?_
      have hnS : ¬ (9 = 7 ∨ D 9) := fun h => h.elim (by decide) (fun h => hnD (f9 h))
      exact ⟨_, _, _, _, _, _, _, _, rfl, hW.alloc hW.size _, (fun h => f0 (h.resolve_left (by decide))), (fun h => f1 (h.resolve_left (by decide))), (fun h => f2 (h.resolve_left (by decide))), (fun h => f3 (h.resolve_left (by decide))), (fun h => f4 (h.resolve_left (by decide))), (fun h => f5 (h.resolve_left (by decide))), (fun h => (f6 (h.resolve_left (by decide))).alloc _ (fun h' => h'.resolve_left (by decide))), (fun _ => Al.new hW.size (fun h => (hnS h).elim)), (fun h => .inr (f8 (h.resolve_left (by decide)))), (fun _ => .inl rfl), (fun h _ => (f6 (h.resolve_left (by decide))).ne_new)⟩
    · simp only [Nat.zero_add, Nat.reduceAdd, List.getElem?_toArray, List.getElem?_cons_succ, List.getElem?_cons_zero, Option.some.injEq] at hi
      subst hi
      obtain rfl := f2 (pre_of hall 2 rfl)
      obtain ⟨g, l, rfl, hg, hl0, hB, hst⟩ := f6 (pre_of hall 6 rfl)
      refine wpOp_store rfl rfl rfl rfl rfl hB ((ints_size _ _).trans hl0) Tryz.ar107 hlo ?_
      exact ⟨_, _, _, _, _, _, _, _, rfl, bSetRow hW hg _, (fun h => f0 (h.resolve_left (by decide))), (fun h => f1 (h.resolve_left (by decide))), (fun h => f2 (h.resolve_left (by decide))), (fun h => f3 (h.resolve_left (by decide))), (fun h => f4 (h.resolve_left (by decide))), (fun h => f5 (h.resolve_left (by decide))), (fun _ => Al.set hB hg hlo), (fun h => (f7 (h.resolve_left (by decide))).far (fun e => f10 (pre_of hall 6 rfl) (pre_of hall 7 rfl) e.symm) (fun h' => h'.resolve_left (by decide))), (fun _ => .inr (pre_of hall 6 rfl)), (fun h => .inr (f9 (h.resolve_left (by decide)))), (fun h h2 => f10 (h.resolve_left (by decide)) (h2.resolve_left (by decide)))⟩
    · simp only [Nat.zero_add, Nat.reduceAdd, List.getElem?_toArray, List.getElem?_cons_succ, List.getElem?_cons_zero, Option.some.injEq] at hi
      subst hi
      obtain rfl := f5 (pre_of hall 5 rfl)
      obtain ⟨g, l, rfl, hg, hl0, hB, hst⟩ := f7 (pre_of hall 7 rfl)
      refine wpOp_store rfl rfl rfl rfl rfl hB ((ints_size _ _).trans hl0) Tryz.ar107 hhi ?_
      exact ⟨_, _, _, _, _, _, _, _, rfl, bSetRow hW hg _, (fun h => f0 (h.resolve_left (by decide))), (fun h => f1 (h.resolve_left (by decide))), (fun h => f2 (h.resolve_left (by decide))), (fun h => f3 (h.resolve_left (by decide))), (fun h => f4 (h.resolve_left (by decide))), (fun h => f5 (h.resolve_left (by decide))), (fun h => (f6 (h.resolve_left (by decide))).far (fun e => f10 (pre_of hall 6 rfl) (pre_of hall 7 rfl) e) (fun h' => h'.resolve_left (by decide))), (fun _ => Al.set hB hg hhi), (fun h => .inr (f8 (h.resolve_left (by decide)))), (fun _ => .inr (pre_of hall 7 rfl)), (fun h h2 => f10 (h.resolve_left (by decide)) (h2.resolve_left (by decide)))⟩
    · exfalso; simp at hi
  · rintro D act_ W ⟨u4, u5, u6, u7, u8, u9, u10, u11, rfl, hW, f0, f1, f2, f3, f4, f5, f6, f7, f8, f9, f10⟩ hall
    obtain rfl := f0 (hall 0 (by decide))
    obtain rfl := f1 (hall 1 (by decide))
    obtain rfl := f2 (hall 2 (by decide))
    obtain rfl := f3 (hall 3 (by decide))
    obtain rfl := f4 (hall 4 (by decide))
    obtain rfl := f5 (hall 5 (by decide))
    obtain ⟨g4, l4, rfl, hg4, -, hB4, hl4⟩ := f6 (hall 6 (by decide))
    obtain rfl := hl4 (hall 8 (by decide))
    obtain ⟨g5, l5, rfl, hg5, -, hB5, hl5⟩ := f7 (hall 7 (by decide))
    obtain rfl := hl5 (hall 9 (by decide))
    have hne10 := f10 (hall 6 (by decide)) (hall 7 (by decide))
    clear f0 f1 f2 f3 f4 f5 f6 f7 f8 f9 f10 hall
    have hbel1 := bCall hbel hW (by have := hsz.out; omega)
    have K2 := B2.below' hW
    have K1 := B1.below' hW
    have l2 := B2.lt
    clear B0 B1 B2 hW hbel c0 c1
    go_wp2
    refine wp_region_still_tail 2 (by kernel_rfl) (by kernel_rfl) ?_
    simp only [List.take_succ_cons, List.take_zero, List.drop_succ_cons, List.drop_zero]
    repeat still_step
    refine wpStill_nil ?_
    change wpList _ _ _ _ _ W.drew
    refine wpList_copy_ints (off := 0) (dLen := 16) (sLen := 8) rfl rfl Tryz.underlying23 Tryz.s15 rfl rfl K2.drew (Sl.blk hB4.drew) (by rw [hlo]; rfl) (fun _ => rfl) (by rw [zeros_len, hlo]; omega) ?_
    intro w3 L2 ho
    rw [splice_lo hlo] at L2
    have L1 := K1.drew.only ho (by omega)
    have L5 := hB5.drew.only ho (by omega)
    have hbel2 := ho.below _ _ hbel1.drew (by omega)
    clear K1 K2 hB4 hB5 hbel1 ho
    go_wp2
    refine wp_region_still_tail 2 (by kernel_rfl) (by kernel_rfl) ?_
    simp only [List.take_succ_cons, List.take_zero, List.drop_succ_cons, List.drop_zero]
    repeat still_step
    refine wpStill_nil ?_
    change wpList _ _ _ _ _ w3.drew
    refine wpList_copy_ints (off := 8) (dLen := 8) (sLen := 8) rfl rfl Tryz.underlying23 Tryz.s15 rfl rfl L2.drew (Sl.blk L5.drew) (by rw [hhi]; rfl) (fun _ => rfl) (by simp [zeros, hhi, hlo]) ?_
    intro w4 M2 ho2
    rw [splice_hi hlo hhi] at M2
    have M1 := L1.drew.only ho2 (by omega)
    have hbel3 := ho2.below _ _ hbel2.drew (by omega)
    have hlen : (dig 256 8 lo ++ dig 256 8 hi).length = 16 := by simp
    go_wp2_with (first | (refine wpList_load_ints rfl 96 _ rfl (w.heap.size + 2) rfl M2 Tryz.ar96 hlen ?_; (try simp only [Act.put, List.setIfInBounds_toArray, List.set_cons_zero, List.set_cons_succ, World.size_alloc, setRow_size, Nat.add_assoc, Nat.reduceAdd])) | (refine wpList_store_ints rfl 96 _ _ rfl (w.heap.size + 1) rfl rfl M1 (zeros_size _ _) Tryz.ar96 hlen ?_; (try simp only [Act.put, List.setIfInBounds_toArray, List.set_cons_zero, List.set_cons_succ, World.size_alloc, setRow_size, Nat.add_assoc, Nat.reduceAdd])))
    exact ret_ints rfl rfl (M1.row _) Tryz.ar96 hlen ⟨rfl, bSetRow hbel3 (by omega) _⟩
/-- Sixteen bytes of a row, noughts where it has none. -/
def blockN (bs : List Nat) : List Nat := (List.range 16).map fun i => bs.getD i 0
theorem blockN_len (bs : List Nat) : (blockN bs).length = 16 := by simp [blockN]
theorem blockN_lt {bs : List Nat} (hb : ∀ x ∈ bs, x < 256) : ∀ x ∈ blockN bs, x < 256 := fun x hx => by
  obtain ⟨i, -, rfl⟩ := List.mem_map.1 hx
  exact getD_bound hb (by omega) _
theorem splice_block (bs : List Nat) : splice (zeros 16) 0 (bs.take 16) = blockN bs := by
  apply List.ext_getElem? fun i => ?_
  unfold splice blockN
  rw [List.take_zero, List.nil_append, Nat.zero_add]
  by_cases hi : i < 16
  · rw [List.getElem?_map, List.getElem?_range hi]
    simp only [Option.map_some]
    by_cases h : i < bs.length
    · rw [List.getElem?_append_left (by rw [List.length_take]; omega), List.getElem?_take, if_pos hi, getD_lt h]
    · rw [List.getElem?_append_right (by rw [List.length_take]; omega), List.getElem?_drop, List.getD_eq_getElem?_getD, List.getElem?_eq_none (show bs.length ≤ i by omega)]
      unfold zeros
      rw [List.getElem?_replicate, if_pos (by rw [List.length_take]; omega)]; rfl
  · rw [List.getElem?_eq_none (by simp [zeros]; omega), List.getElem?_eq_none (by simp; omega)]
set_option maxHeartbeats 1000000 in
theorem block_c (a : Option Addr) (c : Nat) (bs : List Nat) (w : World) (hs : Sl w a .u8 bs) :
    Calls Tryz.prog 38 #[.slice a bs.length c] w fun e w' => e = .returned (.agg (ints .u8 (blockN bs))) ∧ Below w.heap.size w w' := by
  have B1 := (Blk.new w 96 (ints .u8 (zeros 16))).alloc (.cells (ints .u8 (zeros 16)) 96)
  have B2 := Blk.new (w.alloc (.cells (ints .u8 (zeros 16)) 96)) 96 (ints .u8 (zeros 16))
  rw [World.size_alloc] at B2
  have hbel := ((Below.refl w.heap.size w).alloc (Nat.le_refl _) (.cells (ints .u8 (zeros 16)) 96)).alloc (by simp) (.cells (ints .u8 (zeros 16)) 96)
  have hs1 := (hs.below hbel).take 16
  have hmin : (bs.take 16).length = Nat.min bs.length 16 := by exact List.length_take.trans (Nat.min_comm _ _)
  have Hmin := Lib.hid hmin
  clear hmin
  have hbl := blockN_len bs
  go_enter Tryz.func38, Tryz.ntmps38
  go_wp2_with (first | (refine wpList_alloc_ints rfl 96 rfl Tryz.z96 ?_; (try simp only [Act.put, List.setIfInBounds_toArray, List.set_cons_zero, List.set_cons_succ, World.size_alloc, setRow_size, Nat.add_assoc, Nat.reduceAdd])) | (refine wpList_copy_ints (off := 0) (dLen := 16) rfl rfl Tryz.underlying23 Tryz.s15 rfl rfl B2 hs1 Hmin.out (fun _ => rfl) (by rw [zeros_len, List.length_take]; omega) ?_; intro w3 L2 ho; rw [splice_block] at L2; have L1 := B1.only ho (by omega); have hbel2 := ho.below _ _ hbel (by omega)) | (refine wpList_load_ints rfl 96 _ rfl (w.heap.size + 1) rfl L2 Tryz.ar96 hbl ?_; (try simp only [Act.put, List.setIfInBounds_toArray, List.set_cons_zero, List.set_cons_succ, World.size_alloc, setRow_size, Nat.add_assoc, Nat.reduceAdd])) | (refine wpList_store_ints rfl 96 _ _ rfl w.heap.size rfl rfl L1 (zeros_size _ _) Tryz.ar96 hbl ?_; (try simp only [Act.put, List.setIfInBounds_toArray, List.set_cons_zero, List.set_cons_succ, World.size_alloc, setRow_size, Nat.add_assoc, Nat.reduceAdd])))
  exact ret_ints rfl rfl (L1.row _) Tryz.ar96 hbl ⟨rfl, bSetRow hbel2 (by omega) _⟩
end Go.Proofs.YtaiffkajkbiidaaGreatDoor
/- octet.Padded, octet.Marked, octet.Xor. No condition but that rows are shorter than 2^32 and bytes below 256. -/
namespace Go.Proofs.YtaiffkajkbiidaaGreatDoor
set_option linter.unusedSimpArgs false
set_option linter.unusedVariables false
set_option linter.unusedSectionVars false
set_option linter.unusedVariables false
open Go.RowKit
theorem u8_row : (Tryz.prog.info? 5).map (fun i => (i.zero, i.size, i.bytes)) = some (some (.int .u8 0), 1, 1) := by kernel_rfl
theorem Tryz.one8 : IsOne Tryz.prog 5 := by unfold IsOne; kernel_rfl
theorem mk_u8 (n : Nat) (hn : n < 2 ^ 40) (W : World) : (Instr.makeSlice 23 (.int .i64 (n : Int)) (.int .i64 (n : Int))).run Tryz.prog W = .ok (.slice (some ⟨W.heap.size, 0, none⟩) n n) (W.alloc (.cells (ints .u8 (zeros n)) 5)) :=
  run_make_ints Tryz.underlying23 u8_row (by omega) hn W
theorem splice_zeros (bs : List Nat) (n : Nat) : splice (zeros (bs.length + n)) 0 bs = bs ++ zeros n := by
  unfold splice zeros
  simp
set_option maxHeartbeats 1000000 in
theorem room_c (n : Nat) (hn : n < 2 ^ 32) (w : World) :
    Calls Tryz.prog 69 #[.int .i64 n, .int .i64 16] w fun e w' => e = .returned (.int .i64 (((16 - n % 16) % 16 : Nat) : Int)) ∧ w = w' := by
  have h1 : (n : Int) % 16 = ((n % 16 : Nat) : Int) := by omega
  have h2 : (16 : Int) - ((n % 16 : Nat) : Int) = ((16 - n % 16 : Nat) : Int) := by omega
  have h3 : ((16 - n % 16 : Nat) : Int) % 16 = (((16 - n % 16) % 16 : Nat) : Int) := by omega
  generalize (16 - n % 16) % 16 = r at *
  generalize 16 - n % 16 = q at *
  generalize n % 16 = p at *
  go_enter Tryz.func69, Tryz.ntmps69
  go_wp2
  go_ret
  exact ⟨by show Ending.returned (.int .i64 ((q : Int) % 16)) = _; rw [h3], rfl⟩
set_option maxRecDepth 100000 in
set_option maxHeartbeats 2000000 in
theorem padded_c (a : Option Addr) (c : Nat) (bs : List Nat) (hlen : bs.length < 2 ^ 32) (w : World) (hs : Sl w a .u8 bs) :
    Calls Tryz.prog 65 #[.slice a bs.length c, .int .i64 16] w fun e w' => e = .returned (.slice (some ⟨w.heap.size, 0, none⟩) (padL bs).length (padL bs).length) ∧ Below w.heap.size w w' ∧ Blk w' w.heap.size 5 (ints .u8 (padL bs)) := by
  have hpl := padL_len bs
  have hmk := fun W => mk_u8 (bs.length + (16 - bs.length % 16) % 16) (by omega) W
  have hsp := splice_zeros bs ((16 - bs.length % 16) % 16)
  have hmin : bs.length = Nat.min bs.length (bs.length + (16 - bs.length % 16) % 16) := (Nat.min_eq_left (by omega)).symm
  have hr : (16 - bs.length % 16) % 16 < 16 := by omega
  simp only [Int.natCast_add] at hmk
  have HP := Lib.hid (show bs ++ zeros ((16 - bs.length % 16) % 16) = padL bs from rfl)
  have Hpl := Lib.hid hpl
  have Hmin := Lib.hid hmin
  have Hsp := Lib.hid hsp
  have hroom := room_c bs.length hlen
  clear hpl hmin hsp
  generalize (16 - bs.length % 16) % 16 = r at *
  go_enter Tryz.func65, Tryz.ntmps65
  go_wp2_with fail
  refine (hroom _).mono ?_
  rintro e w1 ⟨rfl, rfl⟩
  clear hroom
  have B0 := Blk.new w 5 (ints .u8 (zeros (bs.length + r)))
  have hs1 : Sl (w.alloc (.cells (ints .u8 (zeros (bs.length + r))) 5)) a .u8 bs := hs.below ((Below.refl _ _).alloc (Nat.le_refl _) _)
  have hbel := (Below.refl w.heap.size w).alloc (Nat.le_refl _) (.cells (ints .u8 (zeros (bs.length + r))) 5)
  go_wp2_with (refine wpList_copy_ints (zs := bs) rfl rfl Tryz.underlying23 Tryz.s15 rfl rfl B0 hs1 Hmin.out (fun _ => rfl) (by rw [zeros_len]; omega) ?_; intro w2 C0 O2; (try simp only [Act.put, List.setIfInBounds_toArray, List.set_cons_zero, List.set_cons_succ, World.size_alloc, setRow_size, Nat.add_assoc, Nat.reduceAdd]))
  go_ret
  rw [Hsp.out, HP.out] at C0
  exact ⟨by rw [Hpl.out]; rfl, O2.below _ _ hbel (Nat.le_refl _), C0⟩
theorem set_last (bs : List Nat) (m : Nat) : (bs ++ zeros 1).set bs.length m = bs ++ [m] := by
  rw [List.set_append_right _ _ (Nat.le_refl _), Nat.sub_self]; rfl
set_option maxRecDepth 100000 in
set_option maxHeartbeats 2000000 in
theorem marked_c (a : Option Addr) (c m : Nat) (bs : List Nat) (hlen : bs.length < 2 ^ 31) (w : World) (hs : Sl w a .u8 bs) :
    Calls Tryz.prog 156 #[.slice a bs.length c, .int .u8 m, .int .i64 16] w fun e w' => e = .returned (.slice (some ⟨w.heap.size + 1, 0, none⟩) (padL (bs ++ [m])).length (padL (bs ++ [m])).length) ∧ Below w.heap.size w w' ∧ Blk w' (w.heap.size + 1) 5 (ints .u8 (padL (bs ++ [m]))) := by
  have hmk := fun W => mk_u8 (bs.length + 1) (by omega) W
  simp only [Int.natCast_add, Int.cast_ofNat_Int] at hmk
  have Hsp := Lib.hid (splice_zeros bs 1)
  have Hmin := Lib.hid (show bs.length = Nat.min bs.length (bs.length + 1) from (Nat.min_eq_left (by omega)).symm)
  have hml : (bs ++ [m]).length = bs.length + 1 := by simp
  have B0 := Blk.new w 5 (ints .u8 (zeros (bs.length + 1)))
  have hs1 : Sl (w.alloc (.cells (ints .u8 (zeros (bs.length + 1))) 5)) a .u8 bs := hs.below ((Below.refl _ _).alloc (Nat.le_refl _) _)
  have hbel := (Below.refl w.heap.size w).alloc (Nat.le_refl _) (.cells (ints .u8 (zeros (bs.length + 1))) 5)
  have hsz : (w.alloc (.cells (ints .u8 (zeros (bs.length + 1))) 5)).heap.size = w.heap.size + 1 := by simp
  have Hml := Lib.hid hml
  clear hml
  go_enter Tryz.func156, Tryz.ntmps156
  go_wp2_with (first
    | (refine wpList_copy_ints (zs := bs) rfl rfl Tryz.underlying23 Tryz.s15 rfl rfl B0 hs1 Hmin.out (fun _ => rfl) (by rw [zeros_len]; omega) ?_; intro w2 C0 O2; rw [Hsp.out] at C0; (try simp only [Act.put, List.setIfInBounds_toArray, List.set_cons_zero, List.set_cons_succ, World.size_alloc, setRow_size, Nat.add_assoc, Nat.reduceAdd]))
    | (refine wpList_store_one rfl 5 _ _ rfl Tryz.one8 C0 bs.length m rfl rfl (by rw [List.length_append, zeros_len]; omega) ?_; intro w3 D0 F3; rw [set_last] at D0; (try simp only [Act.put, List.setIfInBounds_toArray, List.set_cons_zero, List.set_cons_succ, World.size_alloc, setRow_size, Nat.add_assoc, Nat.reduceAdd])))
  have hpc := padded_c (some ⟨w.heap.size, 0, none⟩) (bs.length + 1) (bs ++ [m]) (by rw [Hml.out]; omega) w3 (Sl.blk D0)
  have hsz3 : w3.heap.size = w.heap.size + 1 := by rw [F3.size, O2.size, hsz]
  rw [Hml.out, hsz3] at hpc
  refine hpc.mono ?_
  rintro e w4 ⟨rfl, hb4, E0⟩
  go_wp2_with fail
  go_ret
  refine ⟨rfl, ?_, E0⟩
  have hb3 := F3.below (O2.below _ _ hbel (Nat.le_refl _)) (Nat.le_refl _)
  exact hb3.trans (hb4.mono (by omega))
/-- The exclusive or of two rows, as far as both go. -/
def xorM (xs ys : List Nat) (n : Nat) : List Nat := (List.range n).map fun i => xs.getD i 0 ^^^ ys.getD i 0
theorem xorM_len (xs ys : List Nat) (n : Nat) : (xorM xs ys n).length = n := by simp [xorM]
theorem xorM_getD (xs ys : List Nat) {n i : Nat} (hi : i < n) : (xorM xs ys n).getD i 0 = xs.getD i 0 ^^^ ys.getD i 0 := by
  unfold xorM
  rw [List.getD_eq_getElem?_getD, List.getElem?_map, List.getElem?_range hi]; rfl
set_option maxRecDepth 100000 in
set_option maxHeartbeats 4000000 in
theorem xor_c (a b : Option Addr) (c d n : Nat) (xs ys : List Nat) (hn : n < 2 ^ 32) (hl : xs.length = n) (hl' : n ≤ ys.length) (hlen : ys.length < 2 ^ 32) (hb : ∀ x ∈ xs, x < 256) (hb' : ∀ x ∈ ys, x < 256) (w : World) (A0 : Sl w a .u8 xs) (A1 : Sl w b .u8 ys) :
    Calls Tryz.prog 42 #[.slice a n c, .slice b ys.length d] w fun e w' => e = .returned (.slice (some ⟨w.heap.size, 0, none⟩) n n) ∧ Below w.heap.size w w' ∧ Blk w' w.heap.size 5 (ints .u8 (xorM xs ys n)) := by
  have hmk := fun W => mk_u8 n (by omega) W
  have hmin : min (n : Int) (ys.length : Int) = (n : Int) := by omega
  have hxl := xorM_len xs ys n
  have hle : (n : Int) ≤ (ys.length : Int) := by omega
  obtain ⟨m, Hm⟩ : ∃ m, Hid (ys.length = m) := ⟨_, Lib.hid rfl⟩
  rw [Hm.out] at hmin hle hlen hl' ⊢
  go_enter Tryz.func42, Tryz.ntmps42
  go_wp2
  clear hmk
  have hmin2 : min (n : Int) (m : Int) = (n : Int) := hmin
  go_loopw [15] (fun t wr => ∃ k : Nat, k ≤ n ∧ t = .int .i64 k ∧ Blk wr w.heap.size 5 (ints .u8 ((xorM xs ys n).take k ++ zeros (n - k))) ∧ Below w.heap.size w wr) (fun t wr => n - (intOf t).toNat)
  case atStart => exact ⟨0, by omega, rfl, Blk.new _ _ _, (Below.refl _ _).alloc (Nat.le_refl _) _⟩
  case round =>
    rename_i hrel
    obtain ⟨k, hk, rfl, C2, hbelr⟩ := hrel
    by_cases hlt : k < n
    · have hll : ((xorM xs ys n).take k ++ zeros (n - k)).length = n := by rw [List.length_append, List.length_take, hxl, zeros_len]; omega
      obtain ⟨g0, o0, rfl, hg0, c0⟩ := (A0.below hbelr).at_ (i := k) (by omega)
      obtain ⟨g1, o1, rfl, hg1, c1⟩ := (A1.below hbelr).at_ (i := k) (by rw [Hm.out]; omega)
      have c2 := C2.int (i := k) (by omega)
      have z2 := C2.frozen k
      have vx := getD_bound hb (by omega) k
      have vy := getD_bound hb' (by omega) k
      have hv := xorM_getD xs ys hlt
      have C2' := C2.intSet k (xs.getD k 0 ^^^ ys.getD k 0)
      rw [take_set hxl hlt hv] at C2'
      have HC := Lib.hid C2'
      have HX := Lib.hid (show bits BinOp.xor IntKind.u8 ((xs.getD k 0 : Nat) : Int) ((ys.getD k 0 : Nat) : Int) = ((xs.getD k 0 ^^^ ys.getD k 0 : Nat) : Int) from u8_xor_nat _ _ vx vy)
      clear C2' hll hv hmin hmin2
      generalize xs.getD k 0 = x at *
      generalize ys.getD k 0 = y at *
      have hd0 : decide ((k : Int) < (n : Int)) = true := by simp; omega
      have hkm : (k : Int) < (m : Int) := by omega
      go_wp2
      go_region
      all_goals
        rw [HX.out]
        go_wp2
        exact ⟨⟨k + 1, by omega, by go_num, HC.out.drew, (hbelr.setCell (by first | omega | (simp; done) | (simp; omega)) _).drew⟩, by simp [intOf] <;> omega⟩
    · obtain rfl : k = n := by omega
      have he : (xorM xs ys k).take k ++ zeros (k - k) = xorM xs ys k := by rw [List.take_of_length_le (by omega)]; simp [zeros]
      rw [he] at C2
      have hd0 : decide ((k : Int) < (k : Int)) = false := by simp
      go_wp2
      go_ret
      exact ⟨rfl, hbelr, C2⟩
end Go.Proofs.YtaiffkajkbiidaaGreatDoor
/- What the reference of layer 1 answers: a byte, a number of bytes, a number's bytes. No condition but that places are below 2^62. -/
namespace Go.Proofs.YtaiffkajkbiidaaGreatDoor
set_option linter.unusedSimpArgs false
set_option linter.unusedVariables false
set_option linter.unusedSectionVars false
set_option linter.unusedVariables false
open Go.RowKit
theorem take_snoc {xs : List Nat} {k v : Nat} (hk : k < xs.length) (hv : xs.getD k 0 = v) : xs.take (k + 1) = xs.take k ++ [v] := by
  rw [List.take_add_one, getD_lt hk, hv]; rfl
theorem u8_inf : (Tryz.prog.info? 5).map (fun i => (i.zero, i.size, i.bytes)) = some (some (.int .u8 0), 1, 1) := by kernel_rfl
end Go.Proofs.YtaiffkajkbiidaaGreatDoor
/- wringerref01's Padded, Marked, Block, Sixteen. No condition but that bytes are below 256 and rows shorter than 2^32. -/
namespace Go.Proofs.YtaiffkajkbiidaaGreatDoor
set_option linter.unusedSimpArgs false
set_option linter.unusedVariables false
set_option linter.unusedSectionVars false
set_option linter.unusedVariables false
open Go.RowKit
theorem Tryz.one8r : IsOne Tryz.prog 5 := by unfold IsOne; kernel_rfl
/-- A slice's length. -/
def lenOfV : Value → Nat
  | .slice _ n _ => n
  | _ => 0
theorem Own.empty (w : World) (B : Nat) (hB : B ≤ w.heap.size) : Own (w.alloc (.cells #[] 5)) B 5 .u8 (.slice (some ⟨w.heap.size, 0, none⟩) 0 0) [] :=
  Own.made (xs := []) (Blk.new w 5 #[]) hB (by simp [maxLen])
end Go.Proofs.YtaiffkajkbiidaaGreatDoor
/- slices.Grow of a nil slice; slices.Concat of byte slices. No condition but that all together are shorter than 2^31. -/
namespace Go.Proofs.YtaiffkajkbiidaaGreatDoor
set_option linter.unusedSimpArgs false
set_option linter.unusedVariables false
set_option linter.unusedSectionVars false
set_option linter.unusedVariables false
open Go.RowKit
theorem u8_cat : (Tryz.prog.info? 5).map (fun i => (i.zero, i.size, i.bytes)) = some (some (.int .u8 0), 1, 1) := by kernel_rfl
theorem grow_run (w : World) (n : Nat) (h0 : 0 < n) (hn : n < 2 ^ 31) : ∀ ty, ∃ w' c, (Builtin.append_ #[23, 3] ty #[.slice none 0 0, .int .i64 (n : Int)]).run Tryz.prog w = .ok (.slice (some ⟨w.heap.size, 0, none⟩) n c) w' ∧ n ≤ c ∧ Own w' w.heap.size 5 .u8 (.slice (some ⟨w.heap.size, 0, none⟩) 0 c) [] ∧ Below w.heap.size w w' := fun ty => by
  obtain ⟨i, hi, hz0, hz1, hz2⟩ := info_parts u8_cat
  have hold : (Builtin.firstCells i.size 0 (.slice none 0 0)).run Tryz.prog w.drew = .ok ([] : List Value).toArray w.drew := run_firstCells_none w.drew i.size 0 0 0
  have hr := Lib.run_append_grow_zeros (P := Tryz.prog) w 23 3 ty 5 i (.int .u8 0) .i64 .i64 Tryz.underlying23 Tryz.underlying3 hi hz0 none 0 0 [] hold n h0 (by omega) (by omega) (by omega) (by rw [hz2]; omega)
    (growslice_fits (by omega) (by rw [hz2]; omega))
  rw [Nat.zero_add] at hr
  have hG := grownCap_ge w n 0 5
  have hG2 := grownCap_le_maxLen w n 0 5 (by unfold maxLen; omega)
  refine ⟨_, _, hr, hG, ?_, (Below.refl _ _).drew.alloc (Nat.le_refl _) _⟩
  refine ⟨by simp, .inr ⟨w.heap.size, _, _, rfl, Nat.le_refl _, heap_alloc_new _ _, by simp, hG2, ?_, by simp⟩⟩
  simp [Builtin.zeroCells, Value.cells]
  omega
set_option maxRecDepth 100000 in
set_option maxHeartbeats 2000000 in
theorem grow_c (n : Nat) (hn : n < 2 ^ 31) (w : World) :
    Calls Tryz.prog 124 #[.slice none 0 0, .int .i64 n] w fun e w' => ∃ v, e = .returned v ∧ Own w' w.heap.size 5 .u8 v [] ∧ Below w.heap.size w w' := by
  by_cases h0 : n = 0
  · subst h0
    go_enter Tryz.func124, Tryz.ntmps124
    go_wp2
    go_ret
    exact ⟨_, rfl, Own.nil _ _ _ _, Below.refl _ _⟩
  · have hr := grow_run w n (by omega) hn
    have hgt : decide ((n : Int) > 0) = true := by simp; omega
    go_enter Tryz.func124, Tryz.ntmps124
    obtain ⟨w1, c, hrun, hnc, hown, hbel⟩ := hr 23
    clear hr
    go_wp2_with (at_builtin; refine Lib.wpList_append_run _ rfl _ _ _ _ rfl _ _ rfl rfl _ _ hrun ?_)
    go_ret
    exact ⟨_, rfl, hown, hbel⟩
/-- The slices in a row of slices of bytes. -/
def SlS (w : World) (a : Option Addr) (xss : List (List Nat)) : Prop :=
  ∀ i, i < xss.length → ∃ g off ai ci, a = some ⟨g, off, none⟩ ∧ g < w.heap.size ∧ w.cell? ⟨g, off + i, none⟩ = some (.slice ai (xss.getD i []).length ci) ∧ Sl w ai .u8 (xss.getD i []) ∧ (ai = none → ci = 0)
theorem SlS.below {w w' : World} {a : Option Addr} {xss : List (List Nat)} (h : SlS w a xss) (hb : Below w.heap.size w w') : SlS w' a xss := fun i hi => by
  obtain ⟨g, off, ai, ci, h1, h2, h3, h4, h5⟩ := h i hi
  exact ⟨g, off, ai, ci, h1, Nat.lt_of_lt_of_le h2 hb.size, (hb.cell h2).trans h3, h4.below hb, h5⟩
def lens (xss : List (List Nat)) (k : Nat) : Nat := (xss.take k).flatten.length
theorem getD_some {xss : List (List Nat)} {k : Nat} (hk : k < xss.length) : xss[k]? = some (xss.getD k []) := by
  rw [List.getD_eq_getElem?_getD, List.getElem?_eq_getElem hk]; rfl
theorem flat_succ {xss : List (List Nat)} {k : Nat} (hk : k < xss.length) : (xss.take (k + 1)).flatten = (xss.take k).flatten ++ xss.getD k [] := by
  rw [List.take_add_one, getD_some hk]
  simp
theorem lens_succ {xss : List (List Nat)} {k : Nat} (hk : k < xss.length) : lens xss (k + 1) = lens xss k + (xss.getD k []).length := by
  unfold lens
  rw [flat_succ hk, List.length_append]
theorem lens_le (xss : List (List Nat)) (k : Nat) : lens xss k ≤ xss.flatten.length := by
  unfold lens
  have := congrArg List.length (List.flatten_append (L₁ := xss.take k) (L₂ := xss.drop k))
  rw [List.take_append_drop, List.length_append] at this
  omega
theorem slS_of {w : World} {g t : Nat} {vs : List Value} {xss : List (List Nat)} (hb : Blk w g t vs.toArray) (h : ∀ i, i < xss.length → ∃ ai ci, vs[i]? = some (.slice ai (xss.getD i []).length ci) ∧ Sl w ai .u8 (xss.getD i []) ∧ (ai = none → ci = 0)) : SlS w (some ⟨g, 0, none⟩) xss := fun i hi => by
  obtain ⟨ai, ci, h1, h2, h3⟩ := h i hi
  exact ⟨g, 0, ai, ci, rfl, hb.lt, by rw [Nat.zero_add, hb.cell, List.getElem?_toArray, h1], h2, h3⟩
/-- A slice of these slices. -/
def SlV (w : World) (v : Value) (xss : List (List Nat)) : Prop := ∃ g c, v = .slice (some ⟨g, 0, none⟩) xss.length c ∧ SlS w (some ⟨g, 0, none⟩) xss
theorem SlV.below {w w' : World} {v : Value} {xss : List (List Nat)} (h : SlV w v xss) (hb : Below w.heap.size w w') : SlV w' v xss := let ⟨g, c, h1, h2⟩ := h; ⟨g, c, h1, h2.below hb⟩
set_option maxRecDepth 100000 in
set_option maxHeartbeats 8000000 in
theorem concat_c (a : Option Addr) (c : Nat) (xss : List (List Nat)) (hm : xss.length < 2 ^ 31) (hlen : xss.flatten.length < 2 ^ 31) (w : World) (hs : SlS w a xss) :
    Calls Tryz.prog 112 #[.slice a xss.length c] w fun e w' => ∃ v, e = .returned v ∧ Own w' w.heap.size 5 .u8 v xss.flatten ∧ Below w.heap.size w w' := by
  obtain ⟨m, HM⟩ : ∃ m, Hid (xss.length = m) := ⟨_, Lib.hid rfl⟩
  rw [HM.out] at hm ⊢
  go_enter Tryz.func112, Tryz.ntmps112
  go_wp2
  go_loop [3, 11] (fun s t => ∃ k : Nat, k ≤ m ∧ t = .int .i64 k ∧ s = .int .i64 (lens xss k : Nat)) (fun s t => m - (intOf t).toNat)
  case atStart => exact ⟨0, by omega, rfl, rfl⟩
  case round =>
    rename_i hrel
    obtain ⟨k, hk, rfl, rfl⟩ := hrel
    by_cases hlt : k < m
    · obtain ⟨g, off, ai, ci, rfl, hg, hc, -, -⟩ := hs k (by rw [HM.out]; exact hlt)
      have hls := lens_succ (xss := xss) (k := k) (by rw [HM.out]; exact hlt)
      have hle := lens_le xss (k + 1)
      have hd0 : decide ((k : Int) < (m : Int)) = true := by simp; omega
      have Hls := Lib.hid hls
      have hle1 : lens xss k + (xss.getD k []).length < 2 ^ 31 := by omega
      clear hls hle
      generalize lens xss k = s at *
      generalize (xss.getD k []).length = q at *
      go_wp2_with fail
      exact ⟨⟨k + 1, by omega, by go_num, by rw [Hls.out]; go_num⟩, by simp [intOf] <;> omega⟩
    · obtain rfl : k = m := by omega
      have hd0 : decide ((k : Int) < (k : Int)) = false := by simp
      have hle := lens_le xss k
      have hq : lens xss k < 2 ^ 31 := by omega
      clear hle
      go_wp2_with fail
      refine (grow_c (lens xss k) hq _).mono ?_
      rintro e w1 ⟨v, rfl, hown, hbel⟩
      have hs1 := hs.below hbel
      generalize lens xss k = q at *
      clear hq
      go_wp2_with fail
      go_loopw [6, 27] (fun v t wr => ∃ i : Nat, i ≤ k ∧ t = .int .i64 i ∧ Own wr w.heap.size 5 .u8 v ((xss.take i).flatten) ∧ Below w.heap.size w wr) (fun v t wr => k - (intOf t).toNat)
      case atStart => exact ⟨0, by omega, rfl, hown, hbel⟩
      case round =>
        clear hown hbel hs1
        obtain ⟨i, hi, rfl, hown, hbel⟩ := hrel
        by_cases hlt : i < k
        · have hs1 := hs.below hbel
          obtain ⟨g, off, ai, ci, rfl, hg, hc, hsl, hnil⟩ := hs1 i (by rw [HM.out]; exact hlt)
          have hfl := flat_succ (xss := xss) (k := i) (by rw [HM.out]; exact hlt)
          have hle := lens_le xss i
          have hle2 := lens_le xss (i + 1)
          have hls := lens_succ (xss := xss) (k := i) (by rw [HM.out]; exact hlt)
          have hln : (xss.take i).flatten.length + (xss.getD i []).length < 2 ^ 40 := by unfold lens at *; omega
          have Hfl := Lib.hid hfl
          have hd0 : decide ((i : Int) < (k : Int)) = true := by simp; omega
          have hB := hbel.size
          clear hfl hle hle2 hls hs hs1
          generalize (xss.take i).flatten = zs at *
          generalize xss.getD i [] = ys at *
          go_wp2_with (refine wpList_append_sl rfl rfl Tryz.underlying23 u8_cat rfl (by omega) rfl hown rfl rfl hnil hsl hln hB ?_; intro v' w' hown' hgr; (try simp only [Act.put, List.setIfInBounds_toArray, List.set_cons_zero, List.set_cons_succ, World.size_alloc, setRow_size, Nat.add_assoc, Nat.reduceAdd]))
          exact ⟨⟨i + 1, by omega, by go_num, by rw [Hfl.out]; exact hown', bGrown hbel hgr hB hown (Nat.le_refl _)⟩, by simp [intOf] <;> omega⟩
        · obtain rfl : i = k := by omega
          have he : xss.take i = xss := List.take_of_length_le (by rw [HM.out]; omega)
          rw [he] at hown
          have hd0 : decide ((i : Int) < (i : Int)) = false := by simp
          clear he
          go_wp2_with fail
          go_ret
          exact ⟨_, rfl, hown, hbel⟩
end Go.Proofs.YtaiffkajkbiidaaGreatDoor
