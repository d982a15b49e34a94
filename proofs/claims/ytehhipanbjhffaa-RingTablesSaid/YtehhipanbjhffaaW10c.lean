/- What the statements on the two fields share: a sum of elements, an element doubled, and that the little test says true. No condition but that bytes are below 256. -/
import Derived.Test.YtehhipanbjhffaaW10b
namespace Go.Proofs.Ytehhipanbjhffaa
set_option linter.unusedSimpArgs false
set_option linter.unusedVariables false
set_option linter.unusedSectionVars false
set_option linter.unusedVariables false
open Go.RowKit
open Gf (W2 up down upN downN mulS mul dot dotS R1 D1)
theorem Try.eg22 : Try.prog.eqGuardType Try.prog.depth 22 = false := by kernel_rfl
theorem eq16 (xs ys : List Nat) (hx : xs.length = 16) (hy : ys.length = 16) (W : World) : (binOp .eql 22 (.agg (ints .u8 xs)) (.agg (ints .u8 ys))).run Try.prog W = .ok (.bool (xs == ys)) W :=
  run_eql_ints (n := 16) Try.underlying22 Try.underlying5 Try.is5 Try.sz5 xs ys hx hy W
theorem same16 (xs ys : List Nat) (hx : xs.length = 16) (h : xs = ys) (W : World) : (binOp .eql 22 (.agg (ints .u8 xs)) (.agg (ints .u8 ys))).run Try.prog W = .ok (.bool true) W := by
  subst h; rw [eq16 xs xs hx hx]; simp
theorem diff16 (xs ys : List Nat) (hx : xs.length = 16) (h : xs = ys) (W : World) : (binOp .neq 22 (.agg (ints .u8 xs)) (.agg (ints .u8 ys))).run Try.prog W = .ok (.bool false) W := by
  subst h
  rw [run_neq_ints (n := 16) Try.underlying22 Try.underlying5 Try.is5 Try.sz5 xs xs hx hx W]
  simp
/-- Two rows of sixteen by exclusive or. -/
def xorL (xs ys : List Nat) : List Nat := (List.range 16).map fun i => xs.getD i 0 ^^^ ys.getD i 0
theorem xorL_len (xs ys : List Nat) : (xorL xs ys).length = 16 := by simp [xorL]
theorem xor8 {a b : Nat} (ha : a < 256) (hb : b < 256) : a ^^^ b < 256 := Nat.xor_lt_two_pow (n := 8) ha hb
theorem xorL_lt {xs ys : List Nat} (hx : ∀ x ∈ xs, x < 256) (hy : ∀ x ∈ ys, x < 256) : ∀ x ∈ xorL xs ys, x < 256 := fun x h => by
  obtain ⟨i, -, rfl⟩ := List.mem_map.1 h
  exact xor8 (getD_bound hx (by omega) i) (getD_bound hy (by omega) i)
def xorK (xs ys : List Nat) (k : Nat) : List Nat := (xorL xs ys).take k ++ xs.drop k
theorem xorK_len {xs ys : List Nat} {k : Nat} (hl : xs.length = 16) (hk : k ≤ 16) : (xorK xs ys k).length = 16 := by simp [xorK, xorL_len, hl]; omega
theorem xorL_getD (xs ys : List Nat) {i : Nat} (hi : i < 16) : (xorL xs ys).getD i 0 = xs.getD i 0 ^^^ ys.getD i 0 := by
  unfold xorL
  rw [List.getD_eq_getElem?_getD, List.getElem?_map, List.getElem?_range hi]; rfl
theorem take_snoc10 {xs : List Nat} {k v : Nat} (hk : k < xs.length) (hv : xs.getD k 0 = v) : xs.take (k + 1) = xs.take k ++ [v] := by
  rw [List.take_add_one, getD_lt hk, hv]; rfl
theorem xorK_get {xs ys : List Nat} {k : Nat} (hl : xs.length = 16) (hk : k < 16) : (xorK xs ys k).getD k 0 = xs.getD k 0 := by
  unfold xorK
  rw [List.getD_eq_getElem?_getD, List.getD_eq_getElem?_getD, List.getElem?_append_right (by simp [xorL_len]; omega), List.getElem?_drop, List.length_take, xorL_len, Nat.min_eq_left (by omega), Nat.sub_self, Nat.add_zero]
theorem xorK_set {xs ys : List Nat} {k : Nat} (hl : xs.length = 16) (hk : k < 16) : (xorK xs ys k).set k (xs.getD k 0 ^^^ ys.getD k 0) = xorK xs ys (k + 1) := by
  unfold xorK
  rw [List.set_append_right _ _ (by simp [xorL_len]; omega), List.length_take, xorL_len, Nat.min_eq_left (by omega), Nat.sub_self, List.drop_eq_getElem_cons (by omega), List.set_cons_zero, take_snoc10 (by rw [xorL_len]; exact hk) (xorL_getD xs ys hk), List.append_assoc]; rfl
theorem u8xor {a b : Nat} (ha : a < 256) (hb : b < 256) : bits BinOp.xor IntKind.u8 (a : Int) (b : Int) = ((a ^^^ b : Nat) : Int) := u8_xor_nat a b ha hb
set_option maxRecDepth 100000 in
set_option maxHeartbeats 4000000 in
theorem plus16_c (xs ys : List Nat) (hl : xs.length = 16) (hb : ∀ x ∈ xs, x < 256) (hl' : ys.length = 16) (hb' : ∀ x ∈ ys, x < 256) (w : World) :
    Calls Try.prog 17 #[.agg (ints .u8 xs), .agg (ints .u8 ys)] w fun e w' => e = .returned (.agg (ints .u8 (xorL xs ys))) ∧ Below w.heap.size w w' := by
  have B0 := ((Blk.new w 22 (ints .u8 xs)).alloc (.cells (ints .u8 ys) 22)).alloc (.cells (ints .u8 (zeros 16)) 22)
  have B1 := (Blk.new (w.alloc (.cells (ints .u8 xs) 22)) 22 (ints .u8 ys)).alloc (.cells (ints .u8 (zeros 16)) 22)
  have B2 := Blk.new ((w.alloc (.cells (ints .u8 xs) 22)).alloc (.cells (ints .u8 ys) 22)) 22 (ints .u8 (zeros 16))
  rw [World.size_alloc] at B1
  rw [World.size_alloc, World.size_alloc] at B2
  simp only [Nat.add_assoc, Nat.reduceAdd] at B2
  have hbel := (((Below.refl w.heap.size w).alloc (Nat.le_refl _) (.cells (ints .u8 xs) 22)).alloc (by simp) (.cells (ints .u8 ys) 22)).alloc (by simp; omega) (.cells (ints .u8 (zeros 16)) 22)
  go_enter Try.func17, Try.ntmps17
  go_wp2_with (refine wpList_alloc_ints rfl 22 rfl Try.z22 ?_; (try simp only [Act.put, List.setIfInBounds_toArray, List.set_cons_zero, List.set_cons_succ, World.size_alloc, setRow_size, Nat.add_assoc, Nat.reduceAdd]))
  generalize (((w.alloc (.cells (ints .u8 xs) 22)).alloc (.cells (ints .u8 ys) 22)).alloc (.cells (ints .u8 (zeros 16)) 22)) = w1 at *
  go_loopw [5] (fun t wr => ∃ k : Nat, k ≤ 16 ∧ t = .int .i64 k ∧ Blk wr w.heap.size 22 (ints .u8 (xorK xs ys k)) ∧ Blk wr (w.heap.size + 1) 22 (ints .u8 ys) ∧ Blk wr (w.heap.size + 2) 22 (ints .u8 (zeros 16)) ∧ Below w.heap.size w wr) (fun t wr => 16 - (intOf t).toNat)
  case atStart => exact ⟨0, by omega, rfl, by rw [show xorK xs ys 0 = xs from rfl]; exact B0, B1, B2, hbel⟩
  case round =>
    rename_i hrel
    obtain ⟨k, hk, rfl, C0, C1, C2, hbelr⟩ := hrel
    by_cases hlt : k < 16
    · have hkl := xorK_len (ys := ys) hl hk
      have c0 := C0.int (i := k) (by omega)
      have c1 := C1.int (i := k) (by omega)
      have z0 := C0.frozen k
      have hg := xorK_get (ys := ys) hl hlt
      rw [hg] at c0
      have vx := getD_bound hb (by omega) k
      have vy := getD_bound hb' (by omega) k
      have C0' := C0.intSet k (xs.getD k 0 ^^^ ys.getD k 0)
      rw [xorK_set hl hlt] at C0'
      have HC := Lib.hid C0'
      have hxor := u8xor vx vy
      have HX := Lib.hid hxor
      clear C0' hkl hg hxor
      generalize xs.getD k 0 = x at *
      generalize ys.getD k 0 = y at *
      go_wp2
      go_region
      all_goals
        rw [HX.out]
        go_wp2
        exact ⟨⟨k + 1, by omega, by go_num, HC.out.drew, (C1.far (by first | omega | (simp; done) | (simp; omega)) _).drew, (C2.far (by first | omega | (simp; done) | (simp; omega)) _).drew, (hbelr.setCell (by first | omega | (simp; done) | (simp; omega)) _).drew⟩, by simp [intOf] <;> omega⟩
    · obtain rfl : k = 16 := by omega
      have he : xorK xs ys 16 = xorL xs ys := by unfold xorK; rw [List.take_of_length_le (by rw [xorL_len]; omega), List.drop_of_length_le (by omega), List.append_nil]
      rw [he] at C0
      clear he
      have hxl := xorL_len xs ys
      go_wp2_with (first | (refine wpList_load_ints rfl 22 _ rfl w.heap.size rfl C0 Try.ar22 hxl ?_; (try simp only [Act.put, List.setIfInBounds_toArray, List.set_cons_zero, List.set_cons_succ, World.size_alloc, setRow_size, Nat.add_assoc, Nat.reduceAdd])) | (refine wpList_store_ints rfl 22 _ _ rfl (w.heap.size + 2) rfl rfl C2 (zeros_size _ _) Try.ar22 hxl ?_; (try simp only [Act.put, List.setIfInBounds_toArray, List.set_cons_zero, List.set_cons_succ, World.size_alloc, setRow_size, Nat.add_assoc, Nat.reduceAdd])))
      exact ret_ints rfl rfl (C2.row _) Try.ar22 hxl ⟨rfl, bSetRow hbelr (by omega) _⟩
/-- An element doubled, by the highest bit first. -/
def dblB (xs : List Nat) : List Nat := (List.range 16).map fun i => if i < 15 then (xs.getD i 0 * 2 % 256) ||| (xs.getD (i + 1) 0 / 128) else (xs.getD 15 0 * 2 % 256) ^^^ (xs.getD 0 0 / 128 * 135)
theorem dblB_len (xs : List Nat) : (dblB xs).length = 16 := by simp [dblB]
theorem dblB_getD (xs : List Nat) {i : Nat} (hi : i < 16) : (dblB xs).getD i 0 = if i < 15 then (xs.getD i 0 * 2 % 256) ||| (xs.getD (i + 1) 0 / 128) else (xs.getD 15 0 * 2 % 256) ^^^ (xs.getD 0 0 / 128 * 135) := by
  unfold dblB
  rw [List.getD_eq_getElem?_getD, List.getElem?_map, List.getElem?_range hi]; rfl
set_option maxRecDepth 100000 in
set_option maxHeartbeats 4000000 in
theorem double_c (xs : List Nat) (hl : xs.length = 16) (hb : ∀ x ∈ xs, x < 256) (w : World) :
    Calls Try.prog 19 #[.agg (ints .u8 xs)] w fun e w' => e = .returned (.agg (ints .u8 (dblB xs))) ∧ Below w.heap.size w w' := by
  have B0 := ((Blk.new w 22 (ints .u8 xs)).alloc (.cells (ints .u8 (zeros 16)) 22)).alloc (.cells (ints .u8 (zeros 16)) 22)
  have B1 := (Blk.new (w.alloc (.cells (ints .u8 xs) 22)) 22 (ints .u8 (zeros 16))).alloc (.cells (ints .u8 (zeros 16)) 22)
  have B2 := Blk.new ((w.alloc (.cells (ints .u8 xs) 22)).alloc (.cells (ints .u8 (zeros 16)) 22)) 22 (ints .u8 (zeros 16))
  rw [World.size_alloc] at B1
  rw [World.size_alloc, World.size_alloc] at B2
  simp only [Nat.add_assoc, Nat.reduceAdd] at B2
  have hbel := (((Below.refl w.heap.size w).alloc (Nat.le_refl _) (.cells (ints .u8 xs) 22)).alloc (by simp) (.cells (ints .u8 (zeros 16)) 22)).alloc (by simp; omega) (.cells (ints .u8 (zeros 16)) 22)
  have hdl := dblB_len xs
  go_enter Try.func19, Try.ntmps19
  go_wp2_with (refine wpList_alloc_ints rfl 22 rfl Try.z22 ?_; (try simp only [Act.put, List.setIfInBounds_toArray, List.set_cons_zero, List.set_cons_succ, World.size_alloc, setRow_size, Nat.add_assoc, Nat.reduceAdd]))
  generalize (((w.alloc (.cells (ints .u8 xs) 22)).alloc (.cells (ints .u8 (zeros 16)) 22)).alloc (.cells (ints .u8 (zeros 16)) 22)) = w1 at *
  go_loopw [5] (fun t wr => ∃ k : Nat, k ≤ 15 ∧ t = .int .i64 k ∧ Blk wr w.heap.size 22 (ints .u8 xs) ∧ Blk wr (w.heap.size + 1) 22 (ints .u8 (zeros 16)) ∧ Blk wr (w.heap.size + 2) 22 (ints .u8 ((dblB xs).take k ++ zeros (16 - k))) ∧ Below w.heap.size w wr) (fun t wr => 15 - (intOf t).toNat)
  case atStart => exact ⟨0, by omega, rfl, B0, B1, B2, hbel⟩
  case round =>
    rename_i hrel
    obtain ⟨k, hk, rfl, C0, C1, C2, hbelr⟩ := hrel
    have hkl : ((dblB xs).take k ++ zeros (16 - k)).length = 16 := by simp [zeros, hdl]; omega
    by_cases hlt : k < 15
    · have c0 := C0.int (i := k) (by omega)
      have c1 := C0.int (i := k + 1) (by omega)
      have c2 := C2.int (i := k) (by omega)
      have z2 := C2.frozen k
      have vx := getD_bound hb (by omega) k
      have vy := getD_bound hb (by omega) (k + 1)
      have hv := dblB_getD xs (i := k) (by omega)
      rw [if_pos hlt] at hv
      have C2' := C2.intSet k (xs.getD k 0 * 2 % 256 ||| xs.getD (k + 1) 0 / 128)
      rw [take_set hdl (by omega) hv] at C2'
      have HC := Lib.hid C2'
      have hor : bits BinOp.or IntKind.u8 (((xs.getD k 0 : Nat) : Int) * 2 % 256) (((xs.getD (k + 1) 0 : Nat) : Int) / 128) = ((xs.getD k 0 * 2 % 256 ||| xs.getD (k + 1) 0 / 128 : Nat) : Int) := by
        rw [show ((xs.getD k 0 : Nat) : Int) * 2 % 256 = ((xs.getD k 0 * 2 % 256 : Nat) : Int) by simp, show (((xs.getD (k + 1) 0 : Nat) : Int) / 128) = ((xs.getD (k + 1) 0 / 128 : Nat) : Int) by simp, u8_or_nat _ _ (by omega) (by omega)]
      have HX := Lib.hid hor
      clear C2' hv hor hkl
      generalize xs.getD k 0 = x at *
      generalize xs.getD (k + 1) 0 = y at *
      go_wp2
      go_region
      all_goals
        rw [HX.out]
        go_wp2
        exact ⟨⟨k + 1, by omega, by go_num, (C0.far (by first | omega | (simp; done) | (simp; omega)) _).drew, (C1.far (by first | omega | (simp; done) | (simp; omega)) _).drew, HC.out.drew, (hbelr.setCell (by first | omega | (simp; done) | (simp; omega)) _).drew⟩, by simp [intOf] <;> omega⟩
    · obtain rfl : k = 15 := by omega
      have c0 := C0.int (i := 15) (by omega)
      have c1 := C0.int (i := 0) (by omega)
      have c2 := C2.int (i := 15) (by omega)
      have z2 := C2.frozen 15
      have vx := getD_bound hb (by omega) 15
      have vy := getD_bound hb (by omega) 0
      have hv := dblB_getD xs (i := 15) (by omega)
      rw [if_neg (by omega)] at hv
      have C2' := C2.intSet 15 (xs.getD 15 0 * 2 % 256 ^^^ xs.getD 0 0 / 128 * 135)
      rw [take_set hdl (by omega) hv] at C2'
      have he : (dblB xs).take (15 + 1) ++ zeros (16 - (15 + 1)) = dblB xs := by rw [List.take_of_length_le (by omega)]; simp [zeros]
      rw [he] at C2'
      clear hv he hkl
      generalize xs.getD 15 0 = x at *
      generalize xs.getD 0 0 = y at *
      have hxor : bits BinOp.xor IntKind.u8 ((x : Int) * 2 % 256) ((y : Int) / 128 * 135) = ((x * 2 % 256 ^^^ y / 128 * 135 : Nat) : Int) := by
        rw [show (x : Int) * 2 % 256 = ((x * 2 % 256 : Nat) : Int) by simp, show (y : Int) / 128 * 135 = ((y / 128 * 135 : Nat) : Int) by simp, u8xor (by omega) (by omega)]
      rw [← hxor] at C2'
      have C1' := C1.far (p := ⟨w.heap.size + 2, 15, none⟩) (by first | omega | (simp; done) | (simp; omega)) (.int .u8 (bits BinOp.xor IntKind.u8 ((x : Int) * 2 % 256) ((y : Int) / 128 * 135)))
      have hbel2 := hbelr.setCell (p := ⟨w.heap.size + 2, 15, none⟩) (by first | omega | (simp; done) | (simp; omega)) (.int .u8 (bits BinOp.xor IntKind.u8 ((x : Int) * 2 % 256) ((y : Int) / 128 * 135)))
      clear hxor
      go_wp2_with (first | (refine wpList_load_ints rfl 22 _ rfl (w.heap.size + 2) rfl C2' Try.ar22 hdl ?_; (try simp only [Act.put, List.setIfInBounds_toArray, List.set_cons_zero, List.set_cons_succ, World.size_alloc, setRow_size, Nat.add_assoc, Nat.reduceAdd])) | (refine wpList_store_ints rfl 22 _ _ rfl (w.heap.size + 1) rfl rfl C1' (zeros_size _ _) Try.ar22 hdl ?_; (try simp only [Act.put, List.setIfInBounds_toArray, List.set_cons_zero, List.set_cons_succ, World.size_alloc, setRow_size, Nat.add_assoc, Nat.reduceAdd])))
      exact ret_ints rfl rfl (C1'.row _) Try.ar22 hdl ⟨rfl, bSetRow hbel2 (by omega) _⟩
def awA : List Nat := [1, 0, 0, 0, 0, 0, 0, 0, 0, 0, 0, 0, 0, 0, 0, 194]
def awB : List Nat := [7, 0, 0, 9, 0, 0, 0, 0, 0, 0, 0, 0, 0, 0, 0, 0]
def awC : List Nat := [128, 0, 0, 0, 0, 0, 0, 0, 0, 0, 0, 0, 0, 0, 0, 0]
def awD : List Nat := [0, 0, 0, 0, 0, 0, 0, 0, 0, 0, 0, 0, 0, 0, 0, 135]
theorem awA_c : ints .u8 awA = #[.int .u8 1, .int .u8 0, .int .u8 0, .int .u8 0, .int .u8 0, .int .u8 0, .int .u8 0, .int .u8 0, .int .u8 0, .int .u8 0, .int .u8 0, .int .u8 0, .int .u8 0, .int .u8 0, .int .u8 0, .int .u8 194] := by kernel_rfl
theorem awB_c : ints .u8 awB = #[.int .u8 7, .int .u8 0, .int .u8 0, .int .u8 9, .int .u8 0, .int .u8 0, .int .u8 0, .int .u8 0, .int .u8 0, .int .u8 0, .int .u8 0, .int .u8 0, .int .u8 0, .int .u8 0, .int .u8 0, .int .u8 0] := by kernel_rfl
theorem awC_c : ints .u8 awC = #[.int .u8 128, .int .u8 0, .int .u8 0, .int .u8 0, .int .u8 0, .int .u8 0, .int .u8 0, .int .u8 0, .int .u8 0, .int .u8 0, .int .u8 0, .int .u8 0, .int .u8 0, .int .u8 0, .int .u8 0, .int .u8 0] := by kernel_rfl
theorem awD_c : ints .u8 awD = #[.int .u8 0, .int .u8 0, .int .u8 0, .int .u8 0, .int .u8 0, .int .u8 0, .int .u8 0, .int .u8 0, .int .u8 0, .int .u8 0, .int .u8 0, .int .u8 0, .int .u8 0, .int .u8 0, .int .u8 0, .int .u8 135] := by kernel_rfl
theorem aw_dot : elem (dot R1 D1 (num awA) (num awB)) = awB := by
  unfold dot; rw [Gf.mul_fast]; kernel_rfl
theorem aw_dbl : dblB awC = awD := by kernel_rfl
set_option maxRecDepth 100000 in
set_option maxHeartbeats 2000000 in
theorem awake10_c (w : World) : Calls Try.prog 16 #[] w fun e w' => e = .returned (.bool true) ∧ Below w.heap.size w w' := by
  have h1 := dot10_c awA awB rfl (by decide) rfl (by decide) w
  have h2 := fun W => double_c awC rfl (by decide) W
  rw [aw_dot, awA_c] at h1
  rw [aw_dbl, awC_c] at h2
  have e1 := fun W => same16 awB awB rfl rfl W
  have e2 := fun W => same16 awD awD rfl rfl W
  rw [awB_c] at h1 e1
  rw [awD_c] at h2 e2
  have H1 := Lib.hid h1
  have H2 := Lib.hid h2
  have E1 := Lib.hid e1
  have E2 := Lib.hid e2
  clear h1 h2 e1 e2
  go_enter Try.func16, Try.ntmps16
  go_wp2_with (fail)
  refine (H1.out).mono ?_
  rintro e w1 ⟨rfl, hb1⟩
  have f1 := E1.out
  have f2 := E2.out
  go_wp2_with (fail)
  refine (H2.out _).mono ?_
  rintro e w2 ⟨rfl, hb2⟩
  go_wp2
  go_ret
  exact ⟨rfl, bCall (hb1.alloc hb1.size _) hb2 (by have := hb1.size; simp; omega)⟩
end Go.Proofs.Ytehhipanbjhffaa
