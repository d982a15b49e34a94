/- What the statements on NH share: arrays of 32 bytes held against each other, whether words are enough, and that the little test says true. No condition. -/
import Derived.Test.YtppideomehdhjaaW9c
namespace Go.Proofs.Ytppideomehdhjaa
set_option linter.unusedSimpArgs false
set_option linter.unusedVariables false
set_option linter.unusedSectionVars false
set_option linter.unusedVariables false
open Go.RowKit
theorem Try.eg25 : Try.prog.eqGuardType Try.prog.depth 25 = false := by kernel_rfl
theorem eq32 (xs ys : List Nat) (hx : xs.length = 32) (hy : ys.length = 32) (W : World) : (binOp .eql 25 (.agg (ints .u8 xs)) (.agg (ints .u8 ys))).run Try.prog W = .ok (.bool (xs == ys)) W :=
  run_eql_ints (n := 32) Try.underlying25 Try.underlying5 Try.is5 Try.sz5 xs ys hx hy W
theorem same32 (xs ys : List Nat) (hx : xs.length = 32) (h : xs = ys) (W : World) : (binOp .eql 25 (.agg (ints .u8 xs)) (.agg (ints .u8 ys))).run Try.prog W = .ok (.bool true) W := by
  subst h; rw [eq32 xs xs hx hx]; simp
def aw9 : List Nat := [1, 0, 0, 0, 2, 0, 0, 0, 3, 0, 0, 0, 4, 0, 0, 0]
theorem aw9_cells : ints .u8 aw9 = #[.int .u8 1, .int .u8 0, .int .u8 0, .int .u8 0, .int .u8 2, .int .u8 0, .int .u8 0, .int .u8 0, .int .u8 3, .int .u8 0, .int .u8 0, .int .u8 0, .int .u8 4, .int .u8 0, .int .u8 0, .int .u8 0] := by kernel_rfl
theorem aw9_out : nhOut (zeros 16) aw9 = [11, 0, 0, 0, 0, 0, 0, 0, 11, 0, 0, 0, 0, 0, 0, 0, 11, 0, 0, 0, 0, 0, 0, 0, 11, 0, 0, 0, 0, 0, 0, 0] := by kernel_rfl
theorem aw9_err : nhErr (zeros 16) aw9 = 0 := by kernel_rfl
set_option maxRecDepth 100000 in
set_option maxHeartbeats 1000000 in
theorem awake9_c (w : World) : Calls Try.prog 12 #[] w fun e w' => e = .returned (.bool true) ∧ Below w.heap.size w w' := by
  have hmk : ∀ W : World, (Instr.makeSlice 29 (.int .i64 16) (.int .i64 16)).run Try.prog W = .ok (.slice (some ⟨W.heap.size, 0, none⟩) 16 16) (W.alloc (.cells (ints .u32 (zeros 16)) 23)) := fun _ => by kernel_rfl
  have B1 := (Blk.new w 23 (ints .u32 (zeros 16))).alloc (.cells (ints .u8 aw9) 5)
  have B2 := Blk.new (w.alloc (.cells (ints .u32 (zeros 16)) 23)) 5 (ints .u8 aw9)
  have hbel := ((Below.refl w.heap.size w).alloc (Nat.le_refl _) (.cells (ints .u32 (zeros 16)) 23)).alloc (by simp) (.cells (ints .u8 aw9) 5)
  rw [World.size_alloc] at B2
  have hcall := hash_c (some ⟨w.heap.size, 0, none⟩) (some ⟨w.heap.size + 1, 0, none⟩) 16 16 (zeros 16) aw9 (by decide) (by decide) (by decide) (by decide) (by decide) (by unfold maxLen; omega) _ (Sl.blk B1) (Sl.blk B2)
  rw [aw9_out, aw9_err, aw9_cells] at hcall
  have Hcall := Lib.hid hcall
  clear hcall
  rw [aw9_cells] at hbel
  go_enter Try.func12, Try.ntmps12
  go_wp2_with (fail)
  refine (Hcall.out).mono ?_
  rintro e w1 ⟨rfl, hb1⟩
  have Z := Blk.new w1 25 (ints .u8 (zeros 32))
  have hbel1 := bSetRow ((bCall hbel hb1 hbel.size).alloc (Nat.le_trans hbel.size hb1.size) (.cells (ints .u8 (zeros 32)) 25)) (Nat.le_trans hbel.size hb1.size) (ints .u8 [11, 0, 0, 0, 0, 0, 0, 0, 11, 0, 0, 0, 0, 0, 0, 0, 11, 0, 0, 0, 0, 0, 0, 0, 11, 0, 0, 0, 0, 0, 0, 0])
  have Z1 := Z.row (ints .u8 [11, 0, 0, 0, 0, 0, 0, 0, 11, 0, 0, 0, 0, 0, 0, 0, 11, 0, 0, 0, 0, 0, 0, 0, 11, 0, 0, 0, 0, 0, 0, 0])
  have c0 := Z1.int (i := 0) (by simp)
  have c8 := Z1.int (i := 8) (by simp)
  have c16 := Z1.int (i := 16) (by simp)
  have c24 := Z1.int (i := 24) (by simp)
  have c1 := Z1.int (i := 1) (by simp)
  simp only [List.getD_cons_zero, List.getD_cons_succ] at c0 c8 c16 c24 c1
  go_wp2_with (first | (refine wpList_alloc_ints rfl 25 rfl Try.z25 ?_; (try simp only [Act.put, List.setIfInBounds_toArray, List.set_cons_zero, List.set_cons_succ, World.size_alloc, setRow_size, Nat.add_assoc, Nat.reduceAdd])) | (refine wpList_store_ints rfl 25 _ _ rfl w1.heap.size (k := .u8) rfl rfl Z (zeros_size _ _) Try.ar25 rfl ?_; (try simp only [Act.put, List.setIfInBounds_toArray, List.set_cons_zero, List.set_cons_succ, World.size_alloc, setRow_size, Nat.add_assoc, Nat.reduceAdd])))
  go_ret
  exact ⟨rfl, hbel1⟩
/-- Are there words enough? -/
def Enough (m n : Nat) : Prop := m ≤ 300 ∧ n ≤ 1024 ∧ n % 16 = 0 ∧ n / 4 + 12 ≤ m
end Go.Proofs.Ytppideomehdhjaa
