/- Two small walks: no table's Dot; an element doubled less than no times. No condition but that the number is below 0. -/
import Derived.Test.YtehhipanbjhffaaW10k
namespace Go.Proofs.Ytehhipanbjhffaa
set_option linter.unusedSimpArgs false
set_option linter.unusedVariables false
set_option linter.unusedSectionVars false
set_option linter.unusedVariables false
open Go.RowKit
set_option maxRecDepth 100000 in
set_option maxHeartbeats 2000000 in
theorem dotNil_c (xs : List Nat) (hl : xs.length = 16) (w : World) :
    Calls Try.prog 21 #[.pointer none, .agg (ints .u8 xs)] w fun e w' => e = .returned (.agg (ints .u8 (zeros 16))) ∧ Below w.heap.size w w' := by
  have B1 := Blk.new (w.alloc (.cells (ints .u8 xs) 22)) 22 (ints .u8 (zeros 16))
  rw [World.size_alloc] at B1
  have hbel := bSetRow (((Below.refl w.heap.size w).alloc (Nat.le_refl _) (.cells (ints .u8 xs) 22)).alloc (by simp) (.cells (ints .u8 (zeros 16)) 22)) (show w.heap.size ≤ w.heap.size + 1 by omega) (ints .u8 (zeros 16))
  have HZ := Lib.hid (show Value.agg #[.int .u8 0, .int .u8 0, .int .u8 0, .int .u8 0, .int .u8 0, .int .u8 0, .int .u8 0, .int .u8 0, .int .u8 0, .int .u8 0, .int .u8 0, .int .u8 0, .int .u8 0, .int .u8 0, .int .u8 0, .int .u8 0] = .agg (ints .u8 (zeros 16)) from rfl)
  go_enter Try.func21, Try.ntmps21
  go_wp2_with (first | (refine wpList_alloc_ints rfl 22 rfl Try.z22 ?_; (try simp only [Act.put, List.setIfInBounds_toArray, List.set_cons_zero, List.set_cons_succ, World.size_alloc, setRow_size, Nat.add_assoc, Nat.reduceAdd])) | (refine wpList_store_ints rfl 22 _ _ rfl (w.heap.size + 1) (k := .u8) (xs := zeros 16) rfl HZ.out B1 (zeros_size _ _) Try.ar22 (zeros_len _) ?_; (try simp only [Act.put, List.setIfInBounds_toArray, List.set_cons_zero, List.set_cons_succ, World.size_alloc, setRow_size, Nat.add_assoc, Nat.reduceAdd])))
  exact ret_ints rfl rfl (B1.row _) Try.ar22 (zeros_len _) ⟨rfl, hbel⟩
set_option maxRecDepth 100000 in
set_option maxHeartbeats 2000000 in
theorem raisedNeg_c (n : Int) (hn : n < 0) (hn2 : -9223372036854775808 ≤ n) (xs : List Nat) (hl : xs.length = 16) (w : World) :
    Calls Try.prog 22 #[.int .i64 n, .agg (ints .u8 xs)] w fun e w' => e = .returned (.agg (ints .u8 (zeros 16))) ∧ Below w.heap.size w w' := by
  have B1 := Blk.new (w.alloc (.cells (ints .u8 xs) 22)) 22 (ints .u8 (zeros 16))
  rw [World.size_alloc] at B1
  have hbel := bSetRow (((Below.refl w.heap.size w).alloc (Nat.le_refl _) (.cells (ints .u8 xs) 22)).alloc (by simp) (.cells (ints .u8 (zeros 16)) 22)) (show w.heap.size ≤ w.heap.size + 1 by omega) (ints .u8 (zeros 16))
  have HZ := Lib.hid (show Value.agg #[.int .u8 0, .int .u8 0, .int .u8 0, .int .u8 0, .int .u8 0, .int .u8 0, .int .u8 0, .int .u8 0, .int .u8 0, .int .u8 0, .int .u8 0, .int .u8 0, .int .u8 0, .int .u8 0, .int .u8 0, .int .u8 0] = .agg (ints .u8 (zeros 16)) from rfl)
  go_enter Try.func22, Try.ntmps22
  go_wp2_with (first | (refine wpList_alloc_ints rfl 22 rfl Try.z22 ?_; (try simp only [Act.put, List.setIfInBounds_toArray, List.set_cons_zero, List.set_cons_succ, World.size_alloc, setRow_size, Nat.add_assoc, Nat.reduceAdd])))
  go_step3
  go_wp2_with (first | (refine wpList_store_ints rfl 22 _ _ rfl (w.heap.size + 1) (k := .u8) (xs := zeros 16) rfl HZ.out B1 (zeros_size _ _) Try.ar22 (zeros_len _) ?_; (try simp only [Act.put, List.setIfInBounds_toArray, List.set_cons_zero, List.set_cons_succ, World.size_alloc, setRow_size, Nat.add_assoc, Nat.reduceAdd])))
  rw [Exit.noGoto_ret]; exact ret_ints rfl rfl (B1.row _) Try.ar22 (zeros_len _) ⟨rfl, hbel⟩
end Go.Proofs.Ytehhipanbjhffaa
