/- AEZ-tiny: counted, Rounds. No condition but that numbers are small. -/
import Derived.Test.YtaiffkajkbiidaaGreatDoorW15c
import Derived.Test.YtaiffkajkbiidaaGreatDoorW14b
namespace Go.Proofs.YtaiffkajkbiidaaGreatDoor
set_option linter.unusedSimpArgs false
set_option linter.unusedVariables false
set_option linter.unusedSectionVars false
set_option linter.unusedVariables false
open Go.RowKit
/-- A number as a block, its highest byte first. -/
def cntK (n : Nat) : Nat → List Nat
  | 0 => zeros 16
  | k + 1 => (cntK n k).set (15 - k) ((dig 256 8 n).getD k 0)
def cntN (n : Nat) : List Nat := cntK n 8
theorem cntK_len (n : Nat) : ∀ k, (cntK n k).length = 16
  | 0 => zeros_len _
  | k + 1 => by unfold cntK; rw [List.length_set, cntK_len]
theorem cntK_lt (n : Nat) : ∀ k, ∀ x ∈ cntK n k, x < 256
  | 0 => zeros_b 16
  | k + 1 => by unfold cntK; exact set_lt (cntK_lt n k) (getD_bound (dig_lt (by omega) _ _) (by decide) k)
set_option maxRecDepth 100000 in
set_option maxHeartbeats 8000000 in
theorem counted_c (n : Nat) (hn : n < 2 ^ 31) (w : World) :
    Calls Tryz.prog 188 #[.int .i64 (n : Int)] w fun e w' => e = .returned (.agg (ints .u8 (cntN n))) ∧ Below w.heap.size w w' := by
  have A0 := (Blk.new w 96 (ints .u8 (zeros 16))).alloc (.cells (ints .u8 (zeros 16)) 96)
  have A1 := Blk.new (w.alloc (.cells (ints .u8 (zeros 16)) 96)) 96 (ints .u8 (zeros 16))
  rw [World.size_alloc] at A1
  have hbel0 := ((Below.refl w.heap.size w).alloc (Nat.le_refl _) (.cells (ints .u8 (zeros 16)) 96)).alloc (by simp) (.cells (ints .u8 (zeros 16)) 96)
  have hwn : IntKind.u64.wrap (n : Int) = (n : Int) := by rw [IntKind.wrap_u64]; omega
  go_enter Tryz.func188, Tryz.ntmps188
  go_wp2_with (first | (refine wpList_alloc_ints rfl 96 rfl Tryz.z96 ?_; (try simp only [Act.put, List.setIfInBounds_toArray, List.set_cons_zero, List.set_cons_succ, World.size_alloc, setRow_size, Nat.add_assoc, Nat.reduceAdd])))
  generalize ((w.alloc (.cells (ints .u8 (zeros 16)) 96)).alloc (.cells (ints .u8 (zeros 16)) 96)) = w0 at *
  refine (putLong_c n (by omega) _).mono ?_
  rintro e w1 ⟨rfl, hb1⟩
  have B0 := A0.below' hb1
  have B1 := A1.below' hb1
  have hbel1 := bCall hbel0 hb1 hbel0.size
  clear A0 A1 hbel0 hb1
  go_wp2_with fail
  go_loopw [9] (fun t wr => ∃ k : Nat, k ≤ 8 ∧ t = .int .i64 (k : Int) ∧ Blk wr w.heap.size 96 (ints .u8 (zeros 16)) ∧ Blk wr (w.heap.size + 1) 96 (ints .u8 (cntK n k)) ∧ Below w.heap.size w wr) (fun t wr => 8 - (intOf t).toNat)
  case atStart => exact ⟨0, by omega, rfl, B0, B1, hbel1⟩
  case round =>
    clear B0 B1 hbel1
    obtain ⟨k, hk, rfl, B0, B1, hbel1⟩ := hrel
    by_cases hlt : k < 8
    · have hd : decide ((k : Int) < 8) = true := by simp; omega
      obtain ⟨j, Hj⟩ : ∃ j, Hid (15 - k = j) := ⟨_, Lib.hid rfl⟩
      have hji : (15 : Int) - (k : Int) = (j : Int) := by rw [← Hj.out]; omega
      have hj : j < 16 := by rw [← Hj.out]; omega
      have hj1 : (j : Int) < 16 := by omega
      have hix := run_index_ints Tryz.underlying107 Tryz.underlying5 Tryz.s15 (dig_length 256 8 n) hlt
      have c1 := B1.int (i := j) (by rw [cntK_len]; exact hj)
      have z1 := B1.frozen j
      have HK : Hid (cntK n (k + 1) = (cntK n k).set j ((dig 256 8 n).getD k 0)) := Lib.hid (by rw [← Hj.out]; rfl)
      generalize (dig 256 8 n).getD k 0 = v at *
      have B2 := B1.intSet j v
      have hbel2 := hbel1.setCell (p := ⟨w.heap.size + 1, j, none⟩) (show w.heap.size ≤ w.heap.size + 1 by omega) (.int .u8 (v : Int))
      have B3 := B0.far (p := ⟨w.heap.size + 1, j, none⟩) (show w.heap.size ≠ w.heap.size + 1 by omega) (.int .u8 (v : Int))
      have H2 := Lib.hid B2
      clear B0 B1 hbel1 B2
      go_wp2_with fail
      exact ⟨⟨k + 1, by omega, by go_num, B3, by rw [HK.out]; exact H2.out, hbel2⟩, by simp [intOf] <;> omega⟩
    · obtain rfl : k = 8 := by omega
      have hd : decide (((8 : Nat) : Int) < 8) = false := by simp
      go_wp2_with (first | (refine wpList_load_ints rfl 96 _ rfl _ rfl B1 Tryz.ar96 (cntK_len _ _) ?_; (try simp only [Act.put, List.setIfInBounds_toArray, List.set_cons_zero, List.set_cons_succ, World.size_alloc, setRow_size, Nat.add_assoc, Nat.reduceAdd])) | (refine wpList_store_ints rfl 96 _ _ rfl _ rfl rfl B0 (zeros_size _ _) Tryz.ar96 (cntK_len _ _) ?_; (try simp only [Act.put, List.setIfInBounds_toArray, List.set_cons_zero, List.set_cons_succ, World.size_alloc, setRow_size, Nat.add_assoc, Nat.reduceAdd])))
      refine ret_ints rfl rfl (B0.row _) Tryz.ar96 (cntK_len _ _) ⟨rfl, ?_⟩
      exact bSetRow hbel1 (Nat.le_refl _) _
set_option maxHeartbeats 4000000 in
theorem tinyRounds_c (w : World) : Calls Tryz.prog 171 #[.int .i64 1] w fun e w' => e = .returned (.int .i64 24) ∧ w = w' := by
  go_enter Tryz.func171, Tryz.ntmps171
  go_wp2
  go_ret
  exact ⟨rfl, rfl⟩
end Go.Proofs.YtaiffkajkbiidaaGreatDoor
