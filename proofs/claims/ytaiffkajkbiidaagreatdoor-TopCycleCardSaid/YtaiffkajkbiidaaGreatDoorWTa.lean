/- The top's small functions: may a key of AEZ be, tables, awake. No condition but that bytes are below 256. -/
import Derived.Test.YtaiffkajkbiidaaGreatDoorW21a
namespace Go.Proofs.YtaiffkajkbiidaaGreatDoor
set_option linter.unusedSimpArgs false
set_option linter.unusedVariables false
set_option linter.unusedSectionVars false
set_option linter.unusedVariables false
open Go.RowKit
theorem bx0 : (bxS 255).getD 0 0 = 99 := by decide +kernel
theorem bx1 : (bxS 255).getD 1 0 = 124 := by decide +kernel
set_option maxHeartbeats 4000000 in
theorem right15_c (n c : Nat) (a : Option Addr) (w : World) : Calls Tryz.prog 18 #[.slice a n c] w fun e w' => e = .returned (.bool (decide (0 < n ∧ n ≤ 128))) ∧ w = w' := by
  obtain ⟨R, HR⟩ : ∃ R, Hid (decide (0 < n ∧ n ≤ 128) = R) := ⟨_, Lib.hid rfl⟩
  rw [HR.out]
  go_enter Tryz.func18, Tryz.ntmps18
  by_cases h0 : n = 0
  · subst h0
    obtain rfl : R = false := by rw [← HR.out]; rfl
    go_wp2
    go_ret
    exact ⟨rfl, rfl⟩
  · by_cases h1 : n ≤ 128
    · have e0 : decide ((n : Int) > 0) = true := by simp; omega
      have e1 : decide ((n : Int) ≤ 128) = true := by simp; omega
      obtain rfl : R = true := by rw [← HR.out, decide_eq_true (show 0 < n ∧ n ≤ 128 by omega)]
      go_wp2
      go_ret
      exact ⟨rfl, rfl⟩
    · have e0 : decide ((n : Int) > 0) = true := by simp; omega
      have e1 : decide ((n : Int) ≤ 128) = false := by simp; omega
      obtain rfl : R = false := by rw [← HR.out, decide_eq_false (show ¬ (0 < n ∧ n ≤ 128) by omega)]
      go_wp2
      go_ret
      exact ⟨rfl, rfl⟩
set_option maxRecDepth 100000 in
set_option maxHeartbeats 4000000 in
theorem wrong3_c (n c : Nat) (a : Option Addr) (w : World) : Calls Tryz.prog 12 #[.int .i64 3, .slice a n c] w fun e w' => e = .returned (.int .i64 (if 0 < n ∧ n ≤ 128 then 0 else 2)) ∧ w = w' := by
  have hr := right15_c n c a w
  go_enter Tryz.func12, Tryz.ntmps12
  by_cases h : 0 < n ∧ n ≤ 128
  · rw [decide_eq_true h] at hr
    rw [if_pos h]
    go_wp2_with fail
    refine hr.mono ?_
    rintro e w1 ⟨rfl, rfl⟩
    go_wp2
    go_ret
    exact ⟨rfl, rfl⟩
  · rw [decide_eq_false h] at hr
    rw [if_neg h]
    go_wp2_with fail
    refine hr.mono ?_
    rintro e w1 ⟨rfl, rfl⟩
    go_wp2
    go_ret
    exact ⟨rfl, rfl⟩
set_option maxRecDepth 100000 in
set_option maxHeartbeats 4000000 in
theorem may3_c (n c : Nat) (a : Option Addr) (w : World) : Calls Tryz.prog 6 #[.agg #[.int .i64 3, .slice a n c]] w fun e w' => e = .returned (.bool (decide (0 < n ∧ n ≤ 128))) ∧ Below w.heap.size w w' := by
  have hb1 := (Below.refl w.heap.size w).alloc (Nat.le_refl _) (.cells #[.int .i64 3, .slice a n c] 25)
  have hr := wrong3_c n c a (w.alloc (.cells #[.int .i64 3, .slice a n c] 25))
  obtain ⟨R, HR⟩ : ∃ R, Hid (decide (0 < n ∧ n ≤ 128) = R) := ⟨_, Lib.hid rfl⟩
  rw [HR.out]
  go_enter Tryz.func6, Tryz.ntmps6
  by_cases h2 : n ≤ 200
  · have e0 : decide ((n : Int) ≤ 200) = true := by simp; omega
    by_cases h : 0 < n ∧ n ≤ 128
    · rw [if_pos h] at hr
      obtain rfl : R = true := by rw [← HR.out, decide_eq_true h]
      clear h
      go_wp2_with fail
      refine hr.mono ?_
      rintro e w1 ⟨rfl, rfl⟩
      go_wp2
      go_ret
      exact ⟨rfl, hb1⟩
    · rw [if_neg h] at hr
      obtain rfl : R = false := by rw [← HR.out, decide_eq_false h]
      clear h
      go_wp2_with fail
      refine hr.mono ?_
      rintro e w1 ⟨rfl, rfl⟩
      go_wp2
      go_ret
      exact ⟨rfl, hb1⟩
  · have e0 : decide ((n : Int) ≤ 200) = false := by simp; omega
    obtain rfl : R = false := by rw [← HR.out, decide_eq_false (show ¬ (0 < n ∧ n ≤ 128) by omega)]
    go_wp2
    go_ret
    exact ⟨rfl, hb1⟩
theorem tables_c (w : World) (hG : Gl w) : Calls Tryz.prog 13 #[] w fun e w' => ∃ gt gb, e = .returned (.pointer (some ⟨gt, 0, none⟩)) ∧ w.heap.size ≤ gt ∧ IsTab w' gt gb ∧ Below w.heap.size w w' := by
  go_enter Tryz.func13, Tryz.ntmps13
  go_wp2_with fail
  refine (gfMake_c w).mono ?_
  rintro e w1 ⟨gb, rfl, hg, B, hb1⟩
  go_wp2_with fail
  refine (turnNew_c gb (bxS 255) (bxS_len _) (bxS_lt _) w1 B (hG.below hb1)).mono ?_
  rintro e w2 ⟨gt, rfl, hg2, T, hb2⟩
  have hbel := bCall hb1 hb2 hb1.size
  have B2 := B.below' hb2
  go_wp2_with fail
  go_ret
  exact ⟨_, gb, rfl, Nat.le_trans hb1.size hg2, ⟨T, B2⟩, hbel⟩
set_option maxRecDepth 100000 in
set_option maxHeartbeats 4000000 in
theorem topAwake_c (w : World) (hG : Gl w) : Calls Tryz.prog 8 #[] w fun e w' => e = .returned (.bool true) ∧ Below w.heap.size w w' := by
  go_enter Tryz.func8, Tryz.ntmps8
  go_wp2_with fail
  refine (tables_c w hG).mono ?_
  rintro e w1 ⟨gt, gb, rfl, hg, T, hb1⟩
  have h0 := turnBox_c gt gb 0 (bxS 255) (by decide) (bxS_len _) w1 T.1 T.2
  have h1 := turnBox_c gt gb 1 (bxS 255) (by decide) (bxS_len _) w1 T.1 T.2
  rw [bx0] at h0
  rw [bx1] at h1
  clear T
  go_wp2_with fail
  refine h0.mono ?_
  rintro e w2 ⟨rfl, rfl⟩
  go_wp2_with fail
  refine h1.mono ?_
  rintro e w2 ⟨rfl, rfl⟩
  go_wp2_with fail
  go_ret
  exact ⟨rfl, hb1⟩
end Go.Proofs.YtaiffkajkbiidaaGreatDoor
