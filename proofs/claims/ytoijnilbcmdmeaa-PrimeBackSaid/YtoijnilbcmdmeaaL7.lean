/- Arrays of five parts held against each other, and that the little test of the statements on numbers modulo 2^130 - 5 says true. No condition. -/
import Derived.Test.YtoijnilbcmdmeaaW7b
namespace Go.Proofs.Ytoijnilbcmdmeaa
set_option linter.unusedSimpArgs false
set_option linter.unusedVariables false
set_option linter.unusedSectionVars false
set_option linter.unusedVariables false
open Go.RowKit
theorem Try.eg28 : Try.prog.eqGuardType Try.prog.depth 28 = false := by kernel_rfl
theorem numEq (xs ys : List Nat) (hx : xs.length = 5) (hy : ys.length = 5) (W : World) : (binOp .eql 28 (.agg (ints .u32 xs)) (.agg (ints .u32 ys))).run Try.prog W = .ok (.bool (xs == ys)) W :=
  run_eql_ints (n := 5) Try.underlying28 Try.underlying22 Try.is22 Try.sz22 xs ys hx hy W
theorem numSame (xs ys : List Nat) (hx : xs.length = 5) (h : xs = ys) (W : World) : (binOp .eql 28 (.agg (ints .u32 xs)) (.agg (ints .u32 ys))).run Try.prog W = .ok (.bool true) W := by
  subst h; rw [numEq xs xs hx hx]; simp
theorem aw_num : numOf (val [0, 0, 0, 0, 67108864]) = [5, 0, 0, 0, 0] := by kernel_rfl
theorem aw_a : ints .u32 [0, 0, 0, 0, 67108864] = #[.int .u32 0, .int .u32 0, .int .u32 0, .int .u32 0, .int .u32 67108864] := by simp [ints]
theorem aw_b : ints .u32 [5, 0, 0, 0, 0] = #[.int .u32 5, .int .u32 0, .int .u32 0, .int .u32 0, .int .u32 0] := by simp [ints]
theorem aw_form (W : World) : Calls Try.prog 35 #[.agg #[.int .u32 0, .int .u32 0, .int .u32 0, .int .u32 0, .int .u32 67108864]] W fun e w' => e = .returned (.agg #[.int .u32 5, .int .u32 0, .int .u32 0, .int .u32 0, .int .u32 0]) ∧ Below W.heap.size W w' := by
  have h := form_c [0, 0, 0, 0, 67108864] rfl (by simp) W
  rw [aw_num, aw_a, aw_b] at h
  exact h
theorem aw_eq (W : World) : (binOp .eql 28 (.agg #[.int .u32 5, .int .u32 0, .int .u32 0, .int .u32 0, .int .u32 0]) (.agg #[.int .u32 5, .int .u32 0, .int .u32 0, .int .u32 0, .int .u32 0])).run Try.prog W = .ok (.bool true) W := by
  have h := numSame [5, 0, 0, 0, 0] _ rfl rfl W
  rw [aw_b] at h
  exact h
set_option maxRecDepth 100000 in
set_option maxHeartbeats 1000000 in
theorem awake7_c (w : World) : Calls Try.prog 34 #[] w fun e w' => e = .returned (.bool true) ∧ Below w.heap.size w w' := by
  have heq := aw_eq
  go_enter Try.func34, Try.ntmps34
  go_wp2_with (fail)
  refine (aw_form _).mono ?_
  rintro e w1 ⟨rfl, hb1⟩
  go_wp2
  go_ret
  exact ⟨rfl, hb1⟩
end Go.Proofs.Ytoijnilbcmdmeaa
