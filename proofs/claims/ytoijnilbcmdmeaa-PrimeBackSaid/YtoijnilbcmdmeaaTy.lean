/- Closed facts on the program's types: how many cells an array has, what its zero value is. No condition. -/
import Derived.Test.YtoijnilbcmdmeaaRows
import Derived.Test.YtoijnilbcmdmeaaKit
namespace Go.Proofs.Ytoijnilbcmdmeaa
set_option linter.unusedSimpArgs false
set_option linter.unusedVariables false
set_option linter.unusedSectionVars false
set_option linter.unusedVariables false
theorem Try.s147 : (Try.prog.info? 47).map (·.size) = some 1 := by kernel_rfl
theorem Try.s122 : (Try.prog.info? 22).map (·.size) = some 1 := by kernel_rfl
theorem Try.s15 : (Try.prog.info? 5).map (·.size) = some 1 := by kernel_rfl
theorem Try.sz47 : Try.prog.cellsOf 47 = 1 := by kernel_rfl
theorem Try.is47 : (Try.prog.info? 47).isSome = true := by kernel_rfl
theorem Try.sz22 : Try.prog.cellsOf 22 = 1 := by kernel_rfl
theorem Try.is22 : (Try.prog.info? 22).isSome = true := by kernel_rfl
theorem Try.sz5 : Try.prog.cellsOf 5 = 1 := by kernel_rfl
theorem Try.is5 : (Try.prog.info? 5).isSome = true := by kernel_rfl
theorem Try.ar105 : IsArr Try.prog 105 5 := isArr Try.underlying105 (by kernel_rfl)
theorem Try.z105 : IsZero Try.prog 105 5 .u64 := isZero (by kernel_rfl)
theorem Try.ar28 : IsArr Try.prog 28 5 := isArr Try.underlying28 (by kernel_rfl)
theorem Try.z28 : IsZero Try.prog 28 5 .u32 := isZero (by kernel_rfl)
theorem Try.ar23 : IsArr Try.prog 23 5 := isArr Try.underlying23 (by kernel_rfl)
theorem Try.z23 : IsZero Try.prog 23 5 .u32 := isZero (by kernel_rfl)
theorem Try.ar109 : IsArr Try.prog 109 4 := isArr Try.underlying109 (by kernel_rfl)
theorem Try.z109 : IsZero Try.prog 109 4 .u32 := isZero (by kernel_rfl)
theorem Try.ar107 : IsArr Try.prog 107 4 := isArr Try.underlying107 (by kernel_rfl)
theorem Try.z107 : IsZero Try.prog 107 4 .u64 := isZero (by kernel_rfl)
theorem Try.ar111 : IsArr Try.prog 111 8 := isArr Try.underlying111 (by kernel_rfl)
theorem Try.z111 : IsZero Try.prog 111 8 .u8 := isZero (by kernel_rfl)
theorem Try.ar50 : IsArr Try.prog 50 16 := isArr Try.underlying50 (by kernel_rfl)
theorem Try.z50 : IsZero Try.prog 50 16 .u8 := isZero (by kernel_rfl)
theorem Try.ar38 : IsArr Try.prog 38 32 := isArr Try.underlying38 (by kernel_rfl)
theorem Try.z38 : IsZero Try.prog 38 32 .u8 := isZero (by kernel_rfl)
theorem Try.ar25 : IsArr Try.prog 25 17 := isArr Try.underlying25 (by kernel_rfl)
theorem Try.z25 : IsZero Try.prog 25 17 .u8 := isZero (by kernel_rfl)
end Go.Proofs.Ytoijnilbcmdmeaa
