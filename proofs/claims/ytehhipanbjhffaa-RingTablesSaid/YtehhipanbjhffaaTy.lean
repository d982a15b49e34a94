/- Closed facts on the program's types: how many cells an array has, what its zero value is. No condition. -/
import Derived.Test.YtehhipanbjhffaaRows
import Derived.Test.YtehhipanbjhffaaKit
namespace Go.Proofs.Ytehhipanbjhffaa
set_option linter.unusedSimpArgs false
set_option linter.unusedVariables false
set_option linter.unusedSectionVars false
set_option linter.unusedVariables false
theorem Try.s127 : (Try.prog.info? 27).map (·.size) = some 1 := by kernel_rfl
theorem Try.s172 : (Try.prog.info? 72).map (·.size) = some 1 := by kernel_rfl
theorem Try.s15 : (Try.prog.info? 5).map (·.size) = some 1 := by kernel_rfl
theorem Try.sz27 : Try.prog.cellsOf 27 = 1 := by kernel_rfl
theorem Try.is27 : (Try.prog.info? 27).isSome = true := by kernel_rfl
theorem Try.sz72 : Try.prog.cellsOf 72 = 1 := by kernel_rfl
theorem Try.is72 : (Try.prog.info? 72).isSome = true := by kernel_rfl
theorem Try.sz5 : Try.prog.cellsOf 5 = 1 := by kernel_rfl
theorem Try.is5 : (Try.prog.info? 5).isSome = true := by kernel_rfl
theorem Try.ar58 : IsArr Try.prog 58 8 := isArr Try.underlying58 (by kernel_rfl)
theorem Try.z58 : IsZero Try.prog 58 8 .u8 := isZero (by kernel_rfl)
theorem Try.ar22 : IsArr Try.prog 22 16 := isArr Try.underlying22 (by kernel_rfl)
theorem Try.z22 : IsZero Try.prog 22 16 .u8 := isZero (by kernel_rfl)
end Go.Proofs.Ytehhipanbjhffaa
