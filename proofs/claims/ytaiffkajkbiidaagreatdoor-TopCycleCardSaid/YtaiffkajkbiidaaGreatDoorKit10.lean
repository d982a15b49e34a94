/- A number's rest by 16, as an operation. No condition. -/
import Derived.Test.YtaiffkajkbiidaaGreatDoorKit9
namespace Go.Proofs.YtaiffkajkbiidaaGreatDoor
set_option linter.unusedSimpArgs false
set_option linter.unusedVariables false
set_option linter.unusedSectionVars false
set_option linter.unusedVariables false
open Go.RowKit
section
variable {P : Program} {o : Oper} {a : Act} {w : World}
theorem run_rem16 {T T' : TypeId} {x : Operand} {n : Nat} (ho : o.op = .binOp .rem T x (.const (.int .i64 16)) T') (hx : a.eval x = .int .i64 (n : Int)) (h : n % 16 = 0) :
    (execOp a.eval o).run P w = .ok (.value (.int .i64 0)) w := by
  have hm : (n : Int).tmod 16 = 0 := by
    rw [Int.tmod_eq_emod_of_nonneg (by omega)]; omega
  have hg : (eqGuard .rem T x (.const (.int .i64 16)) (.int .i64 (n : Int)) (.int .i64 16)).run P w = .ok () w := by simp [eqGuard, Sem.run_bind]
  have hw : IntKind.i64.wrap 0 = 0 := by decide
  unfold execOp
  have hc : a.eval (.const (.int .i64 16)) = .int .i64 16 := rfl
  simp only [ho, hx, hc, Sem.run_bind, Sem.run_pure, Result.andThen_ok, hg]
  simp [binOp, go_sem, hm, hw]
end
end Go.Proofs.YtaiffkajkbiidaaGreatDoor
