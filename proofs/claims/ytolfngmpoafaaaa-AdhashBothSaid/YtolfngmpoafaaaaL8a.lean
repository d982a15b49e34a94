/- The walks of PolyHashes and PolyClamped. No condition but that bytes are below 256. -/
import Derived.Test.YtolfngmpoafaaaaW8s
namespace Go.Proofs.Ytolfngmpoafaaaa
set_option linter.unusedSimpArgs false
set_option linter.unusedVariables false
set_option linter.unusedSectionVars false
set_option linter.unusedVariables false
open Go.RowKit
theorem parts8 (key b : List Nat) : dig 67108864 5 (le (restOf (polyA key b))) = numOf (polyA key b) := by
  rw [le_restOf (Nat.lt_trans (polyA_lt key b) pp_lt17)]
  unfold numOf
  rw [Nat.mod_eq_of_lt (polyA_lt key b)]
section
variable {P : Program} {ops : Array Oper} {rest : List Oper} {o : Oper} {a : Act} {w : World} {Q : Exit → Act → World → Prop}
theorem wpList_valG {v : Value} (hw : Region.wanted o (yielded ops a.tmps) = true) (hr : (execOp a.eval o).run P w = .ok (.value v) w) (h : wpList P ops Q rest (a.put o.dst v) w) : wpList P ops Q (o :: rest) a w :=
  wpList_step fun K hK => by
    rw [if_pos hw]
    unfold Oper.wp
    rw [hr]
    exact hK _ _ h
theorem run_neqOp {b : Bool} {x y : Operand} {T T' : TypeId} {xs ys : Array Value} (ho : o.op = .binOp .neq T x y T') (hx : a.eval x = .agg xs) (hy : a.eval y = .agg ys) (hm : P.eqGuardType P.depth T = false)
    (hr : ∀ W, (binOp .neq T (.agg xs) (.agg ys)).run P W = .ok (.bool b) W) : (execOp a.eval o).run P w = .ok (.value (.bool b)) w := by
  unfold execOp
  simp only [ho, hx, hy, Sem.run_bind, Sem.run_pure, Result.andThen_ok, run_eqGuard_agg w .neq T x y xs ys hm, hr]
end
end Go.Proofs.Ytolfngmpoafaaaa
