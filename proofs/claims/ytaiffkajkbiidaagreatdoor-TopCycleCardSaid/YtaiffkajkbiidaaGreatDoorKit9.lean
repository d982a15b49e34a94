/- Strings of rows of bytes and their comparison, as operations. No condition. -/
import Derived.Test.YtaiffkajkbiidaaGreatDoorKA
namespace Go.Proofs.YtaiffkajkbiidaaGreatDoor
set_option linter.unusedSimpArgs false
set_option linter.unusedVariables false
set_option linter.unusedSectionVars false
set_option linter.unusedVariables false
open Go.RowKit
section
variable {P : Program} {o : Oper} {a : Act} {w : World}
theorem run_convOwn {S T e e' B : Nat} {x : Operand} {v : Value} {xs : List Nat} (hS : P.underlying S = some (.slice e)) (he : P.underlying e = some (.int .u8)) (hT : P.underlying T = some .string) (ho : o.op = .convert S T x) (hx : a.eval x = v) (h : Own w B e' .u8 v xs) :
    (execOp a.eval o).run P w = .ok (.value (.string (strN xs))) w := by
  obtain ⟨ad, c, rfl, hsl, -, -⟩ := h.sl
  unfold execOp
  simp only [ho, hx, Sem.run_bind, Sem.run_pure, Result.andThen_ok, run_str hS he hT rfl hsl]
theorem run_convSl {S T e c : Nat} {x : Operand} {ad : Option Addr} {xs : List Nat} (hS : P.underlying S = some (.slice e)) (he : P.underlying e = some (.int .u8)) (hT : P.underlying T = some .string) (ho : o.op = .convert S T x) (hx : a.eval x = .slice ad xs.length c) (h : Sl w ad .u8 xs) :
    (execOp a.eval o).run P w = .ok (.value (.string (strN xs))) w := by
  unfold execOp
  simp only [ho, hx, Sem.run_bind, Sem.run_pure, Result.andThen_ok, run_str hS he hT rfl h]
theorem run_eqsOp {T T' : TypeId} {x y : Operand} {s t : ByteArray} {b : Bool} (ho : o.op = .binOp .eql T x y T') (hx : a.eval x = .string s) (hy : a.eval y = .string t) (hb : (s.toList == t.toList) = b) :
    (execOp a.eval o).run P w = .ok (.value (.bool b)) w := by
  have hg : (eqGuard .eql T x y (.string s) (.string t)).run P w = .ok () w := by simp [eqGuard, Sem.run_bind]
  unfold execOp
  simp only [ho, hx, hy, Sem.run_bind, Sem.run_pure, Result.andThen_ok, hg, run_eql_str, hb]
theorem run_lenOwn {e e' B : Nat} {x : Operand} {v : Value} {xs : List Nat} {T : TypeId} (hT : P.underlying T = some (.slice e)) (ho : o.op = .call { callee := .builtin .len, args := #[x], argTypes := #[T] }) (hx : a.eval x = v) (h : Own w B e' .u8 v xs) (hm : xs.length < 2 ^ 62) :
    (execOp a.eval o).run P w = .ok (.value (.int .i64 (xs.length : Int))) w := by
  obtain ⟨ad, c, rfl, hsl, -, -⟩ := h.sl
  have hr : ∀ ty, (Builtin.len_ #[T] ty #[.slice ad xs.length c]).run P w = .ok (.int .i64 (xs.length : Int)) w := fun ty => by
    have hw : IntKind.i64.wrap (xs.length : Int) = xs.length := by rw [IntKind.wrap_i64]; omega
    simp [Builtin.len_, run_underlying hT, goInt, hw]
  unfold execOp
  simp only [ho, resolve, invoke, builtin, Sem.run_bind, Sem.run_pure, Result.andThen_ok, List.map_toArray, List.map_cons, List.map_nil, hx, hr]
end
end Go.Proofs.YtaiffkajkbiidaaGreatDoor
