/- One number stored into a block of numbers: the new world by what is known of it, and not by its name. No condition. -/
import Derived.Test.YtehhipanbjhffaaKit4
namespace Go.Proofs.Ytehhipanbjhffaa
set_option linter.unusedSimpArgs false
set_option linter.unusedVariables false
set_option linter.unusedSectionVars false
set_option linter.unusedVariables false
open Go.RowKit
section
variable {P : Program} {ops : Array Oper} {rest : List Oper} {o : Oper} {a : Act} {w : World} {Q : Exit → Act → World → Prop}
/-- Type T is one cell. -/
def IsOne (P : Program) (T : TypeId) : Prop := (P.info? T).map (·.size) = some 1
theorem run_store_one {T : TypeId} (hT : IsOne P T) {g i t : Nat} {k : IntKind} {xs : List Nat} (hb : Blk w g t (ints k xs)) (hi : i < xs.length) (n : Nat) :
    (storeVar T ⟨g, i, none⟩ (.int k n)).run P w = .ok () (w.setCell ⟨g, i, none⟩ (.int k n)) := by
  unfold IsOne at hT
  obtain ⟨d, hd, h1⟩ := Option.map_eq_some_iff.1 hT
  have hc := hb.int hi
  have hf := hb.frozen i
  simp [storeVar, sizeOf, typeInfo, hd, h1, Value.cells, storeCells, go_sem, hc, hf]
/-- Block g alone may have changed. -/
structure Far (g : Nat) (w w' : World) : Prop where
  blk : ∀ {g' t' : Nat} {cs : Array Value}, Blk w g' t' cs → g' ≠ g → Blk w' g' t' cs
  below : ∀ {B : Nat} {w0 : World}, Below B w0 w → B ≤ g → Below B w0 w'
  size : w'.heap.size = w.heap.size
theorem Far.set (w : World) (g i : Nat) (v : Value) : Far g w (w.setCell ⟨g, i, none⟩ v) := ⟨fun h hg => h.far hg _, fun h hB => h.setCell hB _, by simp⟩
theorem wpList_store_one (hgd : o.guard = none) (T : TypeId) (x y : Operand) (ho : o.op = .store T x y) (hT : IsOne P T) {g t : Nat} {k : IntKind} {xs : List Nat} (hb : Blk w g t (ints k xs)) (i n : Nat)
    (hx : a.eval x = .pointer (some ⟨g, i, none⟩)) (hy : a.eval y = .int k n) (hi : i < xs.length)
    (h : ∀ w', Blk w' g t (ints k (xs.set i n)) → Far g w w' → wpList P ops Q rest (a.put o.dst undef) w') : wpList P ops Q (o :: rest) a w :=
  wpList_plain hgd fun _ hK => by
    unfold Oper.wp execOp
    simp only [ho, hx, hy, Instr.storeAt, Instr.sureAddr, Sem.run_bind, Sem.run_pure, Result.andThen_ok, run_store_one hT hb hi n]
    exact hK _ _ (h _ (hb.intSet i n) (Far.set _ _ _ _))
end
section
variable {P : Program} {ops : Array Oper} {o : Oper} {a : Act} {w : World} {Q : Exit → Act → World → Prop} {K : Act → World → Prop} {j : Nat}
/-- A call that makes a block of numbers and gives a pointer to it. -/
theorem wpOp_callB {v : Value} {g t : Nat} {k : IntKind} {zs : List Nat} (f : FuncId) {fn : Func} {xs : Array Operand} {ats : Array TypeId} (hi : ops[j]? = some o) (hw : Region.wanted o (yielded ops a.tmps) = true) (ho : o.op = .call { callee := .value (.func f), args := xs, argTypes := ats })
    (hf : P.funcs[f]? = some fn) (hn : (fn.name == "runtime.NumGoroutine") = false) (hb : fn.body.isNone = false)
    (hc : Calls P f (xs.toList.map a.eval).toArray w fun e w' => e = .returned v ∧ Below w.heap.size w w' ∧ Blk w' g t (ints k zs)) (h : ∀ w', Below w.heap.size w w' → Blk w' g t (ints k zs) → K (a.put o.dst v) w') : wpOp P ops Q j K a w := by
  have he : execOp a.eval o = callFunc f (#[] ++ xs.map a.eval ++ #[]) := by
    obtain ⟨dst, op, type, pos, after, guard⟩ := o
    subst ho
    rfl
  unfold wpOp
  simp only [hi, hw, if_true, Oper.wp, he, enters hf hn hb, Oper.upon]
  have e2 : #[] ++ xs.map a.eval ++ #[] = (xs.toList.map a.eval).toArray := by cases xs; simp
  rw [e2]
  exact .inl (hc.mono fun e w' ⟨h1, h2, h3⟩ => by subst h1; exact h w' h2 h3)
theorem run_eqlOp {b : Bool} {x y : Operand} {T T' : TypeId} {xs ys : Array Value} (ho : o.op = .binOp .eql T x y T') (hx : a.eval x = .agg xs) (hy : a.eval y = .agg ys) (hm : P.eqGuardType P.depth T = false)
    (hr : ∀ W, (binOp .eql T (.agg xs) (.agg ys)).run P W = .ok (.bool b) W) : (execOp a.eval o).run P w = .ok (.value (.bool b)) w := by
  unfold execOp
  simp only [ho, hx, hy, Sem.run_bind, Sem.run_pure, Result.andThen_ok, run_eqGuard_agg w .eql T x y xs ys hm, hr]
end
/-- The first k numbers of ys, then xs from k on. -/
def mix (ys xs : List Nat) (k : Nat) : List Nat := ys.take k ++ xs.drop k
section
variable {ys xs : List Nat} {n k : Nat}
theorem mix_zero : mix ys xs 0 = xs := by simp [mix]
theorem mix_len (hy : ys.length = n) (hx : xs.length = n) (hk : k ≤ n) : (mix ys xs k).length = n := by
  unfold mix
  rw [List.length_append, List.length_take, List.length_drop]; omega
theorem mix_all (hy : ys.length = n) (hx : xs.length = n) : mix ys xs n = ys := by
  unfold mix
  rw [List.take_of_length_le (by omega), List.drop_eq_nil_of_le (by omega), List.append_nil]
theorem mix_get (hy : ys.length = n) (hk : k ≤ n) (i : Nat) (hi : k ≤ i) : (mix ys xs k).getD i 0 = xs.getD i 0 := by
  unfold mix
  rw [List.getD_eq_getElem?_getD, List.getElem?_append_right (by rw [List.length_take]; omega), List.length_take, Nat.min_eq_left (by omega), List.getElem?_drop, show k + (i - k) = i by omega, ← List.getD_eq_getElem?_getD]
theorem mix_set (hy : ys.length = n) (hx : xs.length = n) (hk : k < n) : (mix ys xs k).set k (ys.getD k 0) = mix ys xs (k + 1) := by
  unfold mix
  rw [List.set_append_right _ _ (by rw [List.length_take]; omega), List.length_take, Nat.min_eq_left (by omega), Nat.sub_self, List.drop_eq_getElem_cons (show k < xs.length by omega), List.set_cons_zero, List.take_succ_eq_append_getElem (show k < ys.length by omega), List.getD_eq_getElem?_getD, List.getElem?_eq_getElem (show k < ys.length by omega), List.append_assoc]
  rfl
end
end Go.Proofs.Ytehhipanbjhffaa
