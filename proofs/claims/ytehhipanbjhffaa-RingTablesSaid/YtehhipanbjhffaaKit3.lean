/- Small laws on strings of bytes: a row of bytes as a string, two of them held against each other; steps of a quiet region for them. No condition. -/
import Derived.Test.YtehhipanbjhffaaKit2
import Derived.Laws.BytesArg
namespace Go.Proofs.Ytehhipanbjhffaa
set_option linter.unusedSimpArgs false
set_option linter.unusedVariables false
set_option linter.unusedSectionVars false
set_option linter.unusedVariables false
open Go.RowKit
variable {P : Program}
/-- A row of bytes as a string. -/
def strN (bs : List Nat) : ByteArray := ⟨(bs.map fun n : Nat => UInt8.ofNat n).toArray⟩
theorem strN_nums (bs : List Nat) : strOfNums (bs.map fun n : Nat => (n : Int)) = strN bs := by
  simp [strOfNums, strN]
theorem strN_inj {xs ys : List Nat} (hx : ∀ x ∈ xs, x < 256) (hy : ∀ y ∈ ys, y < 256) (h : strN xs = strN ys) : xs = ys := by
  have h1 : xs.map (fun n : Nat => UInt8.ofNat n) = ys.map (fun n : Nat => UInt8.ofNat n) := by
    have := congrArg (fun s : ByteArray => s.data.toList) h
    simpa [strN] using this
  have h2 := congrArg (List.map UInt8.toNat) h1
  have key : ∀ l : List Nat, (∀ x ∈ l, x < 256) → (l.map fun n : Nat => UInt8.ofNat n).map UInt8.toNat = l := by
    intro l hl
    induction l with
    | nil => rfl
    | cons a l ih =>
      simp only [List.map_cons]
      rw [ih fun x hx => hl x (by simp [hx])]
      have := hl a (by simp)
      simp [UInt8.toNat_ofNat', Nat.mod_eq_of_lt this]
  rw [key xs hx, key ys hy] at h2
  exact h2
theorem run_str {S T e : Nat} (hS : P.underlying S = some (.slice e)) (he : P.underlying e = some (.int .u8)) (hT : P.underlying T = some .string) {w : World} {a : Option Addr} {n c : Nat} {bs : List Nat} (hn : n = bs.length) (h : Sl w a .u8 bs) :
    (convert S T (.slice a n c)).run P w = .ok (.string (strN bs)) w := by
  subst hn
  by_cases h0 : bs = []
  · subst h0
    cases a with
    | none => exact run_convert_bytes_nil w S e hS he 0 c T hT
    | some ad =>
      rw [run_convert_bytes_string w S T e _ _ c hS he hT]
      exact run_bytesToString w ad 0 c [] (by simp [loadCells, loadCellsFrom, Sem.run_pure])
  · obtain ⟨g, off, rfl, -, hc⟩ := h h0
    have hm : ∀ i, i < bs.length → w.cell? ⟨g, off + i, none⟩ = some (.int .u8 ((bs.map fun n : Nat => (n : Int)).getD i 0)) := by
      intro i hi
      rw [hc i hi]
      simp [List.getD_eq_getElem?_getD, List.getElem?_eq_getElem hi]
    have := run_convert_bytes_arg w S e hS he g off bs.length c (bs.map fun n : Nat => (n : Int)) (by simp) hm T hT
    rw [this, strN_nums]
theorem run_eql_str {T : Nat} (x y : ByteArray) (w : World) : (binOp .eql T (.string x) (.string y)).run P w = .ok (.bool (x.toList == y.toList)) w := by
  simp [binOp, Op.stringOp, beq_toListBytes]
theorem strEq_same {xs ys : List Nat} (h : xs = ys) : ((strN xs).toList == (strN ys).toList) = true := by subst h; simp
theorem strEq {xs ys : List Nat} (hx : ∀ x ∈ xs, x < 256) (hy : ∀ y ∈ ys, y < 256) : ((strN xs).toList == (strN ys).toList) = (xs == ys) := by
  rw [Bool.eq_iff_iff]
  simp only [beq_iff_eq]
  constructor
  · intro h
    refine strN_inj hx hy (ByteArray.ext (Array.toList_inj.mp ?_))
    rw [← ByteArray.toList_eq, ← ByteArray.toList_eq]; exact h
  · rintro rfl; rfl
section
variable {ops : Array Oper} {K : Act → Prop} {C : World → Prop} {o : Oper} {rest : List Oper} {a : Act} {w : World}
theorem quiet_str {S T e n c : Nat} {x : Operand} {ad : Option Addr} {bs : List Nat} (hw : Region.wanted o (yielded ops a.tmps) = true) (ho : o.op = .convert S T x) (hx : a.eval x = .slice ad n c) (hn : n = bs.length)
    (hS : P.underlying S = some (.slice e)) (he : P.underlying e = some (.int .u8)) (hT : P.underlying T = some .string) (hs : Sl w ad .u8 bs)
    (h : wpQuiet P ops (Below w.heap.size w) K rest (a.put o.dst (.string (strN bs)))) : wpQuiet P ops (Below w.heap.size w) K (o :: rest) a :=
  quiet_runC hw (fun W hC => by
    unfold execOp
    simp only [ho, hx, Sem.run_bind, Sem.run_pure, Result.andThen_ok, run_str hS he hT hn (hs.below hC)]) h
theorem quiet_eqs {b : Bool} {T T' : TypeId} {x y : Operand} {s t : ByteArray} (hw : Region.wanted o (yielded ops a.tmps) = true) (ho : o.op = .binOp .eql T x y T') (hx : a.eval x = .string s) (hy : a.eval y = .string t) (hb : (s.toList == t.toList) = b)
    (h : wpQuiet P ops C K rest (a.put o.dst (.bool b))) : wpQuiet P ops C K (o :: rest) a :=
  quiet_run hw (fun W => by
    unfold execOp
    simp only [ho, hx, hy, Sem.run_bind, Sem.run_pure, Result.andThen_ok]
    have h1 := run_eql_str (P := P) (T := T) s t W
    rw [hb] at h1
    have h2 : (eqGuard .eql T x y (.string s) (.string t)).run P W = .ok () W := by simp [eqGuard, Sem.run_bind]
    simp only [h1, h2, Result.andThen_ok]) h
/-- A step that asks the world nothing. -/
theorem quiet_val {v : Value} (hw : Region.wanted o (yielded ops a.tmps) = true) (hr : ∀ W, (execOp a.eval o).run P W = .ok (.value v) W) (h : wpQuiet P ops C K rest (a.put o.dst v)) : wpQuiet P ops C K (o :: rest) a := quiet_run hw hr h
/-- One number of a row. -/
theorem quiet_cell {T g i : Nat} {k : IntKind} {x : Operand} {v : Value} (hw : Region.wanted o (yielded ops a.tmps) = true) (ho : o.op = .load T x) (hx : a.eval x = .pointer (some ⟨g, i, none⟩)) (hT : P.underlying T = some (.int k)) (hg : g < w.heap.size) (hc : w.cell? ⟨g, i, none⟩ = some v)
    (h : wpQuiet P ops (Below w.heap.size w) K rest (a.put o.dst v)) : wpQuiet P ops (Below w.heap.size w) K (o :: rest) a :=
  quiet_runC hw (fun W hC => by
    have hc' := (hC.cell (p := ⟨g, i, none⟩) hg).trans hc
    unfold execOp
    simp only [ho, hx, Instr.loadAt, Instr.sureAddr, Sem.run_bind, Sem.run_pure, Result.andThen_ok]
    simp [loadVar, isAgg, run_underlying hT, hc', go_sem]) h
end
theorem Sl.drop {w : World} {g off : Nat} {k : IntKind} {xs : List Nat} (h : Sl w (some ⟨g, off, none⟩) k xs) (m : Nat) : Sl w (some ⟨g, off + m, none⟩) k (xs.drop m) := fun hn => by
  obtain ⟨g2, o2, q1, q2, q3⟩ := h (by rintro rfl; simp at hn)
  injection q1 with q1
  injection q1 with q1 q4
  subst q1 q4
  refine ⟨g, off + m, rfl, q2, fun i hi => ?_⟩
  rw [List.length_drop] at hi
  rw [Nat.add_assoc, q3 (m + i) (by omega)]
  congr 3
  rw [List.getD_eq_getElem?_getD, List.getD_eq_getElem?_getD, List.getElem?_drop]
theorem Sl.take {w : World} {a : Option Addr} {k : IntKind} {xs : List Nat} (h : Sl w a k xs) (m : Nat) : Sl w a k (xs.take m) := fun hn => by
  obtain ⟨g2, o2, q1, q2, q3⟩ := h (by rintro rfl; simp at hn)
  refine ⟨g2, o2, q1, q2, fun i hi => ?_⟩
  rw [List.length_take] at hi
  rw [q3 i (by omega)]
  congr 3
  rw [List.getD_eq_getElem?_getD, List.getD_eq_getElem?_getD, List.getElem?_take, if_pos (by omega)]
end Go.Proofs.Ytehhipanbjhffaa
