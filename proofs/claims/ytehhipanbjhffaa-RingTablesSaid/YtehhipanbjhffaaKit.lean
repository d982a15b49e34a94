/- Small laws over the model's memory that all texts of this claim use: rows of whole numbers as array values, blocks known whole, one rule for a statement whose order Go leaves open. No condition. -/
import Derived.WalkKit
import Derived.WalkSpells
import Derived.WalkLawsBesides
import Derived.Lib.Hide
import Derived.Laws.CopyOwn
import Derived.ChangeKeysEq
import Derived.Deep.MidRow
import Derived.Deep.Quiet
import Derived.Deep.QuietTactic
namespace Go.Proofs.Ytehhipanbjhffaa
set_option linter.unusedSimpArgs false
set_option linter.unusedVariables false
set_option linter.unusedSectionVars false
set_option linter.unusedVariables false
open Go.RowKit

/-! ### rows of numbers -/
def ints (k : IntKind) (xs : List Nat) : Array Value := (xs.map fun n : Nat => Value.int k n).toArray
def AG (k : IntKind) (xs : List Nat) : Value := .agg (ints k xs)
theorem AG_def (k : IntKind) (xs : List Nat) : AG k xs = .agg (ints k xs) := rfl
theorem ints_get (k : IntKind) (xs : List Nat) (i : Nat) : (ints k xs)[i]? = (xs[i]?).map fun n : Nat => Value.int k n := by simp [ints]
theorem ints_set (k : IntKind) (xs : List Nat) (i n : Nat) : (ints k xs).setIfInBounds i (.int k n) = ints k (xs.set i n) := by simp [ints, List.map_set]
theorem ints_size (k : IntKind) (xs : List Nat) : (ints k xs).size = xs.length := by simp [ints]
theorem ints_one (k : IntKind) (xs : List Nat) : (ints k xs).all (·.oneCell') = true := by simp [ints, Value.oneCell']
theorem ints_append (k : IntKind) (xs ys : List Nat) : ints k xs ++ ints k ys = ints k (xs ++ ys) := by simp [ints]
theorem ints_replicate (k : IntKind) (n x : Nat) : ints k (List.replicate n x) = Array.replicate n (.int k x) := by
  apply Array.ext'; simp [ints]
theorem ints_inj {k : IntKind} {xs ys : List Nat} (h : ints k xs = ints k ys) : xs = ys := by
  have h' : (ints k xs).toList = (ints k ys).toList := by rw [h]
  simp only [ints] at h'
  refine (List.map_inj_right ?_).1 h'
  intro a b hab
  injection hab with _ hab
  exact Int.ofNat_inj.1 hab
theorem getD_lt {xs : List Nat} {i : Nat} (h : i < xs.length) : xs[i]? = some (xs.getD i 0) := by
  rw [List.getD_eq_getElem?_getD, List.getElem?_eq_getElem h]; rfl
theorem getD_mem {xs : List Nat} {i : Nat} (h : i < xs.length) : xs.getD i 0 ∈ xs := by
  rw [List.getD_eq_getElem?_getD, List.getElem?_eq_getElem h]; exact List.getElem_mem h
theorem getD_bound {xs : List Nat} {B : Nat} (hb : ∀ x ∈ xs, x < B) (hB : 0 < B) (i : Nat) : xs.getD i 0 < B := by
  by_cases h : i < xs.length
  · exact hb _ (getD_mem h)
  · rw [List.getD_eq_getElem?_getD, List.getElem?_eq_none (by omega)]; exact hB

/-! ### blocks -/
/-- Block g is just these cells, none frozen. -/
def Blk (w : World) (g : Nat) (t : TypeId) (cs : Array Value) : Prop := w.heap[g]? = some (.cells cs t (0, 0))
section
variable {w w' : World} {g : Nat} {t : TypeId} {cs : Array Value}
theorem Blk.lt (h : Blk w g t cs) : g < w.heap.size := by
  rcases Nat.lt_or_ge g w.heap.size with hlt | hge
  · exact hlt
  · unfold Blk at h; rw [Array.getElem?_eq_none hge] at h; cases h
theorem Blk.cell (h : Blk w g t cs) (i : Nat) : w.cell? ⟨g, i, none⟩ = cs[i]? := cell_of_row w g i cs t (0, 0) h
theorem Blk.frozen (h : Blk w g t cs) (i : Nat) : w.frozen? ⟨g, i, none⟩ = false := by
  unfold Blk at h
  simp [World.frozen?, h]
theorem Blk.new (w : World) (t : TypeId) (cs : Array Value) : Blk (w.alloc (.cells cs t)) w.heap.size t cs := heap_alloc_new w _
theorem Blk.new' {n : Nat} (h : n = w.heap.size) : Blk (w.alloc (.cells cs t)) n t cs := by subst h; exact heap_alloc_new w _
theorem Blk.drew (h : Blk w g t cs) : Blk w.drew g t cs := h
theorem Blk.drewN (h : Blk w g t cs) (n : Nat) : Blk (w.drewN n) g t cs := h
theorem Blk.alloc (h : Blk w g t cs) (o : Obj) : Blk (w.alloc o) g t cs := (Below.heap_alloc w o g h.lt).trans h
theorem Blk.set_ (h : Blk w g t cs) (i : Nat) (u : Value) : Blk (w.setCell ⟨g, i, none⟩ u) g t (cs.setIfInBounds i u) := heap_setCell_same _ _ _ _ _ _ h
theorem Blk.far (h : Blk w g t cs) {p : Addr} (hp : g ≠ p.block) (u : Value) : Blk (w.setCell p u) g t cs := (Below.heap_setCell w p u g hp).trans h
theorem Blk.below {B : Nat} (h : Blk w g t cs) (hb : Below B w w') (hg : g < B) : Blk w' g t cs := (hb.block g hg).trans h
theorem Blk.below' (h : Blk w g t cs) (hb : Below w.heap.size w w') : Blk w' g t cs := (hb.block g h.lt).trans h
theorem Blk.row (h : Blk w g t cs) (cs' : Array Value) : Blk (w.setRow g cs') g t cs' := setRow_heap _ _ _ _ _ _ h
theorem Blk.rowFar (h : Blk w g t cs) {k : Nat} (hk : g ≠ k) (cs' : Array Value) : Blk (w.setRow k cs') g t cs := (setRow_other _ _ _ _ hk).trans h
theorem Blk.grown {row : Option Nat} (h : Blk w g t cs) (hb : w.grownBy w' row) (hg : some g ≠ row) : Blk w' g t cs := (hb.block g h.lt hg).trans h
theorem Blk.ne_ {g' : Nat} {t' : TypeId} {cs' : Array Value} (h : Blk w g t cs) (h' : Blk w g' t' cs') (hne : t ≠ t') : g ≠ g' := by
  rintro rfl
  unfold Blk at h h'
  rw [h] at h'
  injection h' with h'
  injection h' with _ ht
  exact hne ht
/-- A cell of a row of numbers, in the walk's own form. -/
theorem Blk.int {k : IntKind} {xs : List Nat} (h : Blk w g t (ints k xs)) {i : Nat} (hi : i < xs.length) : w.cell? ⟨g, i, none⟩ = some (.int k ((xs.getD i 0 : Nat) : Int)) := by
  rw [h.cell, ints_get, getD_lt hi]; rfl
theorem Blk.intSet {k : IntKind} {xs : List Nat} (h : Blk w g t (ints k xs)) (i n : Nat) : Blk (w.setCell ⟨g, i, none⟩ (.int k n)) g t (ints k (xs.set i n)) := by
  have := h.set_ i (.int k n)
  rwa [ints_set] at this
end
/-- The numbers of a block of numbers (for a measure). -/
def rowNat (w : World) (g : Nat) : List Nat := match w.heap[g]? with | some (.cells cs _ _) => cs.toList.map fun v => (intOf v).toNat | _ => []
theorem rowNat_ints {w : World} {g : Nat} {t : TypeId} {k : IntKind} {xs : List Nat} (h : Blk w g t (ints k xs)) : rowNat w g = xs := by
  unfold Blk at h
  simp [rowNat, h, ints, Function.comp_def, intOf]
/-- The elements of a slice value with this address, of kind k, are these numbers. -/
def Sl (w : World) (a : Option Addr) (k : IntKind) (xs : List Nat) : Prop :=
  xs ≠ [] → ∃ g off, a = some ⟨g, off, none⟩ ∧ g < w.heap.size ∧ ∀ i, i < xs.length → w.cell? ⟨g, off + i, none⟩ = some (.int k ((xs.getD i 0 : Nat) : Int))
theorem Sl.below {w w' : World} {a : Option Addr} {k : IntKind} {xs : List Nat} (h : Sl w a k xs) (hb : Below w.heap.size w w') : Sl w' a k xs := fun hn => by
  obtain ⟨g, off, h1, h2, h3⟩ := h hn
  exact ⟨g, off, h1, Nat.lt_of_lt_of_le h2 hb.size, fun i hi => (hb.cell h2).trans (h3 i hi)⟩
theorem Sl.at_ {w : World} {a : Option Addr} {k : IntKind} {xs : List Nat} (h : Sl w a k xs) {i : Nat} (hi : i < xs.length) : ∃ g off, a = some ⟨g, off, none⟩ ∧ g < w.heap.size ∧ w.cell? ⟨g, off + i, none⟩ = some (.int k ((xs.getD i 0 : Nat) : Int)) := by
  obtain ⟨g, off, h1, h2, h3⟩ := h (by rintro rfl; simp at hi)
  exact ⟨g, off, h1, h2, h3 i hi⟩
theorem Sl.nil (w : World) (a : Option Addr) (k : IntKind) : Sl w a k [] := fun h => absurd rfl h
/-- A row of one's own, from its head. -/
theorem Sl.blk {w : World} {g : Nat} {t : TypeId} {k : IntKind} {xs : List Nat} (h : Blk w g t (ints k xs)) : Sl w (some ⟨g, 0, none⟩) k xs := fun _ =>
  ⟨g, 0, rfl, h.lt, fun i hi => by rw [Nat.zero_add]; exact h.int hi⟩
theorem Sl.sub {w : World} {g : Nat} {t : TypeId} {k : IntKind} {xs : List Nat} (h : Blk w g t (ints k xs)) (o n : Nat) (hn : o + n ≤ xs.length) : Sl w (some ⟨g, o, none⟩) k ((xs.drop o).take n) := fun _ =>
  ⟨g, o, rfl, h.lt, fun i hi => by
    rw [List.length_take, List.length_drop] at hi
    rw [h.int (i := o + i) (by omega)]
    congr 3
    rw [List.getD_eq_getElem?_getD, List.getD_eq_getElem?_getD, List.getElem?_take, if_pos (by omega), List.getElem?_drop]⟩
theorem bSetRow {B g : Nat} {w0 w : World} (hb : Below B w0 w) (hBg : B ≤ g) (cs : Array Value) : Below B w0 (w.setRow g cs) := below_setRow hb hBg cs
theorem bDrewN {B : Nat} {a w : World} (h : Below B a w) (n : Nat) : Below B a (w.drewN n) := ⟨h.os, h.tape, h.output, h.size, h.block⟩
theorem bCall {B : Nat} {a w w' : World} (h : Below B a w) (h' : Below w.heap.size w w') (hB : B ≤ w.heap.size) : Below B a w' := h.trans (h'.mono hB)

section
variable {P : Program} {n : Nat}
theorem wpList_store_row {ops : Array Oper} {rest : List Oper} {o : Oper} {a : Act} {w : World} {Q : Exit → Act → World → Prop} (hgd : o.guard = none) (ty : TypeId) (x y : Operand) (ho : o.op = .store ty x y)
    (g : Nat) (cells : Array Value) (hx : a.eval x = .pointer (some ⟨g, 0, none⟩)) (hy : a.eval y = .agg cells)
    (t : TypeId) (old : Array Value) (hg : w.heap[g]? = some (.cells old t (0, 0))) (hi : (P.info? ty).map (·.size) = some cells.size)
    (hold : old.size = cells.size) (h1 : cells.all (·.oneCell') = true)
    (h : wpList P ops Q rest (a.put o.dst undef) (w.setRow g cells)) : wpList P ops Q (o :: rest) a w :=
  wpList_plain hgd fun _ hK => wp_store_row ty x y ho g cells hx hy t old hg hi hold h1 (hK _ _ h)

/-- Type T is an array of n cells of one cell each. -/
def IsArr (P : Program) (T n : Nat) : Prop := (∃ d, P.underlying T = some d ∧ (match d with | .struct _ | .array _ _ => true | _ => false) = true) ∧ (P.info? T).map (·.size) = some n
theorem isArr {T n e : Nat} (h1 : P.underlying T = some (.array n e)) (h2 : (P.info? T).map (·.size) = some n) : IsArr P T n := ⟨⟨_, h1, rfl⟩, h2⟩
/-- A struct of n cells of one cell each. -/
theorem isStr {T n : Nat} {fs} (h1 : P.underlying T = some (.struct fs)) (h2 : (P.info? T).map (·.size) = some n) : IsArr P T n := ⟨⟨_, h1, rfl⟩, h2⟩
theorem wpList_load_ints {ops : Array Oper} {rest : List Oper} {o : Oper} {a : Act} {w : World} {Q : Exit → Act → World → Prop} (hgd : o.guard = none) (T : TypeId) (x : Operand) (ho : o.op = .load T x)
    (g : Nat) (hx : a.eval x = .pointer (some ⟨g, 0, none⟩)) {n t : Nat} {k : IntKind} {xs : List Nat} (hb : Blk w g t (ints k xs)) (ha : IsArr P T n) (hl : xs.length = n)
    (h : wpList P ops Q rest (a.put o.dst (.agg (ints k xs))) w) : wpList P ops Q (o :: rest) a w := by
  obtain ⟨⟨d, h1, hd⟩, h2⟩ := ha
  exact wpList_load_row hgd T x ho g hx t _ _ _ hb h1 (by cases d <;> first | rfl | cases hd) (by rw [ints_size, hl]; exact h2) h
theorem wpList_store_ints {ops : Array Oper} {rest : List Oper} {o : Oper} {a : Act} {w : World} {Q : Exit → Act → World → Prop} (hgd : o.guard = none) (T : TypeId) (x y : Operand) (ho : o.op = .store T x y)
    (g : Nat) {k : IntKind} {xs : List Nat} (hx : a.eval x = .pointer (some ⟨g, 0, none⟩)) (hy : a.eval y = .agg (ints k xs)) {n t : Nat} {old : Array Value} (hb : Blk w g t old) (hold : old.size = n) (ha : IsArr P T n) (hl : xs.length = n)
    (h : wpList P ops Q rest (a.put o.dst undef) (w.setRow g (ints k xs))) : wpList P ops Q (o :: rest) a w :=
  wpList_store_row hgd T x y ho g _ hx hy t old hb (by rw [ints_size, hl]; exact ha.2) (by rw [ints_size, hold, hl]) (ints_one _ _) h
/-- A part of a row, from an offset on. -/
theorem wpList_load_sub {ops : Array Oper} {rest : List Oper} {o : Oper} {a : Act} {w : World} {Q : Exit → Act → World → Prop} (hgd : o.guard = none) (T : TypeId) (x : Operand) (ho : o.op = .load T x)
    (g off : Nat) (hx : a.eval x = .pointer (some ⟨g, off, none⟩)) {n t : Nat} {k : IntKind} {xs : List Nat} (hb : Blk w g t (ints k xs)) (ha : IsArr P T n) (hl : off + n ≤ xs.length)
    (h : wpList P ops Q rest (a.put o.dst (.agg (ints k ((xs.drop off).take n)))) w) : wpList P ops Q (o :: rest) a w := by
  obtain ⟨⟨d, h1, hd⟩, h2⟩ := ha
  refine wpList_load_mid hgd T x ho g off hx (((xs.drop off).take n).map fun n : Nat => Value.int k n) _ ?_ h1 hd (by rw [h2]; simp; omega) h
  intro j v hv
  rw [hb.cell, ints_get]
  rw [List.getElem?_map] at hv
  by_cases hj : j < n
  · rw [List.getElem?_take, if_pos hj, List.getElem?_drop] at hv; exact hv
  · rw [List.getElem?_take, if_neg hj] at hv; cases hv

/-- As many noughts. -/
def zeros (n : Nat) : List Nat := List.replicate n 0
theorem zeros_len (n : Nat) : (zeros n).length = n := by simp [zeros]
theorem zeros_lt (n : Nat) {B : Nat} (hB : 0 < B) : ∀ x ∈ zeros n, x < B := by
  intro x hx
  rw [(List.mem_replicate.1 hx).2]; exact hB
theorem zeros_size (k : IntKind) (n : Nat) : (ints k (zeros n)).size = n := by rw [ints_size, zeros_len]
theorem take_set {n k v : Nat} {xs : List Nat} (hl : xs.length = n) (hk : k < n) (hv : xs.getD k 0 = v) : (xs.take k ++ zeros (n - k)).set k v = xs.take (k + 1) ++ zeros (n - (k + 1)) := by
  unfold zeros
  have e1 : n - k = (n - (k+1)) + 1 := by omega
  rw [List.set_append_right _ _ (by simp; omega), List.length_take, Nat.min_eq_left (by omega), Nat.sub_self, e1, List.replicate_succ, List.set_cons_zero, List.take_add_one, getD_lt (by omega), hv]
  simp
/-- Type T's zero value is n noughts of kind k. -/
def IsZero (P : Program) (T n : Nat) (k : IntKind) : Prop := (P.info? T).bind (·.zero) = some (.agg (ints k (zeros n)))
theorem isZero {T n : Nat} {k : IntKind} (h : (P.info? T).bind (·.zero) = some (.agg (ints k (zeros n)))) : IsZero P T n k := h
theorem run_alloc_ints {T n : Nat} {k : IntKind} (hz : IsZero P T n k) (w : World) : (Instr.alloc T true (.tuple #[])).run P w = .ok (.pointer (some ⟨w.heap.size, 0, none⟩)) (w.alloc (.cells (ints k (zeros n)) T)) := by
  unfold IsZero at hz
  rw [Option.bind_eq_some_iff] at hz
  obtain ⟨i, h1, h2⟩ := hz
  simp [Instr.alloc, zeroValue, typeInfo, h1, h2, newVar, newRow, newObj, Value.cells, Sem.run_bind]
  rfl
theorem wpList_alloc_ints {ops : Array Oper} {rest : List Oper} {o : Oper} {a : Act} {w : World} {Q : Exit → Act → World → Prop} (hgd : o.guard = none) (T : TypeId) (ho : o.op = .alloc T) {n : Nat} {k : IntKind} (hz : IsZero P T n k)
    (h : wpList P ops Q rest (a.put o.dst (.pointer (some ⟨w.heap.size, 0, none⟩))) (w.alloc (.cells (ints k (zeros n)) T))) : wpList P ops Q (o :: rest) a w :=
  wpList_plain hgd fun _ hK => by
    unfold Oper.wp execOp
    simp only [ho, Sem.run_bind, run_alloc_ints hz, Result.andThen_ok, Sem.run_pure]
    exact hK _ _ h
/-- A block from B on that was made behind the block B. -/
theorem heap2 (w : World) (A B : Obj) : ((w.alloc A).alloc B).heap.size = w.heap.size + 2 := by simp

/-- The end of a function whose one result is an array in a cell of its own. -/
theorem ret_ints {fn : Func} {p T : Nat} (h : fn.results = #[.cell p T]) {R : Ending → World → Prop} {tmps : Array Value} {w : World} {g n t : Nat} {k : IntKind} {xs : List Nat} (hp : tmps.getD p undef = .pointer (some ⟨g, 0, none⟩))
    (hb : Blk w g t (ints k xs)) (ha : IsArr P T n) (hl : xs.length = n) (hR : R (.returned (.agg (ints k xs))) w) : bodyPost P fn R .ret { tmps := tmps, defers := [] } w := by
  obtain ⟨⟨d, h1, hd⟩, h2⟩ := ha
  exact bodyPost_ret (results_cell_row h tmps w g t _ _ _ hp hb h1 (by cases d <;> first | rfl | cases hd) (by rw [ints_size, hl]; exact h2)) rfl hR

/-- .. whose first result is an array in a cell of its own, and whose second one stands in a slot. -/
theorem ret_ints_tmp {fn : Func} {p q T : Nat} (h : fn.results = #[.cell p T, .tmp q]) {R : Ending → World → Prop} {tmps : Array Value} {w : World} {g n t : Nat} {k : IntKind} {xs : List Nat} {v : Value} (hp : tmps.getD p undef = .pointer (some ⟨g, 0, none⟩)) (hq : tmps.getD q undef = v)
    (hb : Blk w g t (ints k xs)) (ha : IsArr P T n) (hl : xs.length = n) (hR : R (.returned (.tuple #[.agg (ints k xs), v])) w) : bodyPost P fn R .ret { tmps := tmps, defers := [] } w := by
  obtain ⟨⟨d, h1, hd⟩, h2⟩ := ha
  refine bodyPost_ret ?_ rfl hR
  have hp' : tmps[p]?.getD undef = .pointer (some ⟨g, 0, none⟩) := by simpa using hp
  have hq' : tmps[q]?.getD undef = v := by simpa using hq
  simp [results, h, hp', hq', asAddr, run_loadVar_row w g t T _ _ _ hb h1 (by cases d <;> first | rfl | cases hd) (by rw [ints_size, hl]; exact h2)]
/-! ### a statement whose order is open: an invariant over the set of what has come up -/
theorem ready_nil_all {md : Region.Mode} {ops : Array Oper} {listed : Array Bool} (hok : (ops.toList.zipIdx.all fun (o, i) => o.after.all fun e => decide (e.on < i)) = true)
    (hs : listed.size = ops.size) (h : Region.ready md ops listed = []) : ∀ j, j < ops.size → listed.getD j false = true := by
  intro j
  induction j using Nat.strongRecOn with
  | ind j ih =>
    intro hj
    refine Classical.byContradiction fun hn => ?_
    have hmem : j ∈ Region.ready md ops listed := by
      rw [mem_ready]
      refine ⟨?_, ops[j], by simp [hj], fun e he _ => ?_⟩
      · rw [Array.getD_eq_getD_getElem?, Array.getElem?_eq_getElem (by omega)] at hn ⊢
        simpa using hn
      · rw [List.all_eq_true] at hok
        have := hok (ops[j], j) (by rw [List.mem_zipIdx_iff_getElem?]; simp [hj])
        simp only [Array.all_eq_true_iff_forall_mem, decide_eq_true_eq] at this
        have hlt := this e he
        exact ih _ hlt (by omega)
    rw [h] at hmem
    cases hmem

theorem wp_region_inv {ops : Array Oper} {Q : Exit → Act → World → Prop} {rid : Nat} {a : Act} {w : World} (hm : P.follows .mixedOrders = true)
    (hok : (ops.toList.zipIdx.all fun (o, i) => o.after.all fun e => decide (e.on < i)) = true)
    (I : (Nat → Prop) → Act → World → Prop)
    (h0 : I (fun _ => False) a w.drew)
    (hstep : ∀ (i : Nat) (o : Oper), ops[i]? = some o → ∀ (D : Nat → Prop) (a : Act) (w : World), I D a w → ¬ D i → (∀ e ∈ o.after, Region.binds .any e = true → D e.on) →
      wpOp P ops Q i (fun a' w' => I (fun j => j = i ∨ D j) a' w') a w)
    (hend : ∀ (D : Nat → Prop) (a : Act) (w : World), I D a w → (∀ j, j < ops.size → D j) → Q .normal a w) :
    (Code.region rid ops true).wp P Q a w := by
  refine wp_region_any hm ?_
  have key : ∀ (fuel : Nat) (listed : Array Bool) (D : Nat → Prop) (a : Act) (w : World), listed.size = ops.size → (∀ j, D j ↔ listed.getD j false = true) → I D a w →
      (fuel + (listed.toList.filter _root_.id).length = ops.size) → wpAny P .any ops Q fuel listed a w := by
    intro fuel
    induction fuel with
    | zero =>
      intro listed D a w hs hD hI hf
      have hall : ∀ j, j < ops.size → listed.getD j false = true := by
        intro j hj
        have hl : (listed.toList.filter _root_.id).length = listed.toList.length := by simp at hf ⊢; omega
        have := List.length_filter_eq_length_iff.1 hl (listed[j]'(by omega)) (by simp)
        rw [Array.getD_eq_getD_getElem?, Array.getElem?_eq_getElem (by omega)]
        simpa using this
      refine ⟨?_, hend D a w hI fun j hj => (hD j).2 (hall j hj)⟩
      cases hr : Region.ready .any ops listed with
      | nil => rfl
      | cons i is =>
        have hi : i ∈ Region.ready .any ops listed := by rw [hr]; simp
        obtain ⟨h1, o, ho, -⟩ := mem_ready.1 hi
        have hlt : i < ops.size := (Array.getElem?_eq_some_iff.1 ho).1
        have := hall i hlt
        rw [Array.getD_eq_getD_getElem?, Array.getElem?_eq_getElem (by omega)] at this h1
        simp at this h1
        rw [this] at h1; cases h1
    | succ fuel ih =>
      intro listed D a w hs hD hI hf
      refine ⟨fun hr => hend D a w hI fun j hj => (hD j).2 (ready_nil_all hok hs hr j hj), fun i hi => ?_⟩
      obtain ⟨h1, o, ho, hall⟩ := mem_ready.1 hi
      have hlt : i < ops.size := (Array.getElem?_eq_some_iff.1 ho).1
      have hlf : listed[i]'(by omega) = false := by
        rw [Array.getD_eq_getD_getElem?, Array.getElem?_eq_getElem (by omega)] at h1
        simpa using h1
      refine wpOp_mono (fun a' w' hI' => ih (listed.setIfInBounds i true) (fun j => j = i ∨ D j) a' w' (by simpa using hs) ?_ hI' ?_)
        (hstep i o ho D a w hI (fun hDi => ?_) fun e he hb => (hD _).2 (hall e he hb))
      · intro j
        by_cases hj : i = j
        · subst hj
          simp [Array.getD_eq_getD_getElem?, hs, hlt]
        · rw [getD_set_ne false hj, ← hD]
          constructor
          · rintro (h | h)
            · exact absurd h.symm hj
            · exact h
          · exact Or.inr
      · have hcount : ((listed.setIfInBounds i true).toList.filter _root_.id).length = (listed.toList.filter _root_.id).length + 1 := by
          rw [Array.toList_setIfInBounds]
          have hi' : i < listed.toList.length := by simpa [hs] using hlt
          have e1 : listed.toList = listed.toList.take i ++ listed.toList[i] :: listed.toList.drop (i + 1) := by
            rw [List.getElem_cons_drop, List.take_append_drop]
          rw [List.set_eq_take_append_cons_drop, if_pos hi']
          conv => rhs; rw [e1]
          have hz : listed.toList[i] = false := by simpa using hlf
          simp only [List.filter_append, List.length_append, List.filter_cons, hz, _root_.id, if_true, Bool.false_eq_true, if_false, List.length_cons]
          omega
        have hcount' : ((listed.setIfInBounds i true).toList.filter _root_.id).length = (listed.toList.filter _root_.id).length + 1 := hcount
        omega
      · have := (hD i).1 hDi
        rw [Array.getD_eq_getD_getElem?, Array.getElem?_eq_getElem (by omega)] at this
        simp [hlf] at this
  refine key ops.size _ (fun _ => False) a _ (by simp) (fun j => ?_) h0 ?_
  · constructor
    · exact False.elim
    · intro h
      rw [Array.getD_eq_getD_getElem?] at h
      by_cases hj : j < ops.size
      · simp [hj] at h
      · simp [hj] at h
  · simp

/-! ### a scope whose label is jumped back to: the pass from the label on is walked once -/
theorem Exit.jump_mono {l : Nat} {J J' : Act → World → Prop} {Q : Exit → Act → World → Prop} (h : ∀ a w, J a w → J' a w) : ∀ e a w, Exit.jump l J Q e a w → Exit.jump l J' Q e a w := fun e a w q => by
  cases e with
  | goto l' => exact ⟨q.1, h _ _ q.2⟩
  | _ => exact q
theorem wp_scope_back {c rest : Code} {Q : Exit → Act → World → Prop} {a : Act} {w : World} (l : Nat) (J : Act → World → Prop) (μ : Act → World → Nat) (hf : findLabel c l = some rest)
    (pass : ∀ a w, J a w → rest.wp P (Exit.jump l (fun a' w' => J a' w' ∧ μ a' w' < μ a w) Q) a w)
    (first : (∀ a w, J a w → rest.wp P (Exit.jump l J Q) a w) → c.wp P (Exit.jump l J Q) a w) : (Code.scope c).wp P Q a w :=
  wp_scope_jumps l J μ hf (first fun a w h => Code.wp_mono (Exit.jump_mono fun _ _ hh => hh.1) (pass a w h)) pass
/-- The label stands first. -/
theorem wp_scope_top {c : Code} {Q : Exit → Act → World → Prop} {a : Act} {w : World} (l : Nat) (J : Act → World → Prop) (μ : Act → World → Nat) (h0 : J a w)
    (pass : ∀ a w, J a w → c.wp P (Exit.jump l (fun a' w' => J a' w' ∧ μ a' w' < μ a w) Q) a w) : (Code.scope (.seq (.label l) c)).wp P Q a w :=
  wp_scope_back l J μ (rest := .seq .skip c) (by simp [findLabel]) (fun a w h => wp_seq_k fun _ hK => wp_skip (hK _ _ (pass a w h)))
    (fun h => wp_seq_k fun _ hK => wp_label (hK _ _ (Code.wp_mono (Exit.jump_mono fun _ _ hh => hh.1) (pass a w h0))))

/-- The label stands ahead of the rest. -/
theorem wp_scope_mid {c c' : Code} {Q : Exit → Act → World → Prop} {a : Act} {w : World} (l : Nat) (J : Act → World → Prop) (μ : Act → World → Nat) (hf : findLabel c l = some (.seq .skip c'))
    (pass : ∀ a w, J a w → c'.wp P (Exit.jump l (fun a' w' => J a' w' ∧ μ a' w' < μ a w) Q) a w)
    (first : (∀ a w, J a w → c'.wp P (Exit.jump l J Q) a w) → c.wp P (Exit.jump l J Q) a w) : (Code.scope c).wp P Q a w :=
  wp_scope_jumps l J μ hf (first fun a w h => Code.wp_mono (Exit.jump_mono fun _ _ hh => hh.1) (pass a w h)) (fun a w h => wp_seq_k fun _ hK => wp_skip (hK _ _ (pass a w h)))
/-! ### whole arrays held against each other -/
theorem run_eqItems_ints (w : World) (d : Nat) {e : TypeId} {k : IntKind} (he : P.underlying e = some (.int k)) (hc : P.cellsOf e = 1) (xs ys : List Nat) : ∀ is : List Nat, (∀ i ∈ is, i < xs.length ∧ i < ys.length) →
    (Op.eqItems (d + 1) e (P.cellsOf e) (ints k xs) (ints k ys) is).run P w = .ok (is.all fun i => xs.getD i 0 == ys.getD i 0) w
  | [], _ => by simp [Op.eqItems]
  | i :: is, h => by
    obtain ⟨h1, h2⟩ := h i (by simp)
    have px : (part e (ints k xs) (i * P.cellsOf e)).run P w = .ok (.int k ((xs.getD i 0 : Nat) : Int)) w := by
      have gx : (ints k xs)[i]? = some (.int k ((xs.getD i 0 : Nat) : Int)) := by rw [ints_get, getD_lt h1]; rfl
      simp [part, isAgg, run_underlying he, hc, gx]
    have py : (part e (ints k ys) (i * P.cellsOf e)).run P w = .ok (.int k ((ys.getD i 0 : Nat) : Int)) w := by
      have gx : (ints k ys)[i]? = some (.int k ((ys.getD i 0 : Nat) : Int)) := by rw [ints_get, getD_lt h2]; rfl
      simp [part, isAgg, run_underlying he, hc, gx]
    have pe := run_equalIn_int (P := P) w d e k k ((xs.getD i 0 : Nat) : Int) ((ys.getD i 0 : Nat) : Int) he
    have ih := run_eqItems_ints w d he hc xs ys is fun j hj => h j (by simp [hj])
    have hb : (((xs.getD i 0 : Nat) : Int) == ((ys.getD i 0 : Nat) : Int)) = (xs.getD i 0 == ys.getD i 0) := by
      rw [Bool.eq_iff_iff]; simp only [beq_iff_eq]; omega
    simp only [Op.eqItems, Sem.run_bind, px, py, pe, hb, Result.andThen_ok, List.all_cons]
    cases xs.getD i 0 == ys.getD i 0
    · simp
    · simpa using ih
theorem all_getD_eq {xs ys : List Nat} (hl : xs.length = ys.length) : ((List.range xs.length).all fun i => xs.getD i 0 == ys.getD i 0) = (xs == ys) := by
  rw [Bool.eq_iff_iff]
  simp only [List.all_eq_true, List.mem_range, beq_iff_eq]
  constructor
  · intro h
    apply List.ext_getElem? fun i => ?_
    by_cases hi : i < xs.length
    · rw [getD_lt hi, getD_lt (hl ▸ hi), h i hi]
    · rw [List.getElem?_eq_none (by omega), List.getElem?_eq_none (by omega)]
  · rintro rfl _ _; rfl
theorem run_eql_ints {t e : TypeId} {k : IntKind} (ht : P.underlying t = some (.array n e)) (he : P.underlying e = some (.int k)) (hi : (P.info? e).isSome = true) (hc : P.cellsOf e = 1) (xs ys : List Nat) (hx : xs.length = n) (hy : ys.length = n) (w : World) :
    (binOp .eql t (.agg (ints k xs)) (.agg (ints k ys))).run P w = .ok (.bool (xs == ys)) w := by
  obtain ⟨i, hi⟩ := Option.isSome_iff_exists.1 hi
  have h := run_equalIn_array (P := P) (w := w) 9999 (ints k xs) (ints k ys) ht hi
  rw [run_eqItems_ints w 9998 he hc xs ys (List.range n) (fun j hj => by rw [List.mem_range] at hj; omega)] at h
  have h2 := all_getD_eq (hx.trans hy.symm)
  rw [hx] at h2
  rw [h2] at h
  simp only [binOp]
  simp only [Op.equal, Op.maxDepth, Sem.run_bind, h, Result.andThen_ok, Sem.run_pure]
theorem run_neq_ints {t e : TypeId} {k : IntKind} (ht : P.underlying t = some (.array n e)) (he : P.underlying e = some (.int k)) (hi : (P.info? e).isSome = true) (hc : P.cellsOf e = 1) (xs ys : List Nat) (hx : xs.length = n) (hy : ys.length = n) (w : World) :
    (binOp .neq t (.agg (ints k xs)) (.agg (ints k ys))).run P w = .ok (.bool (!(xs == ys))) w := by
  obtain ⟨i, hi⟩ := Option.isSome_iff_exists.1 hi
  have h := run_equalIn_array (P := P) (w := w) 9999 (ints k xs) (ints k ys) ht hi
  rw [run_eqItems_ints w 9998 he hc xs ys (List.range n) (fun j hj => by rw [List.mem_range] at hj; omega)] at h
  have h2 := all_getD_eq (hx.trans hy.symm)
  rw [hx] at h2
  rw [h2] at h
  simp only [binOp]
  simp only [Op.equal, Op.maxDepth, Sem.run_bind, h, Result.andThen_ok, Sem.run_pure]

/-- A number of an array value. -/
theorem run_index_ints {t e n : Nat} {k : IntKind} (ht : P.underlying t = some (.array n e)) (he : P.underlying e = some (.int k)) (hc : (P.info? e).map (·.size) = some 1) {xs : List Nat} (hl : xs.length = n) {i : Nat} (hi : i < n) (w : World) :
    (Instr.index t (.agg (ints k xs)) (.int .i64 i)).run P w = .ok (.int k ((xs.getD i 0 : Nat) : Int)) w := by
  have gx : (ints k xs)[i]? = some (.int k ((xs.getD i 0 : Nat) : Int)) := by rw [ints_get, getD_lt (by omega)]; rfl
  obtain ⟨d, hd, hd1⟩ := Option.map_eq_some_iff.1 hc
  simp [Instr.index, asIntOf, sizeOf, typeInfo, hd, hd1, Sem.run_bind, run_underlying ht, run_underlying he, part, isAgg, gx, hi]
/-! ### a statement whose order is open and whose calls make memory but change none: one walk in the order of the text -/
theorem enters {f : FuncId} {fn : Func} (hf : P.funcs[f]? = some fn) (hn : (fn.name == "runtime.NumGoroutine") = false) (hb : fn.body.isNone = false) (args : Array Value) (w : World) :
    (callFunc f args).run P w = .ok (.enter f args) w := by
  simp only [callFunc, Sem.run_bind, run_program, Result.andThen_ok, hf]
  rw [if_neg (by rw [hn]; exact Bool.false_ne_true), if_neg (by rw [hb]; exact Bool.false_ne_true)]
  simp
theorem wp_region_below {l : List Oper} {Q : Exit → Act → World → Prop} {rid : Nat} {a : Act} {w : World} (hm : P.follows .mixedOrders = true) (hB : Region.lexB .any l.toArray = true)
    (h : wpQuiet P l.toArray (Below w.heap.size w) (fun a' => ∀ w', Below w.heap.size w w' → Q .normal a' w') l a) : (Code.region rid l.toArray true).wp P Q a w :=
  wp_region_quiet (C := Below w.heap.size w) hm hB ⟨rfl, rfl, rfl, Nat.le_refl _, fun _ _ => rfl⟩ (by simpa using h)
section
variable {ops : Array Oper} {C : World → Prop} {K : Act → Prop} {o : Oper} {rest : List Oper} {a : Act} {w : World}
theorem quiet_skip (hw : Region.wanted o (yielded ops a.tmps) = false) (h : wpQuiet P ops C K rest (a.put o.dst undef)) : wpQuiet P ops C K (o :: rest) a := by
  unfold wpQuiet
  rw [if_neg (by rw [hw]; exact Bool.false_ne_true)]; exact h
theorem quiet_run {v : Value} (hw : Region.wanted o (yielded ops a.tmps) = true) (hr : ∀ W, (execOp a.eval o).run P W = .ok (.value v) W) (h : wpQuiet P ops C K rest (a.put o.dst v)) : wpQuiet P ops C K (o :: rest) a := by
  unfold wpQuiet
  rw [if_pos hw]
  refine ⟨v, fun W _ => ?_, h⟩
  unfold Oper.quietAt
  rw [hr W]; exact ⟨rfl, rfl⟩
theorem quiet_runC {v : Value} (hw : Region.wanted o (yielded ops a.tmps) = true) (hr : ∀ W, C W → (execOp a.eval o).run P W = .ok (.value v) W) (h : wpQuiet P ops C K rest (a.put o.dst v)) : wpQuiet P ops C K (o :: rest) a := by
  unfold wpQuiet
  rw [if_pos hw]
  refine ⟨v, fun W hC => ?_, h⟩
  unfold Oper.quietAt
  rw [hr W hC]; exact ⟨rfl, rfl⟩
theorem quiet_call {v : Value} (f : FuncId) {fn : Func} {xs : Array Operand} {ats : Array TypeId} (hw : Region.wanted o (yielded ops a.tmps) = true) (ho : o.op = .call { callee := .value (.func f), args := xs, argTypes := ats })
    (hf : P.funcs[f]? = some fn) (hn : (fn.name == "runtime.NumGoroutine") = false) (hb : fn.body.isNone = false)
    (hc : ∀ W, Below w.heap.size w W → Calls P f (xs.toList.map a.eval).toArray W fun e w' => e = .returned v ∧ Below W.heap.size W w')
    (h : wpQuiet P ops (Below w.heap.size w) K rest (a.put o.dst v)) : wpQuiet P ops (Below w.heap.size w) K (o :: rest) a := by
  unfold wpQuiet
  rw [if_pos hw]
  refine ⟨v, fun W hC => ?_, h⟩
  unfold Oper.quietAt
  have he : execOp a.eval o = callFunc f (#[] ++ xs.map a.eval ++ #[]) := by
    obtain ⟨dst, op, type, pos, after, guard⟩ := o
    subst ho
    rfl
  rw [he, enters hf hn hb]
  refine ⟨rfl, ?_⟩
  have e2 : #[] ++ xs.map a.eval ++ #[] = (xs.toList.map a.eval).toArray := by cases xs; simp
  rw [e2]
  exact (hc W hC).mono fun e w' ⟨h1, h2⟩ => ⟨h1, bCall hC h2 hC.size⟩
theorem quiet_load {T g n t : Nat} {k : IntKind} {xs : List Nat} {x : Operand} (hw : Region.wanted o (yielded ops a.tmps) = true) (ho : o.op = .load T x) (hx : a.eval x = .pointer (some ⟨g, 0, none⟩)) (hb : Blk w g t (ints k xs)) (ha : IsArr P T n) (hl : xs.length = n)
    (h : wpQuiet P ops (Below w.heap.size w) K rest (a.put o.dst (.agg (ints k xs)))) : wpQuiet P ops (Below w.heap.size w) K (o :: rest) a := by
  obtain ⟨⟨d, h1, hd⟩, h2⟩ := ha
  refine quiet_runC hw (fun W hC => ?_) h
  unfold execOp
  simp only [ho, hx, Instr.loadAt, Instr.sureAddr, Sem.run_bind, Sem.run_pure, Result.andThen_ok, run_loadVar_row W g t T _ _ _ (hb.below' hC) h1 (by cases d <;> first | rfl | cases hd) (by rw [ints_size, hl]; exact h2)]
theorem quiet_move {v : Value} {x : Operand} (hw : Region.wanted o (yielded ops a.tmps) = true) (ho : o.op = .move x) (hx : a.eval x = v) (h : wpQuiet P ops C K rest (a.put o.dst v)) : wpQuiet P ops C K (o :: rest) a :=
  quiet_run hw (fun W => by unfold execOp; simp only [ho, hx, Sem.run_bind, Sem.run_pure, Result.andThen_ok]) h
theorem quiet_assign {v : Value} {x : Operand} (hw : Region.wanted o (yielded ops a.tmps) = true) (ho : o.op = .assign x) (hx : a.eval x = v) (h : wpQuiet P ops C K rest (a.put o.dst v)) : wpQuiet P ops C K (o :: rest) a :=
  quiet_run hw (fun W => by unfold execOp; simp only [ho, hx, Sem.run_bind, Sem.run_pure, Result.andThen_ok]) h
theorem quiet_pick {b : Bool} {x y z : Operand} {v u : Value} (hw : Region.wanted o (yielded ops a.tmps) = true) (ho : o.op = .pick x y z) (hx : a.eval x = .bool b) (hy : a.eval y = v) (hz : a.eval z = u) (h : wpQuiet P ops C K rest (a.put o.dst (if b then v else u))) : wpQuiet P ops C K (o :: rest) a :=
  quiet_run hw (fun W => by unfold execOp; simp only [ho, hx, hy, hz, Sem.run_bind, Sem.run_pure, Result.andThen_ok]; cases b <;> simp [Sem.run_bind, asBool]) h
theorem quiet_eql {b : Bool} {x y : Operand} {T T' : TypeId} {xs ys : Array Value} (hw : Region.wanted o (yielded ops a.tmps) = true) (ho : o.op = .binOp .eql T x y T') (hx : a.eval x = .agg xs) (hy : a.eval y = .agg ys) (hm : P.eqGuardType P.depth T = false)
    (hr : ∀ W, (binOp .eql T (.agg xs) (.agg ys)).run P W = .ok (.bool b) W) (h : wpQuiet P ops C K rest (a.put o.dst (.bool b))) : wpQuiet P ops C K (o :: rest) a :=
  quiet_run hw (fun W => by unfold execOp; simp only [ho, hx, hy, Sem.run_bind, Sem.run_pure, Result.andThen_ok, run_eqGuard_agg W .eql T x y xs ys hm, hr]) h
theorem quiet_neq {b : Bool} {x y : Operand} {T T' : TypeId} {xs ys : Array Value} (hw : Region.wanted o (yielded ops a.tmps) = true) (ho : o.op = .binOp .neq T x y T') (hx : a.eval x = .agg xs) (hy : a.eval y = .agg ys) (hm : P.eqGuardType P.depth T = false)
    (hr : ∀ W, (binOp .neq T (.agg xs) (.agg ys)).run P W = .ok (.bool b) W) (h : wpQuiet P ops C K rest (a.put o.dst (.bool b))) : wpQuiet P ops C K (o :: rest) a :=
  quiet_run hw (fun W => by unfold execOp; simp only [ho, hx, hy, Sem.run_bind, Sem.run_pure, Result.andThen_ok, run_eqGuard_agg W .neq T x y xs ys hm, hr]) h
theorem quiet_eqlBool {b c : Bool} {x y : Operand} {T T' : TypeId} (hw : Region.wanted o (yielded ops a.tmps) = true) (ho : o.op = .binOp .eql T x y T') (hx : a.eval x = .bool b) (hy : a.eval y = .bool c)
    (ht : P.underlying T = some .bool) (h : wpQuiet P ops C K rest (a.put o.dst (.bool (b == c)))) : wpQuiet P ops C K (o :: rest) a := by
  refine quiet_run hw (fun W => ?_) h
  have h1 := run_equalIn_bool' (P := P) W 9999 T b c ht
  unfold execOp
  simp only [ho, hx, hy, Sem.run_bind, Sem.run_pure, Result.andThen_ok]
  simp [binOp, Op.equal, Op.maxDepth, h1, eqGuard, Sem.run_bind]
end

/-! ### the steps of a walk over an invariant ('wp_region_inv') -/
section
variable {ops : Array Oper} {Q : Exit → Act → World → Prop} {K : Act → World → Prop} {i : Nat} {o : Oper} {a : Act} {w : World}
theorem wpOp_value {v : Value} (hi : ops[i]? = some o) (hw : Region.wanted o (yielded ops a.tmps) = true) (hr : (execOp a.eval o).run P w = .ok (.value v) w) (h : K (a.put o.dst v) w) : wpOp P ops Q i K a w := by
  unfold wpOp
  simp only [hi, hw, if_true, Oper.wp, hr, Oper.upon]
  exact .inl h
theorem wpOp_call {v : Value} (f : FuncId) {fn : Func} {xs : Array Operand} {ats : Array TypeId} (hi : ops[i]? = some o) (hw : Region.wanted o (yielded ops a.tmps) = true) (ho : o.op = .call { callee := .value (.func f), args := xs, argTypes := ats })
    (hf : P.funcs[f]? = some fn) (hn : (fn.name == "runtime.NumGoroutine") = false) (hb : fn.body.isNone = false)
    (hc : Calls P f (xs.toList.map a.eval).toArray w fun e w' => e = .returned v ∧ Below w.heap.size w w') (h : ∀ w', Below w.heap.size w w' → K (a.put o.dst v) w') : wpOp P ops Q i K a w := by
  have he : execOp a.eval o = callFunc f (#[] ++ xs.map a.eval ++ #[]) := by
    obtain ⟨dst, op, type, pos, after, guard⟩ := o
    subst ho
    rfl
  unfold wpOp
  simp only [hi, hw, if_true, Oper.wp, he, enters hf hn hb, Oper.upon]
  have e2 : #[] ++ xs.map a.eval ++ #[] = (xs.toList.map a.eval).toArray := by cases xs; simp
  rw [e2]
  exact .inl (hc.mono fun e w' ⟨h1, h2⟩ => by subst h1; exact h w' h2)
theorem wpOp_load {T g n t : Nat} {k : IntKind} {xs : List Nat} {x : Operand} (hi : ops[i]? = some o) (hw : Region.wanted o (yielded ops a.tmps) = true) (ho : o.op = .load T x) (hx : a.eval x = .pointer (some ⟨g, 0, none⟩)) (hb : Blk w g t (ints k xs)) (ha : IsArr P T n) (hl : xs.length = n)
    (h : K (a.put o.dst (.agg (ints k xs))) w) : wpOp P ops Q i K a w := by
  obtain ⟨⟨d, h1, hd⟩, h2⟩ := ha
  refine wpOp_value hi hw ?_ h
  unfold execOp
  simp only [ho, hx, Instr.loadAt, Instr.sureAddr, Sem.run_bind, Sem.run_pure, Result.andThen_ok, run_loadVar_row w g t T _ _ _ hb h1 (by cases d <;> first | rfl | cases hd) (by rw [ints_size, hl]; exact h2)]
theorem wpOp_alloc {T n : Nat} {k : IntKind} (hi : ops[i]? = some o) (hw : Region.wanted o (yielded ops a.tmps) = true) (ho : o.op = .alloc T) (hz : IsZero P T n k)
    (h : K (a.put o.dst (.pointer (some ⟨w.heap.size, 0, none⟩))) (w.alloc (.cells (ints k (zeros n)) T))) : wpOp P ops Q i K a w := by
  have hr : (execOp a.eval o).run P w = .ok (.value (.pointer (some ⟨w.heap.size, 0, none⟩))) (w.alloc (.cells (ints k (zeros n)) T)) := by
    unfold execOp
    simp only [ho, Sem.run_bind, run_alloc_ints hz, Result.andThen_ok, Sem.run_pure]
  unfold wpOp
  simp only [hi, hw, if_true, Oper.wp, hr, Oper.upon]
  exact .inl h
theorem wpOp_store {T g n t : Nat} {k : IntKind} {xs : List Nat} {x y : Operand} {old : Array Value} (hi : ops[i]? = some o) (hw : Region.wanted o (yielded ops a.tmps) = true) (ho : o.op = .store T x y) (hx : a.eval x = .pointer (some ⟨g, 0, none⟩)) (hy : a.eval y = .agg (ints k xs))
    (hb : Blk w g t old) (hold : old.size = n) (ha : IsArr P T n) (hl : xs.length = n)
    (h : K (a.put o.dst undef) (w.setRow g (ints k xs))) : wpOp P ops Q i K a w := by
  unfold wpOp
  simp only [hi, hw, if_true]
  exact .inl (wp_store_row T x y ho g _ hx hy t old hb (by rw [ints_size, hl]; exact ha.2) (by rw [ints_size, hold, hl]) (ints_one _ _) h)
end

theorem pre_of {o : Oper} {D : Nat → Prop} (hall : ∀ e ∈ o.after, Region.binds .any e = true → D e.on) (j : Nat) (h : (o.after.toList.any fun e => e.on == j && Region.binds .any e) = true) : D j := by
  obtain ⟨e, he, hb⟩ := List.any_eq_true.1 h
  rw [Array.mem_toList_iff] at he
  simp only [Bool.and_eq_true, beq_iff_eq] at hb
  rw [← hb.1]; exact hall e he hb.2
/-- A pointer to a new block (from B on) of n numbers; once 'st' holds they are xs. -/
def Al (W : World) (B : Nat) (v : Value) (T n : Nat) (k : IntKind) (st : Prop) (xs : List Nat) : Prop :=
  ∃ g l, v = .pointer (some ⟨g, 0, none⟩) ∧ B ≤ g ∧ l.length = n ∧ Blk W g T (ints k l) ∧ (st → l = xs)
section
variable {W W' : World} {B T m : Nat} {v u : Value} {k : IntKind} {st st' : Prop} {xs : List Nat}
theorem Al.same (h : Al W B v T m k st xs) (hs : st' → st) : Al W B v T m k st' xs := let ⟨g, l, h1, h2, h3, h4, h5⟩ := h; ⟨g, l, h1, h2, h3, h4, fun x => h5 (hs x)⟩
theorem Al.below (h : Al W B v T m k st xs) (hb : Below W.heap.size W W') (hs : st' → st) : Al W' B v T m k st' xs := let ⟨g, l, h1, h2, h3, h4, h5⟩ := h; ⟨g, l, h1, h2, h3, h4.below' hb, fun x => h5 (hs x)⟩
theorem Al.alloc (h : Al W B v T m k st xs) (o : Obj) (hs : st' → st) : Al (W.alloc o) B v T m k st' xs := let ⟨g, l, h1, h2, h3, h4, h5⟩ := h; ⟨g, l, h1, h2, h3, h4.alloc o, fun x => h5 (hs x)⟩
theorem Al.new (hB : B ≤ W.heap.size) (hs : st → zeros m = xs) : Al (W.alloc (.cells (ints k (zeros m)) T)) B (.pointer (some ⟨W.heap.size, 0, none⟩)) T m k st xs := ⟨_, _, rfl, hB, zeros_len m, Blk.new _ _ _, hs⟩
theorem Al.set {g : Nat} {old : Array Value} (hb : Blk W g T old) (hB : B ≤ g) (hl : xs.length = m) : Al (W.setRow g (ints k xs)) B (.pointer (some ⟨g, 0, none⟩)) T m k st xs := ⟨g, xs, rfl, hB, hl, hb.row _, fun _ => rfl⟩
theorem Al.far (h : Al W B v T m k st xs) {g : Nat} {ys : List Nat} {k' : IntKind} (hne : v ≠ .pointer (some ⟨g, 0, none⟩)) (hs : st' → st) : Al (W.setRow g (ints k' ys)) B v T m k st' xs :=
  let ⟨g', l, h1, h2, h3, h4, h5⟩ := h
  ⟨g', l, h1, h2, h3, h4.rowFar (fun e => hne (by rw [h1, e])) _, fun x => h5 (hs x)⟩
theorem Al.ne_new (h : Al W B v T m k st xs) : v ≠ .pointer (some ⟨W.heap.size, 0, none⟩) := by
  obtain ⟨g, l, rfl, -, -, h4, -⟩ := h
  intro e
  have := h4.lt
  injection e with e
  injection e with e
  injection e with e
  omega
theorem Al.ne_new' (h : Al W B v T m k st xs) : .pointer (some ⟨W.heap.size, 0, none⟩) ≠ v := fun e => h.ne_new e.symm
end
end
end Go.Proofs.Ytehhipanbjhffaa
