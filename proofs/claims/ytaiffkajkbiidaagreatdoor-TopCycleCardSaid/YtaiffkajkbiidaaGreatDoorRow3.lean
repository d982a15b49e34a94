/- Slices of arrays, slices of slices and structs of slices that came in. No condition. -/
import Derived.Test.YtaiffkajkbiidaaGreatDoorRA
import Derived.Test.YtaiffkajkbiidaaGreatDoorKA
import Derived.Deep.Slices
import Derived.Deep.Matrix
import Derived.Test.YtaiffkajkbiidaaGreatDoorOA
namespace Go.Proofs.YtaiffkajkbiidaaGreatDoor
set_option linter.unusedSimpArgs false
set_option linter.unusedVariables false
set_option linter.unusedSectionVars false
set_option linter.unusedVariables false
open Go.RowKit Go.ChangeShapes Go.WideShapes Go.ChangeAt Go.Deep
/-- The elements of a slice of arrays of n numbers each. -/
def SlA (w : World) (a : Option Addr) (k : IntKind) (n : Nat) (xss : List (List Nat)) : Prop :=
  ∀ i, i < xss.length → ∃ g off, a = some ⟨g, off, none⟩ ∧ g < w.heap.size ∧ w.rangeAt g (off + i * n) (vals k (xss.getD i []))
section
variable {w w' : World} {a : Option Addr} {k : IntKind} {n : Nat} {xss : List (List Nat)}
theorem SlA.below (h : SlA w a k n xss) (hb : Below w.heap.size w w') : SlA w' a k n xss := fun i hi => by
  obtain ⟨g, off, h1, h2, h3⟩ := h i hi
  exact ⟨g, off, h1, Nat.lt_of_lt_of_le h2 hb.size, fun j v hv => (hb.cell (p := ⟨g, _, none⟩) h2).trans (h3 j v hv)⟩
theorem range_sl {g o : Nat} {xs : List Nat} (hg : g < w.heap.size) (h : w.rangeAt g o (vals k xs)) : Sl w (some ⟨g, o, none⟩) k xs := fun _ =>
  ⟨g, o, rfl, hg, fun i hi => h i _ (by unfold vals; rw [List.getElem?_map, getD_lt hi]; rfl)⟩
end
section
variable {H : Type} {enc : TypeId × Value → H} {P : Program} {W : World} {base : Nat} {sp : Nat → Bool} {hd : Bool} {k : IntKind}
theorem ints_of_trod {t e n fuel : Nat} {cs : List Value} {x : DataW H × List MemPlace} (ht : P.underlying t = some (.array n e)) (he : P.underlying e = some (.int k)) (hce : P.cellsOf e = 1) (hct : P.cellsOf t = n) (hk : k.signed = false)
    (hf : DataW.trod enc P W base sp hd fuel t cs = some x) : ∃ xs : List Nat, cs = vals k xs ∧ xs.length = n ∧ ∀ x ∈ xs, x < 2 ^ k.bits := by
  obtain ⟨ys, m, -, -, hlen, hyl, each⟩ := DataW.trod_array ht hf
  rw [hct] at hlen
  simp only [hce, Nat.mul_one] at each
  have one : ∀ i, i < n → ∃ x : Nat, cs[i]? = some (.int k (x : Int)) ∧ x < 2 ^ k.bits := by
    intro i hi
    have h1 := each i hi
    have h2 : ys[i]? = some ys[i] := List.getElem?_eq_getElem (by omega)
    rw [h2] at h1
    have h3 : (cs.drop i).take 1 = [cs[i]'(by omega)] := by
      rw [List.drop_eq_getElem_cons (by omega)]; rfl
    rw [h3] at h1
    obtain ⟨z, e0, -, hw⟩ := DataW.trod_int he h1
    obtain ⟨x, rfl, hx⟩ := nat_of_wf hk hw
    refine ⟨x, ?_, hx⟩
    rw [List.getElem?_eq_getElem (by omega)]
    simpa using e0
  refine ⟨(List.range n).map fun i => if h : i < n then Classical.choose (one i h) else 0, ?_, by simp, ?_⟩
  · unfold vals
    apply List.ext_getElem? fun i => ?_
    rw [List.getElem?_map, List.getElem?_map]
    by_cases hi : i < n
    · rw [List.getElem?_range hi]
      simp only [Option.map_some, dif_pos hi]
      exact (Classical.choose_spec (one i hi)).1
    · rw [List.getElem?_eq_none (by omega), List.getElem?_eq_none (by simp; omega)]; rfl
  · intro x hx
    obtain ⟨i, hi, rfl⟩ := List.mem_map.1 hx
    rw [List.mem_range] at hi
    rw [dif_pos hi]
    exact (Classical.choose_spec (one i hi)).2
/-- An array of two arrays. -/
theorem ints_of_trod2 {t q e n fuel : Nat} {cs : List Value} {x : DataW H × List MemPlace} (ht : P.underlying t = some (.array 2 q)) (hq : P.underlying q = some (.array n e)) (he : P.underlying e = some (.int k)) (hce : P.cellsOf e = 1) (hcq : P.cellsOf q = n) (hct : P.cellsOf t = 2 * n) (hk : k.signed = false)
    (hf : DataW.trod enc P W base sp hd fuel t cs = some x) : ∃ xs : List Nat, cs = vals k xs ∧ xs.length = 2 * n ∧ ∀ x ∈ xs, x < 2 ^ k.bits := by
  obtain ⟨ys, m, -, -, hlen, hyl, each⟩ := DataW.trod_array ht hf
  rw [hct] at hlen
  rw [hcq] at each
  have h0 := each 0 (by omega)
  have h1 := each 1 (by omega)
  rw [List.getElem?_eq_getElem (by omega)] at h0 h1
  obtain ⟨x0, e0, l0, b0⟩ := ints_of_trod hq he hce hcq hk h0
  obtain ⟨x1, e1, l1, b1⟩ := ints_of_trod hq he hce hcq hk h1
  refine ⟨x0 ++ x1, ?_, by rw [List.length_append]; omega, fun x hx => (List.mem_append.1 hx).elim (b0 x) (b1 x)⟩
  have e : cs = (cs.drop (0 * n)).take n ++ (cs.drop (1 * n)).take n := by
    rw [Nat.zero_mul, List.drop_zero, Nat.one_mul, List.take_of_length_le (l := cs.drop n) (by rw [List.length_drop]; omega), List.take_append_drop]
  rw [e, e0, e1]
  simp [vals]
theorem open_slA {t e m : Nat} {v : Value} {d : DataW H} {p : List MemPlace} (ht : P.underlying t = some (.slice e)) (ce : P.cellsOf e = m)
    (hel : ∀ (fuel : Nat) (cs : List Value) (x : DataW H × List MemPlace), DataW.trod enc P W 0 (fun _ => true) true fuel e cs = some x → ∃ xs : List Nat, cs = vals k xs ∧ xs.length = m ∧ ∀ x ∈ xs, x < 2 ^ k.bits) (hm : 0 < m)
    {r : Reach} {b : Nat} (hv : Value.okWide P W r b t v) (h : DataW.Trod enc P W 0 (fun _ => true) true t v d p) :
    ∃ (a : Option Addr) (c : Nat) (xss : List (List Nat)), v = .slice a xss.length c ∧ SlA W a k m xss ∧ xss.length ≤ c ∧ c ≤ maxLen ∧ (∀ xs ∈ xss, xs.length = m ∧ ∀ x ∈ xs, x < 2 ^ k.bits) ∧ (a = none → c = 0) := by
  obtain ⟨a, len, cap, rfl⟩ := okWide_slice ht hv
  have lt : ∀ x ∈ p, x.block < W.heap.size := by obtain ⟨m, hm⟩ := h; exact DataW.trod_lt m _ _ _ hm
  obtain ⟨fuel, hf⟩ := h
  rcases open_slice ht hf with ⟨hcs, _⟩ | ⟨a', len', cap', M, nn, D, Pl, hcs, -, hl, hcm, hM, -, hx⟩
  · simp [Value.cells] at hcs
    obtain ⟨rfl, rfl, rfl⟩ := hcs
    exact ⟨none, 0, [], rfl, (fun i hi => by simp at hi), Nat.le_refl _, by simp [maxLen], by simp, fun _ => rfl⟩
  · simp [Value.cells] at hcs
    obtain ⟨rfl, rfl, rfl⟩ := hcs
    simp only [if_true] at hM
    have hMl : len ≤ M := by omega
    have each : ∀ i, i < len → ∃ xs : List Nat, xs.length = m ∧ (∀ x ∈ xs, x < 2 ^ k.bits) ∧ a'.block < W.heap.size ∧ ∃ off, a' = ⟨a'.block, off, none⟩ ∧ W.rangeAt a'.block (off + i * m) (vals k xs) := by
      intro i hi
      obtain ⟨cs', h1, h2⟩ := hx i (by omega)
      obtain ⟨xs, rfl, hxl, hxb⟩ := hel _ _ _ h2
      obtain ⟨-, hlen, hcell⟩ := World.cells?_some h1
      rw [ce] at hcell h1
      have hc0 := hcell 0 (by omega)
      have hsm : ∃ u, W.cell? ((a'.add (i * m)).add 0) = some u := by
        rw [hc0]
        exact ⟨_, List.getElem?_eq_getElem (by rw [vals_len]; omega)⟩
      obtain ⟨u, hu⟩ := hsm
      have hsp : a'.spot = none := by
        obtain ⟨cs0, q1, q2⟩ := hx 0 (by omega)
        obtain ⟨xs0, rfl, hxl0, -⟩ := hel _ _ _ q2
        obtain ⟨-, -, hcell0⟩ := World.cells?_some q1
        rw [ce] at hcell0
        have h00 := hcell0 0 (by omega)
        rw [Nat.zero_mul, show a'.add 0 = a' by simp [Addr.add], show a'.add 0 = a' by simp [Addr.add], List.getElem?_eq_getElem (by rw [vals_len]; omega)] at h00
        cases hs : a'.spot with
        | none => rfl
        | some s => exfalso; unfold World.cell? at h00; split at h00 <;> simp [hs] at h00
      obtain ⟨g, off, s⟩ := a'
      obtain rfl : s = none := hsp
      refine ⟨xs, hxl, hxb, ?_, off, rfl, ?_⟩
      · have := World.block_lt_of_cell? _ _ hu
        rw [Addr.add_mid, Addr.add_mid] at this; exact this
      · intro j v hj
        have hjl := (List.getElem?_eq_some_iff.1 hj).1
        rw [vals_len] at hjl
        have h3 := hcell j (by omega)
        rw [Addr.add_mid, Addr.add_mid] at h3
        exact h3.trans hj
    have hex : ∃ f : Nat → List Nat, ∀ i, i < len → (f i).length = m ∧ (∀ x ∈ f i, x < 2 ^ k.bits) ∧ a'.block < W.heap.size ∧ ∃ off, a' = ⟨a'.block, off, none⟩ ∧ W.rangeAt a'.block (off + i * m) (vals k (f i)) := by
      refine ⟨fun i => if h : i < len then Classical.choose (each i h) else [], fun i hi => ?_⟩
      simp only [dif_pos hi]
      exact Classical.choose_spec (each i hi)
    obtain ⟨f, hfe⟩ := hex
    have hgl : ∀ i, i < len → ((List.range len).map f).getD i [] = f i := fun i hi => by
      rw [List.getD_eq_getElem?_getD, List.getElem?_map, List.getElem?_range hi]; rfl
    refine ⟨some a', cap, (List.range len).map f, by simp, ?_, by simpa using hl, hcm, ?_, fun h => by cases h⟩
    · intro i hi
      rw [List.length_map, List.length_range] at hi
      obtain ⟨-, -, h3, off, h4, h5⟩ := hfe i hi
      rw [hgl i hi]
      exact ⟨a'.block, off, by rw [← h4], h3, h5⟩
    · intro xs hxs
      obtain ⟨i, hi, rfl⟩ := List.mem_map.1 hxs
      rw [List.mem_range] at hi
      exact ⟨(hfe i hi).1, (hfe i hi).2.1⟩
theorem sl_of_cells {A : Option Addr} {L C : Nat} {Z : List Int} (hk : k.signed = false) (hLC : L ≤ C) (hZ : Z.length = C) (hw : ∀ n ∈ Z, (Lit.int k n).wf = true) (hA : A = none → C = 0)
    (hc : ∀ a', A = some a' → ∀ c, c < C → W.cell? (a'.add c) = some (.int k (Z.getD c 0))) : ∃ xs : List Nat, xs.length = L ∧ Sl W A k xs ∧ ∀ x ∈ xs, x < 2 ^ k.bits := by
  have each : ∀ i, i < Z.length → ∃ y : Nat, Z.getD i 0 = y ∧ y < 2 ^ k.bits := fun i hi => nat_of_wf hk (hw _ (by rw [List.getD_eq_getElem?_getD, List.getElem?_eq_getElem hi]; exact List.getElem_mem hi))
  have hxl : ((Z.take L).map Int.toNat).length = L := by simp; omega
  refine ⟨(Z.take L).map Int.toNat, hxl, fun hne => ?_, fun y hy => ?_⟩
  · have hpos : 0 < L := by
      refine Nat.pos_of_ne_zero fun h0 => hne ?_
      apply List.length_eq_zero_iff.1; rw [hxl, h0]
    cases A with
    | none => have := hA rfl; omega
    | some x =>
      have hcell := hc x rfl
      have hc0 := hcell 0 (by omega)
      have hsp : x.spot = none := by
        have h1 : x.add 0 = x := by simp [Addr.add]
        rw [h1] at hc0
        cases hs : x.spot with
        | none => rfl
        | some s => exfalso; unfold World.cell? at hc0; split at hc0 <;> simp [hs] at hc0
      obtain ⟨g, off, s⟩ := x
      obtain rfl : s = none := hsp
      refine ⟨g, off, rfl, ?_, fun i hi => ?_⟩
      · have := World.block_lt_of_cell? _ _ hc0
        rw [Addr.add_mid] at this; exact this
      · rw [hxl] at hi
        obtain ⟨y, hy, -⟩ := each i (by omega)
        have e : ((Z.take L).map Int.toNat).getD i 0 = (Z.getD i 0).toNat := by
          simp [List.getD_eq_getElem?_getD, List.getElem?_map, List.getElem?_take, hi, List.getElem?_eq_getElem (show i < Z.length by omega)]
        rw [← Addr.add_mid, hcell i (by omega), e, hy]; simp
  · obtain ⟨z, hz1, rfl⟩ := List.mem_map.1 hy
    obtain ⟨y, rfl, hy2⟩ := nat_of_wf hk (hw z (List.mem_of_mem_take hz1))
    simpa using hy2
theorem sl_of_trod {t e fuel : Nat} {cs : List Value} {x : DataW H × List MemPlace} (ht : P.underlying t = some (.slice e)) (he : P.underlying e = some (.int k)) (hce : P.cellsOf e = 1) (hk : k.signed = false)
    (hf : DataW.trod enc P W base (fun _ => true) hd fuel t cs = some x) : ∃ (a : Option Addr) (c : Nat) (xs : List Nat), cs = [.slice a xs.length c] ∧ Sl W a k xs ∧ xs.length ≤ c ∧ c ≤ maxLen ∧ (∀ x ∈ xs, x < 2 ^ k.bits) ∧ (a = none → c = 0) := by
  rcases open_ints ht he hce hf with ⟨rfl, _⟩ | ⟨x, l, c, zs, rfl, _, hl, hm, hz, hx, hcell, hwz⟩
  · exact ⟨none, 0, [], rfl, Sl.nil _ _ _, Nat.le_refl _, by simp [maxLen], by simp, fun _ => rfl⟩
  · have hzc : zs.length = c := by simpa using hz
    obtain ⟨xs, h1, h2, h3⟩ := sl_of_cells (W := W) (A := some x) (L := l) (C := c) (Z := zs) hk hl hzc hwz (fun h => by cases h) (fun a' ha i hi => by cases ha; exact hcell i (by omega))
    exact ⟨some x, c, xs, by rw [h1], h2, by omega, hm, h3, fun h => by cases h⟩
theorem open_slS {t e q : Nat} {v : Value} {d : DataW H} {p : List MemPlace} (ht : P.underlying t = some (.slice e)) (he : P.underlying e = some (.slice q)) (hq : P.underlying q = some (.int .u8)) (ce : P.cellsOf e = 1) (cq : P.cellsOf q = 1)
    {r : Reach} {b : Nat} (hv : Value.okWide P W r b t v) (h : DataW.Trod enc P W 0 (fun _ => true) true t v d p) :
    ∃ (a : Option Addr) (c : Nat) (xss : List (List Nat)), v = .slice a xss.length c ∧ SlS W a xss ∧ xss.length ≤ c ∧ c ≤ maxLen ∧ (∀ xs ∈ xss, ∀ x ∈ xs, x < 256) ∧ (∀ xs ∈ xss, xs.length ≤ maxLen) ∧ (a = none → c = 0) := by
  obtain ⟨a, len, cap, rfl⟩ := okWide_slice ht hv
  have lt : ∀ x ∈ p, x.block < W.heap.size := by obtain ⟨m, hm⟩ := h; exact DataW.trod_lt m _ _ _ hm
  obtain ⟨fuel, hf⟩ := h
  rcases open_int_rows ht he hq ce cq hf with ⟨hcs, _⟩ | ⟨a', len', cap', A, L, C, Z, hcs, -, hl, hm, -, hx⟩
  · simp [Value.cells] at hcs
    obtain ⟨rfl, rfl, rfl⟩ := hcs
    exact ⟨none, 0, [], rfl, (fun i hi => by simp at hi), Nat.le_refl _, by simp [maxLen], by simp, by simp, fun _ => rfl⟩
  · simp [Value.cells] at hcs
    obtain ⟨rfl, rfl, rfl⟩ := hcs
    have each : ∀ i, i < len → ∃ xs : List Nat, xs.length = L i ∧ Sl W (A i) .u8 xs ∧ ∀ x ∈ xs, x < 256 := fun i hi => by
      obtain ⟨-, r1, r2, r3, r4, r5, r6⟩ := hx i (by omega)
      exact sl_of_cells (k := .u8) rfl r1 r3 r4 r5 (fun a' ha c hc => (r6 a' ha).2 c hc)
    have hex : ∃ f : Nat → List Nat, ∀ i, i < len → (f i).length = L i ∧ Sl W (A i) .u8 (f i) ∧ ∀ x ∈ f i, x < 256 := by
      refine ⟨fun i => if h : i < len then Classical.choose (each i h) else [], fun i hi => ?_⟩
      simp only [dif_pos hi]
      exact Classical.choose_spec (each i hi)
    obtain ⟨f, hfe⟩ := hex
    have hgl : ∀ i, i < len → ((List.range len).map f).getD i [] = f i := fun i hi => by
      rw [List.getD_eq_getElem?_getD, List.getElem?_map, List.getElem?_range hi]; rfl
    have hsp : 0 < len → a'.spot = none := fun h0 => by
      obtain ⟨c0, -⟩ := hx 0 (by omega)
      rw [show a'.add 0 = a' by simp [Addr.add]] at c0
      cases hs : a'.spot with
      | none => rfl
      | some s => exfalso; unfold World.cell? at c0; split at c0 <;> simp [hs] at c0
    refine ⟨some a', cap, (List.range len).map f, by simp, ?_, by simpa using hl, hm, ?_, ?_, fun h => by cases h⟩
    · intro i hi
      rw [List.length_map, List.length_range] at hi
      obtain ⟨c1, r1, r2, r3, r4, r5, r6⟩ := hx i (by omega)
      obtain ⟨h1, h2, h3⟩ := hfe i hi
      rw [hgl i hi]
      obtain ⟨g, off, s⟩ := a'
      obtain rfl : s = none := hsp (by omega)
      rw [Addr.add_mid] at c1
      exact ⟨g, off, A i, C i, rfl, World.block_lt_of_cell? _ _ c1, by rw [h1]; exact c1, h2, r5⟩
    · intro xs hxs
      obtain ⟨i, hi, rfl⟩ := List.mem_map.1 hxs
      rw [List.mem_range] at hi
      exact (hfe i hi).2.2
    · intro xs hxs
      obtain ⟨i, hi, rfl⟩ := List.mem_map.1 hxs
      rw [List.mem_range] at hi
      obtain ⟨-, r1, r2, -⟩ := hx i (by omega)
      rw [(hfe i hi).1]; omega
/-- A struct of two byte slices. -/
theorem open_two {t T e : Nat} {fs : Array Field} {f0 f1 : Field} {v : Value} {d : DataW H} {p : List MemPlace} (ht : P.underlying t = some (.struct fs)) (h0 : fs[0]? = some f0) (h1 : fs[1]? = some f1) (o0 : f0.offset = 0) (o1 : f1.offset = 1) (t0 : f0.type = T) (t1 : f1.type = T) (hs : fs.size = 2)
    (hT : P.underlying T = some (.slice e)) (he : P.underlying e = some (.int .u8)) (hce : P.cellsOf e = 1) (cT : P.cellsOf T = 1) (ct : P.cellsOf t = 2)
    {r : Reach} {b : Nat} (hv : Value.okWide P W r b t v) (h : DataW.Trod enc P W 0 (fun _ => true) true t v d p) :
    ∃ (a1 a2 : Option Addr) (c1 c2 : Nat) (xs ys : List Nat), v = .agg #[.slice a1 xs.length c1, .slice a2 ys.length c2] ∧ Sl W a1 .u8 xs ∧ Sl W a2 .u8 ys ∧ (∀ x ∈ xs, x < 256) ∧ (∀ x ∈ ys, x < 256) ∧ (a1 = none → c1 = 0) ∧ (a2 = none → c2 = 0) := by
  simp only [Value.okWide, ht] at hv
  obtain ⟨cs, rfl, hsz, -⟩ := hv
  obtain ⟨fuel, hf⟩ := h
  obtain ⟨xs, n, -, -, hlen, hxl, each⟩ := DataW.trod_struct ht hf
  have hcs : (Value.agg cs).cells.toList = cs.toList := rfl
  rw [hcs] at each hlen
  rw [ct] at hsz
  have e0 := each 0 f0 h0
  have e1 := each 1 f1 h1
  rw [o0, t0, cT, List.getElem?_eq_getElem (by omega)] at e0
  rw [o1, t1, cT, List.getElem?_eq_getElem (by omega)] at e1
  obtain ⟨a1, c1, x1, q1, s1, -, -, b1, n1⟩ := sl_of_trod (k := .u8) hT he hce rfl e0
  obtain ⟨a2, c2, x2, q2, s2, -, -, b2, n2⟩ := sl_of_trod (k := .u8) hT he hce rfl e1
  refine ⟨a1, a2, c1, c2, x1, x2, ?_, s1, s2, b1, b2, n1, n2⟩
  congr 1
  apply Array.ext'
  match hL : cs.toList, (show cs.toList.length = 2 by simpa using hsz) with
  | [u, v], _ =>
    rw [hL] at q1 q2
    simp at q1 q2
    rw [q1, q2]
end
end Go.Proofs.YtaiffkajkbiidaaGreatDoor
