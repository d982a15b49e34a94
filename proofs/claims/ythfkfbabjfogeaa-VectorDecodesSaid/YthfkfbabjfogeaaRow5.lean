/- A struct of a number, a byte slice and a slice of byte slices that came in. No condition. -/
import Derived.Test.YthfkfbabjfogeaaRow3
namespace Go.Proofs.Ythfkfbabjfogeaa
set_option linter.unusedSimpArgs false
set_option linter.unusedVariables false
set_option linter.unusedSectionVars false
set_option linter.unusedVariables false
open Go.RowKit Go.ChangeShapes Go.WideShapes Go.ChangeAt Go.Deep
section
variable {H : Type} {enc : TypeId × Value → H} {P : Program} {W : World} {base : Nat} {sp : Nat → Bool} {hd : Bool} {k : IntKind}
theorem slS_of_trod {t e q fuel : Nat} {cs : List Value} {x : DataW H × List MemPlace} (ht : P.underlying t = some (.slice e)) (he : P.underlying e = some (.slice q)) (hq : P.underlying q = some (.int .u8)) (ce : P.cellsOf e = 1) (cq : P.cellsOf q = 1)
    (hf : DataW.trod enc P W 0 (fun _ => true) true fuel t cs = some x) :
    ∃ (a : Option Addr) (c : Nat) (xss : List (List Nat)), cs = [.slice a xss.length c] ∧ SlS W a xss ∧ xss.length ≤ c ∧ c ≤ maxLen ∧ (∀ xs ∈ xss, ∀ x ∈ xs, x < 256) ∧ (∀ xs ∈ xss, xs.length ≤ maxLen) ∧ (a = none → c = 0) := by
  rcases open_int_rows ht he hq ce cq hf with ⟨hcs, _⟩ | ⟨a', len, cap, A, L, C, Z, hcs, -, hl, hm, -, hx⟩
  · subst hcs
    exact ⟨none, 0, [], rfl, (fun i hi => by simp at hi), Nat.le_refl _, by simp [maxLen], by simp, by simp, fun _ => rfl⟩
  · subst hcs
    have each : ∀ i, i < len → ∃ xs : List Nat, xs.length = L i ∧ Sl W (A i) .u8 xs ∧ ∀ x ∈ xs, x < 256 := fun i hi => by
      obtain ⟨-, r1, r2, r3, r4, r5, r6⟩ := hx i (by omega)
      exact sl_of_cells (k := .u8) rfl r1 r3 r4 r5 (fun a' ha c hc => (r6 a' ha).2 c hc)
    have hex : ∃ f : Nat → List Nat, ∀ i, i < len → (f i).length = L i ∧ Sl W (A i) .u8 (f i) ∧ ∀ x ∈ f i, x < 256 := by
      refine ⟨fun i => if h : i < len then Classical.choose (each i h) else [], fun i hi => ?_⟩
      simp only [dif_pos hi]
      exact Classical.choose_spec (each i hi)
    obtain ⟨f, hfe⟩ := hex
    have hgl : ∀ i, i < len → ((List.range len).map f).getD i [] = f i := fun i hi => by
      rw [List.getD_eq_getElem?_getD, List.getElem?_map, List.getElem?_range hi]; rfl
    have hsp : 0 < len → a'.spot = none := fun h0 => by
      obtain ⟨c0, -⟩ := hx 0 (by omega)
      rw [show a'.add 0 = a' by simp [Addr.add]] at c0
      cases hs : a'.spot with
      | none => rfl
      | some s => exfalso; unfold World.cell? at c0; split at c0 <;> simp [hs] at c0
    refine ⟨some a', cap, (List.range len).map f, by simp, ?_, by simpa using hl, hm, ?_, ?_, fun h => by cases h⟩
    · intro i hi
      rw [List.length_map, List.length_range] at hi
      obtain ⟨c1, r1, r2, r3, r4, r5, r6⟩ := hx i (by omega)
      obtain ⟨h1, h2, h3⟩ := hfe i hi
      rw [hgl i hi]
      obtain ⟨g, off, s⟩ := a'
      obtain rfl : s = none := hsp (by omega)
      rw [Addr.add_mid] at c1
      exact ⟨g, off, A i, C i, rfl, World.block_lt_of_cell? _ _ c1, by rw [h1]; exact c1, h2, r5⟩
    · intro xs hxs
      obtain ⟨i, hi, rfl⟩ := List.mem_map.1 hxs
      rw [List.mem_range] at hi
      exact (hfe i hi).2.2
    · intro xs hxs
      obtain ⟨i, hi, rfl⟩ := List.mem_map.1 hxs
      rw [List.mem_range] at hi
      obtain ⟨-, r1, r2, -⟩ := hx i (by omega)
      rw [(hfe i hi).1]; omega
/-- The cells of a context. -/
def ctxC (z : Int) (a1 a2 : Option Addr) (c1 c2 : Nat) (xs : List Nat) (xss : List (List Nat)) : Array Value := #[.int .i64 z, .slice a1 xs.length c1, .slice a2 xss.length c2]
theorem open_ctx {t I T S q : Nat} {fs : Array Field} {f0 f1 f2 : Field} {v : Value} {d : DataW H} {p : List MemPlace} (ht : P.underlying t = some (.struct fs)) (h0 : fs[0]? = some f0) (h1 : fs[1]? = some f1) (h2 : fs[2]? = some f2) (o0 : f0.offset = 0) (o1 : f1.offset = 1) (o2 : f2.offset = 2) (t0 : f0.type = I) (t1 : f1.type = T) (t2 : f2.type = S) (hs : fs.size = 3)
    (hI : P.underlying I = some (.int .i64)) (hT : P.underlying T = some (.slice q)) (hS : P.underlying S = some (.slice T)) (hq : P.underlying q = some (.int .u8)) (cI : P.cellsOf I = 1) (cT : P.cellsOf T = 1) (cS : P.cellsOf S = 1) (cq : P.cellsOf q = 1) (ct : P.cellsOf t = 3)
    {r : Reach} {b : Nat} (hv : Value.okWide P W r b t v) (h : DataW.Trod enc P W 0 (fun _ => true) true t v d p) :
    ∃ (z : Int) (a1 a2 : Option Addr) (c1 c2 : Nat) (xs : List Nat) (xss : List (List Nat)), v = .agg (ctxC z a1 a2 c1 c2 xs xss) ∧ (Lit.int .i64 z).wf = true ∧ Sl W a1 .u8 xs ∧ SlS W a2 xss ∧ (∀ x ∈ xs, x < 256) ∧ (∀ xs ∈ xss, ∀ x ∈ xs, x < 256) ∧ (a1 = none → c1 = 0) ∧ (a2 = none → c2 = 0) ∧ xs.length ≤ c1 ∧ xss.length ≤ c2 ∧ c1 ≤ maxLen ∧ c2 ≤ maxLen := by
  simp only [Value.okWide, ht] at hv
  obtain ⟨cs, rfl, hsz, -⟩ := hv
  obtain ⟨fuel, hf⟩ := h
  obtain ⟨xs, n, -, -, hlen, hxl, each⟩ := DataW.trod_struct ht hf
  have hcs : (Value.agg cs).cells.toList = cs.toList := rfl
  rw [hcs] at each hlen
  rw [ct] at hsz
  have e0 := each 0 f0 h0
  have e1 := each 1 f1 h1
  have e2 := each 2 f2 h2
  rw [o0, t0, cI, List.getElem?_eq_getElem (by omega)] at e0
  rw [o1, t1, cT, List.getElem?_eq_getElem (by omega)] at e1
  rw [o2, t2, cS, List.getElem?_eq_getElem (by omega)] at e2
  obtain ⟨z, q0, -, w0⟩ := DataW.trod_int hI e0
  obtain ⟨a1, c1, x1, q1, s1, m1, l1, b1, n1⟩ := sl_of_trod (k := .u8) hT hq cq rfl e1
  obtain ⟨a2, c2, x2, q2, s2, m2, l2, b2, -, n2⟩ := slS_of_trod hS hT hq cT cq e2
  refine ⟨z, a1, a2, c1, c2, x1, x2, ?_, w0, s1, s2, b1, b2, n1, n2, m1, m2, l1, l2⟩
  unfold ctxC
  congr 1
  apply Array.ext'
  match hL : cs.toList, (show cs.toList.length = 3 by simpa using hsz) with
  | [u0, u1, u2], _ =>
    rw [hL] at q0 q1 q2
    simp at q0 q1 q2
    rw [q0, q1, q2]
end
end Go.Proofs.Ythfkfbabjfogeaa
