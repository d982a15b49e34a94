/- A struct of four byte slices that came in. No condition. -/
import Derived.Test.YtolfngmpoafaaaaRow3
namespace Go.Proofs.Ytolfngmpoafaaaa
set_option linter.unusedSimpArgs false
set_option linter.unusedVariables false
set_option linter.unusedSectionVars false
set_option linter.unusedVariables false
open Go.RowKit Go.ChangeShapes Go.WideShapes Go.ChangeAt Go.Deep
section
variable {H : Type} {enc : TypeId × Value → H} {P : Program} {W : World} {base : Nat} {sp : Nat → Bool} {hd : Bool} {k : IntKind}
theorem open_four {t T e : Nat} {fs : Array Field} {f0 f1 f2 f3 : Field} {v : Value} {d : DataW H} {p : List MemPlace} (ht : P.underlying t = some (.struct fs)) (h0 : fs[0]? = some f0) (h1 : fs[1]? = some f1) (h2 : fs[2]? = some f2) (h3 : fs[3]? = some f3) (o0 : f0.offset = 0) (o1 : f1.offset = 1) (o2 : f2.offset = 2) (o3 : f3.offset = 3) (t0 : f0.type = T) (t1 : f1.type = T) (t2 : f2.type = T) (t3 : f3.type = T) (hs : fs.size = 4)
    (hT : P.underlying T = some (.slice e)) (he : P.underlying e = some (.int .u8)) (hce : P.cellsOf e = 1) (cT : P.cellsOf T = 1) (ct : P.cellsOf t = 4)
    {r : Reach} {b : Nat} (hv : Value.okWide P W r b t v) (h : DataW.Trod enc P W 0 (fun _ => true) true t v d p) :
    ∃ (a0 a1 a2 a3 : Option Addr) (c0 c1 c2 c3 : Nat) (x0 x1 x2 x3 : List Nat), v = .agg #[.slice a0 x0.length c0, .slice a1 x1.length c1, .slice a2 x2.length c2, .slice a3 x3.length c3] ∧ Sl W a0 .u8 x0 ∧ Sl W a1 .u8 x1 ∧ Sl W a2 .u8 x2 ∧ Sl W a3 .u8 x3 ∧ (∀ x ∈ x0, x < 256) ∧ (∀ x ∈ x1, x < 256) ∧ (∀ x ∈ x2, x < 256) ∧ (∀ x ∈ x3, x < 256) ∧ (a0 = none → c0 = 0) ∧ (a1 = none → c1 = 0) ∧ (a2 = none → c2 = 0) ∧ (a3 = none → c3 = 0) ∧ x0.length ≤ c0 ∧ x1.length ≤ c1 ∧ x2.length ≤ c2 ∧ x3.length ≤ c3 := by
  simp only [Value.okWide, ht] at hv
  obtain ⟨cs, rfl, hsz, -⟩ := hv
  obtain ⟨fuel, hf⟩ := h
  obtain ⟨xs, n, -, -, hlen, hxl, each⟩ := DataW.trod_struct ht hf
  have hcs : (Value.agg cs).cells.toList = cs.toList := rfl
  rw [hcs] at each hlen
  rw [ct] at hsz
  have e0 := each 0 f0 h0
  have e1 := each 1 f1 h1
  have e2 := each 2 f2 h2
  have e3 := each 3 f3 h3
  rw [o0, t0, cT, List.getElem?_eq_getElem (by omega)] at e0
  rw [o1, t1, cT, List.getElem?_eq_getElem (by omega)] at e1
  rw [o2, t2, cT, List.getElem?_eq_getElem (by omega)] at e2
  rw [o3, t3, cT, List.getElem?_eq_getElem (by omega)] at e3
  obtain ⟨a0, c0, x0, q0, s0, m0, -, b0, n0⟩ := sl_of_trod (k := .u8) hT he hce rfl e0
  obtain ⟨a1, c1, x1, q1, s1, m1, -, b1, n1⟩ := sl_of_trod (k := .u8) hT he hce rfl e1
  obtain ⟨a2, c2, x2, q2, s2, m2, -, b2, n2⟩ := sl_of_trod (k := .u8) hT he hce rfl e2
  obtain ⟨a3, c3, x3, q3, s3, m3, -, b3, n3⟩ := sl_of_trod (k := .u8) hT he hce rfl e3
  refine ⟨a0, a1, a2, a3, c0, c1, c2, c3, x0, x1, x2, x3, ?_, s0, s1, s2, s3, b0, b1, b2, b3, n0, n1, n2, n3, m0, m1, m2, m3⟩
  congr 1
  apply Array.ext'
  match hL : cs.toList, (show cs.toList.length = 4 by simpa using hsz) with
  | [u0, u1, u2, u3], _ =>
    rw [hL] at q0 q1 q2 q3
    simp at q0 q1 q2 q3
    rw [q0, q1, q2, q3]
end
end Go.Proofs.Ytolfngmpoafaaaa
