/- Plain laws: rows of blocks put together. No program is spoken of. No condition. -/
import Derived.Test.YtaiffkajkbiidaaGreatDoorKA
namespace Go.Proofs.YtaiffkajkbiidaaGreatDoor
set_option linter.unusedSimpArgs false
set_option linter.unusedVariables false
set_option linter.unusedSectionVars false
set_option linter.unusedVariables false
open Go.RowKit
theorem flat16 {xss : List (List Nat)} (h : ∀ xs ∈ xss, xs.length = 16) : xss.flatten.length = 16 * xss.length := by
  induction xss with
  | nil => rfl
  | cons x xss ih =>
    rw [List.flatten_cons, List.length_append, ih (fun y hy => h y (List.mem_cons_of_mem _ hy)), h x (List.mem_cons_self), List.length_cons]; omega
theorem blk_flat {xss : List (List Nat)} (h : ∀ xs ∈ xss, xs.length = 16) : ∀ i, i < xss.length → blk xss.flatten i = xss.getD i [] := by
  induction xss with
  | nil => intro i hi; simp at hi
  | cons x xss ih =>
    intro i hi
    have hx := h x (List.mem_cons_self)
    rw [List.flatten_cons]
    cases i with
    | zero =>
      rw [blk_append_l (by omega)]
      unfold blk
      rw [Nat.mul_zero, List.drop_zero, List.take_of_length_le (by omega)]; rfl
    | succ i =>
      have := blk_append_r (a := x) (b := xss.flatten) (k := 1) (by omega) i
      rw [show i + 1 = 1 + i by omega, this, ih (fun y hy => h y (List.mem_cons_of_mem _ hy)) i (by simpa using hi)]
      rw [show 1 + i = i + 1 by omega]; rfl
theorem getD_prop {xss : List (List Nat)} {p : List Nat → Prop} (h : ∀ xs ∈ xss, p xs) {i : Nat} (hi : i < xss.length) : p (xss.getD i []) := by
  rw [List.getD_eq_getElem?_getD, List.getElem?_eq_getElem hi]
  exact h _ (List.getElem_mem hi)
theorem flat_lt {xss : List (List Nat)} (h : ∀ xs ∈ xss, ∀ x ∈ xs, x < 256) : ∀ x ∈ xss.flatten, x < 256 := fun x hx => by
  obtain ⟨l, hl, hxl⟩ := List.mem_flatten.1 hx
  exact h l hl x hxl
theorem wpList_load_range {P : Program} {ops : Array Oper} {rest : List Oper} {o : Oper} {a : Act} {w : World} {Q : Exit → Act → World → Prop} (hgd : o.guard = none) (T : TypeId) (x : Operand) (ho : o.op = .load T x) (g off : Nat) (hx : a.eval x = .pointer (some ⟨g, off, none⟩)) {k : IntKind} {xs : List Nat} {n : Nat} (hc : w.rangeAt g off (vals k xs)) (ha : IsArr P T n) (hl : xs.length = n)
    (h : wpList P ops Q rest (a.put o.dst (.agg (ints k xs))) w) : wpList P ops Q (o :: rest) a w := by
  obtain ⟨⟨d, h1, hd⟩, h2⟩ := ha
  exact wpList_load_mid hgd T x ho g off hx (vals k xs) d hc h1 hd (by rw [h2, vals_len, hl]) h
end Go.Proofs.YtaiffkajkbiidaaGreatDoor
