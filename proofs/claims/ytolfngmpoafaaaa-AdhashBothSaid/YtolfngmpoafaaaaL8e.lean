/- The walk of PolyParts. No condition but that bytes are below 256. -/
import Derived.Test.YtolfngmpoafaaaaL8b
import Derived.Test.YtolfngmpoafaaaaFlat
import Derived.Test.YtolfngmpoafaaaaKit11
namespace Go.Proofs.Ytolfngmpoafaaaa
set_option linter.unusedSimpArgs false
set_option linter.unusedVariables false
set_option linter.unusedSectionVars false
set_option linter.unusedVariables false
open Go.RowKit
theorem own_blk {w : World} {B e g t : Nat} {k : IntKind} {v : Value} {xs : List Nat} {cs : Array Value} (h : Own w B e k v xs) (hb : Blk w g t cs) (hne : t ≠ e) : v.ownBlock ≠ some g := fun hv => by
  obtain ⟨-, h2⟩ := h
  rcases h2 with ⟨rfl, -⟩ | ⟨g', cap, cur, rfl, q2, q3, -⟩
  · cases hv
  · have : g' = g := Option.some.inj hv
    subst this
    unfold Blk at hb
    rw [hb] at q3
    injection q3 with q3
    injection q3 with _ q3
    exact hne q3
theorem Own.ch {w w' : World} {B e g t : Nat} {k : IntKind} {v : Value} {xs : List Nat} {cs : Array Value} (h : Own w B e k v xs) (hc : Ch g w w') (hb : Blk w g t cs) (hne : t ≠ e) : Own w' B e k v xs := by
  have hn := own_blk h hb hne
  obtain ⟨h1, h2⟩ := h
  refine ⟨h1, ?_⟩
  rcases h2 with h2 | ⟨g', cap, cur, rfl, q2, q3, q4⟩
  · exact .inl h2
  · refine .inr ⟨g', cap, cur, rfl, q2, ?_, q4⟩
    rw [hc.heap g' (Array.getElem?_eq_some_iff.1 q3).1 (fun e1 => hn (by rw [e1]; rfl))]
    exact q3
theorem Blk.grownTy {w w' : World} {B e g t : Nat} {k : IntKind} {v : Value} {xs : List Nat} {cs : Array Value} (hb : Blk w g t cs) (hgr : w.grownBy w' v.ownBlock) (h : Own w B e k v xs) (hne : t ≠ e) : Blk w' g t cs :=
  hb.grown hgr (fun e1 => own_blk h hb hne e1.symm)
theorem Own.lt_ {w : World} {B e : Nat} {k : IntKind} {v : Value} {xs : List Nat} (h : Own w B e k v xs) : ∀ g, v.ownBlock = some g → g < w.heap.size := fun g hg => (World.ownsRow.lt h g hg).2
theorem Own.ge_ {w : World} {B e : Nat} {k : IntKind} {v : Value} {xs : List Nat} (h : Own w B e k v xs) : ∀ g, v.ownBlock = some g → B ≤ g := fun g hg => (World.ownsRow.lt h g hg).1
/-- A row that lies below another one's base stays as the other one grows. -/
theorem Own.stays {w w' : World} {B B' e e' C : Nat} {k k' : IntKind} {v u : Value} {xs ys : List Nat} (h : Own w B e k u xs) (hgr : w.grownBy w' v.ownBlock) (hv : Own w B' e' k' v ys) (hlt : ∀ g, u.ownBlock = some g → g < C) (hC : C ≤ B') : Own w' B e k u xs :=
  h.grownDis hgr fun g h1 h2 => by
    have := hv.ge_ g h1
    have := hlt g h2
    omega
theorem Own.frozen_ {w : World} {B e g n c i : Nat} {k : IntKind} {xs : List Nat} (h : Own w B e k (.slice (some ⟨g, 0, none⟩) n c) xs) : w.frozen? ⟨g, i, none⟩ = false := by
  obtain ⟨-, ⟨h2, -⟩ | ⟨g', cap, cur, q1, q2, q3, -⟩⟩ := h
  · cases h2
  · cases q1
    exact Blk.frozen q3 i
theorem IsSm.only {w w' : World} {g : Nat} {key bs : List Nat} (h : IsSm w g key bs) (he : ∀ t cs, Blk w g t cs → Blk w' g t cs) : IsSm w' g key bs := let ⟨r, h1, h2, h3, h4⟩ := h; ⟨r, h1, h2, h3, he _ _ h4⟩
theorem IsSm.blk {w : World} {g : Nat} {key bs : List Nat} (h : IsSm w g key bs) : ∃ cs, Blk w g 87 cs := let ⟨r, _, _, _, h4⟩ := h; ⟨_, h4⟩
/-- One number of a row of one's own stored. -/
theorem Own.set_ {w : World} {B e g c i n : Nat} {k : IntKind} {xs : List Nat} (h : Own w B e k (.slice (some ⟨g, 0, none⟩) xs.length c) xs) (hi : i < xs.length) : Own (w.setCell ⟨g, i, none⟩ (.int k (n : Int))) B e k (.slice (some ⟨g, 0, none⟩) xs.length c) (xs.set i n) := by
  obtain ⟨h1, h2⟩ := h
  refine ⟨by simp, .inr ?_⟩
  rcases h2 with ⟨h2, -⟩ | ⟨g', cap, cur, q1, q2, q3, q4, q5, q6, q7⟩
  · cases h2
  · cases q1
    refine ⟨g, c, cur.setIfInBounds i (.int k (n : Int)), by rw [List.length_set], q2, heap_setCell_same _ _ _ _ _ _ q3, by rw [List.length_set]; exact q4, q5, by rw [Array.size_setIfInBounds]; exact q6, ?_⟩
    rw [Array.toList_setIfInBounds, List.length_set, List.take_set, q7, ← List.map_set]
theorem Own.stays_set {w : World} {B e g i C : Nat} {k : IntKind} {u x : Value} {xs : List Nat} (h : Own w B e k u xs) (hlt : ∀ g, u.ownBlock = some g → g < C) (hC : C ≤ g) : Own (w.setCell ⟨g, i, none⟩ x) B e k u xs := by
  obtain ⟨h1, h2⟩ := h
  refine ⟨h1, ?_⟩
  rcases h2 with h2 | ⟨g', cap, cur, rfl, q2, q3, q4⟩
  · exact .inl h2
  · refine .inr ⟨g', cap, cur, rfl, q2, ?_, q4⟩
    rw [Below.heap_setCell _ _ _ _ (show g' ≠ g by have := hlt g' rfl; omega)]
    exact q3
theorem Own.ane {w : World} {B e g : Nat} {k : IntKind} {a : Option Addr} {n c : Nat} {xs : List Nat} (h : Own w B e k (.slice a n c) xs) (hg : g < B) : ANe a g xs := fun hn p hp => by
  obtain ⟨g2, c2, q1, q2, q3, -⟩ := h.sl2 hn
  injection q1 with q1
  rw [hp] at q1
  injection q1 with q1
  rw [q1]
  show g2 ≠ g
  omega
end Go.Proofs.Ytolfngmpoafaaaa
