/- Two slices of the call's own grow apart; an element's address in a slice of arrays. No condition. -/
import Derived.Test.YtaiffkajkbiidaaGreatDoorKit10
import Derived.Test.YtaiffkajkbiidaaGreatDoorRow3
import Derived.Maps.AppendAt
import Derived.Deep.MidRow
namespace Go.Proofs.YtaiffkajkbiidaaGreatDoor
set_option linter.unusedSimpArgs false
set_option linter.unusedVariables false
set_option linter.unusedSectionVars false
set_option linter.unusedVariables false
open Go.RowKit
/-- Two slices do not lie in one block. -/
def Dis (v v' : Value) : Prop := ∀ g, v.ownBlock = some g → v'.ownBlock ≠ some g
theorem Dis.nil_l (v : Value) : Dis (.slice none 0 0) v := fun g h => by cases h
theorem Dis.nil_r (v : Value) : Dis v (.slice none 0 0) := fun g _ h => by cases h
theorem Dis.symm {v v' : Value} (h : Dis v v') : Dis v' v := fun g h1 h2 => h g h2 h1
section
variable {w w' : World} {B e : Nat} {k : IntKind} {v v1 u : Value} {xs : List Nat}
theorem Dis.grown (h : Dis v u) (hat : v1.ownBlock = v.ownBlock ∨ v1.ownBlock = some w.heap.size) (hu : Own w B e k u xs) : Dis v1 u := fun g h1 h2 => by
  rcases hat with hat | hat
  · exact h g (hat ▸ h1) h2
  · rw [hat] at h1
    cases h1
    have := (World.ownsRow.lt hu _ h2).2
    omega
theorem Own.grownDis (h : Own w B e k u xs) (hgr : w.grownBy w' v.ownBlock) (hd : Dis v u) : Own w' B e k u xs := by
  obtain ⟨h1, h2⟩ := h
  refine ⟨h1, ?_⟩
  rcases h2 with h2 | ⟨g', cap, cur, q1, q2, q3, q4⟩
  · exact .inl h2
  · refine .inr ⟨g', cap, cur, q1, q2, ?_, q4⟩
    subst q1
    rw [hgr.block g' (Array.getElem?_eq_some_iff.1 q3).1 (fun e1 => hd g' e1.symm rfl)]
    exact q3
theorem range_below {B : Nat} {g o : Nat} {cs : List Value} (hb : Below B w w') (hg : g < B) (h : w.rangeAt g o cs) : w'.rangeAt g o cs := fun j v hv => (hb.cell (p := ⟨g, _, none⟩) hg).trans (h j v hv)
theorem range_take {g o n : Nat} (h : w.rangeAt g o (vals k xs)) : w.rangeAt g o (vals k (xs.take n)) := fun j v hv => by
  refine h j v ?_
  unfold vals at hv ⊢
  rw [List.getElem?_map] at hv ⊢
  obtain ⟨x, hx, rfl⟩ := Option.map_eq_some_iff.1 hv
  rw [List.getElem?_take] at hx
  split at hx
  · rw [hx]; rfl
  · cases hx
theorem range_drop {g o n : Nat} (h : w.rangeAt g o (vals k xs)) : w.rangeAt g (o + n) (vals k (xs.drop n)) := fun j v hv => by
  have := h (n + j) v (by
    unfold vals at hv ⊢
    rw [List.getElem?_map] at hv ⊢
    rw [List.getElem?_drop] at hv
    exact hv)
  rw [Nat.add_assoc]; exact this
end
variable {P : Program}
theorem wpList_append_sl_at {ops : Array Oper} {rest : List Oper} {o : Oper} {a : Act} {w : World} {Q : Exit → Act → World → Prop} {B e t m c bytes : Nat} {k : IntKind} {z : Value} {v : Value} {ad : Addr} {xs zs : List Nat} {s x : Operand} (hgd : o.guard = none)
    (ho : o.op = .call { callee := .builtin .append, args := #[s, x], argTypes := #[t, t] }) (ht : P.underlying t = some (.slice e)) (hinf : (P.info? e).map (fun i => (i.zero, i.size, i.bytes)) = some (some z, 1, bytes)) (hz : z.cells.size = 1) (hby : bytes ≤ 64)
    (hs : a.eval s = v) (hown : Own w B e k v xs) (hx : a.eval x = .slice (some ad) m c) (hm : m = zs.length) (hsl : Sl w (some ad) k zs) (hl : xs.length + zs.length < 2 ^ 40) (hB : B ≤ w.heap.size)
    (h : ∀ v' w', Own w' B e k v' (xs ++ zs) → w.grownBy w' v.ownBlock → (v'.ownBlock = v.ownBlock ∨ v'.ownBlock = some w.heap.size) → wpList P ops Q rest (a.put o.dst v') w') : wpList P ops Q (o :: rest) a w := by
  obtain ⟨i, hi, hz0, hz1, hz2⟩ := info_parts hinf
  subst hm
  refine wpList_append_own_at w hgd s x t ho B e i z 1 bytes ht hi hz0 hz1 hz2 hz (by omega) v xs.length _ hs hown ad zs.length c (zs.map fun n : Nat => Value.int k n) hx (by simp) ?_ ?_ ?_ ?_ hB ?_
  · intro j u hj
    rw [List.getElem?_map] at hj
    obtain ⟨y, hy, rfl⟩ := Option.map_eq_some_iff.1 hj
    obtain ⟨hjl, -⟩ := List.getElem?_eq_some_iff.1 hy
    obtain ⟨g, off, q1, q2, q3⟩ := hsl (by rintro rfl; simp at hjl)
    injection q1 with q1
    subst q1
    rw [Addr.add_mid, q3 j hjl, List.getD_eq_getElem?_getD, hy]; rfl
  · simp [Value.oneCell']
  · simp [maxLen]; omega
  · calc (xs.length + zs.length) * bytes ≤ 2 ^ 40 * 64 := Nat.mul_le_mul (by omega) hby
      _ ≤ _ := by omega
  · intro v' w' h1 h2 _ h4
    refine h v' w' ?_ h2 h4
    unfold Own
    rw [List.length_append, List.map_append]
    exact h1
section
variable {o : Oper} {a : Act} {w : World}
theorem run_idxSl {T e i n c g off s : Nat} {x y : Operand} (ho : o.op = .indexAddr T x y) (hx : a.eval x = .slice (some ⟨g, off, none⟩) n c) (hy : a.eval y = .int .i64 (i : Int)) (hi : i < n) (hT : P.underlying T = some (.slice e)) (hs : (P.info? e).map (·.size) = some s) :
    (execOp a.eval o).run P w = .ok (.value (.pointer (some ⟨g, off + i * s, none⟩))) w := by
  obtain ⟨t, ht, rfl⟩ := Option.map_eq_some_iff.1 hs
  have hb : (0 : Int) ≤ (i : Int) ∧ (i : Int) < (n : Int) := by omega
  unfold execOp
  simp only [ho, hx, hy, Instr.indexAt, asIntOf, Sem.run_bind, Sem.run_pure, Result.andThen_ok, run_underlying hT]
  simp [hb, hi, sizeOf, typeInfo, ht, Addr.add_mid, go_sem]
theorem run_idxArr {T e j len g off s : Nat} {x : Operand} (ho : o.op = .indexAddr T x (.const (.int .i64 (j : Int)))) (hx : a.eval x = .pointer (some ⟨g, off, none⟩)) (hj : j < len) (hT : P.underlying T = some (.array len e)) (hs : (P.info? e).map (·.size) = some s) :
    (execOp a.eval o).run P w = .ok (.value (.pointer (some ⟨g, off + j * s, none⟩))) w := by
  obtain ⟨t, ht, rfl⟩ := Option.map_eq_some_iff.1 hs
  have hb : (0 : Int) ≤ (j : Int) ∧ (j : Int) < (len : Int) := by omega
  have hc : a.eval (.const (.int .i64 (j : Int))) = .int .i64 (j : Int) := rfl
  unfold execOp
  simp only [ho, hx, hc, Instr.indexAt, Instr.sureAddr, asIntOf, Sem.run_bind, Sem.run_pure, Result.andThen_ok, run_underlying hT]
  simp [hb, hj, sizeOf, typeInfo, ht, Addr.add_mid, go_sem]
theorem run_loadRange {T g off n : Nat} {x : Operand} {k : IntKind} {xs : List Nat} (ho : o.op = .load T x) (hx : a.eval x = .pointer (some ⟨g, off, none⟩)) (hc : w.rangeAt g off (vals k xs)) (ha : IsArr P T n) (hl : xs.length = n) :
    (execOp a.eval o).run P w = .ok (.value (.agg (ints k xs))) w := by
  obtain ⟨⟨d, h1, hd⟩, h2⟩ := ha
  unfold execOp
  simp only [ho, hx, Instr.loadAt, Instr.sureAddr, Sem.run_bind, Sem.run_pure, Result.andThen_ok, run_loadVar_mid w g off _ _ d hc h1 hd (by rw [h2, vals_len, hl])]
  rfl
end
end Go.Proofs.YtaiffkajkbiidaaGreatDoor
