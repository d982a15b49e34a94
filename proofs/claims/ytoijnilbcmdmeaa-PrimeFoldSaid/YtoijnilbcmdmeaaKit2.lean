/- Small laws on slices of numbers that a call makes itself: appending one number, reading as a list. No condition. -/
import Derived.Test.YtoijnilbcmdmeaaKit
import Derived.OwnWalk
namespace Go.Proofs.Ytoijnilbcmdmeaa
set_option linter.unusedSimpArgs false
set_option linter.unusedVariables false
set_option linter.unusedVariables false
open Go.RowKit
variable {P : Program}
/-- The slice value v owns a row (from block B on) of these numbers. -/
def Own (w : World) (B : Nat) (e : TypeId) (k : IntKind) (v : Value) (xs : List Nat) : Prop := w.ownsRow B e 1 v xs.length (xs.map fun n : Nat => Value.int k n)
theorem Own.nil (w : World) (B : Nat) (e : TypeId) (k : IntKind) : Own w B e k (.slice none 0 0) [] := World.ownsRow_nil w B e 1
theorem Own.alloc {w : World} {B : Nat} {e : TypeId} {k : IntKind} {v : Value} {xs : List Nat} (h : Own w B e k v xs) (o : Obj) : Own (w.alloc o) B e k v xs := World.ownsRow.alloc h o
theorem Own.drewN {w : World} {B : Nat} {e : TypeId} {k : IntKind} {v : Value} {xs : List Nat} (h : Own w B e k v xs) (n : Nat) : Own (w.drewN n) B e k v xs := h
theorem Own.below {w w' : World} {B : Nat} {e : TypeId} {k : IntKind} {v : Value} {xs : List Nat} (h : Own w B e k v xs) (hb : Below w.heap.size w w') : Own w' B e k v xs := by
  obtain ⟨h1, h2⟩ := h
  refine ⟨h1, h2.imp id ?_⟩
  rintro ⟨g, cap, cur, hv, hg, hh, r⟩
  exact ⟨g, cap, cur, hv, hg, (hb.block g (Blk.lt hh)).trans hh, r⟩
theorem Own.sl {w : World} {B : Nat} {e : TypeId} {k : IntKind} {v : Value} {xs : List Nat} (h : Own w B e k v xs) : ∃ a c, v = .slice a xs.length c ∧ Sl w a k xs ∧ xs.length ≤ c ∧ c ≤ maxLen := by
  obtain ⟨h1, h2⟩ := h
  rcases h2 with ⟨rfl, h2⟩ | ⟨g, cap, cur, rfl, hg, hh, hc, hm, hs, ht⟩
  · have : xs = [] := List.length_eq_zero_iff.1 h2
    subst this
    exact ⟨none, 0, rfl, Sl.nil _ _ _, Nat.le_refl _, by simp [maxLen]⟩
  · refine ⟨_, cap, rfl, fun _ => ⟨g, 0, rfl, Blk.lt hh, fun i hi => ?_⟩, hc, hm⟩
    rw [Nat.zero_add, cell_of_row w g i cur e _ hh, ← Array.getElem?_toList]
    have h3 : (cur.toList.take (xs.length * 1))[i]? = (xs.map fun n : Nat => Value.int k n)[i]? := by rw [ht]
    rw [List.getElem?_take, if_pos (by omega), List.getElem?_map, getD_lt hi] at h3
    exact h3
/-- A block that was made whole, as a slice of all its cells. -/
theorem Own.made {w : World} {B g : Nat} {e : TypeId} {k : IntKind} {xs : List Nat} (h : Blk w g e (ints k xs)) (hB : B ≤ g) (hm : xs.length ≤ maxLen) : Own w B e k (.slice (some ⟨g, 0, none⟩) xs.length xs.length) xs := by
  refine ⟨by simp, .inr ⟨g, xs.length, ints k xs, rfl, hB, h, Nat.le_refl _, hm, by simp [ints_size], ?_⟩⟩
  rw [Nat.mul_one, List.take_of_length_le (by simp [ints])]
  simp [ints]
theorem wpList_append_one {ops : Array Oper} {rest : List Oper} {o : Oper} {a : Act} {w : World} {Q : Exit → Act → World → Prop} {B e t n g c bytes : Nat} {k : IntKind} {z : Value} {v : Value} {xs : List Nat} {s x : Operand} (hgd : o.guard = none)
    (ho : o.op = .call { callee := .builtin .append, args := #[s, x], argTypes := #[t, t] }) (ht : P.underlying t = some (.slice e)) (hinf : (P.info? e).map (fun i => (i.zero, i.size, i.bytes)) = some (some z, 1, bytes)) (hz : z.cells.size = 1) (hby : bytes ≤ 64)
    (hs : a.eval s = v) (hown : Own w B e k v xs) (hx : a.eval x = .slice (some ⟨g, 0, none⟩) 1 c) (hc : w.cell? ⟨g, 0, none⟩ = some (.int k (n : Int))) (hl : xs.length < 2 ^ 40) (hB : B ≤ w.heap.size)
    (h : ∀ v' w', Own w' B e k v' (xs ++ [n]) → w.grownBy w' v.ownBlock → wpList P ops Q rest (a.put o.dst v') w') : wpList P ops Q (o :: rest) a w := by
  obtain ⟨i, hi, hz0, hz1, hz2⟩ := info_parts hinf
  refine wpList_append_own w hgd s x t ho B e i z 1 bytes ht hi hz0 hz1 hz2 hz (by omega) v xs.length _ hs hown ⟨g, 0, none⟩ 1 c [.int k (n : Int)] hx rfl ?_ ?_ ?_ ?_ hB ?_
  · intro j u hj
    match j, hj with
    | 0, hj => simp at hj; subst hj; exact hc
    | j + 1, hj => simp at hj
  · simp [Value.oneCell']
  · simp [maxLen]; omega
  · calc (xs.length + 1) * bytes ≤ (2 ^ 40 + 1) * 64 := Nat.mul_le_mul (by omega) hby
      _ ≤ _ := by omega
  · intro v' w' h1 h2 _
    refine h v' w' ?_ h2
    unfold Own
    rw [List.length_append, List.map_append]
    exact h1
theorem bGrown {B : Nat} {a w w' : World} {v : Value} {B' e : Nat} {k : IntKind} {xs : List Nat} (h : Below B a w) (hg : w.grownBy w' v.ownBlock) (hB : B ≤ w.heap.size) (hown : Own w B' e k v xs) (hB' : B ≤ B') : Below B a w' :=
  h.grown hg hB fun k hk => Nat.le_trans hB' (World.ownsRow.lt hown k hk).1
/-- What is not the row that grew is as it was. -/
theorem Blk.grownOwn {w w' : World} {g t B e : Nat} {cs : Array Value} {k : IntKind} {v : Value} {xs : List Nat} (h : Blk w g t cs) (hg : w.grownBy w' v.ownBlock) (hown : Own w B e k v xs) (hlt : g < B) : Blk w' g t cs :=
  h.grown hg fun e1 => by have := (World.ownsRow.lt hown g e1.symm).1; omega
theorem Sl.grownOwn {w w' : World} {B e : Nat} {k k' : IntKind} {v : Value} {xs ys : List Nat} {a : Option Addr} (h : Sl w a k' ys) (hg : w.grownBy w' v.ownBlock) (hown : Own w B e k v xs) (hlt : ∀ g off, a = some ⟨g, off, none⟩ → g < B) : Sl w' a k' ys := fun hn => by
  obtain ⟨g, off, h1, h2, h3⟩ := h hn
  refine ⟨g, off, h1, Nat.lt_of_lt_of_le h2 hg.size, fun i hi => ?_⟩
  refine (World.cell?_of_block (w := w) (hg.block g h2 fun e1 => ?_)).trans (h3 i hi)
  have := (World.ownsRow.lt hown g e1.symm).1
  have := hlt g off h1
  omega
theorem tmod_bit (x k : Nat) : ((x : Int) / 2 ^ k).tmod 2 = ((x / 2 ^ k % 2 : Nat) : Int) := by
  have e : (x : Int) / 2 ^ k = ((x / 2 ^ k : Nat) : Int) := by simp
  rw [e, Int.tmod_eq_emod_of_nonneg (Int.natCast_nonneg _)]; simp
theorem tmod_bit1 (x k : Nat) : (((x : Int) / 2 ^ k).tmod 2 == 1) = decide (x / 2 ^ k % 2 = 1) := by
  rw [tmod_bit, Bool.eq_iff_iff]
  simp only [beq_iff_eq, decide_eq_true_eq]
  omega
theorem wrap64_pow (m q : Nat) (hm : m < 2 ^ 60) (hq : q < 60) : wrap64 ((m : Int) + wrap64 (2 ^ q)) = ((m + 2 ^ q : Nat) : Int) := by
  have h2 : 2 ^ q ≤ 2 ^ 59 := Nat.pow_le_pow_right (by omega) (by omega)
  have e : (2 : Int) ^ q = ((2 ^ q : Nat) : Int) := by simp
  rw [e]
  generalize 2 ^ q = p at *
  rw [IntWalk.wrap64_in (p : Int) (by omega), IntWalk.wrap64_in _ (by omega)]
  simp
section
variable {ops : Array Oper} {C : World → Prop} {K : Act → Prop} {o : Oper} {rest : List Oper} {a : Act} {w : World}
theorem quiet_pickt {x y z : Operand} {v u : Value} (hw : Region.wanted o (yielded ops a.tmps) = true) (ho : o.op = .pick x y z) (hx : a.eval x = .bool true) (hy : a.eval y = v) (hz : a.eval z = u) (h : wpQuiet P ops C K rest (a.put o.dst v)) : wpQuiet P ops C K (o :: rest) a :=
  quiet_pick (b := true) hw ho hx hy hz (by simpa using h)
theorem quiet_pickf {x y z : Operand} {v u : Value} (hw : Region.wanted o (yielded ops a.tmps) = true) (ho : o.op = .pick x y z) (hx : a.eval x = .bool false) (hy : a.eval y = v) (hz : a.eval z = u) (h : wpQuiet P ops C K rest (a.put o.dst u)) : wpQuiet P ops C K (o :: rest) a :=
  quiet_pick (b := false) hw ho hx hy hz (by simpa using h)
end
end Go.Proofs.Ytoijnilbcmdmeaa
