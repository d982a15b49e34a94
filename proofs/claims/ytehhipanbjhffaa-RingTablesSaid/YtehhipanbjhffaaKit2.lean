/- Small laws on slices of numbers that a call makes itself: appending one number, reading as a list. No condition. -/
import Derived.Test.YtehhipanbjhffaaKit
import Derived.OwnWalk
namespace Go.Proofs.Ytehhipanbjhffaa
set_option linter.unusedSimpArgs false
set_option linter.unusedVariables false
set_option linter.unusedSectionVars false
set_option linter.unusedVariables false
open Go.RowKit
variable {P : Program}
/-- The slice value v owns a row (from block B on) of these numbers. -/
def Own (w : World) (B : Nat) (e : TypeId) (k : IntKind) (v : Value) (xs : List Nat) : Prop := w.ownsRow B e 1 v xs.length (xs.map fun n : Nat => Value.int k n)
theorem Own.nil (w : World) (B : Nat) (e : TypeId) (k : IntKind) : Own w B e k (.slice none 0 0) [] := World.ownsRow_nil w B e 1
theorem Own.alloc {w : World} {B : Nat} {e : TypeId} {k : IntKind} {v : Value} {xs : List Nat} (h : Own w B e k v xs) (o : Obj) : Own (w.alloc o) B e k v xs := World.ownsRow.alloc h o
theorem Own.drewN {w : World} {B : Nat} {e : TypeId} {k : IntKind} {v : Value} {xs : List Nat} (h : Own w B e k v xs) (n : Nat) : Own (w.drewN n) B e k v xs := h
theorem Own.below {w w' : World} {B : Nat} {e : TypeId} {k : IntKind} {v : Value} {xs : List Nat} (h : Own w B e k v xs) (hb : Below w.heap.size w w') : Own w' B e k v xs := by
  obtain ⟨h1, h2⟩ := h
  refine ⟨h1, h2.imp id ?_⟩
  rintro ⟨g, cap, cur, hv, hg, hh, r⟩
  exact ⟨g, cap, cur, hv, hg, (hb.block g (Blk.lt hh)).trans hh, r⟩
theorem Own.sl {w : World} {B : Nat} {e : TypeId} {k : IntKind} {v : Value} {xs : List Nat} (h : Own w B e k v xs) : ∃ a c, v = .slice a xs.length c ∧ Sl w a k xs ∧ xs.length ≤ c ∧ c ≤ maxLen := by
  obtain ⟨h1, h2⟩ := h
  rcases h2 with ⟨rfl, h2⟩ | ⟨g, cap, cur, rfl, hg, hh, hc, hm, hs, ht⟩
  · have : xs = [] := List.length_eq_zero_iff.1 h2
    subst this
    exact ⟨none, 0, rfl, Sl.nil _ _ _, Nat.le_refl _, by simp [maxLen]⟩
  · refine ⟨_, cap, rfl, fun _ => ⟨g, 0, rfl, Blk.lt hh, fun i hi => ?_⟩, hc, hm⟩
    rw [Nat.zero_add, cell_of_row w g i cur e _ hh, ← Array.getElem?_toList]
    have h3 : (cur.toList.take (xs.length * 1))[i]? = (xs.map fun n : Nat => Value.int k n)[i]? := by rw [ht]
    rw [List.getElem?_take, if_pos (by omega), List.getElem?_map, getD_lt hi] at h3
    exact h3
theorem Own.sl2 {w : World} {B : Nat} {e : TypeId} {k : IntKind} {v : Value} {xs : List Nat} (h : Own w B e k v xs) (hn : xs ≠ []) : ∃ g c, v = .slice (some ⟨g, 0, none⟩) xs.length c ∧ B ≤ g ∧ g < w.heap.size ∧ Sl w (some ⟨g, 0, none⟩) k xs ∧ xs.length ≤ c ∧ c ≤ maxLen := by
  obtain ⟨a, c, rfl, hsl, h3, h4⟩ := h.sl
  obtain ⟨h1, h2⟩ := h
  rcases h2 with ⟨hv, h2⟩ | ⟨g, cap, cur, hv, hg, hh, hc, hm, hs, ht⟩
  · exact absurd (List.length_eq_zero_iff.1 h2) hn
  · injection hv with e1 e2 e3
    subst e1
    exact ⟨g, c, rfl, hg, Blk.lt hh, hsl, h3, h4⟩
theorem Sl.far {w : World} {g off : Nat} {k : IntKind} {xs : List Nat} (h : Sl w (some ⟨g, off, none⟩) k xs) {p : Addr} (hp : g ≠ p.block) (u : Value) : Sl (w.setCell p u) (some ⟨g, off, none⟩) k xs := fun hn => by
  obtain ⟨g2, o2, q1, q2, q3⟩ := h hn
  injection q1 with q1
  injection q1 with q1 q4
  subst q1 q4
  refine ⟨g, off, rfl, by simp; exact q2, fun j hj => (World.cell?_setCell_other _ _ _ _ ?_).trans (q3 j hj)⟩
  intro e
  exact hp (by rw [e])
theorem Sl.eq {w : World} {g off : Nat} {k : IntKind} {xs : List Nat} (h : Sl w (some ⟨g, off, none⟩) k xs) {i : Nat} (hi : i < xs.length) : w.cell? ⟨g, off + i, none⟩ = some (.int k ((xs.getD i 0 : Nat) : Int)) := by
  obtain ⟨g2, o2, q1, q2, q3⟩ := h (by rintro rfl; simp at hi)
  injection q1 with q1
  injection q1 with q1 q4
  subst q1 q4
  exact q3 i hi
/-- A block that was made whole, as a slice of all its cells. -/
theorem Own.made {w : World} {B g : Nat} {e : TypeId} {k : IntKind} {xs : List Nat} (h : Blk w g e (ints k xs)) (hB : B ≤ g) (hm : xs.length ≤ maxLen) : Own w B e k (.slice (some ⟨g, 0, none⟩) xs.length xs.length) xs := by
  refine ⟨by simp, .inr ⟨g, xs.length, ints k xs, rfl, hB, h, Nat.le_refl _, hm, by simp [ints_size], ?_⟩⟩
  rw [Nat.mul_one, List.take_of_length_le (by simp [ints])]
  simp [ints]
theorem wpList_append_one {ops : Array Oper} {rest : List Oper} {o : Oper} {a : Act} {w : World} {Q : Exit → Act → World → Prop} {B e t n g c bytes : Nat} {k : IntKind} {z : Value} {v : Value} {xs : List Nat} {s x : Operand} (hgd : o.guard = none)
    (ho : o.op = .call { callee := .builtin .append, args := #[s, x], argTypes := #[t, t] }) (ht : P.underlying t = some (.slice e)) (hinf : (P.info? e).map (fun i => (i.zero, i.size, i.bytes)) = some (some z, 1, bytes)) (hz : z.cells.size = 1) (hby : bytes ≤ 64)
    (hs : a.eval s = v) (hown : Own w B e k v xs) (hx : a.eval x = .slice (some ⟨g, 0, none⟩) 1 c) (hc : w.cell? ⟨g, 0, none⟩ = some (.int k (n : Int))) (hl : xs.length < 2 ^ 40) (hB : B ≤ w.heap.size)
    (h : ∀ v' w', Own w' B e k v' (xs ++ [n]) → w.grownBy w' v.ownBlock → wpList P ops Q rest (a.put o.dst v') w') : wpList P ops Q (o :: rest) a w := by
  obtain ⟨i, hi, hz0, hz1, hz2⟩ := info_parts hinf
  refine wpList_append_own w hgd s x t ho B e i z 1 bytes ht hi hz0 hz1 hz2 hz (by omega) v xs.length _ hs hown ⟨g, 0, none⟩ 1 c [.int k (n : Int)] hx rfl ?_ ?_ ?_ ?_ hB ?_
  · intro j u hj
    match j, hj with
    | 0, hj => simp at hj; subst hj; exact hc
    | j + 1, hj => simp at hj
  · simp [Value.oneCell']
  · simp [maxLen]; omega
  · calc (xs.length + 1) * bytes ≤ (2 ^ 40 + 1) * 64 := Nat.mul_le_mul (by omega) hby
      _ ≤ _ := by omega
  · intro v' w' h1 h2 _
    refine h v' w' ?_ h2
    unfold Own
    rw [List.length_append, List.map_append]
    exact h1
/-- World w' is world w but for block g. -/
structure Only (w w' : World) (g : Nat) : Prop where
  other : ∀ g', g' ≠ g → w'.heap[g']? = w.heap[g']?
  size : w'.heap.size = w.heap.size
  below : ∀ B w0, Below B w0 w → B ≤ g → Below B w0 w'
theorem Only.refl (w : World) (g : Nat) : Only w w g := ⟨fun _ _ => rfl, rfl, fun _ _ h _ => h⟩
theorem Only.row (w : World) (g : Nat) (cs : Array Value) : Only w (w.setRow g cs) g := ⟨fun g' h => setRow_other _ _ _ _ h, setRow_size _ _ _, fun _ _ h hB => bSetRow h hB _⟩
theorem Only.cell (w : World) (p : Addr) (v : Value) : Only w (w.setCell p v) p.block := ⟨fun g' h => Below.heap_setCell _ _ _ _ h, by simp, fun _ _ h hB => h.setCell hB _⟩
theorem Blk.only {w w' : World} {g g' t : Nat} {cs : Array Value} (h : Blk w g' t cs) (ho : Only w w' g) (hne : g' ≠ g) : Blk w' g' t cs := (ho.other g' hne).trans h
theorem Sl.only {w w' : World} {g g' off : Nat} {k : IntKind} {xs : List Nat} (h : Sl w (some ⟨g', off, none⟩) k xs) (ho : Only w w' g) (hne : g' ≠ g) : Sl w' (some ⟨g', off, none⟩) k xs := fun hn => by
  obtain ⟨g2, o2, q1, q2, q3⟩ := h hn
  injection q1 with q1
  injection q1 with q1 q4
  subst q1 q4
  exact ⟨g', off, rfl, by rw [ho.size]; exact q2, fun j hj => (World.cell?_of_block (w := w) (ho.other _ hne)).trans (q3 j hj)⟩
theorem ints_splice (k : IntKind) (xs ys : List Nat) (off : Nat) : (((ints k xs).toList.take off ++ ((ys.map fun n : Nat => Value.int k n) ++ (ints k xs).toList.drop (off + ys.length))).toArray) = ints k (splice xs off ys) := by
  apply Array.ext'
  simp [ints, splice, List.map_take, List.map_drop]
theorem splice_len {α : Type} {L cs : List α} {off : Nat} (h : off + cs.length ≤ L.length) : (splice L off cs).length = L.length := length_splice L off cs h
/-- copy into a row of numbers. -/
theorem wpList_copy_ints {w : World} {ops : Array Oper} {rest : List Oper} {o : Oper} {a : Act} {Q : Exit → Act → World → Prop} {d s : Operand} {dT sT elem t g off dLen dCap sLen sCap : Nat} {dp sp : Option Addr} {k : IntKind} {xs zs : List Nat} (hgd : o.guard = none)
    (ho : o.op = .call { callee := .builtin .copy, args := #[d, s], argTypes := #[dT, sT] }) (hu : P.underlying dT = some (.slice elem)) (hsz : (P.info? elem).map (·.size) = some 1)
    (hd : a.eval d = .slice dp dLen dCap) (hs : a.eval s = .slice sp sLen sCap) (hg : Blk w g t (ints k xs)) (hsl : Sl w sp k zs) (hn : zs.length = Nat.min sLen dLen)
    (hpos : zs ≠ [] → dp = some ⟨g, off, none⟩) (hfit : off + zs.length ≤ xs.length)
    (h : ∀ w', Blk w' g t (ints k (splice xs off zs)) → Only w w' g → wpList P ops Q rest (a.put o.dst (goInt zs.length)) w') : wpList P ops Q (o :: rest) a w := by
  by_cases h0 : zs = []
  · subst h0
    refine wpList_copy_nothing hgd d s dT sT ho elem hu hsz dp sp dLen dCap sLen sCap hd hs hn.symm ?_
    refine h w ?_ (Only.refl _ _)
    simpa [splice] using hg
  · obtain ⟨g2, o2, rfl, hg2, hc⟩ := hsl h0
    obtain rfl := hpos h0
    have hml : (zs.map fun n : Nat => Value.int k n).length = zs.length := by simp
    refine wpList_copy_own hgd d s dT sT ho elem hu hsz g off dLen dCap ⟨g2, o2, none⟩ sLen sCap hd hs _ t hg (zs.map fun n : Nat => Value.int k n) (hml.trans hn) (fun j v hv => ?_) (by rw [hml, ints_size]; exact hfit) (by simp [Value.oneCell']) ?_
    · rw [List.getElem?_map] at hv
      obtain ⟨x, hx, rfl⟩ := Option.map_eq_some_iff.1 hv
      obtain ⟨hj, -⟩ := List.getElem?_eq_some_iff.1 hx
      rw [Addr.add_mid, hc j hj, List.getD_eq_getElem?_getD, hx]; rfl
    · rw [hml, ints_splice]
      exact h _ (hg.row _) (Only.row _ _ _)
theorem bGrown {B : Nat} {a w w' : World} {v : Value} {B' e : Nat} {k : IntKind} {xs : List Nat} (h : Below B a w) (hg : w.grownBy w' v.ownBlock) (hB : B ≤ w.heap.size) (hown : Own w B' e k v xs) (hB' : B ≤ B') : Below B a w' :=
  h.grown hg hB fun k hk => Nat.le_trans hB' (World.ownsRow.lt hown k hk).1
/-- What is not the row that grew is as it was. -/
theorem Blk.grownOwn {w w' : World} {g t B e : Nat} {cs : Array Value} {k : IntKind} {v : Value} {xs : List Nat} (h : Blk w g t cs) (hg : w.grownBy w' v.ownBlock) (hown : Own w B e k v xs) (hlt : g < B) : Blk w' g t cs :=
  h.grown hg fun e1 => by have := (World.ownsRow.lt hown g e1.symm).1; omega
theorem Sl.grownOwn {w w' : World} {B e : Nat} {k k' : IntKind} {v : Value} {xs ys : List Nat} {a : Option Addr} (h : Sl w a k' ys) (hg : w.grownBy w' v.ownBlock) (hown : Own w B e k v xs) (hlt : ∀ g off, a = some ⟨g, off, none⟩ → g < B) : Sl w' a k' ys := fun hn => by
  obtain ⟨g, off, h1, h2, h3⟩ := h hn
  refine ⟨g, off, h1, Nat.lt_of_lt_of_le h2 hg.size, fun i hi => ?_⟩
  refine (World.cell?_of_block (w := w) (hg.block g h2 fun e1 => ?_)).trans (h3 i hi)
  have := (World.ownsRow.lt hown g e1.symm).1
  have := hlt g off h1
  omega
theorem qsame {f : FuncId} {args : Array Value} {w : World} {n : Nat} {v : Value} (h : Calls P f args (w.drewN n) fun e w' => e = .returned v ∧ w.drewN n = w') : Calls P f args (w.drewN n) fun e w'' => e = .returned v ∧ ∃ m, w'' = w.drewN m :=
  h.mono fun _ _ ⟨he, hm⟩ => ⟨he, n, hm.symm⟩
theorem tmod_bit (x k : Nat) : ((x : Int) / 2 ^ k).tmod 2 = ((x / 2 ^ k % 2 : Nat) : Int) := by
  have e : (x : Int) / 2 ^ k = ((x / 2 ^ k : Nat) : Int) := by simp
  rw [e, Int.tmod_eq_emod_of_nonneg (Int.natCast_nonneg _)]; simp
theorem tmod_bit1 (x k : Nat) : (((x : Int) / 2 ^ k).tmod 2 == 1) = decide (x / 2 ^ k % 2 = 1) := by
  rw [tmod_bit, Bool.eq_iff_iff]
  simp only [beq_iff_eq, decide_eq_true_eq]
  omega
theorem wrap64_pow (m q : Nat) (hm : m < 2 ^ 60) (hq : q < 60) : wrap64 ((m : Int) + wrap64 (2 ^ q)) = ((m + 2 ^ q : Nat) : Int) := by
  have h2 : 2 ^ q ≤ 2 ^ 59 := Nat.pow_le_pow_right (by omega) (by omega)
  have e : (2 : Int) ^ q = ((2 ^ q : Nat) : Int) := by simp
  rw [e]
  generalize 2 ^ q = p at *
  rw [IntWalk.wrap64_in (p : Int) (by omega), IntWalk.wrap64_in _ (by omega)]
  simp
section
variable {ops : Array Oper} {C : World → Prop} {K : Act → Prop} {o : Oper} {rest : List Oper} {a : Act} {w : World}
theorem quiet_pickt {x y z : Operand} {v u : Value} (hw : Region.wanted o (yielded ops a.tmps) = true) (ho : o.op = .pick x y z) (hx : a.eval x = .bool true) (hy : a.eval y = v) (hz : a.eval z = u) (h : wpQuiet P ops C K rest (a.put o.dst v)) : wpQuiet P ops C K (o :: rest) a :=
  quiet_pick (b := true) hw ho hx hy hz (by simpa using h)
theorem quiet_pickf {x y z : Operand} {v u : Value} (hw : Region.wanted o (yielded ops a.tmps) = true) (ho : o.op = .pick x y z) (hx : a.eval x = .bool false) (hy : a.eval y = v) (hz : a.eval z = u) (h : wpQuiet P ops C K rest (a.put o.dst u)) : wpQuiet P ops C K (o :: rest) a :=
  quiet_pick (b := false) hw ho hx hy hz (by simpa using h)
end
end Go.Proofs.Ytehhipanbjhffaa
