/- Rows of one's own of slices of bytes; slices.Clone. No condition. -/
import Derived.Test.YthfkfbabjfogeaaW22a
import Derived.Maps.AppendAt
namespace Go.Proofs.Ythfkfbabjfogeaa
set_option linter.unusedSimpArgs false
set_option linter.unusedVariables false
set_option linter.unusedSectionVars false
set_option linter.unusedVariables false
open Go.RowKit
/-- A slice value of these bytes that lies not in block nb. -/
def ElS (w : World) (nb : Option Nat) (u : Value) (xs : List Nat) : Prop := ∃ a c, u = .slice a xs.length c ∧ Sl w a .u8 xs ∧ (a = none → c = 0) ∧ (xs ≠ [] → ∀ p, a = some p → nb ≠ some p.block)
/-- The slice value v owns a row (from block B on) of slices of these rows of bytes. -/
def OwnS (w : World) (B : Nat) (v : Value) (xss : List (List Nat)) : Prop :=
  ∃ vs : List Value, w.ownsRow B 22 1 v vs.length vs ∧ vs.length = xss.length ∧ ∀ i, i < xss.length → ElS w v.ownBlock (vs.getD i undef) (xss.getD i [])
theorem ElS.below {w w' : World} {nb : Option Nat} {u : Value} {xs : List Nat} (h : ElS w nb u xs) (hb : Below w.heap.size w w') : ElS w' nb u xs :=
  let ⟨a, c, h1, h2, h3, h4⟩ := h
  ⟨a, c, h1, h2.below hb, h3, h4⟩
theorem ElS.one {w : World} {nb : Option Nat} {u : Value} {xs : List Nat} (h : ElS w nb u xs) : u.oneCell' = true := by
  obtain ⟨a, c, rfl, -⟩ := h; rfl
theorem ElS.ofOwn {w : World} {B : Nat} {nb : Option Nat} {u : Value} {ys : List Nat} (h : Own w B 5 .u8 u ys) (hnb : ∀ g, nb = some g → ∃ cs, Blk w g 22 cs) : ElS w nb u ys := by
  obtain ⟨a, c, rfl, h1, -, -, h4⟩ := h.slz
  refine ⟨a, c, rfl, h1, h4, fun _ p hp e => ?_⟩
  obtain ⟨cs, hb⟩ := hnb _ e
  subst hp
  exact own_blk h hb (by decide) rfl
/-- A slice that was there ahead. -/
theorem ElS.ofOld {w : World} {nb : Option Nat} {a : Option Addr} {c C : Nat} {xs : List Nat} (h : Sl w a .u8 xs) (hn : a = none → c = 0) (hC : ∀ g off, xs ≠ [] → a = some ⟨g, off, none⟩ → g < C) (hnb : ∀ g, nb = some g → C ≤ g) : ElS w nb (.slice a xs.length c) xs := by
  refine ⟨a, c, rfl, h, hn, fun hne p hp e => ?_⟩
  obtain ⟨g, off, h1, -, -⟩ := h hne
  rw [h1] at hp
  cases hp
  have h2 := hC g off hne h1
  have h3 := hnb g e
  omega
theorem ElS.old {w0 w : World} {nb : Option Nat} {a : Option Addr} {c : Nat} {xs : List Nat} (h : Sl w0 a .u8 xs) (hn : a = none → c = 0) (hb : Below w0.heap.size w0 w) (hnb : ∀ g, nb = some g → w0.heap.size ≤ g) : ElS w nb (.slice a xs.length c) xs :=
  ElS.ofOld (h.below hb) hn (fun g off hne ha => by
    obtain ⟨g', off', q1, q2, -⟩ := h hne
    rw [ha] at q1
    injection q1 with q1
    injection q1 with q1
    rw [q1]; exact q2) hnb
theorem OwnS.nb {w : World} {B : Nat} {v : Value} {xss : List (List Nat)} (h : OwnS w B v xss) : ∀ g, v.ownBlock = some g → ∃ cs, Blk w g 22 cs := fun g hg => by
  obtain ⟨vs, ⟨-, h1⟩, -, -⟩ := h
  rcases h1 with ⟨rfl, -⟩ | ⟨g', cap, cur, rfl, q2, q3, -⟩
  · cases hg
  · cases hg
    exact ⟨_, q3⟩
theorem OwnS.ge_ {w : World} {B : Nat} {v : Value} {xss : List (List Nat)} (h : OwnS w B v xss) : ∀ g, v.ownBlock = some g → B ≤ g := fun g hg => let ⟨_, h1, _⟩ := h; (World.ownsRow.lt h1 g hg).1
theorem OwnS.lt_ {w : World} {B : Nat} {v : Value} {xss : List (List Nat)} (h : OwnS w B v xss) : ∀ g, v.ownBlock = some g → g < w.heap.size := fun g hg => let ⟨_, h1, _⟩ := h; (World.ownsRow.lt h1 g hg).2
theorem OwnS.nil (w : World) (B : Nat) : OwnS w B (.slice none 0 0) [] := ⟨[], World.ownsRow_nil w B _ 1, rfl, fun i hi => by simp at hi⟩
theorem OwnS.below {w w' : World} {B : Nat} {v : Value} {xss : List (List Nat)} (h : OwnS w B v xss) (hb : Below w.heap.size w w') : OwnS w' B v xss := by
  obtain ⟨vs, ⟨h1, h2⟩, h3, h4⟩ := h
  refine ⟨vs, ⟨h1, h2.imp id ?_⟩, h3, fun i hi => (h4 i hi).below hb⟩
  rintro ⟨g, cap, cur, hv, hg, hh, r⟩
  exact ⟨g, cap, cur, hv, hg, (hb.block g (Blk.lt hh)).trans hh, r⟩
theorem OwnS.mono {w : World} {B B' : Nat} {v : Value} {xss : List (List Nat)} (h : OwnS w B v xss) (hB : B' ≤ B) : OwnS w B' v xss := by
  obtain ⟨vs, ⟨h1, h2⟩, h3⟩ := h
  refine ⟨vs, ⟨h1, h2.imp id ?_⟩, h3⟩
  rintro ⟨g, cap, cur, hv, hg, r⟩
  exact ⟨g, cap, cur, hv, Nat.le_trans hB hg, r⟩
theorem OwnS.made {w : World} {B g : Nat} {vs : List Value} {xss : List (List Nat)} (hb : Blk w g 22 vs.toArray) (hB : B ≤ g) (hl : vs.length = xss.length) (hm : vs.length ≤ maxLen) (h : ∀ i, i < xss.length → ElS w (some g) (vs.getD i undef) (xss.getD i [])) : OwnS w B (.slice (some ⟨g, 0, none⟩) vs.length vs.length) xss := by
  refine ⟨vs, ⟨by simp, .inr ⟨g, vs.length, vs.toArray, rfl, hB, hb, Nat.le_refl _, hm, by simp, ?_⟩⟩, hl, h⟩
  rw [Nat.mul_one, List.take_of_length_le (by simp)]
theorem OwnS.slS {w : World} {B : Nat} {v : Value} {xss : List (List Nat)} (h : OwnS w B v xss) : ∃ a c, v = .slice a xss.length c ∧ SlS w a xss ∧ xss.length ≤ c ∧ c ≤ maxLen ∧ (a = none → c = 0) := by
  obtain ⟨vs, ⟨h1, h2⟩, h3, h4⟩ := h
  rcases h2 with ⟨rfl, h2⟩ | ⟨g, cap, cur, rfl, hg, hh, hc, hm, hs, ht⟩
  · have : xss = [] := List.length_eq_zero_iff.1 (by omega)
    subst this
    exact ⟨none, 0, rfl, fun i hi => by simp at hi, Nat.le_refl _, by simp [maxLen], fun _ => rfl⟩
  · rw [h3]
    refine ⟨_, cap, rfl, fun i hi => ?_, by omega, hm, fun h => by cases h⟩
    obtain ⟨a, c, q1, q2, q3, -⟩ := h4 i hi
    refine ⟨g, 0, a, c, rfl, Blk.lt hh, ?_, q2, q3⟩
    rw [Nat.zero_add, cell_of_row w g i cur _ _ hh, ← Array.getElem?_toList]
    have h5 : (cur.toList.take (vs.length * 1))[i]? = vs[i]? := by rw [ht]
    rw [List.getElem?_take, if_pos (by omega)] at h5
    rw [h5, ← q1, List.getD_eq_getElem?_getD, List.getElem?_eq_getElem (by omega)]; rfl
theorem Try.inf22 : (Try.prog.info? 22).map (fun i => (i.zero, i.size, i.bytes)) = some (some (.slice none 0 0), 1, 24) := by kernel_rfl
theorem getD_append_l {α : Type} {d : α} {l m : List α} {i : Nat} (h : i < l.length) : (l ++ m).getD i d = l.getD i d := by
  rw [List.getD_eq_getElem?_getD, List.getD_eq_getElem?_getD, List.getElem?_append_left h]
theorem getD_append_r {α : Type} {d : α} {l m : List α} {i : Nat} (h : l.length ≤ i) : (l ++ m).getD i d = m.getD (i - l.length) d := by
  rw [List.getD_eq_getElem?_getD, List.getD_eq_getElem?_getD, List.getElem?_append_right h]
theorem wpList_append_S {ops : Array Oper} {rest : List Oper} {o : Oper} {a : Act} {w : World} {Q : Exit → Act → World → Prop} {B m c : Nat} {v : Value} {ad : Option Addr} {xss yss : List (List Nat)} {s x : Operand} (hgd : o.guard = none)
    (ho : o.op = .call { callee := .builtin .append, args := #[s, x], argTypes := #[23, 23] })
    (hs : a.eval s = v) (hown : OwnS w B v xss) (hx : a.eval x = .slice ad m c) (hm : m = yss.length) (hn : ad = none → c = 0)
    (hE : ∀ i, i < yss.length → ∃ g off u, ad = some ⟨g, off, none⟩ ∧ w.cell? ⟨g, off + i, none⟩ = some u ∧ ElS w v.ownBlock u (yss.getD i [])) (hl : xss.length + yss.length < 2 ^ 40) (hB : B ≤ w.heap.size)
    (h : ∀ v' w', OwnS w' B v' (xss ++ yss) → w.grownBy w' v.ownBlock → wpList Try.prog ops Q rest (a.put o.dst v') w') : wpList Try.prog ops Q (o :: rest) a w := by
  obtain ⟨i, hi, hz0, hz1, hz2⟩ := info_parts Try.inf22
  subst hm
  obtain ⟨vs, h1, h2, h3⟩ := hown
  cases ad with
  | none =>
    obtain rfl := hn rfl
    have hz0' : yss = [] := Classical.byContradiction fun hne => by
      obtain ⟨_, _, _, q, -⟩ := hE 0 (List.length_pos_iff.2 hne); cases q
    subst hz0'
    refine wpList_plain hgd fun K hK => ?_
    have hrun := run_append_owned_none (P := Try.prog) w B 23 o.type 22 i 1 Try.underlying23 hi v vs.length _ h1
    unfold Oper.wp execOp
    simp only [ho, resolve, invoke, builtin, Sem.run_bind, Sem.run_pure, Result.andThen_ok, List.map_toArray, List.map_cons, List.map_nil, hs, hx, List.length_nil, hrun]
    refine hK _ _ (h v w (by rw [List.append_nil]; exact ⟨vs, h1, h2, h3⟩) ⟨rfl, rfl, rfl, Nat.le_refl _, fun _ _ _ => rfl⟩)
  | some ad =>
    obtain ⟨us, HU⟩ : ∃ us : List Value, us = (List.range yss.length).map fun j => (w.cell? (ad.add j)).getD undef := ⟨_, rfl⟩
    have hul : us.length = yss.length := by rw [HU]; simp
    have hug : ∀ j, j < yss.length → ∃ u, us[j]? = some u ∧ w.cell? (ad.add j) = some u ∧ ElS w v.ownBlock u (yss.getD j []) := fun j hj => by
      obtain ⟨g, off, u, q1, q2, q3⟩ := hE j hj
      injection q1 with q1
      subst q1
      refine ⟨u, ?_, by rw [Addr.add_mid]; exact q2, q3⟩
      rw [HU, List.getElem?_map, List.getElem?_range hj]
      simp only [Option.map_some, Addr.add_mid, q2, Option.getD_some]
    refine wpList_append_own_at w hgd s x _ ho B 22 i (.slice none 0 0) 1 24 Try.underlying23 hi hz0 hz1 hz2 rfl (by omega) v vs.length vs hs h1 ad yss.length c us hx (by omega) ?_ ?_ ?_ ?_ hB ?_
    · intro j u hj
      obtain ⟨hjl, -⟩ := List.getElem?_eq_some_iff.1 hj
      obtain ⟨u', q1, q2, -⟩ := hug j (by omega)
      rw [hj] at q1
      injection q1 with q1
      rw [q1]; exact q2
    · intro u hu
      obtain ⟨j, hj, rfl⟩ := List.mem_iff_getElem.1 hu
      obtain ⟨u', q1, -, q3⟩ := hug j (by omega)
      rw [List.getElem?_eq_getElem hj] at q1
      injection q1 with q1
      rw [q1]; exact q3.one
    · simp [maxLen]; omega
    · calc (vs.length + yss.length) * 24 ≤ 2 ^ 40 * 64 := Nat.mul_le_mul (by omega) (by omega)
        _ ≤ _ := by omega
    · intro v' w' k1 k2 _ k4
      have keep : ∀ u xs, ElS w v.ownBlock u xs → ElS w' v'.ownBlock u xs := by
        rintro u xs ⟨a, c, q1, q2, q3, q4⟩
        refine ⟨a, c, q1, fun hne => ?_, q3, fun hne p hp e => ?_⟩
        · obtain ⟨g, off, r1, r2, r3⟩ := q2 hne
          exact ⟨g, off, r1, Nat.lt_of_lt_of_le r2 k2.size, fun i hi => (World.cell?_of_block (w := w) (k2.block g r2 fun e1 => q4 hne _ r1 e1.symm)).trans (r3 i hi)⟩
        · obtain ⟨g, off, r1, r2, r3⟩ := q2 hne
          rcases k4 with k4 | k4
          · exact q4 hne p hp (by rw [← k4]; exact e)
          · rw [k4] at e
            rw [hp] at r1
            injection r1 with r1
            rw [r1] at e
            injection e with e
            simp at e
            omega
      refine h v' w' ⟨vs ++ us, ?_, by simp [hul, h2], fun i hi => ?_⟩ k2
      · rw [List.length_append, hul]; exact k1
      · rw [List.length_append] at hi
        by_cases hlt : i < xss.length
        · rw [getD_append_l (by omega), getD_append_l hlt]
          exact keep _ _ (h3 i hlt)
        · rw [getD_append_r (by omega), getD_append_r (by omega), h2]
          obtain ⟨u', q1, -, q3⟩ := hug (i - xss.length) (by omega)
          rw [List.getD_eq_getElem?_getD, q1]
          exact keep _ _ q3
set_option maxHeartbeats 4000000 in
theorem clone_c (a : Option Addr) (c : Nat) (xs : List Nat) (hn : a = none → c = 0) (hl : xs.length < 2 ^ 31) (w : World) (hs : Sl w a .u8 xs) :
    Calls Try.prog 24 #[.slice a xs.length c] w fun e w' => ∃ v, e = .returned v ∧ Own w' w.heap.size 5 .u8 v xs ∧ Below w.heap.size w w' := by
  cases a with
  | none =>
    obtain rfl := hn rfl
    have hx : xs = [] := Classical.byContradiction fun hne => by obtain ⟨_, _, q, -⟩ := hs hne; cases q
    subst hx
    have hnil : ∀ W, (binOp .eql 22 (.slice none 0 0) (.slice none 0 0)).run Try.prog W = .ok (.bool true) W := fun W => Lib.run_eql_slice_nil W _ _ none 0 0 0 0 Try.underlying22
    rw [List.length_nil]
    go_enter Try.func24, Try.ntmps24
    go_wp2
    go_ret
    exact ⟨_, rfl, Own.nil _ _ _ _, Below.refl _ _⟩
  | some p =>
    have E : Own (w.alloc (.cells #[] 5)) w.heap.size 5 .u8 (.slice (some ⟨w.heap.size, 0, none⟩) 0 0) [] := Own.made (xs := []) (Blk.new w 5 (ints .u8 [])) (Nat.le_refl _) (by simp)
    have hbel := (Below.refl w.heap.size w).alloc (Nat.le_refl _) (.cells #[] 5)
    have hs1 := hs.below hbel
    have hnil : ∀ W, (binOp .eql 22 (.slice (some p) xs.length c) (.slice none 0 0)).run Try.prog W = .ok (.bool false) W := fun W => Lib.run_eql_slice_nil W _ _ (some p) _ _ 0 0 Try.underlying22
    go_enter Try.func24, Try.ntmps24
    go_wp2_with (refine wpList_append_sl (zs := xs) rfl rfl Try.underlying22 Try.inf8 rfl (by omega) rfl E rfl rfl (fun h => by cases h) hs1 (by simp; omega) (by simp) ?_; intro v' w' hown' hgr; rw [List.nil_append] at hown'; have hbel' := bGrown hbel hgr (by simp) E (Nat.le_refl _); (try simp only [Act.put, List.setIfInBounds_toArray, List.set_cons_zero, List.set_cons_succ, World.size_alloc, setRow_size, Nat.add_assoc, Nat.reduceAdd]))
    go_ret
    exact ⟨_, rfl, hown', hbel'⟩
end Go.Proofs.Ythfkfbabjfogeaa
