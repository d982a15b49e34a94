/- Small laws: slices of slices, parts of slices, rows of one's own that grow beside each other. No condition. -/
import Derived.Test.YtaiffkajkbiidaaGreatDoorKit11
import Derived.Test.YtaiffkajkbiidaaGreatDoorFlat
namespace Go.Proofs.YtaiffkajkbiidaaGreatDoor
set_option linter.unusedSimpArgs false
set_option linter.unusedVariables false
set_option linter.unusedSectionVars false
set_option linter.unusedVariables false
open Go.RowKit
section
variable {P : Program} {ops : Array Oper} {rest : List Oper} {o : Oper} {a : Act} {w : World} {Q : Exit → Act → World → Prop}
theorem wpList_valG {v : Value} (hw : Region.wanted o (yielded ops a.tmps) = true) (hr : (execOp a.eval o).run P w = .ok (.value v) w) (h : wpList P ops Q rest (a.put o.dst v) w) : wpList P ops Q (o :: rest) a w :=
  wpList_step fun K hK => by
    rw [if_pos hw]
    unfold Oper.wp
    rw [hr]
    exact hK _ _ h
theorem run_neqOp {b : Bool} {x y : Operand} {T T' : TypeId} {xs ys : Array Value} (ho : o.op = .binOp .neq T x y T') (hx : a.eval x = .agg xs) (hy : a.eval y = .agg ys) (hm : P.eqGuardType P.depth T = false)
    (hr : ∀ W, (binOp .neq T (.agg xs) (.agg ys)).run P W = .ok (.bool b) W) : (execOp a.eval o).run P w = .ok (.value (.bool b)) w := by
  unfold execOp
  simp only [ho, hx, hy, Sem.run_bind, Sem.run_pure, Result.andThen_ok, run_eqGuard_agg w .neq T x y xs ys hm, hr]
end
section
variable {P : Program}
theorem wpOp_append_o {ops : Array Oper} {o : Oper} {a : Act} {w : World} {Q : Exit → Act → World → Prop} {K : Act → World → Prop} {i B e t m c bytes : Nat} {k : IntKind} {z : Value} {v : Value} {ad : Option Addr} {xs zs : List Nat} {s x : Operand} (hi : ops[i]? = some o) (hw : Region.wanted o (yielded ops a.tmps) = true)
    (ho : o.op = .call { callee := .builtin .append, args := #[s, x], argTypes := #[t, t] }) (ht : P.underlying t = some (.slice e)) (hinf : (P.info? e).map (fun i => (i.zero, i.size, i.bytes)) = some (some z, 1, bytes)) (hz : z.cells.size = 1) (hby : bytes ≤ 64)
    (hs : a.eval s = v) (hown : Own w B e k v xs) (hx : a.eval x = .slice ad m c) (hm : m = zs.length) (hn : ad = none → c = 0) (hsl : Sl w ad k zs) (hl : xs.length + zs.length < 2 ^ 40) (hB : B ≤ w.heap.size)
    (h : ∀ v' w', Own w' B e k v' (xs ++ zs) → w.grownBy w' v.ownBlock → K (a.put o.dst v') w') : wpOp P ops Q i K a w := by
  obtain ⟨f, hf, hz0, hz1, hz2⟩ := info_parts hinf
  subst hm
  cases ad with
  | none =>
    obtain rfl := hn rfl
    have hz0' : zs = [] := Classical.byContradiction fun hne => by obtain ⟨_, _, q, -⟩ := hsl hne; cases q
    subst hz0'
    have hrun := run_append_owned_none (P := P) w B t o.type e f 1 ht hf v xs.length _ hown
    refine wpOp_step (v := v) (w' := w) hi hw ?_ (h v w (by rw [List.append_nil]; exact hown) ⟨rfl, rfl, rfl, Nat.le_refl _, fun _ _ _ => rfl⟩)
    unfold execOp
    simp only [ho, resolve, invoke, builtin, Sem.run_bind, Sem.run_pure, Result.andThen_ok, List.map_toArray, List.map_cons, List.map_nil, hs, hx, List.length_nil, hrun]
  | some ad =>
    have hnews : ∀ j u, (zs.map fun n : Nat => Value.int k n)[j]? = some u → w.cell? (ad.add j) = some u := by
      intro j u hj
      rw [List.getElem?_map] at hj
      obtain ⟨y, hy, rfl⟩ := Option.map_eq_some_iff.1 hj
      obtain ⟨hjl, -⟩ := List.getElem?_eq_some_iff.1 hy
      obtain ⟨g, off, q1, q2, q3⟩ := hsl (by rintro rfl; simp at hjl)
      injection q1 with q1
      subst q1
      rw [Addr.add_mid, q3 j hjl, List.getD_eq_getElem?_getD, hy]; rfl
    have hbb : (xs.length + zs.length) * bytes ≤ 140737488355328 := calc (xs.length + zs.length) * bytes ≤ 2 ^ 40 * 64 := Nat.mul_le_mul (by omega) hby
        _ ≤ _ := by omega
    obtain ⟨v', w', hr, h2, h3, -, -⟩ := run_append_own_at (P := P) w B t o.type e f z 1 bytes ht hf hz0 hz1 hz2 hz (by omega) v xs.length _ hown ad zs.length c (zs.map fun n : Nat => Value.int k n) (by simp) hnews (by simp [Value.oneCell']) (by simp [maxLen]; omega) hbb hB
    refine wpOp_step (v := v') (w' := w') hi hw ?_ (h v' w' (by unfold Own; rw [List.length_append, List.map_append]; exact h2) h3)
    unfold execOp
    simp only [ho, resolve, invoke, builtin, Sem.run_bind, Sem.run_pure, Result.andThen_ok, List.map_toArray, List.map_cons, List.map_nil, hs, hx, hr]
end
theorem Tryz.inf8 : (Tryz.prog.info? 5).map (fun i => (i.zero, i.size, i.bytes)) = some (some (.int .u8 0), 1, 1) := by kernel_rfl
theorem own_blk {w : World} {B e g t : Nat} {k : IntKind} {v : Value} {xs : List Nat} {cs : Array Value} (h : Own w B e k v xs) (hb : Blk w g t cs) (hne : t ≠ e) : v.ownBlock ≠ some g := fun hv => by
  obtain ⟨-, h2⟩ := h
  rcases h2 with ⟨rfl, -⟩ | ⟨g', cap, cur, rfl, q2, q3, -⟩
  · cases hv
  · have : g' = g := Option.some.inj hv
    subst this
    unfold Blk at hb
    rw [hb] at q3
    injection q3 with q3
    injection q3 with _ q3
    exact hne q3
theorem Own.ch {w w' : World} {B e g t : Nat} {k : IntKind} {v : Value} {xs : List Nat} {cs : Array Value} (h : Own w B e k v xs) (hc : Ch g w w') (hb : Blk w g t cs) (hne : t ≠ e) : Own w' B e k v xs := by
  have hn := own_blk h hb hne
  obtain ⟨h1, h2⟩ := h
  refine ⟨h1, ?_⟩
  rcases h2 with h2 | ⟨g', cap, cur, rfl, q2, q3, q4⟩
  · exact .inl h2
  · refine .inr ⟨g', cap, cur, rfl, q2, ?_, q4⟩
    rw [hc.heap g' (Array.getElem?_eq_some_iff.1 q3).1 (fun e1 => hn (by rw [e1]; rfl))]
    exact q3
theorem Blk.grownTy {w w' : World} {B e g t : Nat} {k : IntKind} {v : Value} {xs : List Nat} {cs : Array Value} (hb : Blk w g t cs) (hgr : w.grownBy w' v.ownBlock) (h : Own w B e k v xs) (hne : t ≠ e) : Blk w' g t cs :=
  hb.grown hgr (fun e1 => own_blk h hb hne e1.symm)
theorem Own.lt_ {w : World} {B e : Nat} {k : IntKind} {v : Value} {xs : List Nat} (h : Own w B e k v xs) : ∀ g, v.ownBlock = some g → g < w.heap.size := fun g hg => (World.ownsRow.lt h g hg).2
theorem Own.ge_ {w : World} {B e : Nat} {k : IntKind} {v : Value} {xs : List Nat} (h : Own w B e k v xs) : ∀ g, v.ownBlock = some g → B ≤ g := fun g hg => (World.ownsRow.lt h g hg).1
/-- A row that lies below another one's base stays as the other one grows. -/
theorem Own.stays {w w' : World} {B B' e e' C : Nat} {k k' : IntKind} {v u : Value} {xs ys : List Nat} (h : Own w B e k u xs) (hgr : w.grownBy w' v.ownBlock) (hv : Own w B' e' k' v ys) (hlt : ∀ g, u.ownBlock = some g → g < C) (hC : C ≤ B') : Own w' B e k u xs :=
  h.grownDis hgr fun g h1 h2 => by
    have := hv.ge_ g h1
    have := hlt g h2
    omega
theorem Own.frozen_ {w : World} {B e g n c i : Nat} {k : IntKind} {xs : List Nat} (h : Own w B e k (.slice (some ⟨g, 0, none⟩) n c) xs) : w.frozen? ⟨g, i, none⟩ = false := by
  obtain ⟨-, ⟨h2, -⟩ | ⟨g', cap, cur, q1, q2, q3, -⟩⟩ := h
  · cases h2
  · cases q1
    exact Blk.frozen q3 i
/-- One number of a row of one's own stored. -/
theorem Own.set_ {w : World} {B e g c i n : Nat} {k : IntKind} {xs : List Nat} (h : Own w B e k (.slice (some ⟨g, 0, none⟩) xs.length c) xs) (hi : i < xs.length) : Own (w.setCell ⟨g, i, none⟩ (.int k (n : Int))) B e k (.slice (some ⟨g, 0, none⟩) xs.length c) (xs.set i n) := by
  obtain ⟨h1, h2⟩ := h
  refine ⟨by simp, .inr ?_⟩
  rcases h2 with ⟨h2, -⟩ | ⟨g', cap, cur, q1, q2, q3, q4, q5, q6, q7⟩
  · cases h2
  · cases q1
    refine ⟨g, c, cur.setIfInBounds i (.int k (n : Int)), by rw [List.length_set], q2, heap_setCell_same _ _ _ _ _ _ q3, by rw [List.length_set]; exact q4, q5, by rw [Array.size_setIfInBounds]; exact q6, ?_⟩
    rw [Array.toList_setIfInBounds, List.length_set, List.take_set, q7, ← List.map_set]
theorem Own.stays_set {w : World} {B e g i C : Nat} {k : IntKind} {u x : Value} {xs : List Nat} (h : Own w B e k u xs) (hlt : ∀ g, u.ownBlock = some g → g < C) (hC : C ≤ g) : Own (w.setCell ⟨g, i, none⟩ x) B e k u xs := by
  obtain ⟨h1, h2⟩ := h
  refine ⟨h1, ?_⟩
  rcases h2 with h2 | ⟨g', cap, cur, rfl, q2, q3, q4⟩
  · exact .inl h2
  · refine .inr ⟨g', cap, cur, rfl, q2, ?_, q4⟩
    rw [Below.heap_setCell _ _ _ _ (show g' ≠ g by have := hlt g' rfl; omega)]
    exact q3
theorem Sl.sliced {w : World} {a : Option Addr} {k : IntKind} {xs : List Nat} (h : Sl w a k xs) {c n : Nat} (hc : xs.length ≤ c) : Sl w (if c = n then a else a.map (·.add (n * 1))) k (xs.drop n) := fun hn => by
  have hlt : n < xs.length := by
    rcases Nat.lt_or_ge n xs.length with h1 | h1
    · exact h1
    · exact absurd (List.drop_eq_nil_of_le h1) hn
  obtain ⟨g, off, rfl, h2, h3⟩ := h (by rintro rfl; simp at hlt)
  rw [if_neg (by omega), Option.map_some, Nat.mul_one, Addr.add_mid]
  refine ⟨g, off + n, rfl, h2, fun i hi => ?_⟩
  rw [List.length_drop] at hi
  rw [Nat.add_assoc, h3 (n + i) (by omega)]
  congr 3
  rw [List.getD_eq_getElem?_getD, List.getD_eq_getElem?_getD, List.getElem?_drop]
section
variable {P : Program} {ops : Array Oper} {rest : List Oper} {o : Oper} {a : Act} {w : World} {Q : Exit → Act → World → Prop}
/-- x[n:], in whatever world. -/
theorem wpList_sliceLoW {T e n N c : Nat} {x y : Operand} {ad : Option Addr} (hgd : o.guard = none) (ho : o.op = .slice T x (some y) none none) (hT : P.underlying T = some (.slice e)) (hs : (P.info? e).map (·.size) = some 1)
    (hx : a.eval x = .slice ad N c) (hy : a.eval y = .int .i64 (n : Int)) (hn : n ≤ N)
    (h : ∀ ad2 c2, (∀ (W : World) (k : IntKind) (xs : List Nat), Sl W ad k xs → xs.length ≤ c → Sl W ad2 k (xs.drop n)) → (N ≤ c → N - n ≤ c2) → wpList P ops Q rest (a.put o.dst (.slice ad2 (N - n) c2)) w) : wpList P ops Q (o :: rest) a w :=
  wpList_plain hgd fun _ hK => by
    obtain ⟨d, hd, hd1⟩ := Option.map_eq_some_iff.1 hs
    have he := elem_of hT
    have hT' : P.underlying T = some (.slice (P.elem T)) := by rw [he]; exact hT
    have hr := run_slice_l (P := P) (w := w) T ad N c hT' .i64 n (by omega) (by omega)
    have hsz : (sizeOf (P.elem T)).run P w = .ok 1 w := by simp [sizeOf, typeInfo, he, hd, hd1]
    rw [hsz] at hr
    unfold Oper.wp execOp
    simp only [ho, hx, hy, Option.map_some, Option.map_none, Sem.run_bind, Sem.run_pure, run_sliceAt_slice w T _ _ _ _ hT', hr, Result.andThen_ok, Int.toNat_natCast, sliced]
    exact hK _ _ (h _ _ (fun W k xs hsl hl => hsl.sliced hl) (fun hc => by omega))
end
theorem Own.slz {w : World} {B : Nat} {e : TypeId} {k : IntKind} {v : Value} {xs : List Nat} (h : Own w B e k v xs) : ∃ a c, v = .slice a xs.length c ∧ Sl w a k xs ∧ xs.length ≤ c ∧ c ≤ maxLen ∧ (a = none → c = 0) := by
  obtain ⟨a, c, rfl, h1, h2, h3⟩ := h.sl
  refine ⟨a, c, rfl, h1, h2, h3, fun ha => ?_⟩
  obtain ⟨-, ⟨q, -⟩ | ⟨g, cap, cur, q, -⟩⟩ := h
  · injection q with q1 q2 q3
  · injection q with q1 q2 q3
    rw [ha] at q1; cases q1
section
variable {P : Program} {ops : Array Oper} {rest : List Oper} {o : Oper} {a : Act} {w : World} {Q : Exit → Act → World → Prop}
/-- x[m:n], a part of a slice. -/
theorem wpList_sliceLH {T e m n N c : Nat} {x y z : Operand} {ad : Option Addr} {k : IntKind} {xs : List Nat} (hgd : o.guard = none) (ho : o.op = .slice T x (some y) (some z) none) (hT : P.underlying T = some (.slice e)) (hs : (P.info? e).map (·.size) = some 1)
    (hx : a.eval x = .slice ad N c) (hy : a.eval y = .int .i64 (m : Int)) (hz : a.eval z = .int .i64 (n : Int)) (hmn : m ≤ n) (hn : n ≤ c) (hl : xs.length ≤ c) (hsl : Sl w ad k xs)
    (h : ∀ ad2, Sl w ad2 k ((xs.drop m).take (n - m)) → wpList P ops Q rest (a.put o.dst (.slice ad2 (n - m) (c - m))) w) : wpList P ops Q (o :: rest) a w :=
  wpList_plain hgd fun _ hK => by
    obtain ⟨d, hd, hd1⟩ := Option.map_eq_some_iff.1 hs
    have he := elem_of hT
    have hT' : P.underlying T = some (.slice (P.elem T)) := by rw [he]; exact hT
    have hr := run_slice_lh (P := P) (w := w) T ad N c hT' .i64 .i64 m n (by omega) (by omega) (by omega)
    have hsz : (sizeOf (P.elem T)).run P w = .ok 1 w := by simp [sizeOf, typeInfo, he, hd, hd1]
    rw [hsz] at hr
    unfold Oper.wp execOp
    simp only [ho, hx, hy, hz, Option.map_some, Option.map_none, Sem.run_bind, Sem.run_pure, run_sliceAt_slice w T _ _ _ _ hT', hr, Result.andThen_ok, Int.toNat_natCast, sliced]
    exact hK _ _ (h _ ((hsl.sliced hl).take _))
end
section
variable {P : Program} {ops : Array Oper} {rest : List Oper} {o : Oper} {a : Act} {w : World} {Q : Exit → Act → World → Prop}
/-- x[:n], the head of a slice. -/
theorem wpList_sliceHi {T e n N c : Nat} {x y : Operand} {ad : Option Addr} {k : IntKind} {xs : List Nat} (hgd : o.guard = none) (ho : o.op = .slice T x none (some y) none) (hT : P.underlying T = some (.slice e)) (hs : (P.info? e).map (·.size) = some 1)
    (hx : a.eval x = .slice ad N c) (hy : a.eval y = .int .i64 (n : Int)) (hn : n ≤ c) (hsl : Sl w ad k xs)
    (h : ∀ ad2, Sl w ad2 k (xs.take n) → (ad2 = none → ad = none) → wpList P ops Q rest (a.put o.dst (.slice ad2 n c)) w) : wpList P ops Q (o :: rest) a w :=
  wpList_plain hgd fun _ hK => by
    obtain ⟨d, hd, hd1⟩ := Option.map_eq_some_iff.1 hs
    have he := elem_of hT
    have hT' : P.underlying T = some (.slice (P.elem T)) := by rw [he]; exact hT
    have hr := run_slice_h (P := P) (w := w) T ad N c hT' .i64 n (by omega) (by omega)
    have hsz : (sizeOf (P.elem T)).run P w = .ok 1 w := by simp [sizeOf, typeInfo, he, hd, hd1]
    rw [hsz] at hr
    unfold Oper.wp execOp
    have hadd : ∀ ad : Option Addr, (if c = 0 then ad else ad.map (·.add (0 * 1))) = ad := fun ad => by
      split
      · rfl
      · cases ad with
        | none => rfl
        | some p => simp [Addr.add]
    simp only [ho, hx, hy, Option.map_some, Option.map_none, Sem.run_bind, Sem.run_pure, run_sliceAt_slice w T _ _ _ _ hT', hr, Result.andThen_ok, Int.toNat_natCast, sliced, hadd, Nat.sub_zero]
    exact hK _ _ (h _ (hsl.take n) (fun h => h))
end
end Go.Proofs.YtaiffkajkbiidaaGreatDoor
