/- Small laws on slices of numbers: appending another slice to one that the call made itself. No condition. -/
import Derived.Test.YtehhipanbjhffaaKit3
import Derived.Laws.OwnMore
namespace Go.Proofs.Ytehhipanbjhffaa
set_option linter.unusedSimpArgs false
set_option linter.unusedVariables false
set_option linter.unusedSectionVars false
set_option linter.unusedVariables false
open Go.RowKit
variable {P : Program}
theorem wpList_append_sl {ops : Array Oper} {rest : List Oper} {o : Oper} {a : Act} {w : World} {Q : Exit → Act → World → Prop} {B e t m c bytes : Nat} {k : IntKind} {z : Value} {v : Value} {ad : Option Addr} {xs zs : List Nat} {s x : Operand} (hgd : o.guard = none)
    (ho : o.op = .call { callee := .builtin .append, args := #[s, x], argTypes := #[t, t] }) (ht : P.underlying t = some (.slice e)) (hinf : (P.info? e).map (fun i => (i.zero, i.size, i.bytes)) = some (some z, 1, bytes)) (hz : z.cells.size = 1) (hby : bytes ≤ 64)
    (hs : a.eval s = v) (hown : Own w B e k v xs) (hx : a.eval x = .slice ad m c) (hm : m = zs.length) (hn : ad = none → c = 0) (hsl : Sl w ad k zs) (hl : xs.length + zs.length < 2 ^ 40) (hB : B ≤ w.heap.size)
    (h : ∀ v' w', Own w' B e k v' (xs ++ zs) → w.grownBy w' v.ownBlock → wpList P ops Q rest (a.put o.dst v') w') : wpList P ops Q (o :: rest) a w := by
  obtain ⟨i, hi, hz0, hz1, hz2⟩ := info_parts hinf
  subst hm
  cases ad with
  | none =>
    obtain rfl := hn rfl
    have hz0' : zs = [] := Classical.byContradiction fun hne => by obtain ⟨_, _, q, -⟩ := hsl hne; cases q
    subst hz0'
    refine wpList_plain hgd fun K hK => ?_
    have hrun := run_append_owned_none (P := P) w B t o.type e i 1 ht hi v xs.length _ hown
    unfold Oper.wp execOp
    simp only [ho, resolve, invoke, builtin, Sem.run_bind, Sem.run_pure, Result.andThen_ok, List.map_toArray, List.map_cons, List.map_nil, hs, hx, List.length_nil, hrun]
    refine hK _ _ (h v w (by rw [List.append_nil]; exact hown) ⟨rfl, rfl, rfl, Nat.le_refl _, fun _ _ _ => rfl⟩)
  | some ad =>
    refine wpList_append_own w hgd s x t ho B e i z 1 bytes ht hi hz0 hz1 hz2 hz (by omega) v xs.length _ hs hown ad zs.length c (zs.map fun n : Nat => Value.int k n) hx (by simp) ?_ ?_ ?_ ?_ hB ?_
    · intro j u hj
      rw [List.getElem?_map] at hj
      obtain ⟨y, hy, rfl⟩ := Option.map_eq_some_iff.1 hj
      obtain ⟨hjl, -⟩ := List.getElem?_eq_some_iff.1 hy
      obtain ⟨g, off, q1, q2, q3⟩ := hsl (by rintro rfl; simp at hjl)
      injection q1 with q1
      subst q1
      rw [Addr.add_mid, q3 j hjl, List.getD_eq_getElem?_getD, hy]; rfl
    · simp [Value.oneCell']
    · simp [maxLen]; omega
    · calc (xs.length + zs.length) * bytes ≤ 2 ^ 40 * 64 := Nat.mul_le_mul (by omega) hby
        _ ≤ _ := by omega
    · intro v' w' h1 h2 _
      refine h v' w' ?_ h2
      unfold Own
      rw [List.length_append, List.map_append]
      exact h1
theorem wpOp_cell {ops : Array Oper} {Q : Exit → Act → World → Prop} {K : Act → World → Prop} {j : Nat} {o : Oper} {a : Act} {w : World} {T g i : Nat} {k : IntKind} {x : Operand} {v : Value} (hi : ops[j]? = some o) (hw : Region.wanted o (yielded ops a.tmps) = true) (ho : o.op = .load T x) (hx : a.eval x = .pointer (some ⟨g, i, none⟩)) (hT : P.underlying T = some (.int k)) (hc : w.cell? ⟨g, i, none⟩ = some v)
    (h : K (a.put o.dst v) w) : wpOp P ops Q j K a w :=
  wpOp_value hi hw (by
    unfold execOp
    simp only [ho, hx, Instr.loadAt, Instr.sureAddr, Sem.run_bind, Sem.run_pure, Result.andThen_ok]
    simp [loadVar, isAgg, run_underlying hT, hc, go_sem]) h
/-- A region whose last operation waits for all others: these in whatever order, under an invariant over what has come up; then the last. -/
theorem wp_region_last {ops : Array Oper} {Q : Exit → Act → World → Prop} {rid : Nat} {a : Act} {w : World} (last : Nat) (hm : P.follows .mixedOrders = true)
    (hok : (ops.toList.zipIdx.all fun (o, i) => o.after.all fun e => decide (e.on < i)) = true)
    (hsz : (ops.size == last + 1) = true)
    (hall : ((List.range last).all fun j => (ops[last]?.map fun o => o.after.toList.any fun e => e.on == j && Region.binds .any e) == some true) = true)
    (I : (Nat → Prop) → Act → World → Prop)
    (h0 : I (fun _ => False) a w.drew)
    (hstep : ∀ (i : Nat) (o : Oper), i < last → ops[i]? = some o → ∀ (D : Nat → Prop) (a : Act) (w : World), I D a w → ¬ D i → (∀ e ∈ o.after, Region.binds .any e = true → D e.on) →
      wpOp P ops Q i (fun a' w' => I (fun j => j = i ∨ D j) a' w') a w)
    (hend : ∀ (D : Nat → Prop) (a : Act) (w : World), I D a w → (∀ j, j < last → D j) → wpOp P ops Q last (fun a' w' => Q .normal a' w') a w) :
    (Code.region rid ops true).wp P Q a w := by
  rw [beq_iff_eq] at hsz
  refine wp_region_inv hm hok (fun D a' w' => (¬ D last ∧ I D a' w') ∨ (D last ∧ (∀ j, j < last → D j) ∧ Q .normal a' w')) (.inl ⟨fun h => h, h0⟩) ?_ ?_
  · intro i o hi D a' w' hI hnD hpre
    have hlt : i < ops.size := (Array.getElem?_eq_some_iff.1 hi).1
    rcases hI with ⟨hl, hI⟩ | ⟨hl, hD, -⟩
    · by_cases h : i = last
      · subst h
        have hDall : ∀ j, j < i → D j := fun j hj => by
          have h1 := List.all_eq_true.1 hall j (List.mem_range.2 hj)
          rw [hi] at h1
          simp only [Option.map_some, beq_iff_eq, Option.some.injEq] at h1
          exact pre_of hpre j h1
        refine wpOp_mono (fun a2 w2 q => .inr ⟨.inl rfl, fun j hj => .inr (hDall j hj), q⟩) (hend D a' w' hI hDall)
      · refine wpOp_mono (fun a2 w2 q => .inl ⟨fun h2 => h2.elim (fun h3 => h h3.symm) hl, q⟩) (hstep i o (by omega) hi D a' w' hI hnD hpre)
    · exfalso
      by_cases h : i = last
      · subst h; exact hnD hl
      · exact hnD (hD i (by omega))
  · intro D a' w' hI hD
    rcases hI with ⟨hl, -⟩ | ⟨-, -, q⟩
    · exact absurd (hD last (by omega)) hl
    · exact q
/-- A row loaded under a guard that holds. -/
theorem wpList_load_intsG {ops : Array Oper} {rest : List Oper} {o : Oper} {a : Act} {w : World} {Q : Exit → Act → World → Prop} (hw : Region.wanted o (yielded ops a.tmps) = true) (T : TypeId) (x : Operand) (ho : o.op = .load T x)
    (g : Nat) (hx : a.eval x = .pointer (some ⟨g, 0, none⟩)) {n t : Nat} {k : IntKind} {xs : List Nat} (hb : Blk w g t (ints k xs)) (ha : IsArr P T n) (hl : xs.length = n)
    (h : wpList P ops Q rest (a.put o.dst (.agg (ints k xs))) w) : wpList P ops Q (o :: rest) a w := by
  obtain ⟨⟨d, h1, hd⟩, h2⟩ := ha
  exact wpList_step fun K hK => by
    rw [if_pos hw]
    exact wp_load_row T x ho g hx t _ _ _ hb h1 (by cases d <;> first | rfl | cases hd) (by rw [ints_size, hl]; exact h2) (hK _ _ h)
/-- What grew is as it was below. -/
theorem belowGrown {w w' : World} {B e : Nat} {k : IntKind} {v : Value} {xs : List Nat} (hg : w.grownBy w' v.ownBlock) (hown : Own w B e k v xs) (hB : B ≤ w.heap.size) : Below B w w' :=
  bGrown (Below.refl B w |>.mono (Nat.le_refl _)) hg hB hown (Nat.le_refl _)
theorem Own.mono {w : World} {B B' e : Nat} {k : IntKind} {v : Value} {xs : List Nat} (h : Own w B e k v xs) (hB : B' ≤ B) : Own w B' e k v xs := by
  obtain ⟨h1, h2⟩ := h
  refine ⟨h1, h2.imp id ?_⟩
  rintro ⟨g, cap, cur, hv, hg, r⟩
  exact ⟨g, cap, cur, hv, Nat.le_trans hB hg, r⟩
end Go.Proofs.Ytehhipanbjhffaa
