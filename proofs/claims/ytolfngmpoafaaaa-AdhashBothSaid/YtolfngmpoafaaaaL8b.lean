/- The walk of PolyOn; an append as one step of a drawn region. No condition but that bytes are below 256. -/
import Derived.Test.YtolfngmpoafaaaaL8a
namespace Go.Proofs.Ytolfngmpoafaaaa
set_option linter.unusedSimpArgs false
set_option linter.unusedVariables false
set_option linter.unusedSectionVars false
set_option linter.unusedVariables false
open Go.RowKit
section
variable {P : Program}
theorem wpOp_append_o {ops : Array Oper} {o : Oper} {a : Act} {w : World} {Q : Exit → Act → World → Prop} {K : Act → World → Prop} {i B e t m c bytes : Nat} {k : IntKind} {z : Value} {v : Value} {ad : Option Addr} {xs zs : List Nat} {s x : Operand} (hi : ops[i]? = some o) (hw : Region.wanted o (yielded ops a.tmps) = true)
    (ho : o.op = .call { callee := .builtin .append, args := #[s, x], argTypes := #[t, t] }) (ht : P.underlying t = some (.slice e)) (hinf : (P.info? e).map (fun i => (i.zero, i.size, i.bytes)) = some (some z, 1, bytes)) (hz : z.cells.size = 1) (hby : bytes ≤ 64)
    (hs : a.eval s = v) (hown : Own w B e k v xs) (hx : a.eval x = .slice ad m c) (hm : m = zs.length) (hn : ad = none → c = 0) (hsl : Sl w ad k zs) (hl : xs.length + zs.length < 2 ^ 40) (hB : B ≤ w.heap.size)
    (h : ∀ v' w', Own w' B e k v' (xs ++ zs) → w.grownBy w' v.ownBlock → K (a.put o.dst v') w') : wpOp P ops Q i K a w := by
  obtain ⟨f, hf, hz0, hz1, hz2⟩ := info_parts hinf
  subst hm
  cases ad with
  | none =>
    obtain rfl := hn rfl
    have hz0' : zs = [] := Classical.byContradiction fun hne => by obtain ⟨_, _, q, -⟩ := hsl hne; cases q
    subst hz0'
    have hrun := run_append_owned_none (P := P) w B t o.type e f 1 ht hf v xs.length _ hown
    refine wpOp_step (v := v) (w' := w) hi hw ?_ (h v w (by rw [List.append_nil]; exact hown) ⟨rfl, rfl, rfl, Nat.le_refl _, fun _ _ _ => rfl⟩)
    unfold execOp
    simp only [ho, resolve, invoke, builtin, Sem.run_bind, Sem.run_pure, Result.andThen_ok, List.map_toArray, List.map_cons, List.map_nil, hs, hx, List.length_nil, hrun]
  | some ad =>
    have hnews : ∀ j u, (zs.map fun n : Nat => Value.int k n)[j]? = some u → w.cell? (ad.add j) = some u := by
      intro j u hj
      rw [List.getElem?_map] at hj
      obtain ⟨y, hy, rfl⟩ := Option.map_eq_some_iff.1 hj
      obtain ⟨hjl, -⟩ := List.getElem?_eq_some_iff.1 hy
      obtain ⟨g, off, q1, q2, q3⟩ := hsl (by rintro rfl; simp at hjl)
      injection q1 with q1
      subst q1
      rw [Addr.add_mid, q3 j hjl, List.getD_eq_getElem?_getD, hy]; rfl
    have hbb : (xs.length + zs.length) * bytes ≤ 140737488355328 := calc (xs.length + zs.length) * bytes ≤ 2 ^ 40 * 64 := Nat.mul_le_mul (by omega) hby
        _ ≤ _ := by omega
    obtain ⟨v', w', hr, h2, h3, -, -⟩ := run_append_own_at (P := P) w B t o.type e f z 1 bytes ht hf hz0 hz1 hz2 hz (by omega) v xs.length _ hown ad zs.length c (zs.map fun n : Nat => Value.int k n) (by simp) hnews (by simp [Value.oneCell']) (by simp [maxLen]; omega) hbb hB
    refine wpOp_step (v := v') (w' := w') hi hw ?_ (h v' w' (by unfold Own; rw [List.length_append, List.map_append]; exact h2) h3)
    unfold execOp
    simp only [ho, resolve, invoke, builtin, Sem.run_bind, Sem.run_pure, Result.andThen_ok, List.map_toArray, List.map_cons, List.map_nil, hs, hx, hr]
end
theorem Try.inf8 : (Try.prog.info? 5).map (fun i => (i.zero, i.size, i.bytes)) = some (some (.int .u8 0), 1, 1) := by kernel_rfl
theorem on8_end {key a b : List Nat} (h : a.length % 16 = 0) {n : Nat} (hn : n = chunks b.length) : numOf (polyA key (a ++ b)) = numOf (val (numOf (polyA key a * byN key ^ n)) + val (numOf (polyA key b))) := by
  subst hn
  refine numOf_congr ?_
  rw [polyA_on key b h, val_numOf, val_numOf, Nat.mod_mod, ← Nat.add_mod]
theorem on8_step (V r j : Nat) : numOf (val (numOf (V * r ^ j)) * val (numOf r)) = numOf (V * r ^ (j + 1)) := by
  refine numOf_congr ?_
  rw [val_numOf, val_numOf, ← Nat.mul_mod, Nat.pow_succ, Nat.mul_assoc]
end Go.Proofs.Ytolfngmpoafaaaa
