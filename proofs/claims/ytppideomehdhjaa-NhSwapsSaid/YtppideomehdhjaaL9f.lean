/- The walk of NhSwaps. No condition but that bytes and words are in their bounds. -/
import Derived.Test.YtppideomehdhjaaL9
import Derived.Test.YtppideomehdhjaaKit10
import Derived.Test.YtppideomehdhjaaRow3
import Derived.Deep.Cut
import Derived.Maps.AppendAt
import Derived.Deep.MidRow
import Derived.Deep.CutRange
import Derived.Deep.DeepCutAuto
namespace Go.Proofs.Ytppideomehdhjaa
set_option linter.unusedSimpArgs false
set_option linter.unusedVariables false
set_option linter.unusedSectionVars false
set_option linter.unusedVariables false
open Go.RowKit
section
variable {P : Program}
theorem ready_nil_all2 {md : Region.Mode} {ops : Array Oper} {listed : Array Bool} (hok : (ops.toList.zipIdx.all fun (o, i) => o.after.all fun e => decide (e.on < i) || !Region.binds md e) = true)
    (hs : listed.size = ops.size) (h : Region.ready md ops listed = []) : ∀ j, j < ops.size → listed.getD j false = true := by
  intro j
  induction j using Nat.strongRecOn with
  | ind j ih =>
    intro hj
    refine Classical.byContradiction fun hn => ?_
    have hmem : j ∈ Region.ready md ops listed := by
      rw [mem_ready]
      refine ⟨?_, ops[j], by simp [hj], fun e he hbe => ?_⟩
      · rw [Array.getD_eq_getD_getElem?, Array.getElem?_eq_getElem (by omega)] at hn ⊢
        simpa using hn
      · rw [List.all_eq_true] at hok
        have := hok (ops[j], j) (by rw [List.mem_zipIdx_iff_getElem?]; simp [hj])
        simp only [Array.all_eq_true_iff_forall_mem, decide_eq_true_eq] at this
        have hlt : e.on < j := by have h3 := this e he; rw [hbe] at h3; simpa using h3
        exact ih _ hlt (by omega)
    rw [h] at hmem
    cases hmem

theorem wp_region_inv2 {ops : Array Oper} {Q : Exit → Act → World → Prop} {rid : Nat} {a : Act} {w : World} (hm : P.follows .mixedOrders = true)
    (hok : (ops.toList.zipIdx.all fun (o, i) => o.after.all fun e => decide (e.on < i) || !Region.binds .any e) = true)
    (I : (Nat → Prop) → Act → World → Prop)
    (h0 : I (fun _ => False) a w.drew)
    (hstep : ∀ (i : Nat) (o : Oper), ops[i]? = some o → ∀ (D : Nat → Prop) (a : Act) (w : World), I D a w → ¬ D i → (∀ e ∈ o.after, Region.binds .any e = true → D e.on) →
      wpOp P ops Q i (fun a' w' => I (fun j => j = i ∨ D j) a' w') a w)
    (hend : ∀ (D : Nat → Prop) (a : Act) (w : World), I D a w → (∀ j, j < ops.size → D j) → Q .normal a w) :
    (Code.region rid ops true).wp P Q a w := by
  refine wp_region_any hm ?_
  have key : ∀ (fuel : Nat) (listed : Array Bool) (D : Nat → Prop) (a : Act) (w : World), listed.size = ops.size → (∀ j, D j ↔ listed.getD j false = true) → I D a w →
      (fuel + (listed.toList.filter _root_.id).length = ops.size) → wpAny P .any ops Q fuel listed a w := by
    intro fuel
    induction fuel with
    | zero =>
      intro listed D a w hs hD hI hf
      have hall : ∀ j, j < ops.size → listed.getD j false = true := by
        intro j hj
        have hl : (listed.toList.filter _root_.id).length = listed.toList.length := by simp at hf ⊢; omega
        have := List.length_filter_eq_length_iff.1 hl (listed[j]'(by omega)) (by simp)
        rw [Array.getD_eq_getD_getElem?, Array.getElem?_eq_getElem (by omega)]
        simpa using this
      refine ⟨?_, hend D a w hI fun j hj => (hD j).2 (hall j hj)⟩
      cases hr : Region.ready .any ops listed with
      | nil => rfl
      | cons i is =>
        have hi : i ∈ Region.ready .any ops listed := by rw [hr]; simp
        obtain ⟨h1, o, ho, -⟩ := mem_ready.1 hi
        have hlt : i < ops.size := (Array.getElem?_eq_some_iff.1 ho).1
        have := hall i hlt
        rw [Array.getD_eq_getD_getElem?, Array.getElem?_eq_getElem (by omega)] at this h1
        simp at this h1
        rw [this] at h1; cases h1
    | succ fuel ih =>
      intro listed D a w hs hD hI hf
      refine ⟨fun hr => hend D a w hI fun j hj => (hD j).2 (ready_nil_all2 hok hs hr j hj), fun i hi => ?_⟩
      obtain ⟨h1, o, ho, hall⟩ := mem_ready.1 hi
      have hlt : i < ops.size := (Array.getElem?_eq_some_iff.1 ho).1
      have hlf : listed[i]'(by omega) = false := by
        rw [Array.getD_eq_getD_getElem?, Array.getElem?_eq_getElem (by omega)] at h1
        simpa using h1
      refine wpOp_mono (fun a' w' hI' => ih (listed.setIfInBounds i true) (fun j => j = i ∨ D j) a' w' (by simpa using hs) ?_ hI' ?_)
        (hstep i o ho D a w hI (fun hDi => ?_) fun e he hb => (hD _).2 (hall e he hb))
      · intro j
        by_cases hj : i = j
        · subst hj
          simp [Array.getD_eq_getD_getElem?, hs, hlt]
        · rw [getD_set_ne false hj, ← hD]
          constructor
          · rintro (h | h)
            · exact absurd h.symm hj
            · exact h
          · exact Or.inr
      · have hcount : ((listed.setIfInBounds i true).toList.filter _root_.id).length = (listed.toList.filter _root_.id).length + 1 := by
          rw [Array.toList_setIfInBounds]
          have hi' : i < listed.toList.length := by simpa [hs] using hlt
          have e1 : listed.toList = listed.toList.take i ++ listed.toList[i] :: listed.toList.drop (i + 1) := by
            rw [List.getElem_cons_drop, List.take_append_drop]
          rw [List.set_eq_take_append_cons_drop, if_pos hi']
          conv => rhs; rw [e1]
          have hz : listed.toList[i] = false := by simpa using hlf
          simp only [List.filter_append, List.length_append, List.filter_cons, hz, _root_.id, if_true, Bool.false_eq_true, if_false, List.length_cons]
          omega
        have hcount' : ((listed.setIfInBounds i true).toList.filter _root_.id).length = (listed.toList.filter _root_.id).length + 1 := hcount
        omega
      · have := (hD i).1 hDi
        rw [Array.getD_eq_getD_getElem?, Array.getElem?_eq_getElem (by omega)] at this
        simp [hlf] at this
  refine key ops.size _ (fun _ => False) a _ (by simp) (fun j => ?_) h0 ?_
  · constructor
    · exact False.elim
    · intro h
      rw [Array.getD_eq_getD_getElem?] at h
      by_cases hj : j < ops.size
      · simp [hj] at h
      · simp [hj] at h
  · simp

/-! ### a scope whose label is jumped back to: the pass from the label on is walked once -/
end
theorem Try.ar24 : IsArr Try.prog 24 16 := isArr Try.underlying24 (by kernel_rfl)
theorem Try.z24 : IsZero Try.prog 24 16 .u32 := isZero (by kernel_rfl)
def swapW (W : List Nat) : List Nat := [W.getD 2 0, W.getD 3 0, W.getD 0 0, W.getD 1 0] ++ W.drop 4
def swapB (bs : List Nat) : List Nat := bs.drop 8 ++ bs.take 8
theorem list16 {xs : List Nat} (h : xs.length = 16) : ∃ a b c d e f g i j k l m n o p q, xs = [a, b, c, d, e, f, g, i, j, k, l, m, n, o, p, q] := by
  match xs, h with
  | [a, b, c, d, e, f, g, i, j, k, l, m, n, o, p, q], _ => exact ⟨a, b, c, d, e, f, g, i, j, k, l, m, n, o, p, q, rfl⟩
theorem swap_len {W : List Nat} (h : W.length = 16) : (swapW W).length = 16 := by simp [swapW, h]
theorem swapB_len {bs : List Nat} (h : bs.length = 16) : (swapB bs).length = 16 := by simp [swapB, h]
theorem swap_uv0 {W bs : List Nat} (hW : W.length = 16) (hb : bs.length = 16) : uv (swapW W) (swapB bs) 0 0 0 = uv W bs 0 0 0 := by
  obtain ⟨a, b, c, d, e, f, g, i, j, k, l, m, n, o, p, q, rfl⟩ := list16 hb
  obtain ⟨a', b', c', d', e', f', g', i', j', k', l', m', n', o', p', q', rfl⟩ := list16 hW
  unfold uv
  rw [Nat.mul_comm]
  rfl
theorem swap_uv1 {W bs : List Nat} (hW : W.length = 16) (hb : bs.length = 16) : uv (swapW W) (swapB bs) 0 0 1 = uv W bs 0 0 1 := by
  obtain ⟨a, b, c, d, e, f, g, i, j, k, l, m, n, o, p, q, rfl⟩ := list16 hb
  obtain ⟨a', b', c', d', e', f', g', i', j', k', l', m', n', o', p', q', rfl⟩ := list16 hW
  unfold uv
  rw [Nat.mul_comm]
  rfl
theorem swap_nhB {W bs : List Nat} (hW : W.length = 16) (hb : bs.length = 16) : nhB (swapW W) (swapB bs) 0 = nhB W bs 0 := by
  unfold nhB
  rw [hb, swapB_len hb]
  show dig 256 8 ((0 + (0 + uv (swapW W) (swapB bs) 0 0 0 + uv (swapW W) (swapB bs) 0 0 1)) % 18446744073709551616) = dig 256 8 ((0 + (0 + uv W bs 0 0 0 + uv W bs 0 0 1)) % 18446744073709551616)
  rw [swap_uv0 hW hb, swap_uv1 hW hb]
theorem nh16_ok {W bs : List Nat} (hW : W.length = 16) (hb : bs.length = 16) : nhOut W bs = nhH W bs ∧ nhErr W bs = 0 := by
  have e : nhErr W bs = 0 := by
    unfold nhErr
    rw [if_neg (by omega), if_neg (by omega), if_neg (by omega)]
  exact ⟨by unfold nhOut; rw [if_pos e], e⟩
theorem numAt_congr {xs ys : List Nat} {p n : Nat} (h : ∀ i, i < n → xs.getD (p + i) 0 = ys.getD (p + i) 0) : numAt xs p n = numAt ys p n := by
  induction n with
  | zero => rfl
  | succ n ih => rw [numAt_succ, numAt_succ, ih (fun i hi => h i (by omega)), h n (by omega)]
theorem swap_num {W bs : List Nat} (hW : W.length = 16) (hb : bs.length = 16) : numAt (nhOut (swapW W) (swapB bs)) 0 8 = numAt (nhOut W bs) 0 8 := by
  rw [(nh16_ok hW hb).1, (nh16_ok (swap_len hW) (swapB_len hb)).1]
  unfold nhH
  rw [swap_nhB hW hb]
  refine numAt_congr fun i hi => ?_
  have hl := nhB_len W bs 0
  rw [List.getD_eq_getElem?_getD, List.getD_eq_getElem?_getD, List.getElem?_append_left (by omega), List.getElem?_append_left (by omega)]
theorem swapW_lt {W : List Nat} (hl : W.length = 16) (h : ∀ x ∈ W, x < 4294967296) : ∀ x ∈ swapW W, x < 4294967296 := fun x hx => by
  rcases List.mem_append.1 hx with hx | hx
  · simp only [List.mem_cons, List.not_mem_nil, or_false] at hx
    rcases hx with rfl | rfl | rfl | rfl <;> exact getD_bound h (by omega) _
  · exact h x (List.mem_of_mem_drop hx)
theorem swapB_lt {bs : List Nat} (h : ∀ x ∈ bs, x < 256) : ∀ x ∈ swapB bs, x < 256 := fun x hx =>
  (List.mem_append.1 hx).elim (fun hx => h x (List.mem_of_mem_drop hx)) (fun hx => h x (List.mem_of_mem_take hx))
theorem nhH_lt (W bs : List Nat) : ∀ x ∈ nhH W bs, x < 256 := fun x hx => by
  unfold nhH nhB at hx
  simp only [List.mem_append] at hx
  rcases hx with hx | hx | hx | hx <;> exact dig_lt (by omega) _ _ x hx
theorem hash16_c (a0 a1 : Option Addr) (c : Nat) (ks bs : List Nat) (hkl : ks.length = 16) (hbl : bs.length = 16) (hb : ∀ x ∈ bs, x < 256) (hk : ∀ x ∈ ks, x < 4294967296) (w : World) (hsw : Sl w a0 .u32 ks) (hsb : Sl w a1 .u8 bs) :
    Calls Try.prog 10 #[.slice a0 16 16, .slice a1 16 c] w fun e w' => e = .returned (.tuple #[.agg (ints .u8 (nhH ks bs)), .int .i64 0]) ∧ Below w.heap.size w w' := by
  have h := hash_c a0 a1 16 c ks bs hb hk (by omega) (by omega) (by omega) (by unfold maxLen; omega) w hsw hsb
  rw [(nh16_ok hkl hbl).1, (nh16_ok hkl hbl).2, hkl, hbl] at h
  exact h
section
variable {P : Program}
theorem wpOp_append_sl {ops : Array Oper} {o : Oper} {a : Act} {w : World} {Q : Exit → Act → World → Prop} {K : Act → World → Prop} {i B e t m c bytes : Nat} {k : IntKind} {z : Value} {v : Value} {ad : Addr} {xs zs : List Nat} {s x : Operand} (hi : ops[i]? = some o) (hw : Region.wanted o (yielded ops a.tmps) = true)
    (ho : o.op = .call { callee := .builtin .append, args := #[s, x], argTypes := #[t, t] }) (ht : P.underlying t = some (.slice e)) (hinf : (P.info? e).map (fun i => (i.zero, i.size, i.bytes)) = some (some z, 1, bytes)) (hz : z.cells.size = 1) (hby : bytes ≤ 64)
    (hs : a.eval s = v) (hown : Own w B e k v xs) (hx : a.eval x = .slice (some ad) m c) (hm : m = zs.length) (hsl : Sl w (some ad) k zs) (hl : xs.length + zs.length < 2 ^ 40) (hB : B ≤ w.heap.size)
    (h : ∀ v' w', Own w' B e k v' (xs ++ zs) → w.grownBy w' v.ownBlock → K (a.put o.dst v') w') : wpOp P ops Q i K a w := by
  obtain ⟨f, hf, hz0, hz1, hz2⟩ := info_parts hinf
  subst hm
  have hnews : ∀ j u, (zs.map fun n : Nat => Value.int k n)[j]? = some u → w.cell? (ad.add j) = some u := by
    intro j u hj
    rw [List.getElem?_map] at hj
    obtain ⟨y, hy, rfl⟩ := Option.map_eq_some_iff.1 hj
    obtain ⟨hjl, -⟩ := List.getElem?_eq_some_iff.1 hy
    obtain ⟨g, off, q1, q2, q3⟩ := hsl (by rintro rfl; simp at hjl)
    injection q1 with q1
    subst q1
    rw [Addr.add_mid, q3 j hjl, List.getD_eq_getElem?_getD, hy]; rfl
  have hbb : (xs.length + zs.length) * bytes ≤ 140737488355328 := calc (xs.length + zs.length) * bytes ≤ 2 ^ 40 * 64 := Nat.mul_le_mul (by omega) hby
      _ ≤ _ := by omega
  obtain ⟨v', w', hr, h2, h3, -, -⟩ := run_append_own_at (P := P) w B t o.type e f z 1 bytes ht hf hz0 hz1 hz2 hz (by omega) v xs.length _ hown ad zs.length c (zs.map fun n : Nat => Value.int k n) (by simp) hnews (by simp [Value.oneCell']) (by simp [maxLen]; omega) hbb hB
  refine wpOp_step (v := v') (w' := w') hi hw ?_ (h v' w' (by unfold Own; rw [List.length_append, List.map_append]; exact h2) h3)
  unfold execOp
  simp only [ho, resolve, invoke, builtin, Sem.run_bind, Sem.run_pure, Result.andThen_ok, List.map_toArray, List.map_cons, List.map_nil, hs, hx, hr]
end
theorem u8_inf9 : (Try.prog.info? 5).map (fun i => (i.zero, i.size, i.bytes)) = some (some (.int .u8 0), 1, 1) := by kernel_rfl
theorem run_eqNat (W : World) (n : Nat) {T1 T2 : TypeId} {o : Oper} {a : Act} {x y : Operand} (ho : o.op = .binOp .eql T1 x y T2) (hx : a.eval x = .int .u64 (n : Int) := by rfl) (hy : a.eval y = .int .u64 (n : Int) := by rfl) :
    (execOp a.eval o).run Try.prog W = .ok (.value (.bool true)) W := by
  unfold execOp
  simp only [ho, hx, hy]
  simp [binOp, eqGuard, go_sem]
theorem swap_set {ks : List Nat} (h : ks.length = 16) : (((ks.set 0 (ks.getD 2 0)).set 1 (ks.getD 3 0)).set 2 (ks.getD 0 0)).set 3 (ks.getD 1 0) = swapW ks := by
  obtain ⟨a, b, c, d, e, f, g, i, j, k, l, m, n, o, p, q, rfl⟩ := list16 h
  rfl
set_option maxRecDepth 100000 in
set_option maxHeartbeats 20000000 in
theorem nhSwaps_c (bs ks : List Nat) (hbl : bs.length = 16) (hkl : ks.length = 16) (hb : ∀ x ∈ bs, x < 2 ^ 8) (hk : ∀ x ∈ ks, x < 2 ^ 32) (w : World) :
    Calls Try.prog 3 #[.agg (ints .u8 bs), .agg (ints .u32 ks)] w fun e w' => e = .returned (.bool true) ∧ Below w.heap.size w w' := by
  have B0 := (Blk.new w 22 (ints .u8 bs)).alloc (.cells (ints .u32 ks) 24)
  have B1 := Blk.new (w.alloc (.cells (ints .u8 bs) 22)) 24 (ints .u32 ks)
  rw [World.size_alloc] at B1
  have hbel := ((Below.refl w.heap.size w).alloc (Nat.le_refl _) (.cells (ints .u8 bs) 22)).alloc (by simp) (.cells (ints .u32 ks) 24)
  have hl1 := nhH_len ks bs
  go_enter Try.func3, Try.ntmps3
  go_wp2_with fail
  generalize ((w.alloc (.cells (ints .u8 bs) 22)).alloc (.cells (ints .u32 ks) 24)) = w0 at *
  refine wp_region_inv2 (by kernel_rfl) (by kernel_rfl) (fun D a W => ∃ u5 u6 u11 u12 u13 u14 u15 u16 : Value, a = { tmps := #[.agg (ints .u8 bs), .agg (ints .u32 ks), .pointer (some ⟨w.heap.size, 0, none⟩), .pointer (some ⟨w.heap.size + 1, 0, none⟩), .bool false, u5, u6, undef, undef, undef, undef, u11, u12, u13, u14, u15, u16, undef, undef, undef, undef, undef, undef, undef, undef, undef, undef, undef, undef, undef, undef, undef, undef, undef, undef, undef, undef, undef, undef, undef, undef, undef, undef, undef, undef, undef, undef, undef, undef, undef, undef, undef, undef, undef, undef, undef, undef], defers := [] } ∧ Below w0.heap.size w0 W ∧ (D 0 → u12 = .slice (some ⟨w.heap.size + 1, 0, none⟩) 16 16) ∧ (D 1 → u13 = .slice (some ⟨w.heap.size, 0, none⟩) 16 16) ∧ (D 2 → u14 = .tuple #[.agg (ints .u8 (nhH ks bs)), .int .i64 0]) ∧ (D 3 → u11 = .tuple #[.agg (ints .u8 (nhH ks bs)), .int .i64 0]) ∧ (D 4 → u15 = .agg (ints .u8 (nhH ks bs))) ∧ (D 5 → u16 = .int .i64 0) ∧ (D 6 → Al W w0.heap.size u5 25 32 .u8 (D 7) (nhH ks bs)) ∧ (D 8 → u6 = .int .i64 0) ∧ (D 7 → D 6)) ?_ ?_ ?_
  · exact ⟨_, _, _, _, _, _, _, _, rfl, ⟨rfl, rfl, rfl, Nat.le_refl _, fun _ _ => rfl⟩, (fun h => h.elim), (fun h => h.elim), (fun h => h.elim), (fun h => h.elim), (fun h => h.elim), (fun h => h.elim), (fun h => h.elim), (fun h => h.elim), (fun h => h.elim)⟩
  · intro i o hi D a W hI hnD hall
    obtain ⟨u5, u6, u11, u12, u13, u14, u15, u16, rfl, hW, f0, f1, f2, f3, f4, f5, f6, f7, f8⟩ := hI
    rcases i with _ | _ | _ | _ | _ | _ | _ | _ | _ | i
    · simp only [Nat.zero_add, Nat.reduceAdd, List.getElem?_toArray, List.getElem?_cons_succ, List.getElem?_cons_zero, Option.some.injEq] at hi
      subst hi
      refine wpOp_value (v := .slice (some ⟨w.heap.size + 1, 0, none⟩) 16 16) rfl rfl (by kernel_rfl) ?_
      exact ⟨_, _, _, _, _, _, _, _, rfl, hW, (fun _ => rfl), (fun h => f1 (h.resolve_left (by decide))), (fun h => f2 (h.resolve_left (by decide))), (fun h => f3 (h.resolve_left (by decide))), (fun h => f4 (h.resolve_left (by decide))), (fun h => f5 (h.resolve_left (by decide))), (fun h => (f6 (h.resolve_left (by decide))).same (fun h' => h'.resolve_left (by decide))), (fun h => f7 (h.resolve_left (by decide))), (fun h => .inr (f8 (h.resolve_left (by decide))))⟩
    · simp only [Nat.zero_add, Nat.reduceAdd, List.getElem?_toArray, List.getElem?_cons_succ, List.getElem?_cons_zero, Option.some.injEq] at hi
      subst hi
      refine wpOp_value (v := .slice (some ⟨w.heap.size, 0, none⟩) 16 16) rfl rfl (by kernel_rfl) ?_
      exact ⟨_, _, _, _, _, _, _, _, rfl, hW, (fun h => f0 (h.resolve_left (by decide))), (fun _ => rfl), (fun h => f2 (h.resolve_left (by decide))), (fun h => f3 (h.resolve_left (by decide))), (fun h => f4 (h.resolve_left (by decide))), (fun h => f5 (h.resolve_left (by decide))), (fun h => (f6 (h.resolve_left (by decide))).same (fun h' => h'.resolve_left (by decide))), (fun h => f7 (h.resolve_left (by decide))), (fun h => .inr (f8 (h.resolve_left (by decide))))⟩
    · simp only [Nat.zero_add, Nat.reduceAdd, List.getElem?_toArray, List.getElem?_cons_succ, List.getElem?_cons_zero, Option.some.injEq] at hi
      subst hi
      obtain rfl := f0 (pre_of hall 0 rfl)
      obtain rfl := f1 (pre_of hall 1 rfl)
      refine wpOp_call 10 rfl rfl rfl Try.func10 (by kernel_rfl) (by kernel_rfl) (hash16_c _ _ 16 ks bs hkl hbl hb hk W (Sl.blk (B1.below' hW)) (Sl.blk (B0.below' hW))) ?_
      intro W' hW'
      exact ⟨_, _, _, _, _, _, _, _, rfl, bCall hW hW' hW.size, (fun h => f0 (h.resolve_left (by decide))), (fun h => f1 (h.resolve_left (by decide))), (fun _ => rfl), (fun h => f3 (h.resolve_left (by decide))), (fun h => f4 (h.resolve_left (by decide))), (fun h => f5 (h.resolve_left (by decide))), (fun h => (f6 (h.resolve_left (by decide))).below hW' (fun h' => h'.resolve_left (by decide))), (fun h => f7 (h.resolve_left (by decide))), (fun h => .inr (f8 (h.resolve_left (by decide))))⟩
    · simp only [Nat.zero_add, Nat.reduceAdd, List.getElem?_toArray, List.getElem?_cons_succ, List.getElem?_cons_zero, Option.some.injEq] at hi
      subst hi
      obtain rfl := f2 (pre_of hall 2 rfl)
      refine wpOp_value (v := .tuple #[.agg (ints .u8 (nhH ks bs)), .int .i64 0]) rfl rfl rfl ?_
      exact ⟨_, _, _, _, _, _, _, _, rfl, hW, (fun h => f0 (h.resolve_left (by decide))), (fun h => f1 (h.resolve_left (by decide))), (fun h => f2 (h.resolve_left (by decide))), (fun _ => rfl), (fun h => f4 (h.resolve_left (by decide))), (fun h => f5 (h.resolve_left (by decide))), (fun h => (f6 (h.resolve_left (by decide))).same (fun h' => h'.resolve_left (by decide))), (fun h => f7 (h.resolve_left (by decide))), (fun h => .inr (f8 (h.resolve_left (by decide))))⟩
    · simp only [Nat.zero_add, Nat.reduceAdd, List.getElem?_toArray, List.getElem?_cons_succ, List.getElem?_cons_zero, Option.some.injEq] at hi
      subst hi
      obtain rfl := f3 (pre_of hall 3 rfl)
      refine wpOp_value (v := .agg (ints .u8 (nhH ks bs))) rfl rfl (by kernel_rfl) ?_
      exact ⟨_, _, _, _, _, _, _, _, rfl, hW, (fun h => f0 (h.resolve_left (by decide))), (fun h => f1 (h.resolve_left (by decide))), (fun h => f2 (h.resolve_left (by decide))), (fun h => f3 (h.resolve_left (by decide))), (fun _ => rfl), (fun h => f5 (h.resolve_left (by decide))), (fun h => (f6 (h.resolve_left (by decide))).same (fun h' => h'.resolve_left (by decide))), (fun h => f7 (h.resolve_left (by decide))), (fun h => .inr (f8 (h.resolve_left (by decide))))⟩
    · simp only [Nat.zero_add, Nat.reduceAdd, List.getElem?_toArray, List.getElem?_cons_succ, List.getElem?_cons_zero, Option.some.injEq] at hi
      subst hi
      obtain rfl := f3 (pre_of hall 3 rfl)
      refine wpOp_value (v := .int .i64 0) rfl rfl (by kernel_rfl) ?_
      exact ⟨_, _, _, _, _, _, _, _, rfl, hW, (fun h => f0 (h.resolve_left (by decide))), (fun h => f1 (h.resolve_left (by decide))), (fun h => f2 (h.resolve_left (by decide))), (fun h => f3 (h.resolve_left (by decide))), (fun h => f4 (h.resolve_left (by decide))), (fun _ => rfl), (fun h => (f6 (h.resolve_left (by decide))).same (fun h' => h'.resolve_left (by decide))), (fun h => f7 (h.resolve_left (by decide))), (fun h => .inr (f8 (h.resolve_left (by decide))))⟩
    · simp only [Nat.zero_add, Nat.reduceAdd, List.getElem?_toArray, List.getElem?_cons_succ, List.getElem?_cons_zero, Option.some.injEq] at hi
      subst hi
      refine wpOp_alloc rfl rfl rfl Try.z25 ?_
      have hnS : ¬ (7 = 6 ∨ D 7) := fun h => h.elim (by decide) (fun h => hnD (f8 h))
      exact ⟨_, _, _, _, _, _, _, _, rfl, hW.alloc hW.size _, (fun h => f0 (h.resolve_left (by decide))), (fun h => f1 (h.resolve_left (by decide))), (fun h => f2 (h.resolve_left (by decide))), (fun h => f3 (h.resolve_left (by decide))), (fun h => f4 (h.resolve_left (by decide))), (fun h => f5 (h.resolve_left (by decide))), (fun _ => Al.new hW.size (fun h => (hnS h).elim)), (fun h => f7 (h.resolve_left (by decide))), (fun _ => .inl rfl)⟩
    · simp only [Nat.zero_add, Nat.reduceAdd, List.getElem?_toArray, List.getElem?_cons_succ, List.getElem?_cons_zero, Option.some.injEq] at hi
      subst hi
      obtain rfl := f4 (pre_of hall 4 rfl)
      obtain ⟨g, l, rfl, hg, hl0, hB, hst⟩ := f6 (pre_of hall 6 rfl)
      refine wpOp_store rfl rfl rfl rfl rfl hB ((ints_size _ _).trans hl0) Try.ar25 hl1 ?_
      exact ⟨_, _, _, _, _, _, _, _, rfl, bSetRow hW hg _, (fun h => f0 (h.resolve_left (by decide))), (fun h => f1 (h.resolve_left (by decide))), (fun h => f2 (h.resolve_left (by decide))), (fun h => f3 (h.resolve_left (by decide))), (fun h => f4 (h.resolve_left (by decide))), (fun h => f5 (h.resolve_left (by decide))), (fun _ => Al.set hB hg hl1), (fun h => f7 (h.resolve_left (by decide))), (fun _ => .inr (pre_of hall 6 rfl))⟩
    · simp only [Nat.zero_add, Nat.reduceAdd, List.getElem?_toArray, List.getElem?_cons_succ, List.getElem?_cons_zero, Option.some.injEq] at hi
      subst hi
      obtain rfl := f5 (pre_of hall 5 rfl)
      refine wpOp_value (v := .int .i64 0) rfl rfl rfl ?_
      exact ⟨_, _, _, _, _, _, _, _, rfl, hW, (fun h => f0 (h.resolve_left (by decide))), (fun h => f1 (h.resolve_left (by decide))), (fun h => f2 (h.resolve_left (by decide))), (fun h => f3 (h.resolve_left (by decide))), (fun h => f4 (h.resolve_left (by decide))), (fun h => f5 (h.resolve_left (by decide))), (fun h => (f6 (h.resolve_left (by decide))).same (fun h' => h'.resolve_left (by decide))), (fun _ => rfl), (fun h => .inr (f8 (h.resolve_left (by decide))))⟩
    · exfalso; simp at hi
  · rintro D a W ⟨u5, u6, u11, u12, u13, u14, u15, u16, rfl, hW, f0, f1, f2, f3, f4, f5, f6, f7, f8⟩ hall
    obtain rfl := f0 (hall 0 (by decide))
    obtain rfl := f1 (hall 1 (by decide))
    obtain rfl := f2 (hall 2 (by decide))
    obtain rfl := f3 (hall 3 (by decide))
    obtain rfl := f4 (hall 4 (by decide))
    obtain rfl := f5 (hall 5 (by decide))
    obtain rfl := f7 (hall 8 (by decide))
    obtain ⟨g5, l5, rfl, hg5, -, hB5, hl5⟩ := f6 (hall 6 (by decide))
    obtain rfl := hl5 (hall 7 (by decide))
    clear f0 f1 f2 f3 f4 f5 f6 f7 f8 hall
    have hw0 := hbel.size
    have C0 := B0.below' hW
    have C1 := B1.below' hW
    have hbel1 := bCall hbel hW hw0
    have hlt1 := B1.lt
    clear B0 B1 hW hbel hl5
    have Z7 := Blk.new W 24 (ints .u32 (zeros 16))
    have hne7 : g5 ≠ W.heap.size := by have := hB5.lt; omega
    have D0 := (C0.alloc (.cells (ints .u32 (zeros 16)) 24)).rowFar (show w.heap.size ≠ W.heap.size by have := C0.lt; omega) (ints .u32 ks)
    have D1 := (C1.alloc (.cells (ints .u32 (zeros 16)) 24)).rowFar (show w.heap.size + 1 ≠ W.heap.size by have := C1.lt; omega) (ints .u32 ks)
    have D5 := (hB5.alloc (.cells (ints .u32 (zeros 16)) 24)).rowFar hne7 (ints .u32 ks)
    have D7 := Z7.row (ints .u32 ks)
    have hbel2 := bSetRow (hbel1.alloc hbel1.size (.cells (ints .u32 (zeros 16)) 24)) hbel1.size (ints .u32 ks)
    go_upto_region 3 with (first | (refine wpList_alloc_ints rfl 24 rfl Try.z24 ?_; (try simp only [Act.put, List.setIfInBounds_toArray, List.set_cons_zero, List.set_cons_succ, World.size_alloc, setRow_size, Nat.add_assoc, Nat.reduceAdd])) | (refine wpList_load_ints rfl 24 _ rfl (w.heap.size + 1) rfl C1 Try.ar24 hkl ?_; (try simp only [Act.put, List.setIfInBounds_toArray, List.set_cons_zero, List.set_cons_succ, World.size_alloc, setRow_size, Nat.add_assoc, Nat.reduceAdd])) | (refine wpList_store_ints rfl 24 _ _ rfl W.heap.size (k := .u32) rfl rfl Z7 (zeros_size _ _) Try.ar24 hkl ?_; (try simp only [Act.put, List.setIfInBounds_toArray, List.set_cons_zero, List.set_cons_succ, World.size_alloc, setRow_size, Nat.add_assoc, Nat.reduceAdd])))
    have hg0 : w.heap.size ≠ W.heap.size := by have := C0.lt; omega
    have hg1 : w.heap.size + 1 ≠ W.heap.size := by have := C1.lt; omega
    have hgW : w.heap.size ≤ W.heap.size := hbel1.size
    obtain ⟨g7, hg7⟩ : ∃ g7, g7 = W.heap.size := ⟨_, rfl⟩
    rw [← hg7] at D0 D1 D5 D7 hbel2 hne7 hg0 hg1 hgW ⊢
    generalize (W.alloc (.cells (ints .u32 (zeros 16)) 24)).setRow g7 (ints .u32 ks) = w3 at *
    clear Z7 C0 C1 hbel1 hB5 hg7
    have c0 := D1.int (i := 0) (by omega)
    have c1 := D1.int (i := 1) (by omega)
    have c2 := D1.int (i := 2) (by omega)
    have c3 := D1.int (i := 3) (by omega)
    have z0 := D7.frozen 0
    have z1 := D7.frozen 1
    have z2 := D7.frozen 2
    have z3 := D7.frozen 3
    have y0 := D7.int (i := 0) (by omega)
    have y1 := D7.int (i := 1) (by omega)
    have y2 := D7.int (i := 2) (by omega)
    have y3 := D7.int (i := 3) (by omega)
    have HSW := Lib.hid (swap_set hkl)
    generalize ks.getD 0 0 = k0 at *
    generalize ks.getD 1 0 = k1 at *
    generalize ks.getD 2 0 = k2 at *
    generalize ks.getD 3 0 = k3 at *
    go_upto_region 4 with fail
    have E7 := (((D7.intSet 0 k2).intSet 1 k3).intSet 2 k0).intSet 3 k1
    rw [HSW.out] at E7
    have E0 := (((D0.far (p := ⟨g7, 0, none⟩) hg0 (.int .u32 k2)).far (p := ⟨g7, 1, none⟩) hg0 (.int .u32 k3)).far (p := ⟨g7, 2, none⟩) hg0 (.int .u32 k0)).far (p := ⟨g7, 3, none⟩) hg0 (.int .u32 k1)
    have E5 := (((D5.far (p := ⟨g7, 0, none⟩) hne7 (.int .u32 k2)).far (p := ⟨g7, 1, none⟩) hne7 (.int .u32 k3)).far (p := ⟨g7, 2, none⟩) hne7 (.int .u32 k0)).far (p := ⟨g7, 3, none⟩) hne7 (.int .u32 k1)
    have hbel3 := (((hbel2.setCell (p := ⟨g7, 0, none⟩) hgW (.int .u32 k2)).setCell (p := ⟨g7, 1, none⟩) hgW (.int .u32 k3)).setCell (p := ⟨g7, 2, none⟩) hgW (.int .u32 k0)).setCell (p := ⟨g7, 3, none⟩) hgW (.int .u32 k1)
    generalize (((w3.setCell ⟨g7, 0, none⟩ (.int .u32 k2)).setCell ⟨g7, 1, none⟩ (.int .u32 k3)).setCell ⟨g7, 2, none⟩ (.int .u32 k0)).setCell ⟨g7, 3, none⟩ (.int .u32 k1) = w4 at *
    clear D0 D1 D5 D7 hbel2 c0 c1 c2 c3 z0 z1 z2 z3 y0 y1 y2 y3 HSW
    have hw4 := hbel3.size
    have b0 := E0.lt
    have b5 := E5.lt
    have b7 := E7.lt
    go_cut [8] from 30 to 34 (fun v wx => Own wx w4.heap.size 5 .u8 v (swapB bs) ∧ Blk wx g5 25 (ints .u8 (nhH ks bs)) ∧ Blk wx g7 24 (ints .u32 (swapW ks)) ∧ Below w.heap.size w wx)
    case first =>
      have T1 := (Sl.blk E0).drop 8
      have T2 := (Sl.blk E0).take 8
      refine wp_region_inv2 (by kernel_rfl) (by kernel_rfl) (fun D a W => ∃ u8 u30 u31 u32 u33 u34 : Value, a = { tmps := #[.agg (ints .u8 bs), .agg (ints .u32 ks), .pointer (some ⟨w.heap.size, 0, none⟩), .pointer (some ⟨w.heap.size + 1, 0, none⟩), .bool false, .pointer (some ⟨g5, 0, none⟩), .int .i64 0, .pointer (some ⟨g7, 0, none⟩), u8, undef, undef, .tuple #[.agg (ints .u8 (nhH ks bs)), .int .i64 0], .slice (some ⟨w.heap.size + 1, 0, none⟩) 16 16, .slice (some ⟨w.heap.size, 0, none⟩) 16 16, .tuple #[.agg (ints .u8 (nhH ks bs)), .int .i64 0], .agg (ints .u8 (nhH ks bs)), .int .i64 0, .agg (ints .u32 ks), .pointer (some ⟨w.heap.size + 1, 2, none⟩), .int .u32 k2, .pointer (some ⟨w.heap.size + 1, 3, none⟩), .int .u32 k3, .pointer (some ⟨w.heap.size + 1, 0, none⟩), .int .u32 k0, .pointer (some ⟨w.heap.size + 1, 1, none⟩), .int .u32 k1, .pointer (some ⟨g7, 0, none⟩), .pointer (some ⟨g7, 1, none⟩), .pointer (some ⟨g7, 2, none⟩), .pointer (some ⟨g7, 3, none⟩), u30, u31, u32, u33, u34, undef, undef, undef, undef, undef, undef, undef, undef, undef, undef, undef, undef, undef, undef, undef, undef, undef, undef, undef, undef, undef, undef], defers := [] } ∧ Below w4.heap.size w4 W ∧ (D 0 → ¬ D 2 → Own W w4.heap.size 5 .u8 u30 []) ∧ (D 1 → u31 = .slice (some ⟨w.heap.size, 8, none⟩) 8 8) ∧ (D 2 → ¬ D 4 → Own W w4.heap.size 5 .u8 u32 (bs.drop 8)) ∧ (D 3 → u33 = .slice (some ⟨w.heap.size, 0, none⟩) 8 16) ∧ (D 4 → Own W w4.heap.size 5 .u8 u34 (swapB bs)) ∧ (D 5 → u8 = u34) ∧ (D 4 → D 2) ∧ (D 5 → D 4)) ?_ ?_ ?_
      · exact ⟨_, _, _, _, _, _, rfl, ⟨rfl, rfl, rfl, Nat.le_refl _, fun _ _ => rfl⟩, fun h => h.elim, fun h => h.elim, fun h => h.elim, fun h => h.elim, fun h => h.elim, fun h => h.elim, fun h => h.elim, fun h => h.elim⟩
      · intro i o hi D a W hI hnD hall
        obtain ⟨u8, u30, u31, u32, u33, u34, rfl, hW, f0, f1, f2, f3, f4, f5, f6, f7⟩ := hI
        rcases i with _ | _ | _ | _ | _ | _ | i
        · simp only [Nat.zero_add, Nat.reduceAdd, List.getElem?_toArray, List.getElem?_cons_succ, List.getElem?_cons_zero, Option.some.injEq] at hi
          subst hi
          refine wpOp_step (v := .slice (some ⟨W.heap.size, 0, none⟩) 0 0) (w' := W.alloc (.cells #[] 5)) rfl rfl (by kernel_rfl) ?_
          exact ⟨_, _, _, _, _, _, rfl, hW.alloc hW.size _, fun _ _ => Own.made (xs := []) (Blk.new W 5 #[]) hW.size (by simp [maxLen]), fun h => f1 (h.resolve_left (by decide)), fun h h2 => (f2 (h.resolve_left (by decide)) fun q => h2 (.inr q)).alloc _, fun h => f3 (h.resolve_left (by decide)), fun h => (f4 (h.resolve_left (by decide))).alloc _, fun h => f5 (h.resolve_left (by decide)), fun h => .inr (f6 (h.resolve_left (by decide))), fun h => .inr (f7 (h.resolve_left (by decide)))⟩
        · simp only [Nat.zero_add, Nat.reduceAdd, List.getElem?_toArray, List.getElem?_cons_succ, List.getElem?_cons_zero, Option.some.injEq] at hi
          subst hi
          refine wpOp_value (v := .slice (some ⟨w.heap.size, 8, none⟩) 8 8) rfl rfl (by kernel_rfl) ?_
          exact ⟨_, _, _, _, _, _, rfl, hW, fun h h2 => f0 (h.resolve_left (by decide)) fun q => h2 (.inr q), fun _ => rfl, fun h h2 => f2 (h.resolve_left (by decide)) fun q => h2 (.inr q), fun h => f3 (h.resolve_left (by decide)), fun h => f4 (h.resolve_left (by decide)), fun h => f5 (h.resolve_left (by decide)), fun h => .inr (f6 (h.resolve_left (by decide))), fun h => .inr (f7 (h.resolve_left (by decide)))⟩
        · simp only [Nat.zero_add, Nat.reduceAdd, List.getElem?_toArray, List.getElem?_cons_succ, List.getElem?_cons_zero, Option.some.injEq] at hi
          subst hi
          obtain rfl := f1 (pre_of hall 1 rfl)
          have ho := f0 (pre_of hall 0 rfl) hnD
          refine wpOp_append_sl (zs := bs.drop 8) rfl rfl rfl Try.underlying30 u8_inf9 rfl (by omega) rfl ho rfl (by simp [hbl]) (T1.below hW) (by simp [hbl]) hW.size ?_
          intro v' w' ho' hgr
          exact ⟨_, _, _, _, _, _, rfl, bGrown hW hgr hW.size ho (Nat.le_refl _), fun _ h2 => absurd (.inl rfl) h2, fun _ => rfl, fun _ _ => ho', fun h => f3 (h.resolve_left (by decide)), fun h => absurd (f6 (h.resolve_left (by decide))) hnD, fun h => f5 (h.resolve_left (by decide)), fun _ => .inl rfl, fun h => .inr (f7 (h.resolve_left (by decide)))⟩
        · simp only [Nat.zero_add, Nat.reduceAdd, List.getElem?_toArray, List.getElem?_cons_succ, List.getElem?_cons_zero, Option.some.injEq] at hi
          subst hi
          refine wpOp_value (v := .slice (some ⟨w.heap.size, 0, none⟩) 8 16) rfl rfl (by kernel_rfl) ?_
          exact ⟨_, _, _, _, _, _, rfl, hW, fun h h2 => f0 (h.resolve_left (by decide)) fun q => h2 (.inr q), fun h => f1 (h.resolve_left (by decide)), fun h h2 => f2 (h.resolve_left (by decide)) fun q => h2 (.inr q), fun _ => rfl, fun h => f4 (h.resolve_left (by decide)), fun h => f5 (h.resolve_left (by decide)), fun h => .inr (f6 (h.resolve_left (by decide))), fun h => .inr (f7 (h.resolve_left (by decide)))⟩
        · simp only [Nat.zero_add, Nat.reduceAdd, List.getElem?_toArray, List.getElem?_cons_succ, List.getElem?_cons_zero, Option.some.injEq] at hi
          subst hi
          obtain rfl := f3 (pre_of hall 3 rfl)
          have hd2 := pre_of hall 2 rfl
          have ho := f2 hd2 hnD
          refine wpOp_append_sl (zs := bs.take 8) rfl rfl rfl Try.underlying30 u8_inf9 rfl (by omega) rfl ho rfl (by simp [hbl]) (T2.below hW) (by simp [hbl]) hW.size ?_
          intro v' w' ho' hgr
          exact ⟨_, _, _, _, _, _, rfl, bGrown hW hgr hW.size ho (Nat.le_refl _), fun _ h2 => absurd (.inr hd2) h2, fun h => f1 (h.resolve_left (by decide)), fun _ h2 => absurd (.inl rfl) h2, fun _ => rfl, fun _ => ho', fun h => absurd (f7 (h.resolve_left (by decide))) hnD, fun _ => .inr hd2, fun _ => .inl rfl⟩
        · simp only [Nat.zero_add, Nat.reduceAdd, List.getElem?_toArray, List.getElem?_cons_succ, List.getElem?_cons_zero, Option.some.injEq] at hi
          subst hi
          refine wpOp_value (v := u34) rfl rfl rfl ?_
          exact ⟨_, _, _, _, _, _, rfl, hW, fun h h2 => f0 (h.resolve_left (by decide)) fun q => h2 (.inr q), fun h => f1 (h.resolve_left (by decide)), fun h h2 => f2 (h.resolve_left (by decide)) fun q => h2 (.inr q), fun h => f3 (h.resolve_left (by decide)), fun h => f4 (h.resolve_left (by decide)), fun _ => rfl, fun h => .inr (f6 (h.resolve_left (by decide))), fun _ => .inr (pre_of hall 4 rfl)⟩
        · exfalso; simp at hi
      · rintro D a W ⟨u8, u30, u31, u32, u33, u34, rfl, hW, f0, f1, f2, f3, f4, f5, f6, f7⟩ hall
        obtain rfl := f5 (hall 5 (by decide))
        have ho := f4 (hall 4 (by decide))
        go_wp2_with fail
        go_meet
        exact ⟨ho, E5.below hW b5, E7.below hW b7, hbel3.trans (hW.mono hw4)⟩
    case rest =>
      obtain ⟨ho, F5, F7, hbel4⟩ := hcut
      obtain ⟨a8, c8, hv, hs8, -, -⟩ := ho.sl
      rw [swapB_len hbl] at hv
      subst hv
      have hnum := swap_num hkl hbl
      rw [(nh16_ok hkl hbl).1, (nh16_ok (swap_len hkl) (swapB_len hbl)).1] at hnum
      have HNUM := Lib.hid hnum
      clear hnum
      go_wp2_with fail
      refine (hash16_c (some ⟨g7, 0, none⟩) a8 c8 (swapW ks) (swapB bs) (swap_len hkl) (swapB_len hbl) (swapB_lt hb) (swapW_lt hkl hk) _ (Sl.blk F7) hs8).mono ?_
      rintro e w5 ⟨rfl, hb5⟩
      have G5 := F5.below' hb5
      have hbel5 := bCall hbel4 hb5 hbel4.size
      have Z9 := Blk.new w5 25 (ints .u8 (zeros 32))
      have hl9 := nhH_len (swapW ks) (swapB bs)
      have H9 := Z9.row (ints .u8 (nhH (swapW ks) (swapB bs)))
      have H5 := (G5.alloc (.cells (ints .u8 (zeros 32)) 25)).rowFar (show g5 ≠ w5.heap.size by have := G5.lt; omega) (ints .u8 (nhH (swapW ks) (swapB bs)))
      have hbel6 := bSetRow (hbel5.alloc hbel5.size (.cells (ints .u8 (zeros 32)) 25)) hbel5.size (ints .u8 (nhH (swapW ks) (swapB bs)))
      go_wp2_with (first | (refine wpList_alloc_ints rfl 25 rfl Try.z25 ?_; (try simp only [Act.put, List.setIfInBounds_toArray, List.set_cons_zero, List.set_cons_succ, World.size_alloc, setRow_size, Nat.add_assoc, Nat.reduceAdd])) | (refine wpList_store_ints rfl 25 _ _ rfl w5.heap.size (k := .u8) rfl rfl Z9 (zeros_size _ _) Try.ar25 hl9 ?_; (try simp only [Act.put, List.setIfInBounds_toArray, List.set_cons_zero, List.set_cons_succ, World.size_alloc, setRow_size, Nat.add_assoc, Nat.reduceAdd])))
      generalize hw6 : (w5.alloc (.cells (ints .u8 (zeros 32)) 25)).setRow w5.heap.size (ints .u8 (nhH (swapW ks) (swapB bs))) = w6 at *
      clear hw6
      have L5 : Hid (∀ W : World, Below w6.heap.size w6 W → Calls Try.prog 11 #[.slice (some ⟨g5, 0, none⟩) 32 32, .int .i64 0] W fun e w' => e = .returned (.int .u64 (numAt (nhH ks bs) 0 8 : Nat)) ∧ Below W.heap.size W w') := Lib.hid fun W hQ => by
        have h := long_c (some ⟨g5, 0, none⟩) 32 (nhH ks bs) (nhH_lt _ _) (by rw [hl1]; decide) 0 (by omega) W (Sl.blk (H5.below' hQ))
        rw [hl1] at h; exact h
      have L9 : Hid (∀ W : World, Below w6.heap.size w6 W → Calls Try.prog 11 #[.slice (some ⟨w5.heap.size, 0, none⟩) 32 32, .int .i64 0] W fun e w' => e = .returned (.int .u64 (numAt (nhH ks bs) 0 8 : Nat)) ∧ Below W.heap.size W w') := Lib.hid fun W hQ => by
        have h := long_c (some ⟨w5.heap.size, 0, none⟩) 32 (nhH (swapW ks) (swapB bs)) (nhH_lt _ _) (by rw [hl9]; decide) 0 (by omega) W (Sl.blk (H9.below' hQ))
        rw [hl9, HNUM.out] at h; exact h
      generalize numAt (nhH ks bs) 0 8 = nn at *
      refine wp_region_below (by kernel_rfl) (by kernel_rfl) ?_
      refine quiet_move rfl rfl rfl ?_
      (try simp only [Act.put, List.setIfInBounds_toArray, List.set_cons_zero, List.set_cons_succ, World.size_alloc, setRow_size, Nat.add_assoc, Nat.reduceAdd])
      refine quiet_run (v := .bool true) rfl (fun W => by kernel_rfl) ?_
      (try simp only [Act.put, List.setIfInBounds_toArray, List.set_cons_zero, List.set_cons_succ, World.size_alloc, setRow_size, Nat.add_assoc, Nat.reduceAdd])
      refine quiet_move rfl rfl rfl ?_
      (try simp only [Act.put, List.setIfInBounds_toArray, List.set_cons_zero, List.set_cons_succ, World.size_alloc, setRow_size, Nat.add_assoc, Nat.reduceAdd])
      refine quiet_move rfl rfl rfl ?_
      (try simp only [Act.put, List.setIfInBounds_toArray, List.set_cons_zero, List.set_cons_succ, World.size_alloc, setRow_size, Nat.add_assoc, Nat.reduceAdd])
      refine quiet_run (v := .bool true) rfl (fun W => by kernel_rfl) ?_
      (try simp only [Act.put, List.setIfInBounds_toArray, List.set_cons_zero, List.set_cons_succ, World.size_alloc, setRow_size, Nat.add_assoc, Nat.reduceAdd])
      refine quiet_pickt (by rfl) (by rfl) (by rfl) (by rfl) (by rfl) ?_
      (try simp only [Act.put, List.setIfInBounds_toArray, List.set_cons_zero, List.set_cons_succ, World.size_alloc, setRow_size, Nat.add_assoc, Nat.reduceAdd])
      refine quiet_move rfl rfl rfl ?_
      (try simp only [Act.put, List.setIfInBounds_toArray, List.set_cons_zero, List.set_cons_succ, World.size_alloc, setRow_size, Nat.add_assoc, Nat.reduceAdd])
      refine quiet_run (v := .slice (some ⟨g5, 0, none⟩) 32 32) rfl (fun W => by kernel_rfl) ?_
      (try simp only [Act.put, List.setIfInBounds_toArray, List.set_cons_zero, List.set_cons_succ, World.size_alloc, setRow_size, Nat.add_assoc, Nat.reduceAdd])
      refine quiet_call 11 rfl rfl Try.func11 (by kernel_rfl) (by kernel_rfl) (fun W hQ => L5.out W hQ) ?_
      (try simp only [Act.put, List.setIfInBounds_toArray, List.set_cons_zero, List.set_cons_succ, World.size_alloc, setRow_size, Nat.add_assoc, Nat.reduceAdd])
      refine quiet_run (v := .slice (some ⟨w5.heap.size, 0, none⟩) 32 32) rfl (fun W => by kernel_rfl) ?_
      (try simp only [Act.put, List.setIfInBounds_toArray, List.set_cons_zero, List.set_cons_succ, World.size_alloc, setRow_size, Nat.add_assoc, Nat.reduceAdd])
      refine quiet_call 11 rfl rfl Try.func11 (by kernel_rfl) (by kernel_rfl) (fun W hQ => L9.out W hQ) ?_
      (try simp only [Act.put, List.setIfInBounds_toArray, List.set_cons_zero, List.set_cons_succ, World.size_alloc, setRow_size, Nat.add_assoc, Nat.reduceAdd])
      refine quiet_run (v := .bool true) rfl (fun W => run_eqNat W nn rfl) ?_
      (try simp only [Act.put, List.setIfInBounds_toArray, List.set_cons_zero, List.set_cons_succ, World.size_alloc, setRow_size, Nat.add_assoc, Nat.reduceAdd])
      refine quiet_pickt (by rfl) (by rfl) (by rfl) (by rfl) (by rfl) ?_
      (try simp only [Act.put, List.setIfInBounds_toArray, List.set_cons_zero, List.set_cons_succ, World.size_alloc, setRow_size, Nat.add_assoc, Nat.reduceAdd])
      refine quiet_move rfl rfl rfl ?_
      (try simp only [Act.put, List.setIfInBounds_toArray, List.set_cons_zero, List.set_cons_succ, World.size_alloc, setRow_size, Nat.add_assoc, Nat.reduceAdd])
      refine quiet_call 12 rfl rfl Try.func12 (by kernel_rfl) (by kernel_rfl) (fun W hQ => awake9_c W) ?_
      (try simp only [Act.put, List.setIfInBounds_toArray, List.set_cons_zero, List.set_cons_succ, World.size_alloc, setRow_size, Nat.add_assoc, Nat.reduceAdd])
      refine quiet_pickt (by rfl) (by rfl) (by rfl) (by rfl) (by rfl) ?_
      (try simp only [Act.put, List.setIfInBounds_toArray, List.set_cons_zero, List.set_cons_succ, World.size_alloc, setRow_size, Nat.add_assoc, Nat.reduceAdd])
      refine quiet_assign rfl rfl rfl ?_
      (try simp only [Act.put, List.setIfInBounds_toArray, List.set_cons_zero, List.set_cons_succ, World.size_alloc, setRow_size, Nat.add_assoc, Nat.reduceAdd])
      refine wpQuiet_nil ?_
      intro w' hw'
      go_wp2
      go_ret
      exact ⟨rfl, bCall hbel6 hw' hbel6.size⟩
end Go.Proofs.Ytppideomehdhjaa
