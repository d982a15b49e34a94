/- AEZ's hash of a row of one string. No condition but that bytes are below 256 and rows short. -/
import Derived.Test.YtaiffkajkbiidaaGreatDoorW16b
import Derived.Test.YtaiffkajkbiidaaGreatDoorKitR
namespace Go.Proofs.YtaiffkajkbiidaaGreatDoor
set_option linter.unusedSimpArgs false
set_option linter.unusedVariables false
set_option linter.unusedSectionVars false
set_option linter.unusedVariables false
open Go.RowKit Go.Shelf
attribute [local go_sem] Oper.semAt_some
def hashN (I J Z t : List Nat) : List Nat := P16 (zeros 16) (partN I J Z 3 t)
theorem hashN_len (I J Z t : List Nat) : (hashN I J Z t).length = 16 := P16_len _ _
theorem hashN_lt (I J Z t : List Nat) (ht : ∀ x ∈ t, x < 256) : ∀ x ∈ hashN I J Z t, x < 256 := P16_lt (zeros_b 16) (partN_lt I J Z 3 t ht)
set_option maxHeartbeats 4000000 in
theorem numbered_c (a : Option Addr) (n c : Nat) (w : World) : Calls Tryz.prog 183 #[.slice a n c] w fun e w' => e = .returned (.func (.func 194) #[] #[.pointer (some ⟨w.heap.size, 0, none⟩)]) ∧ w' = w.alloc (.cells #[.slice a n c] 210) := by
  go_enter Tryz.func183, Tryz.ntmps183
  go_wp2
  go_ret
  exact ⟨rfl, rfl⟩
set_option maxRecDepth 100000 in
set_option maxHeartbeats 4000000 in
theorem numbered1_in (n : Nat) (l Bs n₀ gr off cr nt ct : Nat) (ta : Option Addr) (hr : gr < n₀) (J Jx : List Unit → World → Prop)
    (hY : ∀ pre (x : Unit) W, J pre W → pre.length < 1 → YieldAt Fence.wide (n - 1) Tryz.prog l #[.int .i64 3, .slice ta nt ct] W fun e W' =>
      (e = .returned (.bool true) ∧ J (pre ++ [x]) W' ∧ Below n₀ W W') ∨ (e = .returned (.bool false) ∧ Jx (pre ++ [x]) W'))
    (W : World) (hBs : W.cell? ⟨Bs, 0, none⟩ = some (.slice (some ⟨gr, off, none⟩) 1 cr)) (hc : W.cell? ⟨gr, off, none⟩ = some (.slice ta nt ct)) (h0 : J [] W) :
    CallsIn Fence.wide n Tryz.prog 194 #[.func (.yield l) #[] #[], .pointer (some ⟨Bs, 0, none⟩)] W fun e W' => (∃ v, e = .returned v) ∧
      ((∃ ys, ys = [()] ∧ J ys W') ∨ (∃ pre, pre = [()] ∧ Jx pre W')) := by
  refine callsIn_of_wp Tryz.func194 rfl trivial ?_ rfl
  simp only [Tryz.ntmps194, List.size_toArray, List.length_cons, List.length_nil, Nat.reduceAdd, Nat.reduceSub, Array.replicate_succ, Array.replicate_zero, List.push_toArray, List.append_toArray, List.nil_append, List.cons_append]
  gi_wp2
  gi_loopw [7] (fun i wr => (i = .int .i64 0 ∧ wr = W) ∨ (i = .int .i64 1 ∧ J [()] wr)) (fun i _ => 1 - (intOf i).toNat)
  case atStart => exact .inl ⟨rfl, rfl⟩
  case round =>
    rcases hrel with ⟨rfl, rfl⟩ | ⟨rfl, hJs⟩
    · obtain ⟨fn, tmps, assign, body, hy, hR⟩ := hY [] () wr h0 (by decide)
      gi_wp2
      refine ⟨(fun hd => by cases hd), hR.mono ?_⟩
      rintro e W3 (⟨rfl, hJ3, hk3⟩ | ⟨rfl, hJx3⟩)
      · gi_wp2
        go_roundw
        case rel => exact .inr ⟨rfl, hJ3⟩
        case measure => simp [intOf]
      · gi_wp2
        refine bodyPost_ret (results_none rfl _ _ _) rfl ?_
        exact ⟨⟨_, rfl⟩, .inr ⟨_, rfl, hJx3⟩⟩
    · gi_wp2
      go_end0
      exact ⟨⟨_, rfl⟩, .inl ⟨_, rfl, hJs⟩⟩
theorem numbered_stops (n : Nat) (Bs n₀ gr off cr nt ct : Nat) (ta : Option Addr) (w : World) (hBs : Bs < w.heap.size) (hn₀ : n₀ ≤ w.heap.size) (hr : gr < n₀)
    (hb : w.cell? ⟨Bs, 0, none⟩ = some (.slice (some ⟨gr, off, none⟩) 1 cr)) (hc : w.cell? ⟨gr, off, none⟩ = some (.slice ta nt ct)) :
    SeqStopsK Fence.wide n Tryz.prog 194 #[.pointer (some ⟨Bs, 0, none⟩)] (fun _ : Unit => #[Value.int .i64 3, .slice ta nt ct]) (Below n₀) (fun ys => ys = [()]) (fun pre => pre = [()]) 1 w := fun l J Jx W hW _ _ hY h0 =>
  numbered1_in n l Bs n₀ gr off cr nt ct ta hr J Jx hY W ((hW.cell (p := ⟨Bs, 0, none⟩) hBs).trans hb) ((hW.cell (p := ⟨gr, off, none⟩) (Nat.lt_of_lt_of_le hr hn₀)).trans hc) h0
theorem blk_kept {W W' : World} {g t B : Nat} {cs : Array Value} {row : Option Nat} (h : Blk W g t cs) (hg : W.grownBy W' row) (hr : ∀ r, row = some r → B ≤ r ∧ ∃ o : Obj, W.heap[r]? = some o ∧ o.isCells = false) : Blk W' g t cs :=
  h.grown hg fun e => by
    obtain ⟨-, o, ho, hc⟩ := hr g e.symm
    rw [show W.heap[g]? = _ from h] at ho
    cases ho
    cases hc
set_option maxRecDepth 100000 in
set_option maxHeartbeats 8000000 in
theorem hash_c (gk gt gb : Nat) (I J Z t : List Nat) (ht : ∀ x ∈ t, x < 256) (htl : t.length < 2 ^ 31) (ta : Option Addr) (ct : Nat) (hct : t.length ≤ ct) (gr off cr : Nat) (w : World) (hgr : gr < w.heap.size) (hc : w.cell? ⟨gr, off, none⟩ = some (.slice ta t.length ct)) (hs : Sl w ta .u8 t) (hK : IsKey w gk gt gb I J Z) :
    Calls Tryz.prog 170 #[.pointer (some ⟨gk, 0, none⟩), .slice (some ⟨gr, off, none⟩) 1 cr] w fun e w' => e = .returned (.agg (ints .u8 (hashN I J Z t))) ∧ Below w.heap.size w w' := by
  have hmx : Tryz.prog.follows .mixedOrders = true := by kernel_rfl
  refine (callsIn_wide (n := 3)).1 ?_
  refine callsIn_of_wp_marks Tryz.func170 rfl trivial ?_ rfl
  simp only [Tryz.ntmps170, List.size_toArray, List.length_cons, List.length_nil, Nat.reduceAdd, Nat.reduceSub, Array.replicate_succ, Array.replicate_zero, List.push_toArray, List.append_toArray, List.nil_append, List.cons_append]
  gi_wp2_with (refine ⟨trivial, ?_⟩; gi_at_call 183; refine (callsIn_wide.2 (numbered_c _ _ _ _)).mono ?_; rintro e w' ⟨rfl, rfl⟩)
  generalize hw4 : ((((w.alloc (.cells #[.pointer (some ⟨gk, 0, none⟩)] 77)).alloc _).alloc _).alloc (.cells #[.slice (some ⟨gr, off, none⟩) 1 cr] 210)) = w4
  have Bk : Blk w4 w.heap.size 77 #[.pointer (some ⟨gk, 0, none⟩)] := by rw [← hw4]; exact (((Blk.new w _ _).alloc _).alloc _).alloc _
  have B1 : Blk w4 (w.heap.size + 1) 96 (ints .u8 (zeros 16)) := by rw [← hw4]; exact ((Blk.new' (by simp)).alloc _).alloc _
  have B2 : Blk w4 (w.heap.size + 2) 96 (ints .u8 (zeros 16)) := by rw [← hw4]; exact (Blk.new' (by simp)).alloc _
  have B3 : Blk w4 (w.heap.size + 3) 210 #[.slice (some ⟨gr, off, none⟩) 1 cr] := by rw [← hw4]; exact Blk.new' (by simp)
  have hbel : Below w.heap.size w w4 := by rw [← hw4]; exact ((((Below.refl _ w).alloc (Nat.le_refl _) _).alloc (by simp) _).alloc (by simp; omega) _).alloc (by simp; omega) _
  have hsz : w4.heap.size = w.heap.size + 4 := by rw [← hw4]; simp
  clear hw4
  refine wpIn_rangeFunc_ownF (α := Unit) rfl (by decide) (gf := 194) (lb := #[.pointer (some ⟨w.heap.size + 3, 0, none⟩)]) rfl trivial (enters_of Tryz.func194 (by kernel_rfl) rfl)
    (numbered_stops (3 - 1) (w.heap.size + 3) w.heap.size gr off cr t.length ct ta w4 (by omega) (by omega) hgr (by rw [B3.cell]; rfl) ((hbel.cell (p := ⟨gr, off, none⟩) hgr).trans hc)) belowK_t (belowK_b (by omega)) (Below.refl _ _) (fun _ => rfl)
    (fun pre W => (Blk W w.heap.size 77 #[.pointer (some ⟨gk, 0, none⟩)] ∧ Blk W (w.heap.size + 1) 96 (ints .u8 (zeros 16)) ∧ Blk W (w.heap.size + 2) 96 (ints .u8 (if pre = [] then zeros 16 else hashN I J Z t))) ∧ Below w.heap.size w W)
    (fun _ _ _ => False)
    (OwnFrom.and (fun s A B row hs hg hr => ⟨blk_kept hs.1 hg hr, blk_kept hs.2.1 hg hr, blk_kept hs.2.2 hg hr⟩) (ownFrom_below (Nat.le_refl _) (by omega)))
    (fun _ _ _ _ _ hs _ _ => hs)
    ⟨⟨Bk, B1, B2⟩, hbel⟩
    (fun _ => { tmps := #[.pointer (some ⟨gk, 0, none⟩), .slice (some ⟨gr, off, none⟩) 1 cr, .pointer (some ⟨w.heap.size, 0, none⟩), undef, .pointer (some ⟨w.heap.size + 1, 0, none⟩), .pointer (some ⟨w.heap.size + 2, 0, none⟩), .int .i64 3, .slice ta t.length ct, .slice (some ⟨gr, off, none⟩) 1 cr, .func (.func 194) #[] #[.pointer (some ⟨w.heap.size + 3, 0, none⟩)], .int .i64 3, .slice ta t.length ct, undef, undef, undef, undef, undef, undef, undef], defers := [] }) ?assign ?body ?done ?stop
  case assign =>
    intro l x W K hK'
    gi_wp2
    exact hK'
  case body =>
    rintro l pre x wr ⟨⟨C0, C1, C2⟩, hB⟩ hlen
    obtain rfl : pre = [] := List.eq_nil_of_length_eq_zero (by omega)
    have C2' : Blk wr (w.heap.size + 2) 96 (ints .u8 (zeros 16)) := C2
    have hz16 := zeros_len 16
    have hpc : ∀ W, Below wr.heap.size wr W → Calls Tryz.prog 185 #[.pointer (some ⟨gk, 0, none⟩), .int .i64 3, .slice ta t.length ct] W fun e w' => e = .returned (.agg (ints .u8 (partN I J Z 3 t))) ∧ Below W.heap.size W w' := fun W hW => part_c gk gt gb I J Z 3 (by decide) t ht htl ta ct hct W (hs.below (bCall hB hW hB.size)) (hK.below (bCall hB hW hB.size))
    have hpl := partN_len I J Z 3 t
    have hpb := partN_lt I J Z 3 t ht
    have HH : Hid (hashN I J Z t = P16 (zeros 16) (partN I J Z 3 t)) := Lib.hid rfl
    generalize partN I J Z 3 t = p at *
    have hpp := fun W => hplus_c (zeros 16) p hz16 hpl (zeros_b 16) hpb W
    have hql := P16_len (zeros 16) p
    generalize P16 (zeros 16) p = q at *
    have k0 : wr.cell? ⟨w.heap.size, 0, none⟩ = some (.pointer (some ⟨gk, 0, none⟩)) := by rw [C0.cell]; rfl
    have hl0 := C0.lt
    clear C2
    refine wpIn_block ?_
    refine wpIn_region_itail 6 (by kernel_rfl) (by kernel_rfl) (by kernel_rfl) (by kernel_rfl) (fun D act_ W => ∃ u8 u9 u10 u11 u12 u13 u14 u15 u16 u17 : Value, act_ = { tmps := #[.pointer (some ⟨gk, 0, none⟩), .slice (some ⟨gr, off, none⟩) 1 cr, .pointer (some ⟨w.heap.size, 0, none⟩), undef, .pointer (some ⟨w.heap.size + 1, 0, none⟩), .pointer (some ⟨w.heap.size + 2, 0, none⟩), .int .i64 3, .slice ta t.length ct, u8, u9, u10, u11, u12, u13, u14, u15, u16, u17, undef], defers := [] } ∧ Below wr.heap.size wr W ∧ (D 0 → u12 = .agg (ints .u8 (zeros 16))) ∧ (D 1 → u13 = .pointer (some ⟨gk, 0, none⟩)) ∧ (D 2 → u14 = .int .i64 3) ∧ (D 3 → u15 = .slice ta t.length ct) ∧ (D 4 → u16 = .agg (ints .u8 p)) ∧ (D 5 → u17 = .agg (ints .u8 q))) ?_ ?_ ?_ (by kernel_rfl) (fun ⟨_, _, h⟩ => h)
    · exact ⟨_, _, _, _, _, _, _, _, _, _, rfl, ⟨rfl, rfl, rfl, Nat.le_refl _, fun _ _ => rfl⟩, (fun h => h.elim), (fun h => h.elim), (fun h => h.elim), (fun h => h.elim), (fun h => h.elim), (fun h => h.elim)⟩
    · intro i o hilt hi D act_ W hI hnD hall
      obtain ⟨u8, u9, u10, u11, u12, u13, u14, u15, u16, u17, rfl, hW, f0, f1, f2, f3, f4, f5⟩ := hI
      rcases i with _ | _ | _ | _ | _ | _ | i
      · simp only [Nat.zero_add, Nat.reduceAdd, List.getElem?_toArray, List.getElem?_cons_succ, List.getElem?_cons_zero, Option.some.injEq] at hi
        subst hi
        refine wpOp_load rfl rfl rfl rfl (C2'.below' hW) Tryz.ar96 hz16 ?_
        exact ⟨_, _, _, _, _, _, _, _, _, _, rfl, hW, (fun _ => rfl), (fun h => f1 (h.resolve_left (by decide))), (fun h => f2 (h.resolve_left (by decide))), (fun h => f3 (h.resolve_left (by decide))), (fun h => f4 (h.resolve_left (by decide))), (fun h => f5 (h.resolve_left (by decide)))⟩
      · simp only [Nat.zero_add, Nat.reduceAdd, List.getElem?_toArray, List.getElem?_cons_succ, List.getElem?_cons_zero, Option.some.injEq] at hi
        subst hi
        refine wpOp_value (v := .pointer (some ⟨gk, 0, none⟩)) rfl rfl (run_cellP rfl rfl Tryz.underlying77 ((hW.cell (p := ⟨_, _, none⟩) hl0).trans k0)) ?_
        exact ⟨_, _, _, _, _, _, _, _, _, _, rfl, hW, (fun h => f0 (h.resolve_left (by decide))), (fun _ => rfl), (fun h => f2 (h.resolve_left (by decide))), (fun h => f3 (h.resolve_left (by decide))), (fun h => f4 (h.resolve_left (by decide))), (fun h => f5 (h.resolve_left (by decide)))⟩
      · simp only [Nat.zero_add, Nat.reduceAdd, List.getElem?_toArray, List.getElem?_cons_succ, List.getElem?_cons_zero, Option.some.injEq] at hi
        subst hi
        refine wpOp_value (v := .int .i64 3) rfl rfl (by kernel_rfl) ?_
        exact ⟨_, _, _, _, _, _, _, _, _, _, rfl, hW, (fun h => f0 (h.resolve_left (by decide))), (fun h => f1 (h.resolve_left (by decide))), (fun _ => rfl), (fun h => f3 (h.resolve_left (by decide))), (fun h => f4 (h.resolve_left (by decide))), (fun h => f5 (h.resolve_left (by decide)))⟩
      · simp only [Nat.zero_add, Nat.reduceAdd, List.getElem?_toArray, List.getElem?_cons_succ, List.getElem?_cons_zero, Option.some.injEq] at hi
        subst hi
        refine wpOp_value (v := .slice ta t.length ct) rfl rfl rfl ?_
        exact ⟨_, _, _, _, _, _, _, _, _, _, rfl, hW, (fun h => f0 (h.resolve_left (by decide))), (fun h => f1 (h.resolve_left (by decide))), (fun h => f2 (h.resolve_left (by decide))), (fun _ => rfl), (fun h => f4 (h.resolve_left (by decide))), (fun h => f5 (h.resolve_left (by decide)))⟩
      · simp only [Nat.zero_add, Nat.reduceAdd, List.getElem?_toArray, List.getElem?_cons_succ, List.getElem?_cons_zero, Option.some.injEq] at hi
        subst hi
        obtain rfl := f1 (pre_of hall 1 rfl)
        obtain rfl := f2 (pre_of hall 2 rfl)
        obtain rfl := f3 (pre_of hall 3 rfl)
        refine wpOp_call 185 rfl rfl rfl Tryz.func185 (by kernel_rfl) (by kernel_rfl) (hpc W hW) ?_
        intro W' hW'
        exact ⟨_, _, _, _, _, _, _, _, _, _, rfl, bCall hW hW' hW.size, (fun h => f0 (h.resolve_left (by decide))), (fun h => f1 (h.resolve_left (by decide))), (fun h => f2 (h.resolve_left (by decide))), (fun h => f3 (h.resolve_left (by decide))), (fun _ => rfl), (fun h => f5 (h.resolve_left (by decide)))⟩
      · simp only [Nat.zero_add, Nat.reduceAdd, List.getElem?_toArray, List.getElem?_cons_succ, List.getElem?_cons_zero, Option.some.injEq] at hi
        subst hi
        obtain rfl := f0 (pre_of hall 0 rfl)
        obtain rfl := f4 (pre_of hall 4 rfl)
        refine wpOp_call 184 rfl rfl rfl Tryz.func184 (by kernel_rfl) (by kernel_rfl) (hpp W) ?_
        intro W' hW'
        exact ⟨_, _, _, _, _, _, _, _, _, _, rfl, bCall hW hW' hW.size, (fun h => f0 (h.resolve_left (by decide))), (fun h => f1 (h.resolve_left (by decide))), (fun h => f2 (h.resolve_left (by decide))), (fun h => f3 (h.resolve_left (by decide))), (fun h => f4 (h.resolve_left (by decide))), (fun _ => rfl)⟩
      · exfalso; omega
    · rintro D act_ W ⟨u8, u9, u10, u11, u12, u13, u14, u15, u16, u17, rfl, hW, f0, f1, f2, f3, f4, f5⟩ hall
      obtain rfl := f0 (hall 0 (by decide))
      obtain rfl := f1 (hall 1 (by decide))
      obtain rfl := f2 (hall 2 (by decide))
      obtain rfl := f3 (hall 3 (by decide))
      obtain rfl := f4 (hall 4 (by decide))
      obtain rfl := f5 (hall 5 (by decide))
      clear f0 f1 f2 f3 f4 f5 hall
      simp only [List.drop_succ_cons, List.drop_zero]
      have D0 := C0.below' hW
      have D1 := C1.below' hW
      have D2 := C2'.below' hW
      have hB1 := bCall hB hW hB.size
      have hB2 := bSetRow hB1 (show w.heap.size ≤ w.heap.size + 2 by omega) (ints .u8 q)
      have hB3 := bSetRow (hW.mono hB.size) (show w.heap.size ≤ w.heap.size + 2 by omega) (ints .u8 q)
      have E0 := D0.rowFar (show w.heap.size ≠ w.heap.size + 2 by omega) (ints .u8 q)
      have E1 := D1.rowFar (show w.heap.size + 1 ≠ w.heap.size + 2 by omega) (ints .u8 q)
      have E2 := D2.row (ints .u8 q)
      have hk := (keeps_below hW).trans (keeps_row (cs' := ints .u8 q) D2)
      refine wpList_store_ints rfl 96 _ _ rfl _ rfl rfl D2 (zeros_size _ _) Tryz.ar96 hql ?_
      exact ⟨hk, hB3, ⟨E0, E1, by rw [if_neg (by simp), HH.out]; exact E2⟩, hB2⟩
  case done =>
    rintro D ys W hD rfl ⟨⟨C0, C1, C2⟩, hB⟩ hKd
    rename_i hKx
    refine hKx _ _ ?_
    refine wpIn_wide.2 ?_
    have hhl := hashN_len I J Z t
    have C2' : Blk W (w.heap.size + 2) 96 (ints .u8 (hashN I J Z t)) := C2
    clear hKx
    go_wp2_with (first
      | (refine wpList_load_ints rfl 96 _ rfl _ rfl C2' Tryz.ar96 hhl ?_; (try simp only [Act.put, List.setIfInBounds_toArray, List.set_cons_zero, List.set_cons_succ, World.size_alloc, setRow_size, Nat.add_assoc, Nat.reduceAdd]))
      | (refine wpList_store_ints rfl 96 _ _ rfl _ rfl rfl C1 (zeros_size _ _) Tryz.ar96 hhl ?_; (try simp only [Act.put, List.setIfInBounds_toArray, List.set_cons_zero, List.set_cons_succ, World.size_alloc, setRow_size, Nat.add_assoc, Nat.reduceAdd])))
    have hDn : w.heap.size + 1 ≠ D := by omega
    have hK' : (W.setRow (w.heap.size + 1) (ints .u8 (hashN I J Z t))).heap[D]? = some (.deferred (some [])) := (setRow_other _ _ _ _ (Ne.symm hDn)).trans hKd
    have E1 := C1.row (ints .u8 (hashN I J Z t))
    have hB2 := bSetRow hB (show w.heap.size ≤ w.heap.size + 1 by omega) (ints .u8 (hashN I J Z t))
    have E2 : Blk ((W.setRow (w.heap.size + 1) (ints .u8 (hashN I J Z t))).putObj D (.deferred none)) (w.heap.size + 1) 96 (ints .u8 (hashN I J Z t)) := (World.putObj_heap_other (by omega)).trans E1
    obtain ⟨⟨d, h1, hd⟩, h2⟩ := Tryz.ar96
    refine ⟨by simp, .inl ⟨_, _, rfl, run_takeDeferred hK', ?_⟩⟩
    refine ⟨_, results_cell_row rfl _ _ (w.heap.size + 1) _ _ _ _ rfl E2 h1 (by cases d <;> first | rfl | cases hd) (by rw [ints_size, hhl]; exact h2), rfl, ?_⟩
    exact hB2.trans (belowK_b (w := w) (Nat.le_refl _) _ D _ _ (by omega) hK' rfl rfl)
  case stop =>
    rintro D c pre W _ _ h _
    exact h.elim
end Go.Proofs.YtaiffkajkbiidaaGreatDoor
