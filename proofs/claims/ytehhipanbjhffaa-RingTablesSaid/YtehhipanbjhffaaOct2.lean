/- What octet's functions on numbers of 128 bits answer: sixteen bytes as a number, a number's bytes, sixteen bytes of a row. No condition. -/
import Derived.Test.YtehhipanbjhffaaOct
import Derived.Test.YtehhipanbjhffaaKit4
import Derived.StillTailTactics
namespace Go.Proofs.Ytehhipanbjhffaa
set_option linter.unusedSimpArgs false
set_option linter.unusedVariables false
set_option linter.unusedSectionVars false
set_option linter.unusedVariables false
open Go.RowKit
theorem Try.ar38 : IsArr Try.prog 38 2 := isStr Try.underlying38 (by kernel_rfl)
theorem Try.z38 : IsZero Try.prog 38 2 .u64 := isZero (by kernel_rfl)
set_option maxHeartbeats 1000000 in
theorem load_c (a : Option Addr) (c : Nat) (bs : List Nat) (hb : ∀ x ∈ bs, x < 256) (hlen : bs.length ≤ maxLen) (w : World) (hs : Sl w a .u8 bs) :
    Calls Try.prog 26 #[.slice a bs.length c] w fun e w' => e = .returned (.agg (ints .u64 [numAt bs 0 8, numAt bs 8 8])) ∧ Below w.heap.size w w' := by
  have Z := Blk.new w 38 (ints .u64 (zeros 2))
  have hbel := (Below.refl w.heap.size w).alloc (Nat.le_refl _) (.cells (ints .u64 (zeros 2)) 38)
  go_enter Try.func26, Try.ntmps26
  go_wp2_with (refine wpList_alloc_ints rfl 38 rfl Try.z38 ?_; (try simp only [Act.put, List.setIfInBounds_toArray, List.set_cons_zero, List.set_cons_succ, World.size_alloc, setRow_size, Nat.add_assoc, Nat.reduceAdd]))
  refine (long_c a c bs hb hlen 0 (by omega) _ (hs.below hbel)).mono ?_
  rintro e w1 ⟨rfl, hb1⟩
  have hbel1 := bCall hbel hb1 hbel.size
  go_wp2_with (fail)
  refine (long_c a c bs hb hlen 8 (by omega) _ (hs.below hbel1)).mono ?_
  rintro e w2 ⟨rfl, hb2⟩
  have Z2 := (Z.below' hb1).below' hb2
  have hbel2 := bCall hbel1 hb2 hbel1.size
  go_wp2_with (refine wpList_store_ints rfl 38 _ _ rfl w.heap.size (k := .u64) (xs := [numAt bs 0 8, numAt bs 8 8]) rfl rfl Z2 (zeros_size _ _) Try.ar38 rfl ?_; (try simp only [Act.put, List.setIfInBounds_toArray, List.set_cons_zero, List.set_cons_succ, World.size_alloc, setRow_size, Nat.add_assoc, Nat.reduceAdd]))
  exact ret_ints rfl rfl (Z2.row _) Try.ar38 rfl ⟨rfl, bSetRow hbel2 (Nat.le_refl _) _⟩
theorem splice_lo {xs : List Nat} (h : xs.length = 8) : splice (zeros 16) 0 xs = xs ++ zeros 8 := by
  unfold splice
  rw [h]; simp [zeros]
theorem splice_hi {xs ys : List Nat} (h : xs.length = 8) (h' : ys.length = 8) : splice (xs ++ zeros 8) 8 ys = xs ++ ys := by
  unfold splice
  rw [h', ← h, List.take_left, List.drop_of_length_le (by simp [zeros, h])]; simp
set_option maxRecDepth 100000 in
set_option maxHeartbeats 2000000 in
theorem wbytes_c (lo hi : Nat) (h0 : lo < 18446744073709551616) (h1 : hi < 18446744073709551616) (w : World) :
    Calls Try.prog 30 #[.agg (ints .u64 [lo, hi])] w fun e w' => e = .returned (.agg (ints .u8 (dig 256 8 lo ++ dig 256 8 hi))) ∧ Below w.heap.size w w' := by
  have B0 := ((Blk.new w 38 (ints .u64 [lo, hi])).alloc (.cells (ints .u8 (zeros 16)) 22)).alloc (.cells (ints .u8 (zeros 16)) 22)
  have B1 := (Blk.new (w.alloc (.cells (ints .u64 [lo, hi]) 38)) 22 (ints .u8 (zeros 16))).alloc (.cells (ints .u8 (zeros 16)) 22)
  have B2 := Blk.new ((w.alloc (.cells (ints .u64 [lo, hi]) 38)).alloc (.cells (ints .u8 (zeros 16)) 22)) 22 (ints .u8 (zeros 16))
  rw [World.size_alloc] at B1
  rw [World.size_alloc, World.size_alloc] at B2
  have hbel := (((Below.refl w.heap.size w).alloc (Nat.le_refl _) (.cells (ints .u64 [lo, hi]) 38)).alloc (by simp) (.cells (ints .u8 (zeros 16)) 22)).alloc (by simp; omega) (.cells (ints .u8 (zeros 16)) 22)
  simp only [Nat.add_assoc, Nat.reduceAdd] at B2
  have hsz : Hid ((((w.alloc (.cells (ints .u64 [lo, hi]) 38)).alloc (.cells (ints .u8 (zeros 16)) 22)).alloc (.cells (ints .u8 (zeros 16)) 22)).heap.size = w.heap.size + 3) := Lib.hid (by simp)
  go_enter Try.func30, Try.ntmps30
  go_wp2_with (refine wpList_alloc_ints rfl 22 rfl Try.z22 ?_; (try simp only [Act.put, List.setIfInBounds_toArray, List.set_cons_zero, List.set_cons_succ, World.size_alloc, setRow_size, Nat.add_assoc, Nat.reduceAdd]))
  generalize (((w.alloc (.cells (ints .u64 [lo, hi]) 38)).alloc (.cells (ints .u8 (zeros 16)) 22)).alloc (.cells (ints .u8 (zeros 16)) 22)) = w0 at *
  have c0 := B0.int (i := 0) (by simp)
  have c1 := B0.int (i := 1) (by simp)
  simp only [List.getD_cons_zero, List.getD_cons_succ] at c0 c1
  have hlt0 := B0.lt
  have hlo := dig_length 256 8 lo
  have hhi := dig_length 256 8 hi
  refine wp_region_inv (by kernel_rfl) (by kernel_rfl) (fun D a W => ∃ u4 u5 u6 u7 u8 u9 u10 u11 : Value, a = { tmps := #[.agg (ints .u64 [lo, hi]), .pointer (some ⟨w.heap.size, 0, none⟩), .pointer (some ⟨w.heap.size + 1, 0, none⟩), .pointer (some ⟨w.heap.size + 2, 0, none⟩), u4, u5, u6, u7, u8, u9, u10, u11, undef, undef, undef, undef, undef, undef, undef], defers := [] } ∧ Below w0.heap.size w0 W ∧ (D 0 → u6 = .pointer (some ⟨w.heap.size, 0, none⟩)) ∧ (D 1 → u7 = .int .u64 lo) ∧ (D 2 → u8 = .agg (ints .u8 (dig 256 8 lo))) ∧ (D 3 → u9 = .pointer (some ⟨w.heap.size, 1, none⟩)) ∧ (D 4 → u10 = .int .u64 hi) ∧ (D 5 → u11 = .agg (ints .u8 (dig 256 8 hi))) ∧ (D 6 → Al W w0.heap.size u4 58 8 .u8 (D 8) (dig 256 8 lo)) ∧ (D 7 → Al W w0.heap.size u5 58 8 .u8 (D 9) (dig 256 8 hi)) ∧ (D 8 → D 6) ∧ (D 9 → D 7) ∧ (D 6 → D 7 → u4 ≠ u5)) ?_ ?_ ?_
  · exact ⟨_, _, _, _, _, _, _, _, rfl, ⟨rfl, rfl, rfl, Nat.le_refl _, fun _ _ => rfl⟩, (fun h => h.elim), (fun h => h.elim), (fun h => h.elim), (fun h => h.elim), (fun h => h.elim), (fun h => h.elim), (fun h => h.elim), (fun h => h.elim), (fun h => h.elim), (fun h => h.elim), (fun h => h.elim)⟩
  · intro i o hi D a W hI hnD hall
    obtain ⟨u4, u5, u6, u7, u8, u9, u10, u11, rfl, hW, f0, f1, f2, f3, f4, f5, f6, f7, f8, f9, f10⟩ := hI
    rcases i with _ | _ | _ | _ | _ | _ | _ | _ | _ | _ | i
    · simp only [Nat.zero_add, Nat.reduceAdd, List.getElem?_toArray, List.getElem?_cons_succ, List.getElem?_cons_zero, Option.some.injEq] at hi
      subst hi
      refine wpOp_value (v := .pointer (some ⟨w.heap.size, 0, none⟩)) rfl rfl (by kernel_rfl) ?_
      exact ⟨_, _, _, _, _, _, _, _, rfl, hW, (fun _ => rfl), (fun h => f1 (h.resolve_left (by decide))), (fun h => f2 (h.resolve_left (by decide))), (fun h => f3 (h.resolve_left (by decide))), (fun h => f4 (h.resolve_left (by decide))), (fun h => f5 (h.resolve_left (by decide))), (fun h => (f6 (h.resolve_left (by decide))).same (fun h' => h'.resolve_left (by decide))), (fun h => (f7 (h.resolve_left (by decide))).same (fun h' => h'.resolve_left (by decide))), (fun h => .inr (f8 (h.resolve_left (by decide)))), (fun h => .inr (f9 (h.resolve_left (by decide)))), (fun h h2 => f10 (h.resolve_left (by decide)) (h2.resolve_left (by decide)))⟩
    · simp only [Nat.zero_add, Nat.reduceAdd, List.getElem?_toArray, List.getElem?_cons_succ, List.getElem?_cons_zero, Option.some.injEq] at hi
      subst hi
      obtain rfl := f0 (pre_of hall 0 rfl)
      refine wpOp_cell rfl rfl rfl rfl Try.underlying27 ((hW.cell (p := ⟨_, _, none⟩) hlt0).trans c0) ?_
      exact ⟨_, _, _, _, _, _, _, _, rfl, hW, (fun h => f0 (h.resolve_left (by decide))), (fun _ => rfl), (fun h => f2 (h.resolve_left (by decide))), (fun h => f3 (h.resolve_left (by decide))), (fun h => f4 (h.resolve_left (by decide))), (fun h => f5 (h.resolve_left (by decide))), (fun h => (f6 (h.resolve_left (by decide))).same (fun h' => h'.resolve_left (by decide))), (fun h => (f7 (h.resolve_left (by decide))).same (fun h' => h'.resolve_left (by decide))), (fun h => .inr (f8 (h.resolve_left (by decide)))), (fun h => .inr (f9 (h.resolve_left (by decide)))), (fun h h2 => f10 (h.resolve_left (by decide)) (h2.resolve_left (by decide)))⟩
    · simp only [Nat.zero_add, Nat.reduceAdd, List.getElem?_toArray, List.getElem?_cons_succ, List.getElem?_cons_zero, Option.some.injEq] at hi
      subst hi
      obtain rfl := f1 (pre_of hall 1 rfl)
      refine wpOp_call 40 rfl rfl rfl Try.func40 (by kernel_rfl) (by kernel_rfl) (putLong_c lo h0 W) ?_
      intro W' hW'
      exact ⟨_, _, _, _, _, _, _, _, rfl, bCall hW hW' hW.size, (fun h => f0 (h.resolve_left (by decide))), (fun h => f1 (h.resolve_left (by decide))), (fun _ => rfl), (fun h => f3 (h.resolve_left (by decide))), (fun h => f4 (h.resolve_left (by decide))), (fun h => f5 (h.resolve_left (by decide))), (fun h => (f6 (h.resolve_left (by decide))).below hW' (fun h' => h'.resolve_left (by decide))), (fun h => (f7 (h.resolve_left (by decide))).below hW' (fun h' => h'.resolve_left (by decide))), (fun h => .inr (f8 (h.resolve_left (by decide)))), (fun h => .inr (f9 (h.resolve_left (by decide)))), (fun h h2 => f10 (h.resolve_left (by decide)) (h2.resolve_left (by decide)))⟩
    · simp only [Nat.zero_add, Nat.reduceAdd, List.getElem?_toArray, List.getElem?_cons_succ, List.getElem?_cons_zero, Option.some.injEq] at hi
      subst hi
      refine wpOp_value (v := .pointer (some ⟨w.heap.size, 1, none⟩)) rfl rfl (by kernel_rfl) ?_
      exact ⟨_, _, _, _, _, _, _, _, rfl, hW, (fun h => f0 (h.resolve_left (by decide))), (fun h => f1 (h.resolve_left (by decide))), (fun h => f2 (h.resolve_left (by decide))), (fun _ => rfl), (fun h => f4 (h.resolve_left (by decide))), (fun h => f5 (h.resolve_left (by decide))), (fun h => (f6 (h.resolve_left (by decide))).same (fun h' => h'.resolve_left (by decide))), (fun h => (f7 (h.resolve_left (by decide))).same (fun h' => h'.resolve_left (by decide))), (fun h => .inr (f8 (h.resolve_left (by decide)))), (fun h => .inr (f9 (h.resolve_left (by decide)))), (fun h h2 => f10 (h.resolve_left (by decide)) (h2.resolve_left (by decide)))⟩
    · simp only [Nat.zero_add, Nat.reduceAdd, List.getElem?_toArray, List.getElem?_cons_succ, List.getElem?_cons_zero, Option.some.injEq] at hi
      subst hi
      obtain rfl := f3 (pre_of hall 3 rfl)
      refine wpOp_cell rfl rfl rfl rfl Try.underlying27 ((hW.cell (p := ⟨_, _, none⟩) hlt0).trans c1) ?_
      exact ⟨_, _, _, _, _, _, _, _, rfl, hW, (fun h => f0 (h.resolve_left (by decide))), (fun h => f1 (h.resolve_left (by decide))), (fun h => f2 (h.resolve_left (by decide))), (fun h => f3 (h.resolve_left (by decide))), (fun _ => rfl), (fun h => f5 (h.resolve_left (by decide))), (fun h => (f6 (h.resolve_left (by decide))).same (fun h' => h'.resolve_left (by decide))), (fun h => (f7 (h.resolve_left (by decide))).same (fun h' => h'.resolve_left (by decide))), (fun h => .inr (f8 (h.resolve_left (by decide)))), (fun h => .inr (f9 (h.resolve_left (by decide)))), (fun h h2 => f10 (h.resolve_left (by decide)) (h2.resolve_left (by decide)))⟩
    · simp only [Nat.zero_add, Nat.reduceAdd, List.getElem?_toArray, List.getElem?_cons_succ, List.getElem?_cons_zero, Option.some.injEq] at hi
      subst hi
      obtain rfl := f4 (pre_of hall 4 rfl)
      refine wpOp_call 40 rfl rfl rfl Try.func40 (by kernel_rfl) (by kernel_rfl) (putLong_c hi h1 W) ?_
      intro W' hW'
      exact ⟨_, _, _, _, _, _, _, _, rfl, bCall hW hW' hW.size, (fun h => f0 (h.resolve_left (by decide))), (fun h => f1 (h.resolve_left (by decide))), (fun h => f2 (h.resolve_left (by decide))), (fun h => f3 (h.resolve_left (by decide))), (fun h => f4 (h.resolve_left (by decide))), (fun _ => rfl), (fun h => (f6 (h.resolve_left (by decide))).below hW' (fun h' => h'.resolve_left (by decide))), (fun h => (f7 (h.resolve_left (by decide))).below hW' (fun h' => h'.resolve_left (by decide))), (fun h => .inr (f8 (h.resolve_left (by decide)))), (fun h => .inr (f9 (h.resolve_left (by decide)))), (fun h h2 => f10 (h.resolve_left (by decide)) (h2.resolve_left (by decide)))⟩
    · simp only [Nat.zero_add, Nat.reduceAdd, List.getElem?_toArray, List.getElem?_cons_succ, List.getElem?_cons_zero, Option.some.injEq] at hi
      subst hi
      refine wpOp_alloc rfl rfl rfl Try.z58 ?_
      have hnS : ¬ (8 = 6 ∨ D 8) := fun h => h.elim (by decide) (fun h => hnD (f8 h))
      exact ⟨_, _, _, _, _, _, _, _, rfl, hW.alloc hW.size _, (fun h => f0 (h.resolve_left (by decide))), (fun h => f1 (h.resolve_left (by decide))), (fun h => f2 (h.resolve_left (by decide))), (fun h => f3 (h.resolve_left (by decide))), (fun h => f4 (h.resolve_left (by decide))), (fun h => f5 (h.resolve_left (by decide))), (fun _ => Al.new hW.size (fun h => (hnS h).elim)), (fun h => (f7 (h.resolve_left (by decide))).alloc _ (fun h' => h'.resolve_left (by decide))), (fun _ => .inl rfl), (fun h => .inr (f9 (h.resolve_left (by decide)))), (fun _ h => (f7 (h.resolve_left (by decide))).ne_new')⟩
    · simp only [Nat.zero_add, Nat.reduceAdd, List.getElem?_toArray, List.getElem?_cons_succ, List.getElem?_cons_zero, Option.some.injEq] at hi
      subst hi
      refine wpOp_alloc rfl rfl rfl Try.z58 ?_
      have hnS : ¬ (9 = 7 ∨ D 9) := fun h => h.elim (by decide) (fun h => hnD (f9 h))
      exact ⟨_, _, _, _, _, _, _, _, rfl, hW.alloc hW.size _, (fun h => f0 (h.resolve_left (by decide))), (fun h => f1 (h.resolve_left (by decide))), (fun h => f2 (h.resolve_left (by decide))), (fun h => f3 (h.resolve_left (by decide))), (fun h => f4 (h.resolve_left (by decide))), (fun h => f5 (h.resolve_left (by decide))), (fun h => (f6 (h.resolve_left (by decide))).alloc _ (fun h' => h'.resolve_left (by decide))), (fun _ => Al.new hW.size (fun h => (hnS h).elim)), (fun h => .inr (f8 (h.resolve_left (by decide)))), (fun _ => .inl rfl), (fun h _ => (f6 (h.resolve_left (by decide))).ne_new)⟩
    · simp only [Nat.zero_add, Nat.reduceAdd, List.getElem?_toArray, List.getElem?_cons_succ, List.getElem?_cons_zero, Option.some.injEq] at hi
      subst hi
      obtain rfl := f2 (pre_of hall 2 rfl)
      obtain ⟨g, l, rfl, hg, hl0, hB, hst⟩ := f6 (pre_of hall 6 rfl)
      refine wpOp_store rfl rfl rfl rfl rfl hB ((ints_size _ _).trans hl0) Try.ar58 hlo ?_
      exact ⟨_, _, _, _, _, _, _, _, rfl, bSetRow hW hg _, (fun h => f0 (h.resolve_left (by decide))), (fun h => f1 (h.resolve_left (by decide))), (fun h => f2 (h.resolve_left (by decide))), (fun h => f3 (h.resolve_left (by decide))), (fun h => f4 (h.resolve_left (by decide))), (fun h => f5 (h.resolve_left (by decide))), (fun _ => Al.set hB hg hlo), (fun h => (f7 (h.resolve_left (by decide))).far (fun e => f10 (pre_of hall 6 rfl) (pre_of hall 7 rfl) e.symm) (fun h' => h'.resolve_left (by decide))), (fun _ => .inr (pre_of hall 6 rfl)), (fun h => .inr (f9 (h.resolve_left (by decide)))), (fun h h2 => f10 (h.resolve_left (by decide)) (h2.resolve_left (by decide)))⟩
    · simp only [Nat.zero_add, Nat.reduceAdd, List.getElem?_toArray, List.getElem?_cons_succ, List.getElem?_cons_zero, Option.some.injEq] at hi
      subst hi
      obtain rfl := f5 (pre_of hall 5 rfl)
      obtain ⟨g, l, rfl, hg, hl0, hB, hst⟩ := f7 (pre_of hall 7 rfl)
      refine wpOp_store rfl rfl rfl rfl rfl hB ((ints_size _ _).trans hl0) Try.ar58 hhi ?_
      exact ⟨_, _, _, _, _, _, _, _, rfl, bSetRow hW hg _, (fun h => f0 (h.resolve_left (by decide))), (fun h => f1 (h.resolve_left (by decide))), (fun h => f2 (h.resolve_left (by decide))), (fun h => f3 (h.resolve_left (by decide))), (fun h => f4 (h.resolve_left (by decide))), (fun h => f5 (h.resolve_left (by decide))), (fun h => (f6 (h.resolve_left (by decide))).far (fun e => f10 (pre_of hall 6 rfl) (pre_of hall 7 rfl) e) (fun h' => h'.resolve_left (by decide))), (fun _ => Al.set hB hg hhi), (fun h => .inr (f8 (h.resolve_left (by decide)))), (fun _ => .inr (pre_of hall 7 rfl)), (fun h h2 => f10 (h.resolve_left (by decide)) (h2.resolve_left (by decide)))⟩
    · exfalso; simp at hi
  · rintro D a W ⟨u4, u5, u6, u7, u8, u9, u10, u11, rfl, hW, f0, f1, f2, f3, f4, f5, f6, f7, f8, f9, f10⟩ hall
    obtain rfl := f0 (hall 0 (by decide))
    obtain rfl := f1 (hall 1 (by decide))
    obtain rfl := f2 (hall 2 (by decide))
    obtain rfl := f3 (hall 3 (by decide))
    obtain rfl := f4 (hall 4 (by decide))
    obtain rfl := f5 (hall 5 (by decide))
    obtain ⟨g4, l4, rfl, hg4, -, hB4, hl4⟩ := f6 (hall 6 (by decide))
    obtain rfl := hl4 (hall 8 (by decide))
    obtain ⟨g5, l5, rfl, hg5, -, hB5, hl5⟩ := f7 (hall 7 (by decide))
    obtain rfl := hl5 (hall 9 (by decide))
    have hne10 := f10 (hall 6 (by decide)) (hall 7 (by decide))
    clear f0 f1 f2 f3 f4 f5 f6 f7 f8 f9 f10 hall
    have hbel1 := bCall hbel hW (by have := hsz.out; omega)
    have K2 := B2.below' hW
    have K1 := B1.below' hW
    have l2 := B2.lt
    clear B0 B1 B2 hW hbel c0 c1
    go_wp2
    refine wp_region_still_tail 2 (by kernel_rfl) (by kernel_rfl) ?_
    simp only [List.take_succ_cons, List.take_zero, List.drop_succ_cons, List.drop_zero]
    repeat still_step
    refine wpStill_nil ?_
    change wpList _ _ _ _ _ W.drew
    refine wpList_copy_ints (off := 0) (dLen := 16) (sLen := 8) rfl rfl Try.underlying40 Try.s15 rfl rfl K2.drew (Sl.blk hB4.drew) (by rw [hlo]; rfl) (fun _ => rfl) (by rw [zeros_len, hlo]; omega) ?_
    intro w3 L2 ho
    rw [splice_lo hlo] at L2
    have L1 := K1.drew.only ho (by omega)
    have L5 := hB5.drew.only ho (by omega)
    have hbel2 := ho.below _ _ hbel1.drew (by omega)
    clear K1 K2 hB4 hB5 hbel1 ho
    go_wp2
    refine wp_region_still_tail 2 (by kernel_rfl) (by kernel_rfl) ?_
    simp only [List.take_succ_cons, List.take_zero, List.drop_succ_cons, List.drop_zero]
    repeat still_step
    refine wpStill_nil ?_
    change wpList _ _ _ _ _ w3.drew
    refine wpList_copy_ints (off := 8) (dLen := 8) (sLen := 8) rfl rfl Try.underlying40 Try.s15 rfl rfl L2.drew (Sl.blk L5.drew) (by rw [hhi]; rfl) (fun _ => rfl) (by simp [zeros, hhi, hlo]) ?_
    intro w4 M2 ho2
    rw [splice_hi hlo hhi] at M2
    have M1 := L1.drew.only ho2 (by omega)
    have hbel3 := ho2.below _ _ hbel2.drew (by omega)
    have hlen : (dig 256 8 lo ++ dig 256 8 hi).length = 16 := by simp
    go_wp2_with (first | (refine wpList_load_ints rfl 22 _ rfl (w.heap.size + 2) rfl M2 Try.ar22 hlen ?_; (try simp only [Act.put, List.setIfInBounds_toArray, List.set_cons_zero, List.set_cons_succ, World.size_alloc, setRow_size, Nat.add_assoc, Nat.reduceAdd])) | (refine wpList_store_ints rfl 22 _ _ rfl (w.heap.size + 1) rfl rfl M1 (zeros_size _ _) Try.ar22 hlen ?_; (try simp only [Act.put, List.setIfInBounds_toArray, List.set_cons_zero, List.set_cons_succ, World.size_alloc, setRow_size, Nat.add_assoc, Nat.reduceAdd])))
    exact ret_ints rfl rfl (M1.row _) Try.ar22 hlen ⟨rfl, bSetRow hbel3 (by omega) _⟩
/-- Sixteen bytes of a row, noughts where it has none. -/
def blockN (bs : List Nat) : List Nat := (List.range 16).map fun i => bs.getD i 0
theorem blockN_len (bs : List Nat) : (blockN bs).length = 16 := by simp [blockN]
theorem blockN_lt {bs : List Nat} (hb : ∀ x ∈ bs, x < 256) : ∀ x ∈ blockN bs, x < 256 := fun x hx => by
  obtain ⟨i, -, rfl⟩ := List.mem_map.1 hx
  exact getD_bound hb (by omega) _
theorem splice_block (bs : List Nat) : splice (zeros 16) 0 (bs.take 16) = blockN bs := by
  apply List.ext_getElem? fun i => ?_
  unfold splice blockN
  rw [List.take_zero, List.nil_append, Nat.zero_add]
  by_cases hi : i < 16
  · rw [List.getElem?_map, List.getElem?_range hi]
    simp only [Option.map_some]
    by_cases h : i < bs.length
    · rw [List.getElem?_append_left (by rw [List.length_take]; omega), List.getElem?_take, if_pos hi, getD_lt h]
    · rw [List.getElem?_append_right (by rw [List.length_take]; omega), List.getElem?_drop, List.getD_eq_getElem?_getD, List.getElem?_eq_none (show bs.length ≤ i by omega)]
      unfold zeros
      rw [List.getElem?_replicate, if_pos (by rw [List.length_take]; omega)]; rfl
  · rw [List.getElem?_eq_none (by simp [zeros]; omega), List.getElem?_eq_none (by simp; omega)]
set_option maxHeartbeats 1000000 in
theorem block_c (a : Option Addr) (c : Nat) (bs : List Nat) (w : World) (hs : Sl w a .u8 bs) :
    Calls Try.prog 42 #[.slice a bs.length c] w fun e w' => e = .returned (.agg (ints .u8 (blockN bs))) ∧ Below w.heap.size w w' := by
  have B1 := (Blk.new w 22 (ints .u8 (zeros 16))).alloc (.cells (ints .u8 (zeros 16)) 22)
  have B2 := Blk.new (w.alloc (.cells (ints .u8 (zeros 16)) 22)) 22 (ints .u8 (zeros 16))
  rw [World.size_alloc] at B2
  have hbel := ((Below.refl w.heap.size w).alloc (Nat.le_refl _) (.cells (ints .u8 (zeros 16)) 22)).alloc (by simp) (.cells (ints .u8 (zeros 16)) 22)
  have hs1 := (hs.below hbel).take 16
  have hmin : (bs.take 16).length = Nat.min bs.length 16 := by exact List.length_take.trans (Nat.min_comm _ _)
  have Hmin := Lib.hid hmin
  clear hmin
  have hbl := blockN_len bs
  go_enter Try.func42, Try.ntmps42
  go_wp2_with (first | (refine wpList_alloc_ints rfl 22 rfl Try.z22 ?_; (try simp only [Act.put, List.setIfInBounds_toArray, List.set_cons_zero, List.set_cons_succ, World.size_alloc, setRow_size, Nat.add_assoc, Nat.reduceAdd])) | (refine wpList_copy_ints (off := 0) (dLen := 16) rfl rfl Try.underlying40 Try.s15 rfl rfl B2 hs1 Hmin.out (fun _ => rfl) (by rw [zeros_len, List.length_take]; omega) ?_; intro w3 L2 ho; rw [splice_block] at L2; have L1 := B1.only ho (by omega); have hbel2 := ho.below _ _ hbel (by omega)) | (refine wpList_load_ints rfl 22 _ rfl (w.heap.size + 1) rfl L2 Try.ar22 hbl ?_; (try simp only [Act.put, List.setIfInBounds_toArray, List.set_cons_zero, List.set_cons_succ, World.size_alloc, setRow_size, Nat.add_assoc, Nat.reduceAdd])) | (refine wpList_store_ints rfl 22 _ _ rfl w.heap.size rfl rfl L1 (zeros_size _ _) Try.ar22 hbl ?_; (try simp only [Act.put, List.setIfInBounds_toArray, List.set_cons_zero, List.set_cons_succ, World.size_alloc, setRow_size, Nat.add_assoc, Nat.reduceAdd])))
  exact ret_ints rfl rfl (L1.row _) Try.ar22 hbl ⟨rfl, bSetRow hbel2 (by omega) _⟩
end Go.Proofs.Ytehhipanbjhffaa
