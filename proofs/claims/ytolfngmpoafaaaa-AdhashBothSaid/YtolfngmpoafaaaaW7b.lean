/- What prime's functions answer: a number in form, sums, products. No condition but that parts fit 32 bits. -/
import Derived.Test.YtolfngmpoafaaaaW7a
import Derived.BigQuiet
namespace Go.Proofs.Ytolfngmpoafaaaa
set_option linter.unusedSimpArgs false
set_option linter.unusedVariables false
set_option linter.unusedSectionVars false
set_option linter.unusedVariables false
open Go.RowKit
set_option maxHeartbeats 400000 in
theorem form_c (xs : List Nat) (hl : xs.length = 5) (hb : ∀ x ∈ xs, x < 2^32) (w : World) :
    Calls Try.prog 70 #[.agg (ints .u32 xs)] w fun e w' => e = .returned (.agg (ints .u32 (numOf (val xs)))) ∧ Below w.heap.size w w' := by
  have hb' : ∀ x ∈ xs, x < 2^60 := fun x hx => Nat.lt_trans (hb x hx) (by omega)
  have hnl := numOf_len (val xs)
  have B1 := (Blk.new w 83 (ints .u32 xs)).alloc (.cells (ints .u32 (zeros 5)) 83)
  have B2 := Blk.new (w.alloc (.cells (ints .u32 xs) 83)) 83 (ints .u32 (zeros 5))
  have hbel := ((Below.refl w.heap.size w).alloc (Nat.le_refl _) (.cells (ints .u32 xs) 83)).alloc (by simp) (.cells (ints .u32 (zeros 5)) 83)
  rw [World.size_alloc] at B2
  go_enter Try.func70, Try.ntmps70
  go_wp2_with (first | (refine wpList_alloc_ints rfl 83 rfl Try.z83 ?_; (try simp only [Act.put, List.setIfInBounds_toArray, List.set_cons_zero, List.set_cons_succ, World.size_alloc, setRow_size, Nat.add_assoc, Nat.reduceAdd])) | (refine wpList_load_ints rfl 83 _ rfl w.heap.size rfl B1 Try.ar83 hl ?_; (try simp only [Act.put, List.setIfInBounds_toArray, List.set_cons_zero, List.set_cons_succ, World.size_alloc, setRow_size, Nat.add_assoc, Nat.reduceAdd])))
  refine (loose_c xs hl hb _).mono ?_
  rintro e w1 ⟨rfl, hb1⟩
  go_wp2_with fail
  refine (tidy_c xs hl hb' _).mono ?_
  rintro e w2 ⟨rfl, hb2⟩
  have C2 := (B2.below' hb1).below' hb2
  go_wp2_with (first | (refine wpList_store_ints rfl 83 _ _ rfl _ rfl rfl C2 (zeros_size _ _) Try.ar83 hnl ?_; (try simp only [Act.put, List.setIfInBounds_toArray, List.set_cons_zero, List.set_cons_succ, World.size_alloc, setRow_size, Nat.add_assoc, Nat.reduceAdd])))
  refine ret_ints rfl rfl (C2.row _) Try.ar83 hnl ⟨rfl, ?_⟩
  exact bSetRow (bCall (bCall hbel hb1 (by simp; omega)) hb2 (by have := (B1.below' hb1).lt; omega)) (by simp) _

set_option maxHeartbeats 400000 in
theorem plus_c (xs ys : List Nat) (hl : xs.length = 5) (hb : ∀ x ∈ xs, x < 2^32) (hl' : ys.length = 5) (hb' : ∀ x ∈ ys, x < 2^32) (w : World) :
    Calls Try.prog 61 #[.agg (ints .u32 xs), .agg (ints .u32 ys)] w fun e w' => e = .returned (.agg (ints .u32 (numOf (val xs + val ys)))) ∧ Below w.heap.size w w' := by
  go_enter Try.func61, Try.ntmps61
  have B1 := ((Blk.new w 83 (ints .u32 xs)).alloc (.cells (ints .u32 ys) 83)).alloc (.cells (ints .u32 (zeros 5)) 83)
  have B2 := (Blk.new (w.alloc (.cells (ints .u32 xs) 83)) 83 (ints .u32 ys)).alloc (.cells (ints .u32 (zeros 5)) 83)
  have B3 := Blk.new ((w.alloc (.cells (ints .u32 xs) 83)).alloc (.cells (ints .u32 ys) 83)) 83 (ints .u32 (zeros 5))
  have hbel := (((Below.refl w.heap.size w).alloc (Nat.le_refl _) (.cells (ints .u32 xs) 83)).alloc (by simp) (.cells (ints .u32 ys) 83)).alloc (by simp; omega) (.cells (ints .u32 (zeros 5)) 83)
  simp only [World.size_alloc, Nat.add_assoc, Nat.reduceAdd] at B2 B3
  go_wp2_with (first | (refine wpList_alloc_ints rfl 83 rfl Try.z83 ?_; (try simp only [Act.put, List.setIfInBounds_toArray, List.set_cons_zero, List.set_cons_succ, World.size_alloc, setRow_size, Nat.add_assoc, Nat.reduceAdd])) | (refine wpList_load_ints rfl 83 _ rfl w.heap.size rfl B1 Try.ar83 hl ?_; (try simp only [Act.put, List.setIfInBounds_toArray, List.set_cons_zero, List.set_cons_succ, World.size_alloc, setRow_size, Nat.add_assoc, Nat.reduceAdd])))
  refine (loose_c xs hl hb _).mono ?_
  rintro e w1 ⟨rfl, hb1⟩
  have C2 := ((B2.below' hb1).alloc (.cells (ints .u64 (zeros 5)) 101))
  have C3 := ((B3.below' hb1).alloc (.cells (ints .u64 (zeros 5)) 101))
  have C4 := Blk.new w1 101 (ints .u64 (zeros 5))
  have hlt := (B3.below' hb1).lt
  have hbel1 := bSetRow ((bCall hbel hb1 (by simp; omega)).alloc (by omega) (.cells (ints .u64 (zeros 5)) 101)) (g := w1.heap.size) (by omega) (ints .u64 xs)
  go_wp2_with (first | (refine wpList_alloc_ints rfl 101 rfl Try.z101 ?_; (try simp only [Act.put, List.setIfInBounds_toArray, List.set_cons_zero, List.set_cons_succ, World.size_alloc, setRow_size, Nat.add_assoc, Nat.reduceAdd])) | (refine wpList_store_ints rfl 101 _ _ rfl _ rfl rfl C4 (zeros_size _ _) Try.ar101 hl ?_; (try simp only [Act.put, List.setIfInBounds_toArray, List.set_cons_zero, List.set_cons_succ, World.size_alloc, setRow_size, Nat.add_assoc, Nat.reduceAdd])))
  go_loopw [9] (fun t wr => ∃ k : Nat, k ≤ 5 ∧ t = .int .i64 k ∧ Blk wr (w.heap.size + 1) 83 (ints .u32 ys) ∧ Blk wr (w.heap.size + 2) 83 (ints .u32 (zeros 5)) ∧ Blk wr w1.heap.size 101 (ints .u64 (addN xs ys k)) ∧ Below w.heap.size w wr) (fun t wr => 5 - (intOf t).toNat)
  case atStart =>
    exact ⟨0, by omega, rfl, C2.rowFar (by omega) _, C3.rowFar (by omega) _, C4.row _, hbel1⟩
  case round =>
    rename_i hrel
    obtain ⟨k, hk, rfl, D2, D3, D4, hbel'⟩ := hrel
    have hal := addN_len xs ys k
    have hab := addN_lt hl hb hb' k
    by_cases hlt : k < 5
    · have hcell := D2.int (i := k) (by omega)
      have hv := getD_bound hb' (by omega) k
      have hcell4 := D4.int (i := k) (by omega)
      have hv4 := getD_bound hab (by omega) k
      have hfz := D4.frozen k
      have D4' := D4.intSet k ((addN xs ys k).getD k 0 + ys.getD k 0)
      have He := Lib.hid (addN_succ xs ys k).symm
      generalize ys.getD k 0 = v at *
      generalize (addN xs ys k).getD k 0 = u at *
      go_wp2
      go_region
      all_goals
        go_wp2
        refine ⟨⟨k+1, by omega, by go_num, (D2.far (by simp; omega) _).drew, (D3.far (by simp; omega) _).drew, ?_, (hbel'.setCell (by simp; omega) _).drew⟩, by simp [intOf]; omega⟩
        rw [← He.out]
        rw [Int.natCast_add] at D4'
        exact D4'.drew
    · obtain rfl : k = 5 := by omega
      have hv5 : val (addN xs ys 5) = val xs + val ys := addN_val hl hl'
      have hnl := numOf_len (val (addN xs ys 5))
      go_wp2_with (first | (refine wpList_load_ints rfl 101 _ rfl _ rfl D4 Try.ar101 (hal.trans hl) ?_; (try simp only [Act.put, List.setIfInBounds_toArray, List.set_cons_zero, List.set_cons_succ, World.size_alloc, setRow_size, Nat.add_assoc, Nat.reduceAdd])))
      refine (tidy_c (addN xs ys 5) (hal.trans hl) (fun x hx => Nat.lt_trans (hab x hx) (by omega)) _).mono ?_
      rintro e w2 ⟨rfl, hb2⟩
      have E3 := D3.below' hb2
      go_wp2_with (first | (refine wpList_store_ints rfl 83 _ _ rfl _ rfl rfl E3 (zeros_size _ _) Try.ar83 hnl ?_; (try simp only [Act.put, List.setIfInBounds_toArray, List.set_cons_zero, List.set_cons_succ, World.size_alloc, setRow_size, Nat.add_assoc, Nat.reduceAdd])))
      refine ret_ints rfl rfl (E3.row _) Try.ar83 hnl ⟨rfl, ?_⟩
      exact bSetRow (bCall hbel' hb2 (by have := D3.lt; omega)) (by simp) _
set_option maxRecDepth 100000 in
set_option maxHeartbeats 4000000 in
theorem times_c (xs ys : List Nat) (hl : xs.length = 5) (hb : ∀ x ∈ xs, x < 2^32) (hl' : ys.length = 5) (hb' : ∀ x ∈ ys, x < 2^32) (w : World) :
    Calls Try.prog 62 #[.agg (ints .u32 xs), .agg (ints .u32 ys)] w fun e w' => e = .returned (.agg (ints .u32 (numOf (val xs * val ys)))) ∧ Below w.heap.size w w' := by
  go_enter Try.func62, Try.ntmps62
  have B1 := ((Blk.new w 83 (ints .u32 xs)).alloc (.cells (ints .u32 ys) 83)).alloc (.cells (ints .u32 (zeros 5)) 83)
  have B2 := (Blk.new (w.alloc (.cells (ints .u32 xs) 83)) 83 (ints .u32 ys)).alloc (.cells (ints .u32 (zeros 5)) 83)
  have B3 := Blk.new ((w.alloc (.cells (ints .u32 xs) 83)).alloc (.cells (ints .u32 ys) 83)) 83 (ints .u32 (zeros 5))
  have hbel := (((Below.refl w.heap.size w).alloc (Nat.le_refl _) (.cells (ints .u32 xs) 83)).alloc (by simp) (.cells (ints .u32 ys) 83)).alloc (by simp; omega) (.cells (ints .u32 (zeros 5)) 83)
  simp only [World.size_alloc, Nat.add_assoc, Nat.reduceAdd] at B2 B3
  have hsz : w.heap.size + 3 = (((w.alloc (.cells (ints .u32 xs) 83)).alloc (.cells (ints .u32 ys) 83)).alloc (.cells (ints .u32 (zeros 5)) 83)).heap.size := by simp
  have Hsz := Lib.hid hsz
  clear hsz
  go_wp2_with (first | (refine wpList_alloc_ints rfl 83 rfl Try.z83 ?_; (try simp only [Act.put, List.setIfInBounds_toArray, List.set_cons_zero, List.set_cons_succ, World.size_alloc, setRow_size, Nat.add_assoc, Nat.reduceAdd])))
  generalize (((w.alloc (.cells (ints .u32 xs) 83)).alloc (.cells (ints .u32 ys) 83)).alloc (.cells (ints .u32 (zeros 5)) 83)) = w0 at *
  have hnx := numOf_len (val xs)
  have hny := numOf_len (val ys)
  have hnxb : ∀ x ∈ numOf (val xs), x < 2^32 := fun x hx => Nat.lt_trans (numOf_lt _ x hx) (by omega)
  have hnyb : ∀ x ∈ numOf (val ys), x < 2^32 := fun x hx => Nat.lt_trans (numOf_lt _ x hx) (by omega)
  refine wp_region_inv (by kernel_rfl) (by kernel_rfl) (fun D act_ W => ∃ u5 u6 u11 u12 u13 u14 u15 u16 : Value, act_ = { tmps := #[.agg (ints .u32 xs), .agg (ints .u32 ys), .pointer (some ⟨w.heap.size, 0, none⟩), .pointer (some ⟨w.heap.size + 1, 0, none⟩), .pointer (some ⟨w.heap.size + 2, 0, none⟩), u5, u6, undef, undef, undef, undef, u11, u12, u13, u14, u15, u16, undef, undef, undef, undef, undef, undef, undef, undef, undef, undef, undef, undef, undef, undef, undef, undef, undef, undef, undef, undef, undef, undef, undef, undef, undef, undef, undef, undef, undef, undef, undef, undef], defers := [] } ∧ Below w0.heap.size w0 W ∧ (D 0 → u11 = .agg (ints .u32 xs)) ∧ (D 1 → u12 = .agg (ints .u32 (numOf (val xs)))) ∧ (D 2 → u13 = .agg (ints .u64 (numOf (val xs)))) ∧ (D 3 → u14 = .agg (ints .u32 ys)) ∧ (D 4 → u15 = .agg (ints .u32 (numOf (val ys)))) ∧ (D 5 → u16 = .agg (ints .u64 (numOf (val ys)))) ∧ (D 6 → Al W w0.heap.size u5 101 5 .u64 (D 8) (numOf (val xs))) ∧ (D 7 → Al W w0.heap.size u6 101 5 .u64 (D 9) (numOf (val ys))) ∧ (D 8 → D 6) ∧ (D 9 → D 7) ∧ (D 6 → D 7 → u5 ≠ u6)) ?_ ?_ ?_
  · exact ⟨_, _, _, _, _, _, _, _, rfl, ⟨rfl, rfl, rfl, Nat.le_refl _, fun _ _ => rfl⟩, (fun h => h.elim), (fun h => h.elim), (fun h => h.elim), (fun h => h.elim), (fun h => h.elim), (fun h => h.elim), (fun h => h.elim), (fun h => h.elim), (fun h => h.elim), (fun h => h.elim), (fun h => h.elim)⟩
  · intro i o hi D act_ W hI hnD hall
    obtain ⟨u5, u6, u11, u12, u13, u14, u15, u16, rfl, hW, f0, f1, f2, f3, f4, f5, f6, f7, f8, f9, f10⟩ := hI
    rcases i with _ | _ | _ | _ | _ | _ | _ | _ | _ | _ | i
    · simp only [Nat.zero_add, Nat.reduceAdd, List.getElem?_toArray, List.getElem?_cons_succ, List.getElem?_cons_zero, Option.some.injEq] at hi
      subst hi
      refine wpOp_load rfl rfl rfl rfl (B1.below' hW) Try.ar83 hl ?_
      exact ⟨_, _, _, _, _, _, _, _, rfl, hW, (fun _ => rfl), (fun h => f1 (h.resolve_left (by decide))), (fun h => f2 (h.resolve_left (by decide))), (fun h => f3 (h.resolve_left (by decide))), (fun h => f4 (h.resolve_left (by decide))), (fun h => f5 (h.resolve_left (by decide))), (fun h => (f6 (h.resolve_left (by decide))).same (fun h' => h'.resolve_left (by decide))), (fun h => (f7 (h.resolve_left (by decide))).same (fun h' => h'.resolve_left (by decide))), (fun h => .inr (f8 (h.resolve_left (by decide)))), (fun h => .inr (f9 (h.resolve_left (by decide)))), (fun h h2 => f10 (h.resolve_left (by decide)) (h2.resolve_left (by decide)))⟩
    · simp only [Nat.zero_add, Nat.reduceAdd, List.getElem?_toArray, List.getElem?_cons_succ, List.getElem?_cons_zero, Option.some.injEq] at hi
      subst hi
      obtain rfl := f0 (pre_of hall 0 rfl)
      refine wpOp_call 70 rfl rfl rfl Try.func70 (by kernel_rfl) (by kernel_rfl) (form_c xs hl hb W) ?_
      intro W' hW'
      exact ⟨_, _, _, _, _, _, _, _, rfl, bCall hW hW' hW.size, (fun h => f0 (h.resolve_left (by decide))), (fun _ => rfl), (fun h => f2 (h.resolve_left (by decide))), (fun h => f3 (h.resolve_left (by decide))), (fun h => f4 (h.resolve_left (by decide))), (fun h => f5 (h.resolve_left (by decide))), (fun h => (f6 (h.resolve_left (by decide))).below hW' (fun h' => h'.resolve_left (by decide))), (fun h => (f7 (h.resolve_left (by decide))).below hW' (fun h' => h'.resolve_left (by decide))), (fun h => .inr (f8 (h.resolve_left (by decide)))), (fun h => .inr (f9 (h.resolve_left (by decide)))), (fun h h2 => f10 (h.resolve_left (by decide)) (h2.resolve_left (by decide)))⟩
    · simp only [Nat.zero_add, Nat.reduceAdd, List.getElem?_toArray, List.getElem?_cons_succ, List.getElem?_cons_zero, Option.some.injEq] at hi
      subst hi
      obtain rfl := f1 (pre_of hall 1 rfl)
      refine wpOp_call 71 rfl rfl rfl Try.func71 (by kernel_rfl) (by kernel_rfl) (loose_c _ hnx hnxb W) ?_
      intro W' hW'
      exact ⟨_, _, _, _, _, _, _, _, rfl, bCall hW hW' hW.size, (fun h => f0 (h.resolve_left (by decide))), (fun h => f1 (h.resolve_left (by decide))), (fun _ => rfl), (fun h => f3 (h.resolve_left (by decide))), (fun h => f4 (h.resolve_left (by decide))), (fun h => f5 (h.resolve_left (by decide))), (fun h => (f6 (h.resolve_left (by decide))).below hW' (fun h' => h'.resolve_left (by decide))), (fun h => (f7 (h.resolve_left (by decide))).below hW' (fun h' => h'.resolve_left (by decide))), (fun h => .inr (f8 (h.resolve_left (by decide)))), (fun h => .inr (f9 (h.resolve_left (by decide)))), (fun h h2 => f10 (h.resolve_left (by decide)) (h2.resolve_left (by decide)))⟩
    · simp only [Nat.zero_add, Nat.reduceAdd, List.getElem?_toArray, List.getElem?_cons_succ, List.getElem?_cons_zero, Option.some.injEq] at hi
      subst hi
      refine wpOp_load rfl rfl rfl rfl (B2.below' hW) Try.ar83 hl' ?_
      exact ⟨_, _, _, _, _, _, _, _, rfl, hW, (fun h => f0 (h.resolve_left (by decide))), (fun h => f1 (h.resolve_left (by decide))), (fun h => f2 (h.resolve_left (by decide))), (fun _ => rfl), (fun h => f4 (h.resolve_left (by decide))), (fun h => f5 (h.resolve_left (by decide))), (fun h => (f6 (h.resolve_left (by decide))).same (fun h' => h'.resolve_left (by decide))), (fun h => (f7 (h.resolve_left (by decide))).same (fun h' => h'.resolve_left (by decide))), (fun h => .inr (f8 (h.resolve_left (by decide)))), (fun h => .inr (f9 (h.resolve_left (by decide)))), (fun h h2 => f10 (h.resolve_left (by decide)) (h2.resolve_left (by decide)))⟩
    · simp only [Nat.zero_add, Nat.reduceAdd, List.getElem?_toArray, List.getElem?_cons_succ, List.getElem?_cons_zero, Option.some.injEq] at hi
      subst hi
      obtain rfl := f3 (pre_of hall 3 rfl)
      refine wpOp_call 70 rfl rfl rfl Try.func70 (by kernel_rfl) (by kernel_rfl) (form_c ys hl' hb' W) ?_
      intro W' hW'
      exact ⟨_, _, _, _, _, _, _, _, rfl, bCall hW hW' hW.size, (fun h => f0 (h.resolve_left (by decide))), (fun h => f1 (h.resolve_left (by decide))), (fun h => f2 (h.resolve_left (by decide))), (fun h => f3 (h.resolve_left (by decide))), (fun _ => rfl), (fun h => f5 (h.resolve_left (by decide))), (fun h => (f6 (h.resolve_left (by decide))).below hW' (fun h' => h'.resolve_left (by decide))), (fun h => (f7 (h.resolve_left (by decide))).below hW' (fun h' => h'.resolve_left (by decide))), (fun h => .inr (f8 (h.resolve_left (by decide)))), (fun h => .inr (f9 (h.resolve_left (by decide)))), (fun h h2 => f10 (h.resolve_left (by decide)) (h2.resolve_left (by decide)))⟩
    · simp only [Nat.zero_add, Nat.reduceAdd, List.getElem?_toArray, List.getElem?_cons_succ, List.getElem?_cons_zero, Option.some.injEq] at hi
      subst hi
      obtain rfl := f4 (pre_of hall 4 rfl)
      refine wpOp_call 71 rfl rfl rfl Try.func71 (by kernel_rfl) (by kernel_rfl) (loose_c _ hny hnyb W) ?_
      intro W' hW'
      exact ⟨_, _, _, _, _, _, _, _, rfl, bCall hW hW' hW.size, (fun h => f0 (h.resolve_left (by decide))), (fun h => f1 (h.resolve_left (by decide))), (fun h => f2 (h.resolve_left (by decide))), (fun h => f3 (h.resolve_left (by decide))), (fun h => f4 (h.resolve_left (by decide))), (fun _ => rfl), (fun h => (f6 (h.resolve_left (by decide))).below hW' (fun h' => h'.resolve_left (by decide))), (fun h => (f7 (h.resolve_left (by decide))).below hW' (fun h' => h'.resolve_left (by decide))), (fun h => .inr (f8 (h.resolve_left (by decide)))), (fun h => .inr (f9 (h.resolve_left (by decide)))), (fun h h2 => f10 (h.resolve_left (by decide)) (h2.resolve_left (by decide)))⟩
    · simp only [Nat.zero_add, Nat.reduceAdd, List.getElem?_toArray, List.getElem?_cons_succ, List.getElem?_cons_zero, Option.some.injEq] at hi
      subst hi
      refine wpOp_alloc rfl rfl rfl Try.z101 ?_
      have hnS : ¬ (8 = 6 ∨ D 8) := fun h => h.elim (by decide) (fun h => hnD (f8 h))
      exact ⟨_, _, _, _, _, _, _, _, rfl, hW.alloc hW.size _, (fun h => f0 (h.resolve_left (by decide))), (fun h => f1 (h.resolve_left (by decide))), (fun h => f2 (h.resolve_left (by decide))), (fun h => f3 (h.resolve_left (by decide))), (fun h => f4 (h.resolve_left (by decide))), (fun h => f5 (h.resolve_left (by decide))), (fun _ => Al.new hW.size (fun h => (hnS h).elim)), (fun h => (f7 (h.resolve_left (by decide))).alloc _ (fun h' => h'.resolve_left (by decide))), (fun _ => .inl rfl), (fun h => .inr (f9 (h.resolve_left (by decide)))), (fun _ h => (f7 (h.resolve_left (by decide))).ne_new')⟩
    · simp only [Nat.zero_add, Nat.reduceAdd, List.getElem?_toArray, List.getElem?_cons_succ, List.getElem?_cons_zero, Option.some.injEq] at hi
      subst hi
      refine wpOp_alloc rfl rfl rfl Try.z101 ?_
      have hnS : ¬ (9 = 7 ∨ D 9) := fun h => h.elim (by decide) (fun h => hnD (f9 h))
      exact ⟨_, _, _, _, _, _, _, _, rfl, hW.alloc hW.size _, (fun h => f0 (h.resolve_left (by decide))), (fun h => f1 (h.resolve_left (by decide))), (fun h => f2 (h.resolve_left (by decide))), (fun h => f3 (h.resolve_left (by decide))), (fun h => f4 (h.resolve_left (by decide))), (fun h => f5 (h.resolve_left (by decide))), (fun h => (f6 (h.resolve_left (by decide))).alloc _ (fun h' => h'.resolve_left (by decide))), (fun _ => Al.new hW.size (fun h => (hnS h).elim)), (fun h => .inr (f8 (h.resolve_left (by decide)))), (fun _ => .inl rfl), (fun h _ => (f6 (h.resolve_left (by decide))).ne_new)⟩
    · simp only [Nat.zero_add, Nat.reduceAdd, List.getElem?_toArray, List.getElem?_cons_succ, List.getElem?_cons_zero, Option.some.injEq] at hi
      subst hi
      obtain rfl := f2 (pre_of hall 2 rfl)
      obtain ⟨g, l, rfl, hg, hl0, hB, hst⟩ := f6 (pre_of hall 6 rfl)
      refine wpOp_store rfl rfl rfl rfl rfl hB ((ints_size _ _).trans hl0) Try.ar101 hnx ?_
      exact ⟨_, _, _, _, _, _, _, _, rfl, bSetRow hW hg _, (fun h => f0 (h.resolve_left (by decide))), (fun h => f1 (h.resolve_left (by decide))), (fun h => f2 (h.resolve_left (by decide))), (fun h => f3 (h.resolve_left (by decide))), (fun h => f4 (h.resolve_left (by decide))), (fun h => f5 (h.resolve_left (by decide))), (fun _ => Al.set hB hg hnx), (fun h => (f7 (h.resolve_left (by decide))).far (fun e => f10 (pre_of hall 6 rfl) (pre_of hall 7 rfl) e.symm) (fun h' => h'.resolve_left (by decide))), (fun _ => .inr (pre_of hall 6 rfl)), (fun h => .inr (f9 (h.resolve_left (by decide)))), (fun h h2 => f10 (h.resolve_left (by decide)) (h2.resolve_left (by decide)))⟩
    · simp only [Nat.zero_add, Nat.reduceAdd, List.getElem?_toArray, List.getElem?_cons_succ, List.getElem?_cons_zero, Option.some.injEq] at hi
      subst hi
      obtain rfl := f5 (pre_of hall 5 rfl)
      obtain ⟨g, l, rfl, hg, hl0, hB, hst⟩ := f7 (pre_of hall 7 rfl)
      refine wpOp_store rfl rfl rfl rfl rfl hB ((ints_size _ _).trans hl0) Try.ar101 hny ?_
      exact ⟨_, _, _, _, _, _, _, _, rfl, bSetRow hW hg _, (fun h => f0 (h.resolve_left (by decide))), (fun h => f1 (h.resolve_left (by decide))), (fun h => f2 (h.resolve_left (by decide))), (fun h => f3 (h.resolve_left (by decide))), (fun h => f4 (h.resolve_left (by decide))), (fun h => f5 (h.resolve_left (by decide))), (fun h => (f6 (h.resolve_left (by decide))).far (fun e => f10 (pre_of hall 6 rfl) (pre_of hall 7 rfl) e) (fun h' => h'.resolve_left (by decide))), (fun _ => Al.set hB hg hny), (fun h => .inr (f8 (h.resolve_left (by decide)))), (fun _ => .inr (pre_of hall 7 rfl)), (fun h h2 => f10 (h.resolve_left (by decide)) (h2.resolve_left (by decide)))⟩
    · exfalso; simp at hi
  · rintro D act_ W ⟨u5, u6, u11, u12, u13, u14, u15, u16, rfl, hW, f0, f1, f2, f3, f4, f5, f6, f7, f8, f9, f10⟩ hall
    obtain rfl := f0 (hall 0 (by decide))
    obtain rfl := f1 (hall 1 (by decide))
    obtain rfl := f2 (hall 2 (by decide))
    obtain rfl := f3 (hall 3 (by decide))
    obtain rfl := f4 (hall 4 (by decide))
    obtain rfl := f5 (hall 5 (by decide))
    obtain ⟨g5, l5, rfl, hg5, -, hB5, hl5⟩ := f6 (hall 6 (by decide))
    obtain rfl := hl5 (hall 8 (by decide))
    obtain ⟨g6, l6, rfl, hg6, -, hB6, hl6⟩ := f7 (hall 7 (by decide))
    obtain rfl := hl6 (hall 9 (by decide))
    have hne10 := f10 (hall 6 (by decide)) (hall 7 (by decide))
    clear f0 f1 f2 f3 f4 f5 f6 f7 f8 f9 f10 hall
    have hlt3 := B3.lt
    have C3 := B3.below' hW
    have hbelW := bCall hbel hW (by omega)
    clear hbel B1 B2
    have hax := numOf_lt (val xs)
    have hay := numOf_lt (val ys)
    have hmod := mulS_mod (val xs) (val ys)
    generalize numOf (val xs) = ax at *
    generalize numOf (val ys) = bx at *
    have Hmod := Lib.hid hmod
    have hne : g5 ≠ g6 := fun e => hne10 (by rw [e])
    have hl5 := hB5.lt
    have hl6 := hB6.lt
    clear hmod hne10
    dsimp only
    go_wp2_with (first | (refine wpList_alloc_ints rfl 101 rfl Try.z101 ?_; (try simp only [Act.put, List.setIfInBounds_toArray, List.set_cons_zero, List.set_cons_succ, World.size_alloc, setRow_size, Nat.add_assoc, Nat.reduceAdd])))
    go_loopw [17] (fun t wr => ∃ i : Nat, i ≤ 5 ∧ t = .int .i64 i ∧ Blk wr g5 101 (ints .u64 ax) ∧ Blk wr g6 101 (ints .u64 bx) ∧ Blk wr (w.heap.size + 2) 83 (ints .u32 (zeros 5)) ∧ Blk wr W.heap.size 101 (ints .u64 (mulS ax bx (5 * i))) ∧ Below w.heap.size w wr) (fun t wr => 5 - (intOf t).toNat)
    case atStart =>
      exact ⟨0, by omega, rfl, hB5.alloc _, hB6.alloc _, C3.alloc _, Blk.new' rfl, hbelW.alloc (by omega) _⟩
    case round =>
      rename_i hrel
      obtain ⟨i, hi, rfl, D5, D6, D3, D4, hbel'⟩ := hrel
      by_cases hlt : i < 5
      · go_wp2
        go_loopw [20] (fun t wr => ∃ j : Nat, j ≤ 5 ∧ t = .int .i64 j ∧ Blk wr g5 101 (ints .u64 ax) ∧ Blk wr g6 101 (ints .u64 bx) ∧ Blk wr (w.heap.size + 2) 83 (ints .u32 (zeros 5)) ∧ Blk wr W.heap.size 101 (ints .u64 (mulS ax bx (5 * i + j))) ∧ Below w.heap.size w wr) (fun t wr => 5 - (intOf t).toNat)
        case atStart => exact ⟨0, by omega, rfl, D5, D6, D3, D4, hbel'⟩
        case round =>
          rename_i hrel
          obtain ⟨j, hj, rfl, E5, E6, E3, E4, hbel2⟩ := hrel
          by_cases hlj : j < 5
          · have hml := mulS_len ax bx (5 * i + j)
            have hmb : (mulS ax bx (5 * i + j)).getD ((i + j) % 5) 0 < 2 ^ 59 := getD_bound (mulS_lt' hax hay (5 * i + j) (by omega)) (by omega) ((i + j) % 5)
            have c5 := E5.int (i := i) (by omega)
            have c6 := E6.int (i := j) (by omega)
            have c4 := E4.int (i := (i + j) % 5) (by omega)
            have z4 := E4.frozen ((i + j) % 5)
            have va := getD_bound hax (by omega) i
            have vb := getD_bound hay (by omega) j
            have hS := mulS_succ ax bx i j hlj
            have E4' := E4.intSet ((i + j) % 5) ((mulS ax bx (5 * i + j)).getD ((i + j) % 5) 0 + ax.getD i 0 * bx.getD j 0 * (if 5 ≤ i + j then 5 else 1))
            rw [← hS] at E4'
            generalize (mulS ax bx (5 * i + j)).getD ((i + j) % 5) 0 = m at *
            generalize ax.getD i 0 = x at *
            generalize bx.getD j 0 = y at *
            have hxy : x * y < 2 ^ 52 := Nat.lt_of_le_of_lt (Nat.mul_le_mul (Nat.le_of_lt_succ va) (Nat.le_of_lt_succ vb)) (by omega)
            have hxyi : ((x * y : Nat) : Int) = (x : Int) * y := by simp
            have hxy0 : (0 : Int) ≤ (x : Int) * y := by omega
            have hxy1 : (x : Int) * y < 2 ^ 52 := by omega
            have HE4 := Lib.hid E4'
            clear hS hxyi E4' hml
            have Hxy := Lib.hid hxy
            clear hxy0 hxy1 hxy
            go_wp2
            go_quiet (fail)
            have ew : IntKind.u64.wrap ((x : Int) * y) = ((x * y : Nat) : Int) := by
              have := Hxy.out
              have e : (x : Int) * y = ((x * y : Nat) : Int) := by simp
              rw [e]
              exact IntWalk.u64_in _ (by omega)
            rw [ew]
            have hq : x * y < 2 ^ 52 := Hxy.out
            clear ew Hxy
            generalize x * y = q at *
            by_cases hge : 5 ≤ i + j
            · rw [if_pos hge] at HE4
              go_wp2
              refine ⟨⟨j + 1, by omega, by go_num, (E5.drewN nq).far (by simp; omega) _, (E6.drewN nq).far (by simp; omega) _, (E3.drewN nq).far (by simp; omega) _, ?_, (bDrewN hbel2 nq).setCell (by simp; omega) _⟩, by simp [intOf]; omega⟩
              have := HE4.out
              simp only [Int.natCast_add, Int.natCast_mul] at this
              exact this
            · rw [if_neg hge] at HE4
              go_wp2
              refine ⟨⟨j + 1, by omega, by go_num, (E5.drewN nq).far (by simp; omega) _, (E6.drewN nq).far (by simp; omega) _, (E3.drewN nq).far (by simp; omega) _, ?_, (bDrewN hbel2 nq).setCell (by simp; omega) _⟩, by simp [intOf]; omega⟩
              have := HE4.out
              simp only [Int.natCast_add, Int.natCast_mul, Nat.mul_one] at this
              exact this
          · obtain rfl : j = 5 := by omega
            go_wp2
            exact ⟨⟨i + 1, by omega, by go_num, E5, E6, E3, E4, hbel2⟩, by simp [intOf]; omega⟩
      · obtain rfl : i = 5 := by omega
        have hml := mulS_len ax bx 25
        have hmb := mulS_lt' hax hay 25 (by omega)
        have hnl := numOf_len (val (mulS ax bx 25))
        go_wp2_with (first | (refine wpList_load_ints rfl 101 _ rfl W.heap.size rfl D4 Try.ar101 hml ?_; (try simp only [Act.put, List.setIfInBounds_toArray, List.set_cons_zero, List.set_cons_succ, World.size_alloc, setRow_size, Nat.add_assoc, Nat.reduceAdd])))
        refine (tidy_c (mulS ax bx 25) hml (fun x hx => Nat.lt_trans (hmb x hx) (by omega)) _).mono ?_
        rintro e w2 ⟨rfl, hb2⟩
        have G3 := D3.below' hb2
        go_wp2_with (first | (refine wpList_store_ints rfl 83 _ _ rfl _ rfl rfl G3 (zeros_size _ _) Try.ar83 hnl ?_; (try simp only [Act.put, List.setIfInBounds_toArray, List.set_cons_zero, List.set_cons_succ, World.size_alloc, setRow_size, Nat.add_assoc, Nat.reduceAdd])))
        refine ret_ints rfl rfl (G3.row _) Try.ar83 hnl ⟨by rw [Hmod.out], ?_⟩
        exact bSetRow (bCall hbel' hb2 (by have := D3.lt; omega)) (by simp) _
end Go.Proofs.Ytolfngmpoafaaaa
