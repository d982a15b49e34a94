/- The reference's Times, Double and Multiple. No condition but that bytes are below 256 and the number below 2^64. -/
import Derived.Test.YtehhipanbjhffaaW10q
import Derived.Test.YtehhipanbjhffaaW10n
namespace Go.Proofs.Ytehhipanbjhffaa
set_option linter.unusedSimpArgs false
set_option linter.unusedVariables false
set_option linter.unusedSectionVars false
set_option linter.unusedVariables false
open Go.RowKit
open Gf (up upN mulS mul R1)
theorem R3_1 : R3 127 126 121 = R1 := by decide
theorem R3_2 : R3 7 2 1 = R2 := by decide
theorem rest1_ref (p q : Nat) (hp : p < 2 ^ 128) (hq : q < 2 ^ 128) (w : World) :
    Calls Try.prog 32 #[.agg (ints .u8 (polyN p)), .agg (ints .u8 (polyN q)), .int .i64 127, .int .i64 126, .int .i64 121] w fun e w' => e = .returned (.agg (ints .u8 (polyN (mul R1 p q)))) ∧ Below w.heap.size w w' := by
  have h := rest_ref p q 127 126 121 hp hq (by omega) (by omega) (by omega) w
  rw [R3_1] at h; exact h
theorem rest2_ref (p q : Nat) (hp : p < 2 ^ 128) (hq : q < 2 ^ 128) (w : World) :
    Calls Try.prog 32 #[.agg (ints .u8 (polyN p)), .agg (ints .u8 (polyN q)), .int .i64 7, .int .i64 2, .int .i64 1] w fun e w' => e = .returned (.agg (ints .u8 (polyN (mul R2 p q)))) ∧ Below w.heap.size w w' := by
  have h := rest_ref p q 7 2 1 hp hq (by omega) (by omega) (by omega) w
  rw [R3_2] at h; exact h
set_option maxRecDepth 100000 in
set_option maxHeartbeats 4000000 in
theorem times_ref (as_ bs : List Nat) (hl : as_.length = 16) (hb : ∀ x ∈ as_, x < 256) (hl' : bs.length = 16) (hb' : ∀ x ∈ bs, x < 256) (w : World) :
    Calls Try.prog 13 #[.agg (ints .u8 as_), .agg (ints .u8 bs)] w fun e w' => e = .returned (.agg (ints .u8 (elem (mul R1 (num as_) (num bs))))) ∧ Below w.heap.size w w' := by
  have hx := num_lt hl hb
  have hy := num_lt hl' hb'
  have hd := Gf.mul_lt Gf.R1_lt hx (num bs)
  have hel := elem_len (mul R1 (num as_) (num bs))
  have B0 := ((Blk.new w 22 (ints .u8 as_)).alloc (.cells (ints .u8 bs) 22)).alloc (.cells (ints .u8 (zeros 16)) 22)
  have B1 := (Blk.new (w.alloc (.cells (ints .u8 as_) 22)) 22 (ints .u8 bs)).alloc (.cells (ints .u8 (zeros 16)) 22)
  have B2 := Blk.new ((w.alloc (.cells (ints .u8 as_) 22)).alloc (.cells (ints .u8 bs) 22)) 22 (ints .u8 (zeros 16))
  rw [World.size_alloc] at B1
  rw [World.size_alloc, World.size_alloc] at B2
  simp only [Nat.add_assoc, Nat.reduceAdd] at B2
  have hbel := (((Below.refl w.heap.size w).alloc (Nat.le_refl _) (.cells (ints .u8 as_) 22)).alloc (by simp) (.cells (ints .u8 bs) 22)).alloc (by simp; omega) (.cells (ints .u8 (zeros 16)) 22)
  go_enter Try.func13, Try.ntmps13
  go_wp2_with (refine wpList_alloc_ints rfl 22 rfl Try.z22 ?_; (try simp only [Act.put, List.setIfInBounds_toArray, List.set_cons_zero, List.set_cons_succ, World.size_alloc, setRow_size, Nat.add_assoc, Nat.reduceAdd]))
  generalize (((w.alloc (.cells (ints .u8 as_) 22)).alloc (.cells (ints .u8 bs) 22)).alloc (.cells (ints .u8 (zeros 16)) 22)) = w0 at *
  refine wp_region_last 6 (by kernel_rfl) (by kernel_rfl) (by kernel_rfl) (by kernel_rfl) (fun D a W => ∃ u5 u6 u7 u8 u9 u10 : Value, a = { tmps := #[.agg (ints .u8 as_), .agg (ints .u8 bs), .pointer (some ⟨w.heap.size, 0, none⟩), .pointer (some ⟨w.heap.size + 1, 0, none⟩), .pointer (some ⟨w.heap.size + 2, 0, none⟩), u5, u6, u7, u8, u9, u10], defers := [] } ∧ Below w0.heap.size w0 W ∧ (D 0 → u5 = .agg (ints .u8 as_)) ∧ (D 1 → u6 = .agg (ints .u8 (polyN (num as_)))) ∧ (D 2 → u7 = .agg (ints .u8 bs)) ∧ (D 3 → u8 = .agg (ints .u8 (polyN (num bs)))) ∧ (D 4 → u9 = .agg (ints .u8 (polyN (mul R1 (num as_) (num bs))))) ∧ (D 5 → u10 = .agg (ints .u8 (elem (mul R1 (num as_) (num bs)))))) ?_ ?_ ?_
  · exact ⟨_, _, _, _, _, _, rfl, ⟨rfl, rfl, rfl, Nat.le_refl _, fun _ _ => rfl⟩, (fun h => h.elim), (fun h => h.elim), (fun h => h.elim), (fun h => h.elim), (fun h => h.elim), (fun h => h.elim)⟩
  · intro i o hilt hi D a W hI hnD hall
    obtain ⟨u5, u6, u7, u8, u9, u10, rfl, hW, f0, f1, f2, f3, f4, f5⟩ := hI
    rcases i with _ | _ | _ | _ | _ | _ | i
    · simp only [Nat.zero_add, Nat.reduceAdd, List.getElem?_toArray, List.getElem?_cons_succ, List.getElem?_cons_zero, Option.some.injEq] at hi
      subst hi
      refine wpOp_load rfl rfl rfl rfl (B0.below' hW) Try.ar22 hl ?_
      exact ⟨_, _, _, _, _, _, rfl, hW, (fun _ => rfl), (fun h => f1 (h.resolve_left (by decide))), (fun h => f2 (h.resolve_left (by decide))), (fun h => f3 (h.resolve_left (by decide))), (fun h => f4 (h.resolve_left (by decide))), (fun h => f5 (h.resolve_left (by decide)))⟩
    · simp only [Nat.zero_add, Nat.reduceAdd, List.getElem?_toArray, List.getElem?_cons_succ, List.getElem?_cons_zero, Option.some.injEq] at hi
      subst hi
      obtain rfl := f0 (pre_of hall 0 rfl)
      refine wpOp_call 33 rfl rfl rfl Try.func33 (by kernel_rfl) (by kernel_rfl) (low_ref as_ hl hb W) ?_
      intro W' hW'
      exact ⟨_, _, _, _, _, _, rfl, bCall hW hW' hW.size, (fun h => f0 (h.resolve_left (by decide))), (fun _ => rfl), (fun h => f2 (h.resolve_left (by decide))), (fun h => f3 (h.resolve_left (by decide))), (fun h => f4 (h.resolve_left (by decide))), (fun h => f5 (h.resolve_left (by decide)))⟩
    · simp only [Nat.zero_add, Nat.reduceAdd, List.getElem?_toArray, List.getElem?_cons_succ, List.getElem?_cons_zero, Option.some.injEq] at hi
      subst hi
      refine wpOp_load rfl rfl rfl rfl (B1.below' hW) Try.ar22 hl' ?_
      exact ⟨_, _, _, _, _, _, rfl, hW, (fun h => f0 (h.resolve_left (by decide))), (fun h => f1 (h.resolve_left (by decide))), (fun _ => rfl), (fun h => f3 (h.resolve_left (by decide))), (fun h => f4 (h.resolve_left (by decide))), (fun h => f5 (h.resolve_left (by decide)))⟩
    · simp only [Nat.zero_add, Nat.reduceAdd, List.getElem?_toArray, List.getElem?_cons_succ, List.getElem?_cons_zero, Option.some.injEq] at hi
      subst hi
      obtain rfl := f2 (pre_of hall 2 rfl)
      refine wpOp_call 33 rfl rfl rfl Try.func33 (by kernel_rfl) (by kernel_rfl) (low_ref bs hl' hb' W) ?_
      intro W' hW'
      exact ⟨_, _, _, _, _, _, rfl, bCall hW hW' hW.size, (fun h => f0 (h.resolve_left (by decide))), (fun h => f1 (h.resolve_left (by decide))), (fun h => f2 (h.resolve_left (by decide))), (fun _ => rfl), (fun h => f4 (h.resolve_left (by decide))), (fun h => f5 (h.resolve_left (by decide)))⟩
    · simp only [Nat.zero_add, Nat.reduceAdd, List.getElem?_toArray, List.getElem?_cons_succ, List.getElem?_cons_zero, Option.some.injEq] at hi
      subst hi
      obtain rfl := f1 (pre_of hall 1 rfl)
      obtain rfl := f3 (pre_of hall 3 rfl)
      refine wpOp_call 32 rfl rfl rfl Try.func32 (by kernel_rfl) (by kernel_rfl) (rest1_ref (num as_) (num bs) hx hy W) ?_
      intro W' hW'
      exact ⟨_, _, _, _, _, _, rfl, bCall hW hW' hW.size, (fun h => f0 (h.resolve_left (by decide))), (fun h => f1 (h.resolve_left (by decide))), (fun h => f2 (h.resolve_left (by decide))), (fun h => f3 (h.resolve_left (by decide))), (fun _ => rfl), (fun h => f5 (h.resolve_left (by decide)))⟩
    · simp only [Nat.zero_add, Nat.reduceAdd, List.getElem?_toArray, List.getElem?_cons_succ, List.getElem?_cons_zero, Option.some.injEq] at hi
      subst hi
      obtain rfl := f4 (pre_of hall 4 rfl)
      refine wpOp_call 31 rfl rfl rfl Try.func31 (by kernel_rfl) (by kernel_rfl) (lowest_ref (mul R1 (num as_) (num bs)) hd W) ?_
      intro W' hW'
      exact ⟨_, _, _, _, _, _, rfl, bCall hW hW' hW.size, (fun h => f0 (h.resolve_left (by decide))), (fun h => f1 (h.resolve_left (by decide))), (fun h => f2 (h.resolve_left (by decide))), (fun h => f3 (h.resolve_left (by decide))), (fun h => f4 (h.resolve_left (by decide))), (fun _ => rfl)⟩
    · exfalso; omega
  · rintro D a W ⟨u5, u6, u7, u8, u9, u10, rfl, hW, f0, f1, f2, f3, f4, f5⟩ hall
    obtain rfl := f0 (hall 0 (by decide))
    obtain rfl := f1 (hall 1 (by decide))
    obtain rfl := f2 (hall 2 (by decide))
    obtain rfl := f3 (hall 3 (by decide))
    obtain rfl := f4 (hall 4 (by decide))
    obtain rfl := f5 (hall 5 (by decide))
    clear f0 f1 f2 f3 f4 f5 hall
    have K2 := B2.below' hW
    have hbel1 := bCall hbel hW (by have := B2.lt; omega)
    refine wpOp_store rfl rfl rfl rfl rfl K2 (zeros_size _ _) Try.ar22 hel ?_
    go_wp2
    exact ret_ints rfl rfl (K2.row _) Try.ar22 hel ⟨rfl, bSetRow hbel1 (by omega) _⟩
theorem mul_two {x : Nat} : mul R2 x 2 = up R2 x := Gf.mul_pow R2 x (i := 1) (by omega)
theorem polyN_two : (zeros 256).set 1 1 = polyN 2 := by
  have := polyN_set 0 1 1 (by omega) (by omega)
  rw [polyN_zero] at this
  exact this
set_option maxRecDepth 100000 in
set_option maxHeartbeats 4000000 in
theorem double_ref (as_ : List Nat) (hl : as_.length = 16) (hb : ∀ x ∈ as_, x < 256) (w : World) :
    Calls Try.prog 24 #[.agg (ints .u8 as_)] w fun e w' => e = .returned (.agg (ints .u8 (belem (up R2 (bnum as_))))) ∧ Below w.heap.size w w' := by
  have hx := bnum_lt hl hb
  have hd := Gf.mul_lt R2_lt hx 2
  have hel := belem_len (mul R2 (bnum as_) 2)
  have B0 := ((Blk.new w 22 (ints .u8 as_)).alloc (.cells (ints .u8 (zeros 16)) 22)).alloc (.cells (ints .u8 (zeros 256)) 47)
  have B1 := (Blk.new (w.alloc (.cells (ints .u8 as_) 22)) 22 (ints .u8 (zeros 16))).alloc (.cells (ints .u8 (zeros 256)) 47)
  have B2 := Blk.new ((w.alloc (.cells (ints .u8 as_) 22)).alloc (.cells (ints .u8 (zeros 16)) 22)) 47 (ints .u8 (zeros 256))
  rw [World.size_alloc] at B1
  rw [World.size_alloc, World.size_alloc] at B2
  simp only [Nat.add_assoc, Nat.reduceAdd] at B2
  have hbel := (((Below.refl w.heap.size w).alloc (Nat.le_refl _) (.cells (ints .u8 as_) 22)).alloc (by simp) (.cells (ints .u8 (zeros 16)) 22)).alloc (by simp; omega) (.cells (ints .u8 (zeros 256)) 47)
  go_enter Try.func24, Try.ntmps24
  go_wp2_with (first | (refine wpList_alloc_ints rfl 22 rfl Try.z22 ?_; (try simp only [Act.put, List.setIfInBounds_toArray, List.set_cons_zero, List.set_cons_succ, World.size_alloc, setRow_size, Nat.add_assoc, Nat.reduceAdd])) | (refine wpList_alloc_ints rfl 47 rfl Try.z47 ?_; (try simp only [Act.put, List.setIfInBounds_toArray, List.set_cons_zero, List.set_cons_succ, World.size_alloc, setRow_size, Nat.add_assoc, Nat.reduceAdd])) | (refine wpList_store_one rfl 5 _ _ rfl Try.one5 B2 1 1 rfl rfl (by rw [zeros_len]; omega) ?_; intro w1 C2 F1; rw [polyN_two] at C2; (try simp only [Act.put, List.setIfInBounds_toArray, List.set_cons_zero, List.set_cons_succ, World.size_alloc, setRow_size, Nat.add_assoc, Nat.reduceAdd])))
  have C0 := F1.blk B0 (by omega)
  have C1 := F1.blk B1 (by omega)
  have hbel2 := F1.below hbel (by omega)
  have hp2 := polyN_len 2
  clear B0 B1 B2 hbel F1
  refine wp_region_last 5 (by kernel_rfl) (by kernel_rfl) (by kernel_rfl) (by kernel_rfl) (fun D a W => ∃ u4 u5 u6 u7 u8 u9 : Value, a = { tmps := #[.agg (ints .u8 as_), .pointer (some ⟨w.heap.size, 0, none⟩), .pointer (some ⟨w.heap.size + 1, 0, none⟩), .pointer (some ⟨w.heap.size + 2, 0, none⟩), u4, u5, u6, u7, u8, u9], defers := [] } ∧ Below w1.heap.size w1 W ∧ (D 0 → u5 = .agg (ints .u8 as_)) ∧ (D 1 → u6 = .agg (ints .u8 (polyN (bnum as_)))) ∧ (D 2 → u7 = .agg (ints .u8 (polyN 2))) ∧ (D 3 → u8 = .agg (ints .u8 (polyN (mul R2 (bnum as_) 2)))) ∧ (D 4 → u9 = .agg (ints .u8 (belem (mul R2 (bnum as_) 2))))) ?_ ?_ ?_
  · exact ⟨_, _, _, _, _, _, rfl, ⟨rfl, rfl, rfl, Nat.le_refl _, fun _ _ => rfl⟩, (fun h => h.elim), (fun h => h.elim), (fun h => h.elim), (fun h => h.elim), (fun h => h.elim)⟩
  · intro i o hilt hi D a W hI hnD hall
    obtain ⟨u4, u5, u6, u7, u8, u9, rfl, hW, f0, f1, f2, f3, f4⟩ := hI
    rcases i with _ | _ | _ | _ | _ | i
    · simp only [Nat.zero_add, Nat.reduceAdd, List.getElem?_toArray, List.getElem?_cons_succ, List.getElem?_cons_zero, Option.some.injEq] at hi
      subst hi
      refine wpOp_load rfl rfl rfl rfl (C0.below' hW) Try.ar22 hl ?_
      exact ⟨_, _, _, _, _, _, rfl, hW, (fun _ => rfl), (fun h => f1 (h.resolve_left (by decide))), (fun h => f2 (h.resolve_left (by decide))), (fun h => f3 (h.resolve_left (by decide))), (fun h => f4 (h.resolve_left (by decide)))⟩
    · simp only [Nat.zero_add, Nat.reduceAdd, List.getElem?_toArray, List.getElem?_cons_succ, List.getElem?_cons_zero, Option.some.injEq] at hi
      subst hi
      obtain rfl := f0 (pre_of hall 0 rfl)
      refine wpOp_call 38 rfl rfl rfl Try.func38 (by kernel_rfl) (by kernel_rfl) (high_ref as_ hl hb W) ?_
      intro W' hW'
      exact ⟨_, _, _, _, _, _, rfl, bCall hW hW' hW.size, (fun h => f0 (h.resolve_left (by decide))), (fun _ => rfl), (fun h => f2 (h.resolve_left (by decide))), (fun h => f3 (h.resolve_left (by decide))), (fun h => f4 (h.resolve_left (by decide)))⟩
    · simp only [Nat.zero_add, Nat.reduceAdd, List.getElem?_toArray, List.getElem?_cons_succ, List.getElem?_cons_zero, Option.some.injEq] at hi
      subst hi
      refine wpOp_load rfl rfl rfl rfl (C2.below' hW) Try.ar47 hp2 ?_
      exact ⟨_, _, _, _, _, _, rfl, hW, (fun h => f0 (h.resolve_left (by decide))), (fun h => f1 (h.resolve_left (by decide))), (fun _ => rfl), (fun h => f3 (h.resolve_left (by decide))), (fun h => f4 (h.resolve_left (by decide)))⟩
    · simp only [Nat.zero_add, Nat.reduceAdd, List.getElem?_toArray, List.getElem?_cons_succ, List.getElem?_cons_zero, Option.some.injEq] at hi
      subst hi
      obtain rfl := f1 (pre_of hall 1 rfl)
      obtain rfl := f2 (pre_of hall 2 rfl)
      refine wpOp_call 32 rfl rfl rfl Try.func32 (by kernel_rfl) (by kernel_rfl) (rest2_ref (bnum as_) 2 hx (by omega) W) ?_
      intro W' hW'
      exact ⟨_, _, _, _, _, _, rfl, bCall hW hW' hW.size, (fun h => f0 (h.resolve_left (by decide))), (fun h => f1 (h.resolve_left (by decide))), (fun h => f2 (h.resolve_left (by decide))), (fun _ => rfl), (fun h => f4 (h.resolve_left (by decide)))⟩
    · simp only [Nat.zero_add, Nat.reduceAdd, List.getElem?_toArray, List.getElem?_cons_succ, List.getElem?_cons_zero, Option.some.injEq] at hi
      subst hi
      obtain rfl := f3 (pre_of hall 3 rfl)
      refine wpOp_call 37 rfl rfl rfl Try.func37 (by kernel_rfl) (by kernel_rfl) (highest_ref (mul R2 (bnum as_) 2) hd W) ?_
      intro W' hW'
      exact ⟨_, _, _, _, _, _, rfl, bCall hW hW' hW.size, (fun h => f0 (h.resolve_left (by decide))), (fun h => f1 (h.resolve_left (by decide))), (fun h => f2 (h.resolve_left (by decide))), (fun h => f3 (h.resolve_left (by decide))), (fun _ => rfl)⟩
    · exfalso; omega
  · rintro D a W ⟨u4, u5, u6, u7, u8, u9, rfl, hW, f0, f1, f2, f3, f4⟩ hall
    obtain rfl := f0 (hall 0 (by decide))
    obtain rfl := f1 (hall 1 (by decide))
    obtain rfl := f2 (hall 2 (by decide))
    obtain rfl := f3 (hall 3 (by decide))
    obtain rfl := f4 (hall 4 (by decide))
    clear f0 f1 f2 f3 f4 hall
    have K2 := C1.below' hW
    have hbel1 := bCall hbel2 hW (by have := C1.lt; omega)
    refine wpOp_store rfl rfl rfl rfl rfl K2 (zeros_size _ _) Try.ar22 hel ?_
    go_wp2
    exact ret_ints rfl rfl (K2.row _) Try.ar22 hel ⟨by rw [mul_two], bSetRow hbel1 (by omega) _⟩
end Go.Proofs.Ytehhipanbjhffaa
