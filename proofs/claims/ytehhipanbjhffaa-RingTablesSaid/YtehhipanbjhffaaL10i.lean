/- The walk of RingTables. No condition but that bytes are below 256. -/
import Derived.Test.YtehhipanbjhffaaW10l
import Derived.Test.YtehhipanbjhffaaL10f
import Derived.Test.YtehhipanbjhffaaL10g
namespace Go.Proofs.Ytehhipanbjhffaa
set_option linter.unusedSimpArgs false
set_option linter.unusedVariables false
set_option linter.unusedSectionVars false
set_option linter.unusedVariables false
open Go.RowKit
open Gf (W2 up down upN downN mulS mul dot dotS R1 D1)
set_option maxRecDepth 100000 in
set_option maxHeartbeats 8000000 in
theorem ringTables_c (xs ys : List Nat) (hl : xs.length = 16) (hb : ∀ x ∈ xs, x < 2 ^ 8) (hl' : ys.length = 16) (hb' : ∀ x ∈ ys, x < 2 ^ 8) (w : World) :
    Calls Try.prog 8 #[.agg (ints .u8 xs), .agg (ints .u8 ys)] w fun e w' => e = .returned (.bool true) ∧ Below w.heap.size w w' := by
  have hx := num_lt hl hb
  have hy := num_lt hl' hb'
  have hX := Gf.dot_lt Gf.pair1 hx 1
  have E1 := Lib.hid (show elem (mul R1 (dot R1 D1 (num xs) 1) (num ys)) = elem (dot R1 D1 (num xs) (num ys)) by rw [tab_dot hx hy, Gf.dot_comm hx hy])
  have B1 := (Blk.new w 22 (ints .u8 xs)).alloc (.cells (ints .u8 ys) 22)
  have B2 := Blk.new (w.alloc (.cells (ints .u8 xs) 22)) 22 (ints .u8 ys)
  rw [World.size_alloc] at B2
  have hbel := ((Below.refl w.heap.size w).alloc (Nat.le_refl _) (.cells (ints .u8 xs) 22)).alloc (by simp) (.cells (ints .u8 ys) 22)
  go_enter Try.func8, Try.ntmps8
  go_wp2
  generalize ((w.alloc (.cells (ints .u8 xs) 22)).alloc (.cells (ints .u8 ys) 22)) = w0 at *
  obtain ⟨X, HX⟩ : ∃ X, Hid (dot R1 D1 (num xs) 1 = X) := ⟨_, Lib.hid rfl⟩
  have hX' : X < 2 ^ 128 := by rw [← HX.out]; exact hX
  have E1' : Hid (elem (mul R1 X (num ys)) = elem (dot R1 D1 (num xs) (num ys))) := Lib.hid (by rw [← HX.out]; exact E1.out)
  refine wp_region_inv (by kernel_rfl) (by kernel_rfl) (fun D a W => ∃ u4 u6 u7 u8 u9 u10 u11 u12 u13 u14 u15 u16 u17 u18 u19 u20 u21 u22 u23 : Value, a = { tmps := #[.agg (ints .u8 xs), .agg (ints .u8 ys), .pointer (some ⟨w.heap.size, 0, none⟩), .pointer (some ⟨w.heap.size + 1, 0, none⟩), u4, .pointer none, u6, u7, u8, u9, u10, u11, u12, u13, u14, u15, u16, u17, u18, u19, u20, u21, u22, u23], defers := [] } ∧ Below w0.heap.size w0 W ∧ (D 0 → u6 = .agg (ints .u8 xs)) ∧ (D 1 → Al W w0.heap.size u7 55 32 .u64 True (tabL X 16)) ∧ (D 2 → u8 = .agg (ints .u8 ys)) ∧ (D 3 → u9 = .agg (ints .u8 (elem (mul R1 X (num ys))))) ∧ (D 4 → u10 = .agg (ints .u8 xs)) ∧ (D 5 → u11 = .agg (ints .u8 ys)) ∧ (D 6 → u12 = .agg (ints .u8 (elem (dot R1 D1 (num xs) (num ys))))) ∧ (D 7 → u13 = .bool true) ∧ (D 8 → u14 = .bool true) ∧ (D 9 → u15 = .pointer none) ∧ (D 10 → u16 = .agg (ints .u8 ys)) ∧ (D 11 → u17 = .agg (ints .u8 (zeros 16))) ∧ (D 12 → u18 = .agg (ints .u8 (zeros 16))) ∧ (D 13 → u19 = .bool true) ∧ (D 14 → u20 = .bool true) ∧ (D 15 → u21 = .bool true) ∧ (D 16 → u22 = .bool true) ∧ (D 17 → u23 = .bool true) ∧ (D 18 → u4 = .bool true)) ?_ ?_ ?_
  · exact ⟨_, _, _, _, _, _, _, _, _, _, _, _, _, _, _, _, _, _, _, rfl, ⟨rfl, rfl, rfl, Nat.le_refl _, fun _ _ => rfl⟩, (fun h => h.elim), (fun h => h.elim), (fun h => h.elim), (fun h => h.elim), (fun h => h.elim), (fun h => h.elim), (fun h => h.elim), (fun h => h.elim), (fun h => h.elim), (fun h => h.elim), (fun h => h.elim), (fun h => h.elim), (fun h => h.elim), (fun h => h.elim), (fun h => h.elim), (fun h => h.elim), (fun h => h.elim), (fun h => h.elim), (fun h => h.elim)⟩
  · intro i o hi D a W hI hnD hall
    obtain ⟨u4, u6, u7, u8, u9, u10, u11, u12, u13, u14, u15, u16, u17, u18, u19, u20, u21, u22, u23, rfl, hW, f0, f1, f2, f3, f4, f5, f6, f7, f8, f9, f10, f11, f12, f13, f14, f15, f16, f17, f18⟩ := hI
    rcases i with _ | _ | _ | _ | _ | _ | _ | _ | _ | _ | _ | _ | _ | _ | _ | _ | _ | _ | _ | i
    · simp only [Nat.zero_add, Nat.reduceAdd, List.getElem?_toArray, List.getElem?_cons_succ, List.getElem?_cons_zero, Option.some.injEq] at hi
      subst hi
      refine wpOp_load rfl rfl rfl rfl (B1.below' hW) Try.ar22 hl ?_
      exact ⟨_, _, _, _, _, _, _, _, _, _, _, _, _, _, _, _, _, _, _, rfl, hW, (fun _ => rfl), (fun h => (f1 (h.resolve_left (by decide))).same id), (fun h => f2 (h.resolve_left (by decide))), (fun h => f3 (h.resolve_left (by decide))), (fun h => f4 (h.resolve_left (by decide))), (fun h => f5 (h.resolve_left (by decide))), (fun h => f6 (h.resolve_left (by decide))), (fun h => f7 (h.resolve_left (by decide))), (fun h => f8 (h.resolve_left (by decide))), (fun h => f9 (h.resolve_left (by decide))), (fun h => f10 (h.resolve_left (by decide))), (fun h => f11 (h.resolve_left (by decide))), (fun h => f12 (h.resolve_left (by decide))), (fun h => f13 (h.resolve_left (by decide))), (fun h => f14 (h.resolve_left (by decide))), (fun h => f15 (h.resolve_left (by decide))), (fun h => f16 (h.resolve_left (by decide))), (fun h => f17 (h.resolve_left (by decide))), (fun h => f18 (h.resolve_left (by decide)))⟩
    · simp only [Nat.zero_add, Nat.reduceAdd, List.getElem?_toArray, List.getElem?_cons_succ, List.getElem?_cons_zero, Option.some.injEq] at hi
      subst hi
      obtain rfl := f0 (pre_of hall 0 rfl)
      refine wpOp_callB 20 rfl rfl rfl Try.func20 (by kernel_rfl) (by kernel_rfl) (HX.out ▸ make_c xs hl hb W) ?_
      intro W' hW' hT
      exact ⟨_, _, _, _, _, _, _, _, _, _, _, _, _, _, _, _, _, _, _, rfl, bCall hW hW' hW.size, (fun h => f0 (h.resolve_left (by decide))), (fun _ => ⟨_, _, rfl, by have := hW.size; omega, by have := hT; rfl, hT, fun _ => rfl⟩), (fun h => f2 (h.resolve_left (by decide))), (fun h => f3 (h.resolve_left (by decide))), (fun h => f4 (h.resolve_left (by decide))), (fun h => f5 (h.resolve_left (by decide))), (fun h => f6 (h.resolve_left (by decide))), (fun h => f7 (h.resolve_left (by decide))), (fun h => f8 (h.resolve_left (by decide))), (fun h => f9 (h.resolve_left (by decide))), (fun h => f10 (h.resolve_left (by decide))), (fun h => f11 (h.resolve_left (by decide))), (fun h => f12 (h.resolve_left (by decide))), (fun h => f13 (h.resolve_left (by decide))), (fun h => f14 (h.resolve_left (by decide))), (fun h => f15 (h.resolve_left (by decide))), (fun h => f16 (h.resolve_left (by decide))), (fun h => f17 (h.resolve_left (by decide))), (fun h => f18 (h.resolve_left (by decide)))⟩
    · simp only [Nat.zero_add, Nat.reduceAdd, List.getElem?_toArray, List.getElem?_cons_succ, List.getElem?_cons_zero, Option.some.injEq] at hi
      subst hi
      refine wpOp_load rfl rfl rfl rfl (B2.below' hW) Try.ar22 hl' ?_
      exact ⟨_, _, _, _, _, _, _, _, _, _, _, _, _, _, _, _, _, _, _, rfl, hW, (fun h => f0 (h.resolve_left (by decide))), (fun h => (f1 (h.resolve_left (by decide))).same id), (fun _ => rfl), (fun h => f3 (h.resolve_left (by decide))), (fun h => f4 (h.resolve_left (by decide))), (fun h => f5 (h.resolve_left (by decide))), (fun h => f6 (h.resolve_left (by decide))), (fun h => f7 (h.resolve_left (by decide))), (fun h => f8 (h.resolve_left (by decide))), (fun h => f9 (h.resolve_left (by decide))), (fun h => f10 (h.resolve_left (by decide))), (fun h => f11 (h.resolve_left (by decide))), (fun h => f12 (h.resolve_left (by decide))), (fun h => f13 (h.resolve_left (by decide))), (fun h => f14 (h.resolve_left (by decide))), (fun h => f15 (h.resolve_left (by decide))), (fun h => f16 (h.resolve_left (by decide))), (fun h => f17 (h.resolve_left (by decide))), (fun h => f18 (h.resolve_left (by decide)))⟩
    · simp only [Nat.zero_add, Nat.reduceAdd, List.getElem?_toArray, List.getElem?_cons_succ, List.getElem?_cons_zero, Option.some.injEq] at hi
      subst hi
      obtain rfl := f2 (pre_of hall 2 rfl)
      obtain ⟨g, l, rfl, hg, hl0, hB, hst⟩ := f1 (pre_of hall 1 rfl)
      obtain rfl := hst trivial
      refine wpOp_call 21 rfl rfl rfl Try.func21 (by kernel_rfl) (by kernel_rfl) (dotT_c g X ys hX' hl' hb' W hB) ?_
      intro W' hW'
      have q1 : Al W w0.heap.size (.pointer (some ⟨g, 0, none⟩)) _ _ _ True _ := ⟨g, _, rfl, hg, hl0, hB, hst⟩
      exact ⟨_, _, _, _, _, _, _, _, _, _, _, _, _, _, _, _, _, _, _, rfl, bCall hW hW' hW.size, (fun h => f0 (h.resolve_left (by decide))), (fun _ => q1.below hW' id), (fun h => f2 (h.resolve_left (by decide))), (fun _ => rfl), (fun h => f4 (h.resolve_left (by decide))), (fun h => f5 (h.resolve_left (by decide))), (fun h => f6 (h.resolve_left (by decide))), (fun h => f7 (h.resolve_left (by decide))), (fun h => f8 (h.resolve_left (by decide))), (fun h => f9 (h.resolve_left (by decide))), (fun h => f10 (h.resolve_left (by decide))), (fun h => f11 (h.resolve_left (by decide))), (fun h => f12 (h.resolve_left (by decide))), (fun h => f13 (h.resolve_left (by decide))), (fun h => f14 (h.resolve_left (by decide))), (fun h => f15 (h.resolve_left (by decide))), (fun h => f16 (h.resolve_left (by decide))), (fun h => f17 (h.resolve_left (by decide))), (fun h => f18 (h.resolve_left (by decide)))⟩
    · simp only [Nat.zero_add, Nat.reduceAdd, List.getElem?_toArray, List.getElem?_cons_succ, List.getElem?_cons_zero, Option.some.injEq] at hi
      subst hi
      refine wpOp_load rfl rfl rfl rfl (B1.below' hW) Try.ar22 hl ?_
      exact ⟨_, _, _, _, _, _, _, _, _, _, _, _, _, _, _, _, _, _, _, rfl, hW, (fun h => f0 (h.resolve_left (by decide))), (fun h => (f1 (h.resolve_left (by decide))).same id), (fun h => f2 (h.resolve_left (by decide))), (fun h => f3 (h.resolve_left (by decide))), (fun _ => rfl), (fun h => f5 (h.resolve_left (by decide))), (fun h => f6 (h.resolve_left (by decide))), (fun h => f7 (h.resolve_left (by decide))), (fun h => f8 (h.resolve_left (by decide))), (fun h => f9 (h.resolve_left (by decide))), (fun h => f10 (h.resolve_left (by decide))), (fun h => f11 (h.resolve_left (by decide))), (fun h => f12 (h.resolve_left (by decide))), (fun h => f13 (h.resolve_left (by decide))), (fun h => f14 (h.resolve_left (by decide))), (fun h => f15 (h.resolve_left (by decide))), (fun h => f16 (h.resolve_left (by decide))), (fun h => f17 (h.resolve_left (by decide))), (fun h => f18 (h.resolve_left (by decide)))⟩
    · simp only [Nat.zero_add, Nat.reduceAdd, List.getElem?_toArray, List.getElem?_cons_succ, List.getElem?_cons_zero, Option.some.injEq] at hi
      subst hi
      refine wpOp_load rfl rfl rfl rfl (B2.below' hW) Try.ar22 hl' ?_
      exact ⟨_, _, _, _, _, _, _, _, _, _, _, _, _, _, _, _, _, _, _, rfl, hW, (fun h => f0 (h.resolve_left (by decide))), (fun h => (f1 (h.resolve_left (by decide))).same id), (fun h => f2 (h.resolve_left (by decide))), (fun h => f3 (h.resolve_left (by decide))), (fun h => f4 (h.resolve_left (by decide))), (fun _ => rfl), (fun h => f6 (h.resolve_left (by decide))), (fun h => f7 (h.resolve_left (by decide))), (fun h => f8 (h.resolve_left (by decide))), (fun h => f9 (h.resolve_left (by decide))), (fun h => f10 (h.resolve_left (by decide))), (fun h => f11 (h.resolve_left (by decide))), (fun h => f12 (h.resolve_left (by decide))), (fun h => f13 (h.resolve_left (by decide))), (fun h => f14 (h.resolve_left (by decide))), (fun h => f15 (h.resolve_left (by decide))), (fun h => f16 (h.resolve_left (by decide))), (fun h => f17 (h.resolve_left (by decide))), (fun h => f18 (h.resolve_left (by decide)))⟩
    · simp only [Nat.zero_add, Nat.reduceAdd, List.getElem?_toArray, List.getElem?_cons_succ, List.getElem?_cons_zero, Option.some.injEq] at hi
      subst hi
      obtain rfl := f4 (pre_of hall 4 rfl)
      obtain rfl := f5 (pre_of hall 5 rfl)
      refine wpOp_call 15 rfl rfl rfl Try.func15 (by kernel_rfl) (by kernel_rfl) (dot_ref xs ys hl hb hl' hb' W) ?_
      intro W' hW'
      exact ⟨_, _, _, _, _, _, _, _, _, _, _, _, _, _, _, _, _, _, _, rfl, bCall hW hW' hW.size, (fun h => f0 (h.resolve_left (by decide))), (fun h => (f1 (h.resolve_left (by decide))).below hW' id), (fun h => f2 (h.resolve_left (by decide))), (fun h => f3 (h.resolve_left (by decide))), (fun h => f4 (h.resolve_left (by decide))), (fun h => f5 (h.resolve_left (by decide))), (fun _ => rfl), (fun h => f7 (h.resolve_left (by decide))), (fun h => f8 (h.resolve_left (by decide))), (fun h => f9 (h.resolve_left (by decide))), (fun h => f10 (h.resolve_left (by decide))), (fun h => f11 (h.resolve_left (by decide))), (fun h => f12 (h.resolve_left (by decide))), (fun h => f13 (h.resolve_left (by decide))), (fun h => f14 (h.resolve_left (by decide))), (fun h => f15 (h.resolve_left (by decide))), (fun h => f16 (h.resolve_left (by decide))), (fun h => f17 (h.resolve_left (by decide))), (fun h => f18 (h.resolve_left (by decide)))⟩
    · simp only [Nat.zero_add, Nat.reduceAdd, List.getElem?_toArray, List.getElem?_cons_succ, List.getElem?_cons_zero, Option.some.injEq] at hi
      subst hi
      obtain rfl := f3 (pre_of hall 3 rfl)
      obtain rfl := f6 (pre_of hall 6 rfl)
      refine wpOp_value (v := .bool true) rfl rfl (run_eqlOp rfl rfl rfl Try.eg22 (same16 _ _ (elem_len _) E1'.out)) ?_
      exact ⟨_, _, _, _, _, _, _, _, _, _, _, _, _, _, _, _, _, _, _, rfl, hW, (fun h => f0 (h.resolve_left (by decide))), (fun h => (f1 (h.resolve_left (by decide))).same id), (fun h => f2 (h.resolve_left (by decide))), (fun h => f3 (h.resolve_left (by decide))), (fun h => f4 (h.resolve_left (by decide))), (fun h => f5 (h.resolve_left (by decide))), (fun h => f6 (h.resolve_left (by decide))), (fun _ => rfl), (fun h => f8 (h.resolve_left (by decide))), (fun h => f9 (h.resolve_left (by decide))), (fun h => f10 (h.resolve_left (by decide))), (fun h => f11 (h.resolve_left (by decide))), (fun h => f12 (h.resolve_left (by decide))), (fun h => f13 (h.resolve_left (by decide))), (fun h => f14 (h.resolve_left (by decide))), (fun h => f15 (h.resolve_left (by decide))), (fun h => f16 (h.resolve_left (by decide))), (fun h => f17 (h.resolve_left (by decide))), (fun h => f18 (h.resolve_left (by decide)))⟩
    · simp only [Nat.zero_add, Nat.reduceAdd, List.getElem?_toArray, List.getElem?_cons_succ, List.getElem?_cons_zero, Option.some.injEq] at hi
      subst hi
      obtain rfl := f7 (pre_of hall 7 rfl)
      refine wpOp_value (v := .bool true) rfl rfl (by kernel_rfl) ?_
      exact ⟨_, _, _, _, _, _, _, _, _, _, _, _, _, _, _, _, _, _, _, rfl, hW, (fun h => f0 (h.resolve_left (by decide))), (fun h => (f1 (h.resolve_left (by decide))).same id), (fun h => f2 (h.resolve_left (by decide))), (fun h => f3 (h.resolve_left (by decide))), (fun h => f4 (h.resolve_left (by decide))), (fun h => f5 (h.resolve_left (by decide))), (fun h => f6 (h.resolve_left (by decide))), (fun h => f7 (h.resolve_left (by decide))), (fun _ => rfl), (fun h => f9 (h.resolve_left (by decide))), (fun h => f10 (h.resolve_left (by decide))), (fun h => f11 (h.resolve_left (by decide))), (fun h => f12 (h.resolve_left (by decide))), (fun h => f13 (h.resolve_left (by decide))), (fun h => f14 (h.resolve_left (by decide))), (fun h => f15 (h.resolve_left (by decide))), (fun h => f16 (h.resolve_left (by decide))), (fun h => f17 (h.resolve_left (by decide))), (fun h => f18 (h.resolve_left (by decide)))⟩
    · simp only [Nat.zero_add, Nat.reduceAdd, List.getElem?_toArray, List.getElem?_cons_succ, List.getElem?_cons_zero, Option.some.injEq] at hi
      subst hi
      obtain rfl := f8 (pre_of hall 8 rfl)
      refine wpOp_value (v := .pointer none) rfl rfl (by kernel_rfl) ?_
      exact ⟨_, _, _, _, _, _, _, _, _, _, _, _, _, _, _, _, _, _, _, rfl, hW, (fun h => f0 (h.resolve_left (by decide))), (fun h => (f1 (h.resolve_left (by decide))).same id), (fun h => f2 (h.resolve_left (by decide))), (fun h => f3 (h.resolve_left (by decide))), (fun h => f4 (h.resolve_left (by decide))), (fun h => f5 (h.resolve_left (by decide))), (fun h => f6 (h.resolve_left (by decide))), (fun h => f7 (h.resolve_left (by decide))), (fun h => f8 (h.resolve_left (by decide))), (fun _ => rfl), (fun h => f10 (h.resolve_left (by decide))), (fun h => f11 (h.resolve_left (by decide))), (fun h => f12 (h.resolve_left (by decide))), (fun h => f13 (h.resolve_left (by decide))), (fun h => f14 (h.resolve_left (by decide))), (fun h => f15 (h.resolve_left (by decide))), (fun h => f16 (h.resolve_left (by decide))), (fun h => f17 (h.resolve_left (by decide))), (fun h => f18 (h.resolve_left (by decide)))⟩
    · simp only [Nat.zero_add, Nat.reduceAdd, List.getElem?_toArray, List.getElem?_cons_succ, List.getElem?_cons_zero, Option.some.injEq] at hi
      subst hi
      obtain rfl := f8 (pre_of hall 8 rfl)
      refine wpOp_load rfl rfl rfl rfl (B2.below' hW) Try.ar22 hl' ?_
      exact ⟨_, _, _, _, _, _, _, _, _, _, _, _, _, _, _, _, _, _, _, rfl, hW, (fun h => f0 (h.resolve_left (by decide))), (fun h => (f1 (h.resolve_left (by decide))).same id), (fun h => f2 (h.resolve_left (by decide))), (fun h => f3 (h.resolve_left (by decide))), (fun h => f4 (h.resolve_left (by decide))), (fun h => f5 (h.resolve_left (by decide))), (fun h => f6 (h.resolve_left (by decide))), (fun h => f7 (h.resolve_left (by decide))), (fun h => f8 (h.resolve_left (by decide))), (fun h => f9 (h.resolve_left (by decide))), (fun _ => rfl), (fun h => f11 (h.resolve_left (by decide))), (fun h => f12 (h.resolve_left (by decide))), (fun h => f13 (h.resolve_left (by decide))), (fun h => f14 (h.resolve_left (by decide))), (fun h => f15 (h.resolve_left (by decide))), (fun h => f16 (h.resolve_left (by decide))), (fun h => f17 (h.resolve_left (by decide))), (fun h => f18 (h.resolve_left (by decide)))⟩
    · simp only [Nat.zero_add, Nat.reduceAdd, List.getElem?_toArray, List.getElem?_cons_succ, List.getElem?_cons_zero, Option.some.injEq] at hi
      subst hi
      obtain rfl := f8 (pre_of hall 8 rfl)
      obtain rfl := f9 (pre_of hall 9 rfl)
      obtain rfl := f10 (pre_of hall 10 rfl)
      refine wpOp_call 21 rfl rfl rfl Try.func21 (by kernel_rfl) (by kernel_rfl) (dotNil_c ys hl' W) ?_
      intro W' hW'
      exact ⟨_, _, _, _, _, _, _, _, _, _, _, _, _, _, _, _, _, _, _, rfl, bCall hW hW' hW.size, (fun h => f0 (h.resolve_left (by decide))), (fun h => (f1 (h.resolve_left (by decide))).below hW' id), (fun h => f2 (h.resolve_left (by decide))), (fun h => f3 (h.resolve_left (by decide))), (fun h => f4 (h.resolve_left (by decide))), (fun h => f5 (h.resolve_left (by decide))), (fun h => f6 (h.resolve_left (by decide))), (fun h => f7 (h.resolve_left (by decide))), (fun h => f8 (h.resolve_left (by decide))), (fun h => f9 (h.resolve_left (by decide))), (fun h => f10 (h.resolve_left (by decide))), (fun _ => rfl), (fun h => f12 (h.resolve_left (by decide))), (fun h => f13 (h.resolve_left (by decide))), (fun h => f14 (h.resolve_left (by decide))), (fun h => f15 (h.resolve_left (by decide))), (fun h => f16 (h.resolve_left (by decide))), (fun h => f17 (h.resolve_left (by decide))), (fun h => f18 (h.resolve_left (by decide)))⟩
    · simp only [Nat.zero_add, Nat.reduceAdd, List.getElem?_toArray, List.getElem?_cons_succ, List.getElem?_cons_zero, Option.some.injEq] at hi
      subst hi
      obtain rfl := f8 (pre_of hall 8 rfl)
      refine wpOp_value (v := .agg (ints .u8 (zeros 16))) rfl rfl (by kernel_rfl) ?_
      exact ⟨_, _, _, _, _, _, _, _, _, _, _, _, _, _, _, _, _, _, _, rfl, hW, (fun h => f0 (h.resolve_left (by decide))), (fun h => (f1 (h.resolve_left (by decide))).same id), (fun h => f2 (h.resolve_left (by decide))), (fun h => f3 (h.resolve_left (by decide))), (fun h => f4 (h.resolve_left (by decide))), (fun h => f5 (h.resolve_left (by decide))), (fun h => f6 (h.resolve_left (by decide))), (fun h => f7 (h.resolve_left (by decide))), (fun h => f8 (h.resolve_left (by decide))), (fun h => f9 (h.resolve_left (by decide))), (fun h => f10 (h.resolve_left (by decide))), (fun h => f11 (h.resolve_left (by decide))), (fun _ => rfl), (fun h => f13 (h.resolve_left (by decide))), (fun h => f14 (h.resolve_left (by decide))), (fun h => f15 (h.resolve_left (by decide))), (fun h => f16 (h.resolve_left (by decide))), (fun h => f17 (h.resolve_left (by decide))), (fun h => f18 (h.resolve_left (by decide)))⟩
    · simp only [Nat.zero_add, Nat.reduceAdd, List.getElem?_toArray, List.getElem?_cons_succ, List.getElem?_cons_zero, Option.some.injEq] at hi
      subst hi
      obtain rfl := f8 (pre_of hall 8 rfl)
      obtain rfl := f11 (pre_of hall 11 rfl)
      obtain rfl := f12 (pre_of hall 12 rfl)
      refine wpOp_value (v := .bool true) rfl rfl (run_eqlOp rfl rfl rfl Try.eg22 (same16 _ _ (zeros_len _) rfl)) ?_
      exact ⟨_, _, _, _, _, _, _, _, _, _, _, _, _, _, _, _, _, _, _, rfl, hW, (fun h => f0 (h.resolve_left (by decide))), (fun h => (f1 (h.resolve_left (by decide))).same id), (fun h => f2 (h.resolve_left (by decide))), (fun h => f3 (h.resolve_left (by decide))), (fun h => f4 (h.resolve_left (by decide))), (fun h => f5 (h.resolve_left (by decide))), (fun h => f6 (h.resolve_left (by decide))), (fun h => f7 (h.resolve_left (by decide))), (fun h => f8 (h.resolve_left (by decide))), (fun h => f9 (h.resolve_left (by decide))), (fun h => f10 (h.resolve_left (by decide))), (fun h => f11 (h.resolve_left (by decide))), (fun h => f12 (h.resolve_left (by decide))), (fun _ => rfl), (fun h => f14 (h.resolve_left (by decide))), (fun h => f15 (h.resolve_left (by decide))), (fun h => f16 (h.resolve_left (by decide))), (fun h => f17 (h.resolve_left (by decide))), (fun h => f18 (h.resolve_left (by decide)))⟩
    · simp only [Nat.zero_add, Nat.reduceAdd, List.getElem?_toArray, List.getElem?_cons_succ, List.getElem?_cons_zero, Option.some.injEq] at hi
      subst hi
      obtain rfl := f8 (pre_of hall 8 rfl)
      obtain rfl := f13 (pre_of hall 13 rfl)
      refine wpOp_value (v := .bool true) rfl rfl (by kernel_rfl) ?_
      exact ⟨_, _, _, _, _, _, _, _, _, _, _, _, _, _, _, _, _, _, _, rfl, hW, (fun h => f0 (h.resolve_left (by decide))), (fun h => (f1 (h.resolve_left (by decide))).same id), (fun h => f2 (h.resolve_left (by decide))), (fun h => f3 (h.resolve_left (by decide))), (fun h => f4 (h.resolve_left (by decide))), (fun h => f5 (h.resolve_left (by decide))), (fun h => f6 (h.resolve_left (by decide))), (fun h => f7 (h.resolve_left (by decide))), (fun h => f8 (h.resolve_left (by decide))), (fun h => f9 (h.resolve_left (by decide))), (fun h => f10 (h.resolve_left (by decide))), (fun h => f11 (h.resolve_left (by decide))), (fun h => f12 (h.resolve_left (by decide))), (fun h => f13 (h.resolve_left (by decide))), (fun _ => rfl), (fun h => f15 (h.resolve_left (by decide))), (fun h => f16 (h.resolve_left (by decide))), (fun h => f17 (h.resolve_left (by decide))), (fun h => f18 (h.resolve_left (by decide)))⟩
    · simp only [Nat.zero_add, Nat.reduceAdd, List.getElem?_toArray, List.getElem?_cons_succ, List.getElem?_cons_zero, Option.some.injEq] at hi
      subst hi
      obtain rfl := f14 (pre_of hall 14 rfl)
      refine wpOp_value (v := .bool true) rfl rfl (by kernel_rfl) ?_
      exact ⟨_, _, _, _, _, _, _, _, _, _, _, _, _, _, _, _, _, _, _, rfl, hW, (fun h => f0 (h.resolve_left (by decide))), (fun h => (f1 (h.resolve_left (by decide))).same id), (fun h => f2 (h.resolve_left (by decide))), (fun h => f3 (h.resolve_left (by decide))), (fun h => f4 (h.resolve_left (by decide))), (fun h => f5 (h.resolve_left (by decide))), (fun h => f6 (h.resolve_left (by decide))), (fun h => f7 (h.resolve_left (by decide))), (fun h => f8 (h.resolve_left (by decide))), (fun h => f9 (h.resolve_left (by decide))), (fun h => f10 (h.resolve_left (by decide))), (fun h => f11 (h.resolve_left (by decide))), (fun h => f12 (h.resolve_left (by decide))), (fun h => f13 (h.resolve_left (by decide))), (fun h => f14 (h.resolve_left (by decide))), (fun _ => rfl), (fun h => f16 (h.resolve_left (by decide))), (fun h => f17 (h.resolve_left (by decide))), (fun h => f18 (h.resolve_left (by decide)))⟩
    · simp only [Nat.zero_add, Nat.reduceAdd, List.getElem?_toArray, List.getElem?_cons_succ, List.getElem?_cons_zero, Option.some.injEq] at hi
      subst hi
      obtain rfl := f15 (pre_of hall 15 rfl)
      refine wpOp_call 16 rfl rfl rfl Try.func16 (by kernel_rfl) (by kernel_rfl) (awake10_c W) ?_
      intro W' hW'
      exact ⟨_, _, _, _, _, _, _, _, _, _, _, _, _, _, _, _, _, _, _, rfl, bCall hW hW' hW.size, (fun h => f0 (h.resolve_left (by decide))), (fun h => (f1 (h.resolve_left (by decide))).below hW' id), (fun h => f2 (h.resolve_left (by decide))), (fun h => f3 (h.resolve_left (by decide))), (fun h => f4 (h.resolve_left (by decide))), (fun h => f5 (h.resolve_left (by decide))), (fun h => f6 (h.resolve_left (by decide))), (fun h => f7 (h.resolve_left (by decide))), (fun h => f8 (h.resolve_left (by decide))), (fun h => f9 (h.resolve_left (by decide))), (fun h => f10 (h.resolve_left (by decide))), (fun h => f11 (h.resolve_left (by decide))), (fun h => f12 (h.resolve_left (by decide))), (fun h => f13 (h.resolve_left (by decide))), (fun h => f14 (h.resolve_left (by decide))), (fun h => f15 (h.resolve_left (by decide))), (fun _ => rfl), (fun h => f17 (h.resolve_left (by decide))), (fun h => f18 (h.resolve_left (by decide)))⟩
    · simp only [Nat.zero_add, Nat.reduceAdd, List.getElem?_toArray, List.getElem?_cons_succ, List.getElem?_cons_zero, Option.some.injEq] at hi
      subst hi
      obtain rfl := f15 (pre_of hall 15 rfl)
      obtain rfl := f16 (pre_of hall 16 rfl)
      refine wpOp_value (v := .bool true) rfl rfl (by kernel_rfl) ?_
      exact ⟨_, _, _, _, _, _, _, _, _, _, _, _, _, _, _, _, _, _, _, rfl, hW, (fun h => f0 (h.resolve_left (by decide))), (fun h => (f1 (h.resolve_left (by decide))).same id), (fun h => f2 (h.resolve_left (by decide))), (fun h => f3 (h.resolve_left (by decide))), (fun h => f4 (h.resolve_left (by decide))), (fun h => f5 (h.resolve_left (by decide))), (fun h => f6 (h.resolve_left (by decide))), (fun h => f7 (h.resolve_left (by decide))), (fun h => f8 (h.resolve_left (by decide))), (fun h => f9 (h.resolve_left (by decide))), (fun h => f10 (h.resolve_left (by decide))), (fun h => f11 (h.resolve_left (by decide))), (fun h => f12 (h.resolve_left (by decide))), (fun h => f13 (h.resolve_left (by decide))), (fun h => f14 (h.resolve_left (by decide))), (fun h => f15 (h.resolve_left (by decide))), (fun h => f16 (h.resolve_left (by decide))), (fun _ => rfl), (fun h => f18 (h.resolve_left (by decide)))⟩
    · simp only [Nat.zero_add, Nat.reduceAdd, List.getElem?_toArray, List.getElem?_cons_succ, List.getElem?_cons_zero, Option.some.injEq] at hi
      subst hi
      obtain rfl := f17 (pre_of hall 17 rfl)
      refine wpOp_value (v := .bool true) rfl rfl (by kernel_rfl) ?_
      exact ⟨_, _, _, _, _, _, _, _, _, _, _, _, _, _, _, _, _, _, _, rfl, hW, (fun h => f0 (h.resolve_left (by decide))), (fun h => (f1 (h.resolve_left (by decide))).same id), (fun h => f2 (h.resolve_left (by decide))), (fun h => f3 (h.resolve_left (by decide))), (fun h => f4 (h.resolve_left (by decide))), (fun h => f5 (h.resolve_left (by decide))), (fun h => f6 (h.resolve_left (by decide))), (fun h => f7 (h.resolve_left (by decide))), (fun h => f8 (h.resolve_left (by decide))), (fun h => f9 (h.resolve_left (by decide))), (fun h => f10 (h.resolve_left (by decide))), (fun h => f11 (h.resolve_left (by decide))), (fun h => f12 (h.resolve_left (by decide))), (fun h => f13 (h.resolve_left (by decide))), (fun h => f14 (h.resolve_left (by decide))), (fun h => f15 (h.resolve_left (by decide))), (fun h => f16 (h.resolve_left (by decide))), (fun h => f17 (h.resolve_left (by decide))), (fun _ => rfl)⟩
    · exfalso; simp at hi
  · rintro D a W ⟨u4, u6, u7, u8, u9, u10, u11, u12, u13, u14, u15, u16, u17, u18, u19, u20, u21, u22, u23, rfl, hW, f0, f1, f2, f3, f4, f5, f6, f7, f8, f9, f10, f11, f12, f13, f14, f15, f16, f17, f18⟩ hall
    obtain rfl := f0 (hall 0 (by decide))
    obtain rfl := f2 (hall 2 (by decide))
    obtain rfl := f3 (hall 3 (by decide))
    obtain rfl := f4 (hall 4 (by decide))
    obtain rfl := f5 (hall 5 (by decide))
    obtain rfl := f6 (hall 6 (by decide))
    obtain rfl := f7 (hall 7 (by decide))
    obtain rfl := f8 (hall 8 (by decide))
    obtain rfl := f9 (hall 9 (by decide))
    obtain rfl := f10 (hall 10 (by decide))
    obtain rfl := f11 (hall 11 (by decide))
    obtain rfl := f12 (hall 12 (by decide))
    obtain rfl := f13 (hall 13 (by decide))
    obtain rfl := f14 (hall 14 (by decide))
    obtain rfl := f15 (hall 15 (by decide))
    obtain rfl := f16 (hall 16 (by decide))
    obtain rfl := f17 (hall 17 (by decide))
    obtain rfl := f18 (hall 18 (by decide))
    obtain ⟨g7, l7, rfl, hg7, -, hB7, hl7⟩ := f1 (hall 1 (by decide))
    clear f0 f1 f2 f3 f4 f5 f6 f7 f8 f9 f10 f11 f12 f13 f14 f15 f16 f17 f18 hall
    go_wp2
    go_ret
    exact ⟨rfl, bCall hbel hW hbel.size⟩
end Go.Proofs.Ytehhipanbjhffaa
