/- AEZ's hash: plus. No condition but that bytes are below 256. -/
import Derived.Test.YtaiffkajkbiidaaGreatDoorW19f
namespace Go.Proofs.YtaiffkajkbiidaaGreatDoor
set_option linter.unusedSimpArgs false
set_option linter.unusedVariables false
set_option linter.unusedSectionVars false
set_option linter.unusedVariables false
open Go.RowKit
def P16 (a b : List Nat) : List Nat := blockN (xorM a b 16)
theorem P16_len (a b : List Nat) : (P16 a b).length = 16 := blockN_len _
theorem xorM_lt {a b : List Nat} (ha : ∀ x ∈ a, x < 256) (hb : ∀ x ∈ b, x < 256) (n : Nat) : ∀ x ∈ xorM a b n, x < 256 := fun x hx => by
  unfold xorM at hx
  obtain ⟨i, -, rfl⟩ := List.mem_map.1 hx
  exact Nat.xor_lt_two_pow (n := 8) (getD_bound ha (by decide) i) (getD_bound hb (by decide) i)
theorem P16_lt {a b : List Nat} (ha : ∀ x ∈ a, x < 256) (hb : ∀ x ∈ b, x < 256) : ∀ x ∈ P16 a b, x < 256 := blockN_lt (xorM_lt ha hb 16)
set_option maxRecDepth 100000 in
set_option maxHeartbeats 8000000 in
theorem hplus_c (x y : List Nat) (hx : x.length = 16) (hy : y.length = 16) (hxb : ∀ z ∈ x, z < 256) (hyb : ∀ z ∈ y, z < 256) (w : World) :
    Calls Tryz.prog 184 #[.agg (ints .u8 x), .agg (ints .u8 y)] w fun e w' => e = .returned (.agg (ints .u8 (P16 x y))) ∧ Below w.heap.size w w' := by
  have X0 := ((Blk.new w 96 (ints .u8 x)).alloc (.cells (ints .u8 y) 96)).alloc (.cells (ints .u8 (zeros 16)) 96)
  have Y0 := (Blk.new (w.alloc (.cells (ints .u8 x) 96)) 96 (ints .u8 y)).alloc (.cells (ints .u8 (zeros 16)) 96)
  have R0 := Blk.new ((w.alloc (.cells (ints .u8 x) 96)).alloc (.cells (ints .u8 y) 96)) 96 (ints .u8 (zeros 16))
  simp only [World.size_alloc, Nat.add_assoc, Nat.reduceAdd] at Y0 R0
  have hbel0 := (((Below.refl w.heap.size w).alloc (Nat.le_refl _) (.cells (ints .u8 x) 96)).alloc (by simp) (.cells (ints .u8 y) 96)).alloc (by simp; omega) (.cells (ints .u8 (zeros 16)) 96)
  go_enter Tryz.func184, Tryz.ntmps184
  go_wp2_with (first | (refine wpList_alloc_ints rfl 96 rfl Tryz.z96 ?_; (try simp only [Act.put, List.setIfInBounds_toArray, List.set_cons_zero, List.set_cons_succ, World.size_alloc, setRow_size, Nat.add_assoc, Nat.reduceAdd])))
  generalize (((w.alloc (.cells (ints .u8 x) 96)).alloc (.cells (ints .u8 y) 96)).alloc (.cells (ints .u8 (zeros 16)) 96)) = w0 at *
  have LX : ∀ W, Below w0.heap.size w0 W → Calls Tryz.prog 42 #[.slice (some ⟨w.heap.size, 0, none⟩) 16 16, .slice (some ⟨w.heap.size + 1, 0, none⟩) 16 16] W fun e w' => e = .returned (.slice (some ⟨W.heap.size, 0, none⟩) 16 16) ∧ Below W.heap.size W w' ∧ Blk w' W.heap.size 5 (ints .u8 (xorM x y 16)) := fun W hW => by
    have h := xor_c (some ⟨w.heap.size, 0, none⟩) (some ⟨w.heap.size + 1, 0, none⟩) 16 16 16 x y (by decide) hx (by omega) (by omega) hxb hyb W ((Sl.blk X0).below hW) ((Sl.blk Y0).below hW)
    rw [hy] at h
    exact h
  have hXl := xorM_len x y 16
  have LB : ∀ (g : Nat) (W : World), Blk W g 5 (ints .u8 (xorM x y 16)) → Calls Tryz.prog 38 #[.slice (some ⟨g, 0, none⟩) 16 16] W fun e w' => e = .returned (.agg (ints .u8 (P16 x y))) ∧ Below W.heap.size W w' := fun g W hB => by
    have h := block_c (some ⟨g, 0, none⟩) 16 (xorM x y 16) W (Sl.blk hB)
    rw [hXl] at h
    exact h
  have hPl := P16_len x y
  obtain ⟨Q, HQ⟩ : ∃ Q, Hid (P16 x y = Q) := ⟨_, Lib.hid rfl⟩
  rw [HQ.out] at LB hPl
  generalize xorM x y 16 = X at *
  refine wp_region_itail 4 (by kernel_rfl) (by kernel_rfl) (by kernel_rfl) (by kernel_rfl) (fun D act_ W => ∃ u5 u6 u7 u8 : Value, act_ = { tmps := #[.agg (ints .u8 x), .agg (ints .u8 y), .pointer (some ⟨w.heap.size, 0, none⟩), .pointer (some ⟨w.heap.size + 1, 0, none⟩), .pointer (some ⟨w.heap.size + 2, 0, none⟩), u5, u6, u7, u8], defers := [] } ∧ Below w0.heap.size w0 W ∧ (D 0 → u5 = .slice (some ⟨w.heap.size, 0, none⟩) 16 16) ∧ (D 1 → u6 = .slice (some ⟨w.heap.size + 1, 0, none⟩) 16 16) ∧ (D 2 → AlS W w0.heap.size u7 5 16 .u8 (X)) ∧ (D 3 → u8 = .agg (ints .u8 Q))) ?_ ?_ ?_
  · exact ⟨_, _, _, _, rfl, ⟨rfl, rfl, rfl, Nat.le_refl _, fun _ _ => rfl⟩, (fun h => h.elim), (fun h => h.elim), (fun h => h.elim), (fun h => h.elim)⟩
  · intro i o hilt hi D act_ W hI hnD hall
    obtain ⟨u5, u6, u7, u8, rfl, hW, f0, f1, f2, f3⟩ := hI
    rcases i with _ | _ | _ | _ | i
    · simp only [Nat.zero_add, Nat.reduceAdd, List.getElem?_toArray, List.getElem?_cons_succ, List.getElem?_cons_zero, Option.some.injEq] at hi
      subst hi
      refine wpOp_value (v := .slice (some ⟨w.heap.size, 0, none⟩) 16 16) rfl rfl (by kernel_rfl) ?_
      exact ⟨_, _, _, _, rfl, hW, (fun _ => rfl), (fun h => f1 (h.resolve_left (by decide))), (fun h => f2 (h.resolve_left (by decide))), (fun h => f3 (h.resolve_left (by decide)))⟩
    · simp only [Nat.zero_add, Nat.reduceAdd, List.getElem?_toArray, List.getElem?_cons_succ, List.getElem?_cons_zero, Option.some.injEq] at hi
      subst hi
      refine wpOp_value (v := .slice (some ⟨w.heap.size + 1, 0, none⟩) 16 16) rfl rfl (by kernel_rfl) ?_
      exact ⟨_, _, _, _, rfl, hW, (fun h => f0 (h.resolve_left (by decide))), (fun _ => rfl), (fun h => f2 (h.resolve_left (by decide))), (fun h => f3 (h.resolve_left (by decide)))⟩
    · simp only [Nat.zero_add, Nat.reduceAdd, List.getElem?_toArray, List.getElem?_cons_succ, List.getElem?_cons_zero, Option.some.injEq] at hi
      subst hi
      obtain rfl := f0 (pre_of hall 0 rfl)
      obtain rfl := f1 (pre_of hall 1 rfl)
      refine wpOp_callB 42 rfl rfl rfl Tryz.func42 (by kernel_rfl) (by kernel_rfl) (LX W hW) ?_
      intro W' hW' hT
      exact ⟨_, _, _, _, rfl, bCall hW hW' hW.size, (fun h => f0 (h.resolve_left (by decide))), (fun h => f1 (h.resolve_left (by decide))), (fun _ => ⟨_, rfl, by have := hW.size; omega, hXl, hT⟩), (fun h => f3 (h.resolve_left (by decide)))⟩
    · simp only [Nat.zero_add, Nat.reduceAdd, List.getElem?_toArray, List.getElem?_cons_succ, List.getElem?_cons_zero, Option.some.injEq] at hi
      subst hi
      obtain ⟨g_, rfl, hg_, hl_, hB_⟩ := f2 (pre_of hall 2 rfl)
      refine wpOp_call 38 rfl rfl rfl Tryz.func38 (by kernel_rfl) (by kernel_rfl) (LB g_ W hB_) ?_
      intro W' hW'
      have q2 : AlS W w0.heap.size (.slice (some ⟨g_, 0, none⟩) _ _) _ _ _ _ := ⟨g_, rfl, hg_, hl_, hB_⟩
      exact ⟨_, _, _, _, rfl, bCall hW hW' hW.size, (fun h => f0 (h.resolve_left (by decide))), (fun h => f1 (h.resolve_left (by decide))), (fun _ => q2.below hW'), (fun _ => rfl)⟩
    · exfalso; omega
  · rintro D act_ W ⟨u5, u6, u7, u8, rfl, hW, f0, f1, f2, f3⟩ hall
    obtain rfl := f0 (hall 0 (by decide))
    obtain rfl := f1 (hall 1 (by decide))
    obtain rfl := f3 (hall 3 (by decide))
    obtain ⟨g7, rfl, hg7, hl7, hB7⟩ := f2 (hall 2 (by decide))
    clear f0 f1 f2 f3 hall
    simp only [List.drop_succ_cons, List.drop_zero]
    have R1 := R0.below' hW
    have hbel1 := bCall hbel0 hW hbel0.size
    go_wp2_with (refine wpList_store_ints rfl 96 _ _ rfl _ rfl rfl R1 (zeros_size _ _) Tryz.ar96 hPl ?_; (try simp only [Act.put, List.setIfInBounds_toArray, List.set_cons_zero, List.set_cons_succ, World.size_alloc, setRow_size, Nat.add_assoc, Nat.reduceAdd]))
    exact ret_ints rfl rfl (R1.row _) Tryz.ar96 hPl ⟨by rw [HQ.out], bSetRow hbel1 (by omega) _⟩
end Go.Proofs.YtaiffkajkbiidaaGreatDoor
