/- The walks of PrimeField and PrimeFold. No condition but that parts fit 32 bits. -/
import Derived.Test.YtoijnilbcmdmeaaL7b
namespace Go.Proofs.Ytoijnilbcmdmeaa
set_option linter.unusedSimpArgs false
set_option linter.unusedVariables false
set_option linter.unusedVariables false
open Go.RowKit
theorem fieldN (a b c : Nat) (hc : numOf c ≠ zeros 5) : (numOf (a * c) == numOf (b * c)) = (numOf a == numOf b) := by
  have hc' : c % pp ≠ 0 := by
    intro h
    exact hc ((numOf_congr (v := 0) (by rw [h]; rfl)).trans (by kernel_rfl))
  have h : numOf (a * c) = numOf (b * c) ↔ numOf a = numOf b := by
    rw [numOf_iff, numOf_iff]
    constructor
    · exact pp_cancel hc'
    · intro h; rw [Nat.mul_mod, h, ← Nat.mul_mod]
  by_cases h1 : numOf a = numOf b
  · rw [beq_iff_eq.2 h1, beq_iff_eq.2 (h.2 h1)]
  · rw [beq_eq_false_iff_ne.2 h1, beq_eq_false_iff_ne.2 (fun e => h1 (h.1 e))]
theorem zeroN (a c : Nat) (hc : numOf c = zeros 5) : numOf (a * c) = zeros 5 := by
  have h0 : numOf 0 = zeros 5 := by kernel_rfl
  have h1 : c % pp = 0 % pp := numOf_inj (hc.trans h0.symm)
  rw [← h0]
  refine numOf_congr ?_
  rw [Nat.mul_mod, h1, ← Nat.mul_mod, Nat.mul_zero]
theorem zeros5 : (ints .u32 (zeros 5)) = #[.int .u32 0, .int .u32 0, .int .u32 0, .int .u32 0, .int .u32 0] := by kernel_rfl
set_option maxRecDepth 100000 in
set_option maxHeartbeats 4000000 in
theorem primeField_c (xs ys zs : List Nat) (hl : xs.length = 5) (hb : ∀ x ∈ xs, x < 2 ^ 32) (hl' : ys.length = 5) (hb' : ∀ x ∈ ys, x < 2 ^ 32) (hl3 : zs.length = 5) (hb3 : ∀ x ∈ zs, x < 2 ^ 32) (w : World) :
    Calls Try.prog 6 #[.agg (ints .u32 xs), .agg (ints .u32 ys), .agg (ints .u32 zs)] w fun e w' => e = .returned (.bool true) ∧ Below w.heap.size w w' := by
  have B1 := (((Blk.new w 28 (ints .u32 xs)).alloc (.cells (ints .u32 ys) 28)).alloc (.cells (ints .u32 zs) 28)).alloc (.cells (ints .u32 (zeros 5)) 28)
  have B2 := ((Blk.new (w.alloc (.cells (ints .u32 xs) 28)) 28 (ints .u32 ys)).alloc (.cells (ints .u32 zs) 28)).alloc (.cells (ints .u32 (zeros 5)) 28)
  have B3 := (Blk.new ((w.alloc (.cells (ints .u32 xs) 28)).alloc (.cells (ints .u32 ys) 28)) 28 (ints .u32 zs)).alloc (.cells (ints .u32 (zeros 5)) 28)
  have B4 := Blk.new (((w.alloc (.cells (ints .u32 xs) 28)).alloc (.cells (ints .u32 ys) 28)).alloc (.cells (ints .u32 zs) 28)) 28 (ints .u32 (zeros 5))
  rw [World.size_alloc] at B2
  rw [World.size_alloc, World.size_alloc] at B3
  rw [World.size_alloc, World.size_alloc, World.size_alloc] at B4
  have hbel := ((((Below.refl w.heap.size w).alloc (Nat.le_refl _) (.cells (ints .u32 xs) 28)).alloc (by simp) (.cells (ints .u32 ys) 28)).alloc (by simp; omega) (.cells (ints .u32 zs) 28)).alloc (by simp; omega) (.cells (ints .u32 (zeros 5)) 28)
  have B1 := B1.rowFar (show w.heap.size ≠ w.heap.size + 3 by omega) (ints .u32 (zeros 5))
  have B2 := B2.rowFar (show w.heap.size + 1 ≠ w.heap.size + 1 + 1 + 1 by omega) (ints .u32 (zeros 5))
  have B3 := B3.rowFar (show w.heap.size + 1 + 1 ≠ w.heap.size + 1 + 1 + 1 by omega) (ints .u32 (zeros 5))
  have B5 := B4.row (ints .u32 (zeros 5))
  simp only [Nat.add_assoc, Nat.reduceAdd] at B1 B2 B3 B4 B5
  have hbel := bSetRow hbel (show w.heap.size ≤ w.heap.size + 3 by omega) (ints .u32 (zeros 5))
  go_enter Try.func6, Try.ntmps6
  go_wp2_with (first | (refine wpList_alloc_ints rfl 28 rfl Try.z28 ?_; (try simp only [Act.put, List.setIfInBounds_toArray, List.set_cons_zero, List.set_cons_succ, World.size_alloc, setRow_size, Nat.add_assoc, Nat.reduceAdd])) | (refine wpList_store_ints rfl 28 _ _ rfl (w.heap.size + 3) (k := .u32) (xs := zeros 5) rfl rfl B4 rfl Try.ar28 rfl ?_; (try simp only [Act.put, List.setIfInBounds_toArray, List.set_cons_zero, List.set_cons_succ, World.size_alloc, setRow_size, Nat.add_assoc, Nat.reduceAdd])))
  clear B4
  generalize (((((w.alloc (.cells (ints .u32 xs) 28)).alloc (.cells (ints .u32 ys) 28)).alloc (.cells (ints .u32 zs) 28)).alloc (.cells (ints .u32 (zeros 5)) 28)).setRow (w.heap.size + 3) (ints .u32 (zeros 5))) = w0 at *
  have hlz : (zeros 5).length = 5 := rfl
  by_cases hc : numOf (val zs) = zeros 5
  · have z1 : numOf (val xs * val zs) = zeros 5 := zeroN _ _ hc
    have z2 : numOf (val ys * val zs) = zeros 5 := zeroN _ _ hc
    have Hc := Lib.hid hc
    have Hz1 := Lib.hid z1
    have Hz2 := Lib.hid z2
    clear hc z1 z2
    refine wp_region_below (by kernel_rfl) (by kernel_rfl) ?_
    refine quiet_load rfl rfl rfl B3 Try.ar28 hl3 ?_
    (try simp only [Act.put, List.setIfInBounds_toArray, List.set_cons_zero, List.set_cons_succ, World.size_alloc, setRow_size, Nat.add_assoc, Nat.reduceAdd])
    refine quiet_call 35 rfl rfl Try.func35 (by kernel_rfl) (by kernel_rfl) (fun W _ => form_c zs hl3 hb3 W) ?_
    (try simp only [Act.put, List.setIfInBounds_toArray, List.set_cons_zero, List.set_cons_succ, World.size_alloc, setRow_size, Nat.add_assoc, Nat.reduceAdd])
    refine quiet_load rfl rfl rfl B5 Try.ar28 hlz ?_
    (try simp only [Act.put, List.setIfInBounds_toArray, List.set_cons_zero, List.set_cons_succ, World.size_alloc, setRow_size, Nat.add_assoc, Nat.reduceAdd])
    refine quiet_eql rfl rfl rfl rfl Try.eg28 (numSame _ _ (numOf_len _) Hc.out) ?_
    (try simp only [Act.put, List.setIfInBounds_toArray, List.set_cons_zero, List.set_cons_succ, World.size_alloc, setRow_size, Nat.add_assoc, Nat.reduceAdd])
    refine wpQuiet_nil ?_
    intro w' hw'
    have C1 := B1.below' hw'
    have C2 := B2.below' hw'
    have C3 := B3.below' hw'
    have C5 := B5.below' hw'
    have hbel1 := bCall hbel hw' hbel.size
    clear B1 B2 B3 B5 hw'
    generalize w' = w1 at *
    go_wp2
    refine wp_region_below (by kernel_rfl) (by kernel_rfl) ?_
    refine quiet_load rfl rfl rfl C1 Try.ar28 hl ?_
    (try simp only [Act.put, List.setIfInBounds_toArray, List.set_cons_zero, List.set_cons_succ, World.size_alloc, setRow_size, Nat.add_assoc, Nat.reduceAdd])
    refine quiet_load rfl rfl rfl C3 Try.ar28 hl3 ?_
    (try simp only [Act.put, List.setIfInBounds_toArray, List.set_cons_zero, List.set_cons_succ, World.size_alloc, setRow_size, Nat.add_assoc, Nat.reduceAdd])
    refine quiet_call 37 rfl rfl Try.func37 (by kernel_rfl) (by kernel_rfl) (fun W _ => times_c xs zs hl hb hl3 hb3 W) ?_
    (try simp only [Act.put, List.setIfInBounds_toArray, List.set_cons_zero, List.set_cons_succ, World.size_alloc, setRow_size, Nat.add_assoc, Nat.reduceAdd])
    refine quiet_load rfl rfl rfl C5 Try.ar28 hlz ?_
    (try simp only [Act.put, List.setIfInBounds_toArray, List.set_cons_zero, List.set_cons_succ, World.size_alloc, setRow_size, Nat.add_assoc, Nat.reduceAdd])
    refine quiet_eql rfl rfl rfl rfl Try.eg28 (numSame _ _ (numOf_len _) Hz1.out) ?_
    (try simp only [Act.put, List.setIfInBounds_toArray, List.set_cons_zero, List.set_cons_succ, World.size_alloc, setRow_size, Nat.add_assoc, Nat.reduceAdd])
    refine quiet_move rfl rfl rfl ?_
    (try simp only [Act.put, List.setIfInBounds_toArray, List.set_cons_zero, List.set_cons_succ, World.size_alloc, setRow_size, Nat.add_assoc, Nat.reduceAdd])
    refine quiet_load rfl rfl rfl C2 Try.ar28 hl' ?_
    (try simp only [Act.put, List.setIfInBounds_toArray, List.set_cons_zero, List.set_cons_succ, World.size_alloc, setRow_size, Nat.add_assoc, Nat.reduceAdd])
    refine quiet_load rfl rfl rfl C3 Try.ar28 hl3 ?_
    (try simp only [Act.put, List.setIfInBounds_toArray, List.set_cons_zero, List.set_cons_succ, World.size_alloc, setRow_size, Nat.add_assoc, Nat.reduceAdd])
    refine quiet_call 37 rfl rfl Try.func37 (by kernel_rfl) (by kernel_rfl) (fun W _ => times_c ys zs hl' hb' hl3 hb3 W) ?_
    (try simp only [Act.put, List.setIfInBounds_toArray, List.set_cons_zero, List.set_cons_succ, World.size_alloc, setRow_size, Nat.add_assoc, Nat.reduceAdd])
    refine quiet_load rfl rfl rfl C5 Try.ar28 hlz ?_
    (try simp only [Act.put, List.setIfInBounds_toArray, List.set_cons_zero, List.set_cons_succ, World.size_alloc, setRow_size, Nat.add_assoc, Nat.reduceAdd])
    refine quiet_eql rfl rfl rfl rfl Try.eg28 (numSame _ _ (numOf_len _) Hz2.out) ?_
    (try simp only [Act.put, List.setIfInBounds_toArray, List.set_cons_zero, List.set_cons_succ, World.size_alloc, setRow_size, Nat.add_assoc, Nat.reduceAdd])
    refine quiet_pickt (by rfl) (by rfl) (by rfl) (by rfl) (by rfl) ?_
    (try simp only [Act.put, List.setIfInBounds_toArray, List.set_cons_zero, List.set_cons_succ, World.size_alloc, setRow_size, Nat.add_assoc, Nat.reduceAdd])
    refine quiet_move rfl rfl rfl ?_
    (try simp only [Act.put, List.setIfInBounds_toArray, List.set_cons_zero, List.set_cons_succ, World.size_alloc, setRow_size, Nat.add_assoc, Nat.reduceAdd])
    refine quiet_call 34 rfl rfl Try.func34 (by kernel_rfl) (by kernel_rfl) (fun W _ => awake7_c W) ?_
    (try simp only [Act.put, List.setIfInBounds_toArray, List.set_cons_zero, List.set_cons_succ, World.size_alloc, setRow_size, Nat.add_assoc, Nat.reduceAdd])
    refine quiet_pickt (by rfl) (by rfl) (by rfl) (by rfl) (by rfl) ?_
    (try simp only [Act.put, List.setIfInBounds_toArray, List.set_cons_zero, List.set_cons_succ, World.size_alloc, setRow_size, Nat.add_assoc, Nat.reduceAdd])
    refine quiet_assign rfl rfl rfl ?_
    (try simp only [Act.put, List.setIfInBounds_toArray, List.set_cons_zero, List.set_cons_succ, World.size_alloc, setRow_size, Nat.add_assoc, Nat.reduceAdd])
    refine wpQuiet_nil ?_
    intro w' hw'
    go_wp2
    go_ret
    exact ⟨rfl, bCall hbel1 hw' hbel1.size⟩
  · have hcF : ∀ W, (binOp .eql 28 (.agg (ints .u32 (numOf (val zs)))) (.agg (ints .u32 (zeros 5)))).run Try.prog W = .ok (.bool false) W := fun W => by
      rw [numEq _ _ (numOf_len _) rfl, beq_eq_false_iff_ne.2 hc]
    obtain ⟨b, hE1, hE2⟩ : ∃ b, (∀ W, (binOp .eql 28 (.agg (ints .u32 (numOf (val xs * val zs)))) (.agg (ints .u32 (numOf (val ys * val zs))))).run Try.prog W = .ok (.bool b) W) ∧ (∀ W, (binOp .eql 28 (.agg (ints .u32 (numOf (val xs)))) (.agg (ints .u32 (numOf (val ys))))).run Try.prog W = .ok (.bool b) W) :=
      ⟨_, fun W => (numEq _ _ (numOf_len _) (numOf_len _) W).trans (by rw [fieldN _ _ _ hc]), fun W => numEq _ _ (numOf_len _) (numOf_len _) W⟩
    clear hc
    refine wp_region_below (by kernel_rfl) (by kernel_rfl) ?_
    refine quiet_load rfl rfl rfl B3 Try.ar28 hl3 ?_
    (try simp only [Act.put, List.setIfInBounds_toArray, List.set_cons_zero, List.set_cons_succ, World.size_alloc, setRow_size, Nat.add_assoc, Nat.reduceAdd])
    refine quiet_call 35 rfl rfl Try.func35 (by kernel_rfl) (by kernel_rfl) (fun W _ => form_c zs hl3 hb3 W) ?_
    (try simp only [Act.put, List.setIfInBounds_toArray, List.set_cons_zero, List.set_cons_succ, World.size_alloc, setRow_size, Nat.add_assoc, Nat.reduceAdd])
    refine quiet_load rfl rfl rfl B5 Try.ar28 hlz ?_
    (try simp only [Act.put, List.setIfInBounds_toArray, List.set_cons_zero, List.set_cons_succ, World.size_alloc, setRow_size, Nat.add_assoc, Nat.reduceAdd])
    refine quiet_eql rfl rfl rfl rfl Try.eg28 hcF ?_
    (try simp only [Act.put, List.setIfInBounds_toArray, List.set_cons_zero, List.set_cons_succ, World.size_alloc, setRow_size, Nat.add_assoc, Nat.reduceAdd])
    refine wpQuiet_nil ?_
    intro w' hw'
    have C1 := B1.below' hw'
    have C2 := B2.below' hw'
    have C3 := B3.below' hw'
    have hbel1 := bCall hbel hw' hbel.size
    clear B1 B2 B3 B5 hw'
    generalize w' = w1 at *
    go_wp2
    cases b
    all_goals
      refine wp_region_below (by kernel_rfl) (by kernel_rfl) ?_
      refine quiet_load rfl rfl rfl C1 Try.ar28 hl ?_
      (try simp only [Act.put, List.setIfInBounds_toArray, List.set_cons_zero, List.set_cons_succ, World.size_alloc, setRow_size, Nat.add_assoc, Nat.reduceAdd])
      refine quiet_load rfl rfl rfl C3 Try.ar28 hl3 ?_
      (try simp only [Act.put, List.setIfInBounds_toArray, List.set_cons_zero, List.set_cons_succ, World.size_alloc, setRow_size, Nat.add_assoc, Nat.reduceAdd])
      refine quiet_call 37 rfl rfl Try.func37 (by kernel_rfl) (by kernel_rfl) (fun W _ => times_c xs zs hl hb hl3 hb3 W) ?_
      (try simp only [Act.put, List.setIfInBounds_toArray, List.set_cons_zero, List.set_cons_succ, World.size_alloc, setRow_size, Nat.add_assoc, Nat.reduceAdd])
      refine quiet_load rfl rfl rfl C2 Try.ar28 hl' ?_
      (try simp only [Act.put, List.setIfInBounds_toArray, List.set_cons_zero, List.set_cons_succ, World.size_alloc, setRow_size, Nat.add_assoc, Nat.reduceAdd])
      refine quiet_load rfl rfl rfl C3 Try.ar28 hl3 ?_
      (try simp only [Act.put, List.setIfInBounds_toArray, List.set_cons_zero, List.set_cons_succ, World.size_alloc, setRow_size, Nat.add_assoc, Nat.reduceAdd])
      refine quiet_call 37 rfl rfl Try.func37 (by kernel_rfl) (by kernel_rfl) (fun W _ => times_c ys zs hl' hb' hl3 hb3 W) ?_
      (try simp only [Act.put, List.setIfInBounds_toArray, List.set_cons_zero, List.set_cons_succ, World.size_alloc, setRow_size, Nat.add_assoc, Nat.reduceAdd])
      refine quiet_eql rfl rfl rfl rfl Try.eg28 hE1 ?_
      (try simp only [Act.put, List.setIfInBounds_toArray, List.set_cons_zero, List.set_cons_succ, World.size_alloc, setRow_size, Nat.add_assoc, Nat.reduceAdd])
      refine quiet_load rfl rfl rfl C1 Try.ar28 hl ?_
      (try simp only [Act.put, List.setIfInBounds_toArray, List.set_cons_zero, List.set_cons_succ, World.size_alloc, setRow_size, Nat.add_assoc, Nat.reduceAdd])
      refine quiet_call 35 rfl rfl Try.func35 (by kernel_rfl) (by kernel_rfl) (fun W _ => form_c xs hl hb W) ?_
      (try simp only [Act.put, List.setIfInBounds_toArray, List.set_cons_zero, List.set_cons_succ, World.size_alloc, setRow_size, Nat.add_assoc, Nat.reduceAdd])
      refine quiet_load rfl rfl rfl C2 Try.ar28 hl' ?_
      (try simp only [Act.put, List.setIfInBounds_toArray, List.set_cons_zero, List.set_cons_succ, World.size_alloc, setRow_size, Nat.add_assoc, Nat.reduceAdd])
      refine quiet_call 35 rfl rfl Try.func35 (by kernel_rfl) (by kernel_rfl) (fun W _ => form_c ys hl' hb' W) ?_
      (try simp only [Act.put, List.setIfInBounds_toArray, List.set_cons_zero, List.set_cons_succ, World.size_alloc, setRow_size, Nat.add_assoc, Nat.reduceAdd])
      refine quiet_eql rfl rfl rfl rfl Try.eg28 hE2 ?_
      (try simp only [Act.put, List.setIfInBounds_toArray, List.set_cons_zero, List.set_cons_succ, World.size_alloc, setRow_size, Nat.add_assoc, Nat.reduceAdd])
      refine quiet_eqlBool rfl rfl rfl rfl Try.underlying4 ?_
      (try simp only [Act.put, List.setIfInBounds_toArray, List.set_cons_zero, List.set_cons_succ, World.size_alloc, setRow_size, Nat.add_assoc, Nat.reduceAdd])
      refine quiet_move rfl rfl rfl ?_
      (try simp only [Act.put, List.setIfInBounds_toArray, List.set_cons_zero, List.set_cons_succ, World.size_alloc, setRow_size, Nat.add_assoc, Nat.reduceAdd])
      refine quiet_call 34 rfl rfl Try.func34 (by kernel_rfl) (by kernel_rfl) (fun W _ => awake7_c W) ?_
      (try simp only [Act.put, List.setIfInBounds_toArray, List.set_cons_zero, List.set_cons_succ, World.size_alloc, setRow_size, Nat.add_assoc, Nat.reduceAdd])
      refine quiet_pickt (by rfl) (by rfl) (by rfl) (by rfl) (by rfl) ?_
      (try simp only [Act.put, List.setIfInBounds_toArray, List.set_cons_zero, List.set_cons_succ, World.size_alloc, setRow_size, Nat.add_assoc, Nat.reduceAdd])
      refine quiet_assign rfl rfl rfl ?_
      (try simp only [Act.put, List.setIfInBounds_toArray, List.set_cons_zero, List.set_cons_succ, World.size_alloc, setRow_size, Nat.add_assoc, Nat.reduceAdd])
      refine wpQuiet_nil ?_
      intro w' hw'
      go_wp2
      go_ret
      exact ⟨rfl, bCall hbel1 hw' hbel1.size⟩
end Go.Proofs.Ytoijnilbcmdmeaa
