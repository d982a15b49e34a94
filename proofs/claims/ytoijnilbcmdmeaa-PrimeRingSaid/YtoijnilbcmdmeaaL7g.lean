/- The walk of PrimeRing. No condition but that parts fit 32 bits. -/
import Derived.Test.YtoijnilbcmdmeaaL7f
namespace Go.Proofs.Ytoijnilbcmdmeaa
set_option linter.unusedSimpArgs false
set_option linter.unusedVariables false
set_option linter.unusedSectionVars false
set_option linter.unusedVariables false
open Go.RowKit
theorem pp_add (a b : Nat) : numOf (a % pp + b) = numOf (a + b) := numOf_congr (by rw [Nat.add_mod, Nat.mod_mod, ← Nat.add_mod])
theorem pp_mul (a b : Nat) : numOf (a % pp * b) = numOf (a * b) := numOf_congr (by rw [Nat.mul_mod, Nat.mod_mod, ← Nat.mul_mod])
theorem pp_add' (a b : Nat) : numOf (a + b % pp) = numOf (a + b) := by rw [Nat.add_comm, pp_add, Nat.add_comm]
theorem pp_mul' (a b : Nat) : numOf (a * (b % pp)) = numOf (a * b) := by rw [Nat.mul_comm, pp_mul, Nat.mul_comm]
theorem valOne : val [1, 0, 0, 0, 0] = 1 := by kernel_rfl
theorem lt26 {v : Nat} : ∀ x ∈ numOf v, x < 67108864 := numOf_lt v
set_option maxRecDepth 100000 in
set_option maxHeartbeats 8000000 in
theorem primeRing_c (xs ys zs : List Nat) (hl : xs.length = 5) (hb : ∀ x ∈ xs, x < 2 ^ 32) (hl' : ys.length = 5) (hb' : ∀ x ∈ ys, x < 2 ^ 32) (hl3 : zs.length = 5) (hb3 : ∀ x ∈ zs, x < 2 ^ 32) (w : World) :
    Calls Try.prog 14 #[.agg (ints .u32 xs), .agg (ints .u32 ys), .agg (ints .u32 zs)] w fun e w' => e = .returned (.bool true) ∧ Below w.heap.size w w' := by
  have E1 := Lib.hid (show numOf (val xs + val ys) = numOf (val ys + val xs) by rw [Nat.add_comm])
  have E2 := Lib.hid (show numOf (val (numOf (val xs + val ys)) + val zs) = numOf (val xs + val (numOf (val ys + val zs))) by rw [val_numOf, val_numOf, pp_add, pp_add', Nat.add_assoc])
  have E3 := Lib.hid (show numOf (val xs * val ys) = numOf (val ys * val xs) by rw [Nat.mul_comm])
  have E4 := Lib.hid (show numOf (val (numOf (val xs * val ys)) * val zs) = numOf (val xs * val (numOf (val ys * val zs))) by rw [val_numOf, val_numOf, pp_mul, pp_mul', Nat.mul_assoc])
  have E5 := Lib.hid (show numOf (val (numOf (val xs + val ys)) * val zs) = numOf (val (numOf (val xs * val zs)) + val (numOf (val ys * val zs))) by rw [val_numOf, val_numOf, val_numOf, pp_mul, pp_add, pp_add', Nat.add_mul])
  have E6 := Lib.hid (show numOf (val xs * val [1, 0, 0, 0, 0]) = numOf (val xs) by rw [valOne, Nat.mul_one])
  have B1 := ((Blk.new w 28 (ints .u32 xs)).alloc (.cells (ints .u32 ys) 28)).alloc (.cells (ints .u32 zs) 28)
  have B2 := (Blk.new (w.alloc (.cells (ints .u32 xs) 28)) 28 (ints .u32 ys)).alloc (.cells (ints .u32 zs) 28)
  have B3 := Blk.new ((w.alloc (.cells (ints .u32 xs) 28)).alloc (.cells (ints .u32 ys) 28)) 28 (ints .u32 zs)
  rw [World.size_alloc] at B2
  rw [World.size_alloc, World.size_alloc] at B3
  have hbel := (((Below.refl w.heap.size w).alloc (Nat.le_refl _) (.cells (ints .u32 xs) 28)).alloc (by simp) (.cells (ints .u32 ys) 28)).alloc (by simp; omega) (.cells (ints .u32 zs) 28)
  simp only [Nat.add_assoc, Nat.reduceAdd] at B1 B2 B3
  go_enter Try.func14, Try.ntmps14
  go_wp2
  generalize (((w.alloc (.cells (ints .u32 xs) 28)).alloc (.cells (ints .u32 ys) 28)).alloc (.cells (ints .u32 zs) 28)) = w0 at *
  refine wp_region_below (by kernel_rfl) (by kernel_rfl) ?_
  refine quiet_load rfl rfl rfl B1 Try.ar28 hl ?_
  (try simp only [Act.put, List.setIfInBounds_toArray, List.set_cons_zero, List.set_cons_succ, World.size_alloc, setRow_size, Nat.add_assoc, Nat.reduceAdd])
  refine quiet_load rfl rfl rfl B2 Try.ar28 hl' ?_
  (try simp only [Act.put, List.setIfInBounds_toArray, List.set_cons_zero, List.set_cons_succ, World.size_alloc, setRow_size, Nat.add_assoc, Nat.reduceAdd])
  refine quiet_call 32 rfl rfl Try.func32 (by kernel_rfl) (by kernel_rfl) (fun W _ => plus_c xs ys hl hb hl' hb' W) ?_
  (try simp only [Act.put, List.setIfInBounds_toArray, List.set_cons_zero, List.set_cons_succ, World.size_alloc, setRow_size, Nat.add_assoc, Nat.reduceAdd])
  refine quiet_load rfl rfl rfl B2 Try.ar28 hl' ?_
  (try simp only [Act.put, List.setIfInBounds_toArray, List.set_cons_zero, List.set_cons_succ, World.size_alloc, setRow_size, Nat.add_assoc, Nat.reduceAdd])
  refine quiet_load rfl rfl rfl B1 Try.ar28 hl ?_
  (try simp only [Act.put, List.setIfInBounds_toArray, List.set_cons_zero, List.set_cons_succ, World.size_alloc, setRow_size, Nat.add_assoc, Nat.reduceAdd])
  refine quiet_call 32 rfl rfl Try.func32 (by kernel_rfl) (by kernel_rfl) (fun W _ => plus_c ys xs hl' hb' hl hb W) ?_
  (try simp only [Act.put, List.setIfInBounds_toArray, List.set_cons_zero, List.set_cons_succ, World.size_alloc, setRow_size, Nat.add_assoc, Nat.reduceAdd])
  refine quiet_neq rfl rfl rfl rfl Try.eg28 (numDiff _ _ (numOf_len _) E1.out) ?_
  (try simp only [Act.put, List.setIfInBounds_toArray, List.set_cons_zero, List.set_cons_succ, World.size_alloc, setRow_size, Nat.add_assoc, Nat.reduceAdd])
  refine quiet_move rfl rfl rfl ?_
  (try simp only [Act.put, List.setIfInBounds_toArray, List.set_cons_zero, List.set_cons_succ, World.size_alloc, setRow_size, Nat.add_assoc, Nat.reduceAdd])
  refine quiet_load rfl rfl rfl B1 Try.ar28 hl ?_
  (try simp only [Act.put, List.setIfInBounds_toArray, List.set_cons_zero, List.set_cons_succ, World.size_alloc, setRow_size, Nat.add_assoc, Nat.reduceAdd])
  refine quiet_load rfl rfl rfl B2 Try.ar28 hl' ?_
  (try simp only [Act.put, List.setIfInBounds_toArray, List.set_cons_zero, List.set_cons_succ, World.size_alloc, setRow_size, Nat.add_assoc, Nat.reduceAdd])
  refine quiet_call 32 rfl rfl Try.func32 (by kernel_rfl) (by kernel_rfl) (fun W _ => plus_c xs ys hl hb hl' hb' W) ?_
  (try simp only [Act.put, List.setIfInBounds_toArray, List.set_cons_zero, List.set_cons_succ, World.size_alloc, setRow_size, Nat.add_assoc, Nat.reduceAdd])
  refine quiet_load rfl rfl rfl B3 Try.ar28 hl3 ?_
  (try simp only [Act.put, List.setIfInBounds_toArray, List.set_cons_zero, List.set_cons_succ, World.size_alloc, setRow_size, Nat.add_assoc, Nat.reduceAdd])
  refine quiet_call 32 rfl rfl Try.func32 (by kernel_rfl) (by kernel_rfl) (fun W _ => plus_c _ zs (numOf_len _) lt32 hl3 hb3 W) ?_
  (try simp only [Act.put, List.setIfInBounds_toArray, List.set_cons_zero, List.set_cons_succ, World.size_alloc, setRow_size, Nat.add_assoc, Nat.reduceAdd])
  refine quiet_load rfl rfl rfl B1 Try.ar28 hl ?_
  (try simp only [Act.put, List.setIfInBounds_toArray, List.set_cons_zero, List.set_cons_succ, World.size_alloc, setRow_size, Nat.add_assoc, Nat.reduceAdd])
  refine quiet_load rfl rfl rfl B2 Try.ar28 hl' ?_
  (try simp only [Act.put, List.setIfInBounds_toArray, List.set_cons_zero, List.set_cons_succ, World.size_alloc, setRow_size, Nat.add_assoc, Nat.reduceAdd])
  refine quiet_load rfl rfl rfl B3 Try.ar28 hl3 ?_
  (try simp only [Act.put, List.setIfInBounds_toArray, List.set_cons_zero, List.set_cons_succ, World.size_alloc, setRow_size, Nat.add_assoc, Nat.reduceAdd])
  refine quiet_call 32 rfl rfl Try.func32 (by kernel_rfl) (by kernel_rfl) (fun W _ => plus_c ys zs hl' hb' hl3 hb3 W) ?_
  (try simp only [Act.put, List.setIfInBounds_toArray, List.set_cons_zero, List.set_cons_succ, World.size_alloc, setRow_size, Nat.add_assoc, Nat.reduceAdd])
  refine quiet_call 32 rfl rfl Try.func32 (by kernel_rfl) (by kernel_rfl) (fun W _ => plus_c xs _ hl hb (numOf_len _) lt32 W) ?_
  (try simp only [Act.put, List.setIfInBounds_toArray, List.set_cons_zero, List.set_cons_succ, World.size_alloc, setRow_size, Nat.add_assoc, Nat.reduceAdd])
  refine quiet_neq rfl rfl rfl rfl Try.eg28 (numDiff _ _ (numOf_len _) E2.out) ?_
  (try simp only [Act.put, List.setIfInBounds_toArray, List.set_cons_zero, List.set_cons_succ, World.size_alloc, setRow_size, Nat.add_assoc, Nat.reduceAdd])
  refine quiet_pickf (by rfl) (by rfl) (by rfl) (by rfl) (by rfl) ?_
  (try simp only [Act.put, List.setIfInBounds_toArray, List.set_cons_zero, List.set_cons_succ, World.size_alloc, setRow_size, Nat.add_assoc, Nat.reduceAdd])
  refine quiet_move rfl rfl rfl ?_
  (try simp only [Act.put, List.setIfInBounds_toArray, List.set_cons_zero, List.set_cons_succ, World.size_alloc, setRow_size, Nat.add_assoc, Nat.reduceAdd])
  refine quiet_load rfl rfl rfl B1 Try.ar28 hl ?_
  (try simp only [Act.put, List.setIfInBounds_toArray, List.set_cons_zero, List.set_cons_succ, World.size_alloc, setRow_size, Nat.add_assoc, Nat.reduceAdd])
  refine quiet_load rfl rfl rfl B2 Try.ar28 hl' ?_
  (try simp only [Act.put, List.setIfInBounds_toArray, List.set_cons_zero, List.set_cons_succ, World.size_alloc, setRow_size, Nat.add_assoc, Nat.reduceAdd])
  refine quiet_call 37 rfl rfl Try.func37 (by kernel_rfl) (by kernel_rfl) (fun W _ => times_c xs ys hl hb hl' hb' W) ?_
  (try simp only [Act.put, List.setIfInBounds_toArray, List.set_cons_zero, List.set_cons_succ, World.size_alloc, setRow_size, Nat.add_assoc, Nat.reduceAdd])
  refine quiet_load rfl rfl rfl B2 Try.ar28 hl' ?_
  (try simp only [Act.put, List.setIfInBounds_toArray, List.set_cons_zero, List.set_cons_succ, World.size_alloc, setRow_size, Nat.add_assoc, Nat.reduceAdd])
  refine quiet_load rfl rfl rfl B1 Try.ar28 hl ?_
  (try simp only [Act.put, List.setIfInBounds_toArray, List.set_cons_zero, List.set_cons_succ, World.size_alloc, setRow_size, Nat.add_assoc, Nat.reduceAdd])
  refine quiet_call 37 rfl rfl Try.func37 (by kernel_rfl) (by kernel_rfl) (fun W _ => times_c ys xs hl' hb' hl hb W) ?_
  (try simp only [Act.put, List.setIfInBounds_toArray, List.set_cons_zero, List.set_cons_succ, World.size_alloc, setRow_size, Nat.add_assoc, Nat.reduceAdd])
  refine quiet_neq rfl rfl rfl rfl Try.eg28 (numDiff _ _ (numOf_len _) E3.out) ?_
  (try simp only [Act.put, List.setIfInBounds_toArray, List.set_cons_zero, List.set_cons_succ, World.size_alloc, setRow_size, Nat.add_assoc, Nat.reduceAdd])
  refine quiet_pickf (by rfl) (by rfl) (by rfl) (by rfl) (by rfl) ?_
  (try simp only [Act.put, List.setIfInBounds_toArray, List.set_cons_zero, List.set_cons_succ, World.size_alloc, setRow_size, Nat.add_assoc, Nat.reduceAdd])
  refine quiet_move rfl rfl rfl ?_
  (try simp only [Act.put, List.setIfInBounds_toArray, List.set_cons_zero, List.set_cons_succ, World.size_alloc, setRow_size, Nat.add_assoc, Nat.reduceAdd])
  refine quiet_load rfl rfl rfl B1 Try.ar28 hl ?_
  (try simp only [Act.put, List.setIfInBounds_toArray, List.set_cons_zero, List.set_cons_succ, World.size_alloc, setRow_size, Nat.add_assoc, Nat.reduceAdd])
  refine quiet_load rfl rfl rfl B2 Try.ar28 hl' ?_
  (try simp only [Act.put, List.setIfInBounds_toArray, List.set_cons_zero, List.set_cons_succ, World.size_alloc, setRow_size, Nat.add_assoc, Nat.reduceAdd])
  refine quiet_call 37 rfl rfl Try.func37 (by kernel_rfl) (by kernel_rfl) (fun W _ => times_c xs ys hl hb hl' hb' W) ?_
  (try simp only [Act.put, List.setIfInBounds_toArray, List.set_cons_zero, List.set_cons_succ, World.size_alloc, setRow_size, Nat.add_assoc, Nat.reduceAdd])
  refine quiet_load rfl rfl rfl B3 Try.ar28 hl3 ?_
  (try simp only [Act.put, List.setIfInBounds_toArray, List.set_cons_zero, List.set_cons_succ, World.size_alloc, setRow_size, Nat.add_assoc, Nat.reduceAdd])
  refine quiet_call 37 rfl rfl Try.func37 (by kernel_rfl) (by kernel_rfl) (fun W _ => times_c _ zs (numOf_len _) lt32 hl3 hb3 W) ?_
  (try simp only [Act.put, List.setIfInBounds_toArray, List.set_cons_zero, List.set_cons_succ, World.size_alloc, setRow_size, Nat.add_assoc, Nat.reduceAdd])
  refine quiet_load rfl rfl rfl B1 Try.ar28 hl ?_
  (try simp only [Act.put, List.setIfInBounds_toArray, List.set_cons_zero, List.set_cons_succ, World.size_alloc, setRow_size, Nat.add_assoc, Nat.reduceAdd])
  refine quiet_load rfl rfl rfl B2 Try.ar28 hl' ?_
  (try simp only [Act.put, List.setIfInBounds_toArray, List.set_cons_zero, List.set_cons_succ, World.size_alloc, setRow_size, Nat.add_assoc, Nat.reduceAdd])
  refine quiet_load rfl rfl rfl B3 Try.ar28 hl3 ?_
  (try simp only [Act.put, List.setIfInBounds_toArray, List.set_cons_zero, List.set_cons_succ, World.size_alloc, setRow_size, Nat.add_assoc, Nat.reduceAdd])
  refine quiet_call 37 rfl rfl Try.func37 (by kernel_rfl) (by kernel_rfl) (fun W _ => times_c ys zs hl' hb' hl3 hb3 W) ?_
  (try simp only [Act.put, List.setIfInBounds_toArray, List.set_cons_zero, List.set_cons_succ, World.size_alloc, setRow_size, Nat.add_assoc, Nat.reduceAdd])
  refine quiet_call 37 rfl rfl Try.func37 (by kernel_rfl) (by kernel_rfl) (fun W _ => times_c xs _ hl hb (numOf_len _) lt32 W) ?_
  (try simp only [Act.put, List.setIfInBounds_toArray, List.set_cons_zero, List.set_cons_succ, World.size_alloc, setRow_size, Nat.add_assoc, Nat.reduceAdd])
  refine quiet_neq rfl rfl rfl rfl Try.eg28 (numDiff _ _ (numOf_len _) E4.out) ?_
  (try simp only [Act.put, List.setIfInBounds_toArray, List.set_cons_zero, List.set_cons_succ, World.size_alloc, setRow_size, Nat.add_assoc, Nat.reduceAdd])
  refine quiet_pickf (by rfl) (by rfl) (by rfl) (by rfl) (by rfl) ?_
  (try simp only [Act.put, List.setIfInBounds_toArray, List.set_cons_zero, List.set_cons_succ, World.size_alloc, setRow_size, Nat.add_assoc, Nat.reduceAdd])
  refine wpQuiet_nil ?_
  intro w' hw'
  have C1 := (B1.below' hw').alloc (.cells (ints .u32 (zeros 5)) 28)
  have C2 := (B2.below' hw').alloc (.cells (ints .u32 (zeros 5)) 28)
  have C3 := (B3.below' hw').alloc (.cells (ints .u32 (zeros 5)) 28)
  have l1 := (B1.below' hw').lt
  have l2 := (B2.below' hw').lt
  have l3 := (B3.below' hw').lt
  have hbel1 := bCall hbel hw' hbel.size
  clear B1 B2 B3 hw'
  generalize w' = w1 at *
  have C4 := Blk.new w1 28 (ints .u32 (zeros 5))
  have D1 := C1.rowFar (show w.heap.size ≠ w1.heap.size by omega) (ints .u32 [1, 0, 0, 0, 0])
  have D2 := C2.rowFar (show w.heap.size + 1 ≠ w1.heap.size by omega) (ints .u32 [1, 0, 0, 0, 0])
  have D3 := C3.rowFar (show w.heap.size + 2 ≠ w1.heap.size by omega) (ints .u32 [1, 0, 0, 0, 0])
  have D4 := C4.row (ints .u32 [1, 0, 0, 0, 0])
  have hbel2 := bSetRow (hbel1.alloc hbel1.size (.cells (ints .u32 (zeros 5)) 28)) hbel1.size (ints .u32 [1, 0, 0, 0, 0])
  have h1l : ([1, 0, 0, 0, 0] : List Nat).length = 5 := rfl
  have h1b : ∀ x ∈ ([1, 0, 0, 0, 0] : List Nat), x < 2 ^ 32 := by simp
  clear C1 C2 C3
  go_wp2_with (first | (refine wpList_alloc_ints rfl 28 rfl Try.z28 ?_; (try simp only [Act.put, List.setIfInBounds_toArray, List.set_cons_zero, List.set_cons_succ, World.size_alloc, setRow_size, Nat.add_assoc, Nat.reduceAdd])) | (refine wpList_store_ints rfl 28 _ _ rfl w1.heap.size (k := .u32) (xs := [1, 0, 0, 0, 0]) rfl rfl C4 rfl Try.ar28 h1l ?_; (try simp only [Act.put, List.setIfInBounds_toArray, List.set_cons_zero, List.set_cons_succ, World.size_alloc, setRow_size, Nat.add_assoc, Nat.reduceAdd])))
  clear C4
  generalize ((w1.alloc (.cells (ints .u32 (zeros 5)) 28)).setRow w1.heap.size (ints .u32 [1, 0, 0, 0, 0])) = w2 at *
  refine wp_region_below (by kernel_rfl) (by kernel_rfl) ?_
  refine quiet_load rfl rfl rfl D1 Try.ar28 hl ?_
  (try simp only [Act.put, List.setIfInBounds_toArray, List.set_cons_zero, List.set_cons_succ, World.size_alloc, setRow_size, Nat.add_assoc, Nat.reduceAdd])
  refine quiet_load rfl rfl rfl D2 Try.ar28 hl' ?_
  (try simp only [Act.put, List.setIfInBounds_toArray, List.set_cons_zero, List.set_cons_succ, World.size_alloc, setRow_size, Nat.add_assoc, Nat.reduceAdd])
  refine quiet_call 32 rfl rfl Try.func32 (by kernel_rfl) (by kernel_rfl) (fun W _ => plus_c xs ys hl hb hl' hb' W) ?_
  (try simp only [Act.put, List.setIfInBounds_toArray, List.set_cons_zero, List.set_cons_succ, World.size_alloc, setRow_size, Nat.add_assoc, Nat.reduceAdd])
  refine quiet_load rfl rfl rfl D3 Try.ar28 hl3 ?_
  (try simp only [Act.put, List.setIfInBounds_toArray, List.set_cons_zero, List.set_cons_succ, World.size_alloc, setRow_size, Nat.add_assoc, Nat.reduceAdd])
  refine quiet_call 37 rfl rfl Try.func37 (by kernel_rfl) (by kernel_rfl) (fun W _ => times_c _ zs (numOf_len _) lt32 hl3 hb3 W) ?_
  (try simp only [Act.put, List.setIfInBounds_toArray, List.set_cons_zero, List.set_cons_succ, World.size_alloc, setRow_size, Nat.add_assoc, Nat.reduceAdd])
  refine quiet_load rfl rfl rfl D1 Try.ar28 hl ?_
  (try simp only [Act.put, List.setIfInBounds_toArray, List.set_cons_zero, List.set_cons_succ, World.size_alloc, setRow_size, Nat.add_assoc, Nat.reduceAdd])
  refine quiet_load rfl rfl rfl D3 Try.ar28 hl3 ?_
  (try simp only [Act.put, List.setIfInBounds_toArray, List.set_cons_zero, List.set_cons_succ, World.size_alloc, setRow_size, Nat.add_assoc, Nat.reduceAdd])
  refine quiet_call 37 rfl rfl Try.func37 (by kernel_rfl) (by kernel_rfl) (fun W _ => times_c xs zs hl hb hl3 hb3 W) ?_
  (try simp only [Act.put, List.setIfInBounds_toArray, List.set_cons_zero, List.set_cons_succ, World.size_alloc, setRow_size, Nat.add_assoc, Nat.reduceAdd])
  refine quiet_load rfl rfl rfl D2 Try.ar28 hl' ?_
  (try simp only [Act.put, List.setIfInBounds_toArray, List.set_cons_zero, List.set_cons_succ, World.size_alloc, setRow_size, Nat.add_assoc, Nat.reduceAdd])
  refine quiet_load rfl rfl rfl D3 Try.ar28 hl3 ?_
  (try simp only [Act.put, List.setIfInBounds_toArray, List.set_cons_zero, List.set_cons_succ, World.size_alloc, setRow_size, Nat.add_assoc, Nat.reduceAdd])
  refine quiet_call 37 rfl rfl Try.func37 (by kernel_rfl) (by kernel_rfl) (fun W _ => times_c ys zs hl' hb' hl3 hb3 W) ?_
  (try simp only [Act.put, List.setIfInBounds_toArray, List.set_cons_zero, List.set_cons_succ, World.size_alloc, setRow_size, Nat.add_assoc, Nat.reduceAdd])
  refine quiet_call 32 rfl rfl Try.func32 (by kernel_rfl) (by kernel_rfl) (fun W _ => plus_c _ _ (numOf_len _) lt32 (numOf_len _) lt32 W) ?_
  (try simp only [Act.put, List.setIfInBounds_toArray, List.set_cons_zero, List.set_cons_succ, World.size_alloc, setRow_size, Nat.add_assoc, Nat.reduceAdd])
  refine quiet_eql rfl rfl rfl rfl Try.eg28 (numSame _ _ (numOf_len _) E5.out) ?_
  (try simp only [Act.put, List.setIfInBounds_toArray, List.set_cons_zero, List.set_cons_succ, World.size_alloc, setRow_size, Nat.add_assoc, Nat.reduceAdd])
  refine quiet_move rfl rfl rfl ?_
  (try simp only [Act.put, List.setIfInBounds_toArray, List.set_cons_zero, List.set_cons_succ, World.size_alloc, setRow_size, Nat.add_assoc, Nat.reduceAdd])
  refine quiet_load rfl rfl rfl D1 Try.ar28 hl ?_
  (try simp only [Act.put, List.setIfInBounds_toArray, List.set_cons_zero, List.set_cons_succ, World.size_alloc, setRow_size, Nat.add_assoc, Nat.reduceAdd])
  refine quiet_load rfl rfl rfl D4 Try.ar28 h1l ?_
  (try simp only [Act.put, List.setIfInBounds_toArray, List.set_cons_zero, List.set_cons_succ, World.size_alloc, setRow_size, Nat.add_assoc, Nat.reduceAdd])
  refine quiet_call 37 rfl rfl Try.func37 (by kernel_rfl) (by kernel_rfl) (fun W _ => times_c xs _ hl hb h1l h1b W) ?_
  (try simp only [Act.put, List.setIfInBounds_toArray, List.set_cons_zero, List.set_cons_succ, World.size_alloc, setRow_size, Nat.add_assoc, Nat.reduceAdd])
  refine quiet_load rfl rfl rfl D1 Try.ar28 hl ?_
  (try simp only [Act.put, List.setIfInBounds_toArray, List.set_cons_zero, List.set_cons_succ, World.size_alloc, setRow_size, Nat.add_assoc, Nat.reduceAdd])
  refine quiet_call 35 rfl rfl Try.func35 (by kernel_rfl) (by kernel_rfl) (fun W _ => form_c xs hl hb W) ?_
  (try simp only [Act.put, List.setIfInBounds_toArray, List.set_cons_zero, List.set_cons_succ, World.size_alloc, setRow_size, Nat.add_assoc, Nat.reduceAdd])
  refine quiet_eql rfl rfl rfl rfl Try.eg28 (numSame _ _ (numOf_len _) E6.out) ?_
  (try simp only [Act.put, List.setIfInBounds_toArray, List.set_cons_zero, List.set_cons_succ, World.size_alloc, setRow_size, Nat.add_assoc, Nat.reduceAdd])
  refine quiet_pickt (by rfl) (by rfl) (by rfl) (by rfl) (by rfl) ?_
  (try simp only [Act.put, List.setIfInBounds_toArray, List.set_cons_zero, List.set_cons_succ, World.size_alloc, setRow_size, Nat.add_assoc, Nat.reduceAdd])
  refine quiet_move rfl rfl rfl ?_
  (try simp only [Act.put, List.setIfInBounds_toArray, List.set_cons_zero, List.set_cons_succ, World.size_alloc, setRow_size, Nat.add_assoc, Nat.reduceAdd])
  refine quiet_load rfl rfl rfl D1 Try.ar28 hl ?_
  (try simp only [Act.put, List.setIfInBounds_toArray, List.set_cons_zero, List.set_cons_succ, World.size_alloc, setRow_size, Nat.add_assoc, Nat.reduceAdd])
  refine quiet_load rfl rfl rfl D2 Try.ar28 hl' ?_
  (try simp only [Act.put, List.setIfInBounds_toArray, List.set_cons_zero, List.set_cons_succ, World.size_alloc, setRow_size, Nat.add_assoc, Nat.reduceAdd])
  refine quiet_call 32 rfl rfl Try.func32 (by kernel_rfl) (by kernel_rfl) (fun W _ => plus_c xs ys hl hb hl' hb' W) ?_
  (try simp only [Act.put, List.setIfInBounds_toArray, List.set_cons_zero, List.set_cons_succ, World.size_alloc, setRow_size, Nat.add_assoc, Nat.reduceAdd])
  refine quiet_call 45 rfl rfl Try.func45 (by kernel_rfl) (by kernel_rfl) (fun W _ => formed_c _ (numOf_len _) lt26 (numOf_form _) W) ?_
  (try simp only [Act.put, List.setIfInBounds_toArray, List.set_cons_zero, List.set_cons_succ, World.size_alloc, setRow_size, Nat.add_assoc, Nat.reduceAdd])
  refine quiet_pickt (by rfl) (by rfl) (by rfl) (by rfl) (by rfl) ?_
  (try simp only [Act.put, List.setIfInBounds_toArray, List.set_cons_zero, List.set_cons_succ, World.size_alloc, setRow_size, Nat.add_assoc, Nat.reduceAdd])
  refine quiet_move rfl rfl rfl ?_
  (try simp only [Act.put, List.setIfInBounds_toArray, List.set_cons_zero, List.set_cons_succ, World.size_alloc, setRow_size, Nat.add_assoc, Nat.reduceAdd])
  refine quiet_load rfl rfl rfl D1 Try.ar28 hl ?_
  (try simp only [Act.put, List.setIfInBounds_toArray, List.set_cons_zero, List.set_cons_succ, World.size_alloc, setRow_size, Nat.add_assoc, Nat.reduceAdd])
  refine quiet_load rfl rfl rfl D2 Try.ar28 hl' ?_
  (try simp only [Act.put, List.setIfInBounds_toArray, List.set_cons_zero, List.set_cons_succ, World.size_alloc, setRow_size, Nat.add_assoc, Nat.reduceAdd])
  refine quiet_call 37 rfl rfl Try.func37 (by kernel_rfl) (by kernel_rfl) (fun W _ => times_c xs ys hl hb hl' hb' W) ?_
  (try simp only [Act.put, List.setIfInBounds_toArray, List.set_cons_zero, List.set_cons_succ, World.size_alloc, setRow_size, Nat.add_assoc, Nat.reduceAdd])
  refine quiet_call 45 rfl rfl Try.func45 (by kernel_rfl) (by kernel_rfl) (fun W _ => formed_c _ (numOf_len _) lt26 (numOf_form _) W) ?_
  (try simp only [Act.put, List.setIfInBounds_toArray, List.set_cons_zero, List.set_cons_succ, World.size_alloc, setRow_size, Nat.add_assoc, Nat.reduceAdd])
  refine quiet_pickt (by rfl) (by rfl) (by rfl) (by rfl) (by rfl) ?_
  (try simp only [Act.put, List.setIfInBounds_toArray, List.set_cons_zero, List.set_cons_succ, World.size_alloc, setRow_size, Nat.add_assoc, Nat.reduceAdd])
  refine quiet_move rfl rfl rfl ?_
  (try simp only [Act.put, List.setIfInBounds_toArray, List.set_cons_zero, List.set_cons_succ, World.size_alloc, setRow_size, Nat.add_assoc, Nat.reduceAdd])
  refine quiet_load rfl rfl rfl D1 Try.ar28 hl ?_
  (try simp only [Act.put, List.setIfInBounds_toArray, List.set_cons_zero, List.set_cons_succ, World.size_alloc, setRow_size, Nat.add_assoc, Nat.reduceAdd])
  refine quiet_call 35 rfl rfl Try.func35 (by kernel_rfl) (by kernel_rfl) (fun W _ => form_c xs hl hb W) ?_
  (try simp only [Act.put, List.setIfInBounds_toArray, List.set_cons_zero, List.set_cons_succ, World.size_alloc, setRow_size, Nat.add_assoc, Nat.reduceAdd])
  refine quiet_call 45 rfl rfl Try.func45 (by kernel_rfl) (by kernel_rfl) (fun W _ => formed_c _ (numOf_len _) lt26 (numOf_form _) W) ?_
  (try simp only [Act.put, List.setIfInBounds_toArray, List.set_cons_zero, List.set_cons_succ, World.size_alloc, setRow_size, Nat.add_assoc, Nat.reduceAdd])
  refine quiet_pickt (by rfl) (by rfl) (by rfl) (by rfl) (by rfl) ?_
  (try simp only [Act.put, List.setIfInBounds_toArray, List.set_cons_zero, List.set_cons_succ, World.size_alloc, setRow_size, Nat.add_assoc, Nat.reduceAdd])
  refine quiet_move rfl rfl rfl ?_
  (try simp only [Act.put, List.setIfInBounds_toArray, List.set_cons_zero, List.set_cons_succ, World.size_alloc, setRow_size, Nat.add_assoc, Nat.reduceAdd])
  refine quiet_call 34 rfl rfl Try.func34 (by kernel_rfl) (by kernel_rfl) (fun W _ => awake7_c W) ?_
  (try simp only [Act.put, List.setIfInBounds_toArray, List.set_cons_zero, List.set_cons_succ, World.size_alloc, setRow_size, Nat.add_assoc, Nat.reduceAdd])
  refine quiet_pickt (by rfl) (by rfl) (by rfl) (by rfl) (by rfl) ?_
  (try simp only [Act.put, List.setIfInBounds_toArray, List.set_cons_zero, List.set_cons_succ, World.size_alloc, setRow_size, Nat.add_assoc, Nat.reduceAdd])
  refine quiet_assign rfl rfl rfl ?_
  (try simp only [Act.put, List.setIfInBounds_toArray, List.set_cons_zero, List.set_cons_succ, World.size_alloc, setRow_size, Nat.add_assoc, Nat.reduceAdd])
  refine wpQuiet_nil ?_
  intro w' hw'
  go_wp2
  go_ret
  exact ⟨rfl, bCall hbel2 hw' hbel2.size⟩
end Go.Proofs.Ytoijnilbcmdmeaa
