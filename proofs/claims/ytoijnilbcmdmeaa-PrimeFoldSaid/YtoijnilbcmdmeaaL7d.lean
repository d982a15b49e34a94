/- The walk of PrimeFold. No condition but that parts fit 32 bits. -/
import Derived.Test.YtoijnilbcmdmeaaL7b
namespace Go.Proofs.Ytoijnilbcmdmeaa
set_option linter.unusedSimpArgs false
set_option linter.unusedVariables false
set_option linter.unusedVariables false
open Go.RowKit
def foldN (xs : List Nat) : Nat → List Nat
  | 0 => xs
  | k + 1 => numOf (val (foldN xs k) * 67108864)
theorem foldN_len {xs : List Nat} (hl : xs.length = 5) : ∀ k, (foldN xs k).length = 5
  | 0 => hl
  | _ + 1 => numOf_len _
theorem foldN_lt {xs : List Nat} (hb : ∀ x ∈ xs, x < 2 ^ 32) : ∀ k, ∀ x ∈ foldN xs k, x < 2 ^ 32
  | 0 => hb
  | _ + 1 => lt32
theorem foldN_val (xs : List Nat) : ∀ k, val (foldN xs k) % pp = val xs * 67108864 ^ k % pp
  | 0 => by simp [foldN]
  | k + 1 => by
    rw [foldN, val_numOf, Nat.mod_mod, Nat.mul_mod, foldN_val xs k, ← Nat.mul_mod, Nat.pow_succ, Nat.mul_assoc]
theorem fold5 (xs : List Nat) : foldN xs 5 = numOf (val xs * 5) := by
  rw [foldN]
  refine numOf_congr ?_
  rw [Nat.mul_mod, foldN_val xs 4, ← Nat.mul_mod, Nat.mul_assoc, ← Nat.pow_succ, Nat.mul_mod, show 67108864 ^ (4 + 1) % pp = 5 % pp by kernel_rfl, ← Nat.mul_mod]
theorem valUp : val [0, 1, 0, 0, 0] = 67108864 := by kernel_rfl
theorem val5 : val [5, 0, 0, 0, 0] = 5 := by kernel_rfl
set_option maxRecDepth 100000 in
set_option maxHeartbeats 4000000 in
theorem primeFold_c (xs : List Nat) (hl : xs.length = 5) (hb : ∀ x ∈ xs, x < 2 ^ 32) (w : World) :
    Calls Try.prog 7 #[.agg (ints .u32 xs)] w fun e w' => e = .returned (.bool true) ∧ Below w.heap.size w w' := by
  have B1 := ((Blk.new w 28 (ints .u32 xs)).alloc (.cells (ints .u32 (zeros 5)) 28)).rowFar (show w.heap.size ≠ w.heap.size + 1 by omega) (ints .u32 [0, 1, 0, 0, 0])
  have U0 := Blk.new (w.alloc (.cells (ints .u32 xs) 28)) 28 (ints .u32 (zeros 5))
  rw [World.size_alloc] at U0
  have U := U0.row (ints .u32 [0, 1, 0, 0, 0])
  have V := Blk.new (((w.alloc (.cells (ints .u32 xs) 28)).alloc (.cells (ints .u32 (zeros 5)) 28)).setRow (w.heap.size + 1) (ints .u32 [0, 1, 0, 0, 0])) 28 (ints .u32 (zeros 5))
  rw [setRow_size, World.size_alloc, World.size_alloc] at V
  simp only [Nat.add_assoc, Nat.reduceAdd] at V
  have hbel := (bSetRow (((Below.refl w.heap.size w).alloc (Nat.le_refl _) (.cells (ints .u32 xs) 28)).alloc (by simp) (.cells (ints .u32 (zeros 5)) 28)) (show w.heap.size ≤ w.heap.size + 1 by omega) (ints .u32 [0, 1, 0, 0, 0])).alloc (by simp; omega) (.cells (ints .u32 (zeros 5)) 28)
  have hup : ([0, 1, 0, 0, 0] : List Nat).length = 5 := rfl
  have hupb : ∀ x ∈ ([0, 1, 0, 0, 0] : List Nat), x < 2 ^ 32 := by simp
  go_enter Try.func7, Try.ntmps7
  go_wp2_with (first | (refine wpList_alloc_ints rfl 28 rfl Try.z28 ?_; (try simp only [Act.put, List.setIfInBounds_toArray, List.set_cons_zero, List.set_cons_succ, World.size_alloc, setRow_size, Nat.add_assoc, Nat.reduceAdd])) | (refine wpList_store_ints rfl 28 _ _ rfl (w.heap.size + 1) (k := .u32) (xs := [0, 1, 0, 0, 0]) rfl rfl U0 rfl Try.ar28 hup ?_; (try simp only [Act.put, List.setIfInBounds_toArray, List.set_cons_zero, List.set_cons_succ, World.size_alloc, setRow_size, Nat.add_assoc, Nat.reduceAdd])) | (refine wpList_load_ints rfl 28 _ rfl w.heap.size rfl B1 Try.ar28 hl ?_; (try simp only [Act.put, List.setIfInBounds_toArray, List.set_cons_zero, List.set_cons_succ, World.size_alloc, setRow_size, Nat.add_assoc, Nat.reduceAdd])) | (refine wpList_store_ints rfl 28 _ _ rfl (w.heap.size + 2) rfl rfl V rfl Try.ar28 hl ?_; (try simp only [Act.put, List.setIfInBounds_toArray, List.set_cons_zero, List.set_cons_succ, World.size_alloc, setRow_size, Nat.add_assoc, Nat.reduceAdd])))
  go_loopw [5] (fun t wr => ∃ k : Nat, k ≤ 5 ∧ t = .int .i64 k ∧ Blk wr w.heap.size 28 (ints .u32 xs) ∧ Blk wr (w.heap.size + 1) 28 (ints .u32 [0, 1, 0, 0, 0]) ∧ Blk wr (w.heap.size + 2) 28 (ints .u32 (foldN xs k)) ∧ Below w.heap.size w wr) (fun t wr => 5 - (intOf t).toNat)
  case atStart =>
    exact ⟨0, by omega, rfl, (B1.alloc _).rowFar (by omega) _, (U.alloc _).rowFar (by omega) _, V.row _, bSetRow hbel (by omega) _⟩
  case round =>
    rename_i hrel
    obtain ⟨k, hk, rfl, D1, D2, D3, hbel'⟩ := hrel
    have hfl := foldN_len hl k
    have hfb := foldN_lt hb k
    by_cases hlt : k < 5
    · have He := Lib.hid (show foldN xs (k + 1) = numOf (val (foldN xs k) * 67108864) from rfl)
      go_wp2_with (first | (refine wpList_load_ints rfl 28 _ rfl (w.heap.size + 2) rfl D3 Try.ar28 hfl ?_; (try simp only [Act.put, List.setIfInBounds_toArray, List.set_cons_zero, List.set_cons_succ, World.size_alloc, setRow_size, Nat.add_assoc, Nat.reduceAdd])) | (refine wpList_load_ints rfl 28 _ rfl (w.heap.size + 1) rfl D2 Try.ar28 hup ?_; (try simp only [Act.put, List.setIfInBounds_toArray, List.set_cons_zero, List.set_cons_succ, World.size_alloc, setRow_size, Nat.add_assoc, Nat.reduceAdd])))
      have ht := times_c (foldN xs k) [0, 1, 0, 0, 0] hfl hfb hup hupb
      rw [valUp, ← He.out] at ht
      refine (ht _).mono ?_
      rintro e w2 ⟨rfl, hb2⟩
      have E1 := D1.below' hb2
      have E2 := D2.below' hb2
      have E3 := D3.below' hb2
      have hlt3 := D3.lt
      have hel := foldN_len hl (k + 1)
      go_wp2_with (first | (refine wpList_store_ints rfl 28 _ _ rfl (w.heap.size + 2) rfl rfl E3 (by rw [ints_size]; exact hfl) Try.ar28 hel ?_; (try simp only [Act.put, List.setIfInBounds_toArray, List.set_cons_zero, List.set_cons_succ, World.size_alloc, setRow_size, Nat.add_assoc, Nat.reduceAdd])))
      refine ⟨⟨k+1, by omega, by go_num, E1.rowFar (by omega) _, E2.rowFar (by omega) _, E3.row _, bSetRow (bCall hbel' hb2 (by omega)) (by omega) _⟩, by simp [intOf]; omega⟩
    · obtain rfl : k = 5 := by omega
      have h5 := fold5 xs
      have H5 := Lib.hid h5
      clear h5
      have hd : 5 < 2 ^ 32 := by omega
      have ht := times_c xs [5, 0, 0, 0, 0] hl hb rfl (by simp)
      rw [val5, ← H5.out] at ht
      have Ht := Lib.hid ht
      clear ht
      generalize foldN xs 5 = fs at *
      go_wp2
      refine wp_region_below (by kernel_rfl) (by kernel_rfl) ?_
      refine quiet_load rfl rfl rfl D3 Try.ar28 hfl ?_
      (try simp only [Act.put, List.setIfInBounds_toArray, List.set_cons_zero, List.set_cons_succ, World.size_alloc, setRow_size, Nat.add_assoc, Nat.reduceAdd])
      refine quiet_load rfl rfl rfl D1 Try.ar28 hl ?_
      (try simp only [Act.put, List.setIfInBounds_toArray, List.set_cons_zero, List.set_cons_succ, World.size_alloc, setRow_size, Nat.add_assoc, Nat.reduceAdd])
      refine quiet_run (v := .agg (ints .u32 [5, 0, 0, 0, 0])) rfl (fun W => by kernel_rfl) ?_
      (try simp only [Act.put, List.setIfInBounds_toArray, List.set_cons_zero, List.set_cons_succ, World.size_alloc, setRow_size, Nat.add_assoc, Nat.reduceAdd])
      refine quiet_call 37 rfl rfl Try.func37 (by kernel_rfl) (by kernel_rfl) (fun W _ => Ht.out W) ?_
      (try simp only [Act.put, List.setIfInBounds_toArray, List.set_cons_zero, List.set_cons_succ, World.size_alloc, setRow_size, Nat.add_assoc, Nat.reduceAdd])
      refine quiet_eql rfl rfl rfl rfl Try.eg28 (numSame _ _ hfl rfl) ?_
      (try simp only [Act.put, List.setIfInBounds_toArray, List.set_cons_zero, List.set_cons_succ, World.size_alloc, setRow_size, Nat.add_assoc, Nat.reduceAdd])
      refine quiet_move rfl rfl rfl ?_
      (try simp only [Act.put, List.setIfInBounds_toArray, List.set_cons_zero, List.set_cons_succ, World.size_alloc, setRow_size, Nat.add_assoc, Nat.reduceAdd])
      refine quiet_call 34 rfl rfl Try.func34 (by kernel_rfl) (by kernel_rfl) (fun W _ => awake7_c W) ?_
      (try simp only [Act.put, List.setIfInBounds_toArray, List.set_cons_zero, List.set_cons_succ, World.size_alloc, setRow_size, Nat.add_assoc, Nat.reduceAdd])
      refine quiet_pickt (by rfl) (by rfl) (by rfl) (by rfl) (by rfl) ?_
      (try simp only [Act.put, List.setIfInBounds_toArray, List.set_cons_zero, List.set_cons_succ, World.size_alloc, setRow_size, Nat.add_assoc, Nat.reduceAdd])
      refine quiet_assign rfl rfl rfl ?_
      (try simp only [Act.put, List.setIfInBounds_toArray, List.set_cons_zero, List.set_cons_succ, World.size_alloc, setRow_size, Nat.add_assoc, Nat.reduceAdd])
      refine wpQuiet_nil ?_
      intro w' hw'
      go_wp2
      go_ret
      exact ⟨rfl, bCall hbel' hw' hbel'.size⟩
end Go.Proofs.Ytoijnilbcmdmeaa
