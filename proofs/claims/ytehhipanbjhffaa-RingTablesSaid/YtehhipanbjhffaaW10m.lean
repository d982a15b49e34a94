/- The reference's Low. No condition but that bytes are below 256. -/
import Derived.Test.YtehhipanbjhffaaG10e
import Derived.Test.YtehhipanbjhffaaW10f
namespace Go.Proofs.Ytehhipanbjhffaa
set_option linter.unusedSimpArgs false
set_option linter.unusedVariables false
set_option linter.unusedSectionVars false
set_option linter.unusedVariables false
open Go.RowKit
theorem Try.ar47 : IsArr Try.prog 47 256 := isArr Try.underlying47 (by kernel_rfl)
theorem Try.z47 : IsZero Try.prog 47 256 .u8 := isZero (by kernel_rfl)
theorem num_bit {xs : List Nat} (hl : xs.length = 16) (hb : ∀ x ∈ xs, x < 256) (i : Nat) (hi : i < 128) : xs.getD (i / 8) 0 / 2 ^ (i % 8) % 2 = num xs / 2 ^ i % 2 := by
  rw [num_digit hl hb (i := i / 8) (by omega), byte_bit _ _ (by omega), Nat.div_div_eq_div_mul, show (256 : Nat) = 2 ^ 8 by decide, ← Nat.pow_mul, ← Nat.pow_add, show 8 * (i / 8) + i % 8 = i by omega]
theorem polyN_half {n : Nat} (hn : n < 2 ^ 128) : (polyN n).take 128 ++ zeros (256 - 128) = polyN n := by
  apply List.ext_getElem? fun k => ?_
  by_cases hk : k < 128
  · rw [List.getElem?_append_left (by rw [List.length_take, polyN_len]; omega), List.getElem?_take, if_pos hk]
  · rw [List.getElem?_append_right (by rw [List.length_take, polyN_len]; omega), List.length_take, polyN_len]
    by_cases hk2 : k < 256
    · rw [polyN_get n hk2]
      unfold zeros
      rw [List.getElem?_replicate, if_pos (by omega), Nat.div_eq_of_lt (Nat.lt_of_lt_of_le hn (Nat.pow_le_pow_right (by omega) (by omega)))]
    · rw [List.getElem?_eq_none (by rw [zeros_len]; omega), List.getElem?_eq_none (by rw [polyN_len]; omega)]
set_option maxRecDepth 100000 in
set_option maxHeartbeats 4000000 in
theorem low_ref (xs : List Nat) (hl : xs.length = 16) (hb : ∀ x ∈ xs, x < 256) (w : World) :
    Calls Try.prog 33 #[.agg (ints .u8 xs)] w fun e w' => e = .returned (.agg (ints .u8 (polyN (num xs)))) ∧ Below w.heap.size w w' := by
  have hx := num_lt hl hb
  have hpl := polyN_len (num xs)
  have B0 := ((Blk.new w 22 (ints .u8 xs)).alloc (.cells (ints .u8 (zeros 256)) 47)).alloc (.cells (ints .u8 (zeros 256)) 47)
  have B1 := (Blk.new (w.alloc (.cells (ints .u8 xs) 22)) 47 (ints .u8 (zeros 256))).alloc (.cells (ints .u8 (zeros 256)) 47)
  have B2 := Blk.new ((w.alloc (.cells (ints .u8 xs) 22)).alloc (.cells (ints .u8 (zeros 256)) 47)) 47 (ints .u8 (zeros 256))
  rw [World.size_alloc] at B1
  rw [World.size_alloc, World.size_alloc] at B2
  simp only [Nat.add_assoc, Nat.reduceAdd] at B2
  have hbel := (((Below.refl w.heap.size w).alloc (Nat.le_refl _) (.cells (ints .u8 xs) 22)).alloc (by simp) (.cells (ints .u8 (zeros 256)) 47)).alloc (by simp; omega) (.cells (ints .u8 (zeros 256)) 47)
  go_enter Try.func33, Try.ntmps33
  go_wp2_with (refine wpList_alloc_ints rfl 47 rfl Try.z47 ?_; (try simp only [Act.put, List.setIfInBounds_toArray, List.set_cons_zero, List.set_cons_succ, World.size_alloc, setRow_size, Nat.add_assoc, Nat.reduceAdd]))
  generalize (((w.alloc (.cells (ints .u8 xs) 22)).alloc (.cells (ints .u8 (zeros 256)) 47)).alloc (.cells (ints .u8 (zeros 256)) 47)) = w1 at *
  go_loopw [4] (fun t wr => ∃ k : Nat, k ≤ 128 ∧ t = .int .i64 k ∧ Blk wr w.heap.size 22 (ints .u8 xs) ∧ Blk wr (w.heap.size + 1) 47 (ints .u8 (zeros 256)) ∧ Blk wr (w.heap.size + 2) 47 (ints .u8 ((polyN (num xs)).take k ++ zeros (256 - k))) ∧ Below w.heap.size w wr) (fun t wr => 128 - (intOf t).toNat)
  case atStart => exact ⟨0, by omega, rfl, B0, B1, B2, hbel⟩
  case round =>
    rename_i hrel
    obtain ⟨k, hk, rfl, C0, C1, C2, hbelr⟩ := hrel
    have hkl : ((polyN (num xs)).take k ++ zeros (256 - k)).length = 256 := by rw [List.length_append, List.length_take, hpl, zeros_len]; omega
    by_cases hlt : k < 128
    · have c0 := C0.int (i := k / 8) (by omega)
      have c2 := C2.int (i := k) (by omega)
      have z2 := C2.frozen k
      have hv := polyN_getD (num xs) (k := k) (by omega)
      rw [← num_bit hl hb k hlt] at hv
      have vb := getD_bound hb (by omega) (k / 8)
      have C2' := C2.intSet k (xs.getD (k / 8) 0 / 2 ^ (k % 8) % 2)
      rw [take_set hpl (by omega) hv] at C2'
      have HC := Lib.hid C2'
      clear C2' hv hkl
      generalize xs.getD (k / 8) 0 = b at *
      generalize hqd : k / 8 = q at *
      generalize hrd : k % 8 = r at *
      have hq1 : (k : Int) / 8 = (q : Int) := by omega
      have hr1 : (k : Int) % 8 = (r : Int) := by omega
      have hq0 : (q : Int) < 16 := by omega
      have hr0 : r < 8 := by omega
      clear hqd hrd
      go_wp2
      exact ⟨⟨k + 1, by omega, by go_num, C0.far (by first | omega | (simp; done) | (simp; omega)) _, C1.far (by first | omega | (simp; done) | (simp; omega)) _, HC.out, hbelr.setCell (by first | omega | (simp; done) | (simp; omega)) _⟩, by simp [intOf] <;> omega⟩
    · obtain rfl : k = 128 := by omega
      rw [polyN_half hx] at C2
      go_wp2_with (first | (refine wpList_load_ints rfl 47 _ rfl (w.heap.size + 2) rfl C2 Try.ar47 hpl ?_; (try simp only [Act.put, List.setIfInBounds_toArray, List.set_cons_zero, List.set_cons_succ, World.size_alloc, setRow_size, Nat.add_assoc, Nat.reduceAdd])) | (refine wpList_store_ints rfl 47 _ _ rfl (w.heap.size + 1) rfl rfl C1 (zeros_size _ _) Try.ar47 hpl ?_; (try simp only [Act.put, List.setIfInBounds_toArray, List.set_cons_zero, List.set_cons_succ, World.size_alloc, setRow_size, Nat.add_assoc, Nat.reduceAdd])))
      exact ret_ints rfl rfl (C1.row _) Try.ar47 hpl ⟨rfl, bSetRow hbelr (by omega) _⟩
end Go.Proofs.Ytehhipanbjhffaa
