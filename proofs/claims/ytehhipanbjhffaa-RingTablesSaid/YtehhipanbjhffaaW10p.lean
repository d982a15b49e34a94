/- The reference's Highest. No condition but that the number is below 2^128. -/
import Derived.Test.YtehhipanbjhffaaW10o
namespace Go.Proofs.Ytehhipanbjhffaa
set_option linter.unusedSimpArgs false
set_option linter.unusedVariables false
set_option linter.unusedSectionVars false
set_option linter.unusedVariables false
open Go.RowKit
/-- One bit more in an element's row, by the highest bit first. -/
theorem belem_fill (n k : Nat) (hk : k < 128) : (belem (n % 2 ^ k)).set (15 - k / 8) ((belem (n % 2 ^ k)).getD (15 - k / 8) 0 + (n / 2 ^ k % 2) * 2 ^ (k % 8)) = belem (n % 2 ^ (k + 1)) := by
  refine list_ext16 (by rw [List.length_set]; exact belem_len _) (belem_len _) fun i hi => ?_
  have hf := fill_byte n (k / 8) (k % 8) (by omega)
  rw [show 8 * (k / 8) + k % 8 = k by omega] at hf
  rw [belem_getD _ (by omega : 15 - k / 8 < 16), show 15 - (15 - k / 8) = k / 8 by omega, hf, belem_getD _ hi]
  by_cases h : 15 - k / 8 = i
  · subst h
    rw [List.getD_eq_getElem?_getD, List.getElem?_set_self (by rw [belem_len]; omega), show 15 - (15 - k / 8) = k / 8 by omega]; rfl
  · rw [List.getD_eq_getElem?_getD, List.getElem?_set_ne h, ← List.getD_eq_getElem?_getD, belem_getD _ hi]
    by_cases h2 : 15 - i < k / 8
    · rw [low_digit n k (15 - i) (by omega), low_digit n (k + 1) (15 - i) (by omega)]
    · rw [high_digit n k (15 - i) (by omega), high_digit n (k + 1) (15 - i) (by omega)]
set_option maxRecDepth 100000 in
set_option maxHeartbeats 4000000 in
theorem highest_ref (n : Nat) (hn : n < 2 ^ 128) (w : World) :
    Calls Try.prog 37 #[.agg (ints .u8 (polyN n))] w fun e w' => e = .returned (.agg (ints .u8 (belem n))) ∧ Below w.heap.size w w' := by
  have hpl := polyN_len n
  have B0 := ((Blk.new w 47 (ints .u8 (polyN n))).alloc (.cells (ints .u8 (zeros 16)) 22)).alloc (.cells (ints .u8 (zeros 16)) 22)
  have B1 := (Blk.new (w.alloc (.cells (ints .u8 (polyN n)) 47)) 22 (ints .u8 (zeros 16))).alloc (.cells (ints .u8 (zeros 16)) 22)
  have B2 := Blk.new ((w.alloc (.cells (ints .u8 (polyN n)) 47)).alloc (.cells (ints .u8 (zeros 16)) 22)) 22 (ints .u8 (zeros 16))
  rw [World.size_alloc] at B1
  rw [World.size_alloc, World.size_alloc] at B2
  simp only [Nat.add_assoc, Nat.reduceAdd] at B2
  have hbel := (((Below.refl w.heap.size w).alloc (Nat.le_refl _) (.cells (ints .u8 (polyN n)) 47)).alloc (by simp) (.cells (ints .u8 (zeros 16)) 22)).alloc (by simp; omega) (.cells (ints .u8 (zeros 16)) 22)
  have e0 : belem (n % 2 ^ 0) = zeros 16 := by rw [Nat.pow_zero, Nat.mod_one]; decide
  go_enter Try.func37, Try.ntmps37
  go_wp2_with (refine wpList_alloc_ints rfl 22 rfl Try.z22 ?_; (try simp only [Act.put, List.setIfInBounds_toArray, List.set_cons_zero, List.set_cons_succ, World.size_alloc, setRow_size, Nat.add_assoc, Nat.reduceAdd]))
  generalize (((w.alloc (.cells (ints .u8 (polyN n)) 47)).alloc (.cells (ints .u8 (zeros 16)) 22)).alloc (.cells (ints .u8 (zeros 16)) 22)) = w1 at *
  go_loopw [4] (fun t wr => ∃ k : Nat, k ≤ 128 ∧ t = .int .i64 k ∧ Blk wr w.heap.size 47 (ints .u8 (polyN n)) ∧ Blk wr (w.heap.size + 1) 22 (ints .u8 (zeros 16)) ∧ Blk wr (w.heap.size + 2) 22 (ints .u8 (belem (n % 2 ^ k))) ∧ Below w.heap.size w wr) (fun t wr => 128 - (intOf t).toNat)
  case atStart => exact ⟨0, by omega, rfl, B0, B1, by rw [e0]; exact B2, hbel⟩
  case round =>
    rename_i hrel
    obtain ⟨k, hk, rfl, C0, C1, C2, hbelr⟩ := hrel
    have hel := belem_len (n % 2 ^ k)
    by_cases hlt : k < 128
    · have c0 := C0.int (i := k) (by omega)
      rw [polyN_getD n (by omega)] at c0
      have c2 := C2.int (i := 15 - k / 8) (by omega)
      have z2 := C2.frozen (15 - k / 8)
      have hf := fill_byte n (k / 8) (k % 8) (by omega)
      rw [show 8 * (k / 8) + k % 8 = k by omega, show n % 2 ^ k / 256 ^ (k / 8) = n % 2 ^ k / 256 ^ (15 - (15 - k / 8)) by rw [show 15 - (15 - k / 8) = k / 8 by omega], ← belem_getD _ (by omega : 15 - k / 8 < 16)] at hf
      have hs : (belem (n % 2 ^ k)).getD (15 - k / 8) 0 + n / 2 ^ k % 2 * 2 ^ (k % 8) < 256 := by rw [hf]; exact Nat.mod_lt _ (by omega)
      have C2' := C2.intSet (15 - k / 8) ((belem (n % 2 ^ k)).getD (15 - k / 8) 0 + n / 2 ^ k % 2 * 2 ^ (k % 8))
      rw [belem_fill n k hlt] at C2'
      have HF := Lib.hid (u8_fill hs)
      have HC := Lib.hid C2'
      have hx := getD_bound (belem_lt (n % 2 ^ k)) (by omega) (15 - k / 8)
      have hb2 := Nat.mod_lt (n / 2 ^ k) (show 2 > 0 by omega)
      clear C2' hf hs hel
      generalize (belem (n % 2 ^ k)).getD (15 - k / 8) 0 = x at *
      generalize n / 2 ^ k % 2 = b at *
      generalize hqd : k / 8 = q at *
      generalize hrd : k % 8 = r at *
      have hq1 : (k : Int) / 8 = (q : Int) := by omega
      have hr1 : (k : Int) % 8 = (r : Int) := by omega
      have hpd : ((15 : Int) - (q : Int)) = ((15 - q : Nat) : Int) := by omega
      have hp0 : 15 - q < 16 := by omega
      generalize 15 - q = p at *
      have hq0 : (p : Int) < 16 := by omega
      have hr0 : r < 8 := by omega
      clear hqd hrd
      go_wp2
      go_region
      all_goals
        rw [HF.out]
        go_wp2
        exact ⟨⟨k + 1, by omega, by go_num, (C0.far (by first | omega | (simp; done) | (simp; omega)) _).drew, (C1.far (by first | omega | (simp; done) | (simp; omega)) _).drew, HC.out.drew, (hbelr.setCell (by first | omega | (simp; done) | (simp; omega)) _).drew⟩, by simp [intOf] <;> omega⟩
    · obtain rfl : k = 128 := by omega
      rw [Nat.mod_eq_of_lt hn] at C2 hel
      go_wp2_with (first | (refine wpList_load_ints rfl 22 _ rfl (w.heap.size + 2) rfl C2 Try.ar22 hel ?_; (try simp only [Act.put, List.setIfInBounds_toArray, List.set_cons_zero, List.set_cons_succ, World.size_alloc, setRow_size, Nat.add_assoc, Nat.reduceAdd])) | (refine wpList_store_ints rfl 22 _ _ rfl (w.heap.size + 1) rfl rfl C1 (zeros_size _ _) Try.ar22 hel ?_; (try simp only [Act.put, List.setIfInBounds_toArray, List.set_cons_zero, List.set_cons_succ, World.size_alloc, setRow_size, Nat.add_assoc, Nat.reduceAdd])))
      exact ret_ints rfl rfl (C1.row _) Try.ar22 hel ⟨rfl, bSetRow hbelr (by omega) _⟩
end Go.Proofs.Ytehhipanbjhffaa
