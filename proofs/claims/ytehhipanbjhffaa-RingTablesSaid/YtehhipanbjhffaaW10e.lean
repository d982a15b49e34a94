/- ring.Multiple. No condition but that bytes are below 256 and the number below 2^64. -/
import Derived.Test.YtehhipanbjhffaaW10d
namespace Go.Proofs.Ytehhipanbjhffaa
set_option linter.unusedSimpArgs false
set_option linter.unusedVariables false
set_option linter.unusedSectionVars false
set_option linter.unusedVariables false
open Go.RowKit
open Gf (up upN mulS mul)
theorem mulS_stable (R a n i : Nat) (h : n < 2 ^ i) : ∀ k, mulS R a n (i + k) = mulS R a n i
  | 0 => rfl
  | k + 1 => by
    show mulS R a n (i + k) ^^^ (if n.testBit (i + k) then upN R (i + k) a else 0) = _
    rw [mulS_stable R a n i h k, Nat.testBit_lt_two_pow (Nat.lt_of_lt_of_le h (Nat.pow_le_pow_right (by omega) (by omega)))]
    simp
theorem mul_small (R a n i : Nat) (hi : i ≤ 128) (h : n < 2 ^ i) : mul R a n = mulS R a n i := by
  have := mulS_stable R a n i h (128 - i)
  rw [show i + (128 - i) = 128 by omega] at this
  exact this
theorem sum_true {S X : Nat} (hS : S < 2 ^ 128) (hX : X < 2 ^ 128) : sumL true (belem S) (belem X) = belem (S ^^^ 1 * X) := by
  rw [Nat.one_mul, ← belem_xor hS hX]; rfl
theorem sum_false {S X : Nat} (hS : S < 2 ^ 128) (hX : X < 2 ^ 128) : sumL false (belem S) (belem X) = belem (S ^^^ 0 * X) := by
  rw [Nat.zero_mul, Nat.xor_zero]; rfl
theorem dblB_belem {X : Nat} (hX : X < 2 ^ 128) : dblB (belem X) = belem (up R2 X) := by
  rw [dblB_up (belem_len X) (belem_lt X), bnum_belem hX]
theorem belem_zero : belem 0 = zeros 16 := by decide
set_option maxRecDepth 100000 in
set_option maxHeartbeats 4000000 in
theorem multiple_c (n : Nat) (xs : List Nat) (hn : n < 2 ^ 64) (hl : xs.length = 16) (hb : ∀ x ∈ xs, x < 256) (w : World) :
    Calls Try.prog 18 #[.int .u64 n, .agg (ints .u8 xs)] w fun e w' => e = .returned (.agg (ints .u8 (belem (mul R2 (bnum xs) n)))) ∧ Below w.heap.size w w' := by
  have hx := bnum_lt hl hb
  have hxe := belem_bnum hl hb
  have B0 := ((Blk.new w 22 (ints .u8 xs)).alloc (.cells (ints .u8 (zeros 16)) 22)).alloc (.cells (ints .u8 (zeros 16)) 22)
  have B1 := (Blk.new (w.alloc (.cells (ints .u8 xs) 22)) 22 (ints .u8 (zeros 16))).alloc (.cells (ints .u8 (zeros 16)) 22)
  have B2 := Blk.new ((w.alloc (.cells (ints .u8 xs) 22)).alloc (.cells (ints .u8 (zeros 16)) 22)) 22 (ints .u8 (zeros 16))
  rw [World.size_alloc] at B1
  rw [World.size_alloc, World.size_alloc] at B2
  simp only [Nat.add_assoc, Nat.reduceAdd] at B2
  have hbel := (((Below.refl w.heap.size w).alloc (Nat.le_refl _) (.cells (ints .u8 xs) 22)).alloc (by simp) (.cells (ints .u8 (zeros 16)) 22)).alloc (by simp; omega) (.cells (ints .u8 (zeros 16)) 22)
  go_enter Try.func18, Try.ntmps18
  go_wp2_with (refine wpList_alloc_ints rfl 22 rfl Try.z22 ?_; (try simp only [Act.put, List.setIfInBounds_toArray, List.set_cons_zero, List.set_cons_succ, World.size_alloc, setRow_size, Nat.add_assoc, Nat.reduceAdd]))
  generalize (((w.alloc (.cells (ints .u8 xs) 22)).alloc (.cells (ints .u8 (zeros 16)) 22)).alloc (.cells (ints .u8 (zeros 16)) 22)) = w1 at *
  rw [← hxe] at B0
  generalize hxd : bnum xs = x at *
  have Hxd := Lib.hid hxd
  clear hxe hxd
  go_loopw [0] (fun t wr => ∃ i : Nat, i ≤ 64 ∧ t = .int .u64 ((n / 2 ^ i : Nat) : Int) ∧ Blk wr w.heap.size 22 (ints .u8 (belem (upN R2 i x))) ∧ Blk wr (w.heap.size + 1) 22 (ints .u8 (zeros 16)) ∧ Blk wr (w.heap.size + 2) 22 (ints .u8 (belem (mulS R2 x n i))) ∧ Below w.heap.size w wr) (fun t wr => (intOf t).toNat)
  case atStart => exact ⟨0, by omega, by rw [Nat.pow_zero, Nat.div_one], B0, B1, by rw [show belem (mulS R2 x n 0) = zeros 16 from belem_zero]; exact B2, hbel⟩
  case round =>
    rename_i hrel
    obtain ⟨i, hi, rfl, C0, C1, C2, hbelr⟩ := hrel
    have hX := Gf.upN_lt R2_lt hx i
    have hS := Gf.mulS_lt R2_lt hx n i
    have hv64 : n / 2 ^ i < 18446744073709551616 := Nat.lt_of_le_of_lt (Nat.div_le_self _ _) hn
    have hstep : n / 2 ^ (i + 1) = n / 2 ^ i / 2 := by rw [Nat.pow_succ, Nat.div_div_eq_div_mul]
    by_cases hlt : 0 < n / 2 ^ i
    · have hi64 : i < 64 := by
        apply Classical.byContradiction; intro hc
        obtain rfl : i = 64 := by omega
        rw [Nat.div_eq_of_lt hn] at hlt; omega
      have hnx : mulS R2 x n (i + 1) = mulS R2 x n i ^^^ n / 2 ^ i % 2 * upN R2 i x := by
        show mulS R2 x n i ^^^ _ = _
        rw [Gf.if_bit]
      have hux : upN R2 (i + 1) x = up R2 (upN R2 i x) := rfl
      have hand := and1 (n / 2 ^ i) hv64
      have HS := Lib.hid hstep
      clear hstep
      rcases Nat.mod_two_eq_zero_or_one (n / 2 ^ i) with h2 | h2
      · rw [h2] at hand hnx
        have HX := Lib.hid hnx
        have HU := Lib.hid hux
        clear hnx hux
        generalize mulS R2 x n i = S at *
        generalize upN R2 i x = X at *
        generalize n / 2 ^ i = v at *
        have hlS := belem_len S
        have hlX := belem_len X
        have hq : decide ((v : Int) > 0) = true := by simp; omega
        go_wp2_with (first | (refine wpList_load_ints rfl 22 _ rfl (w.heap.size + 2) rfl C2 Try.ar22 hlS ?_; (try simp only [Act.put, List.setIfInBounds_toArray, List.set_cons_zero, List.set_cons_succ, World.size_alloc, setRow_size, Nat.add_assoc, Nat.reduceAdd])) | (refine wpList_load_ints rfl 22 _ rfl w.heap.size rfl C0 Try.ar22 hlX ?_; (try simp only [Act.put, List.setIfInBounds_toArray, List.set_cons_zero, List.set_cons_succ, World.size_alloc, setRow_size, Nat.add_assoc, Nat.reduceAdd])))
        refine (sum_c (belem S) (belem X) false hlS (belem_lt S) hlX (belem_lt X) _).mono ?_
        rintro e w2 ⟨rfl, hb2⟩
        rw [sum_false hS hX, ← HX.out]
        have hln := belem_len (mulS R2 x n (i + 1))
        have D0 := (C0.below' hb2).rowFar (show w.heap.size ≠ w.heap.size + 2 by omega) (ints .u8 (belem (mulS R2 x n (i + 1))))
        have D1 := (C1.below' hb2).rowFar (show w.heap.size + 1 ≠ w.heap.size + 2 by omega) (ints .u8 (belem (mulS R2 x n (i + 1))))
        have C2' := C2.below' hb2
        have D2 := C2'.row (ints .u8 (belem (mulS R2 x n (i + 1))))
        have hbel2 := bSetRow (bCall hbelr hb2 hbelr.size) (show w.heap.size ≤ w.heap.size + 2 by omega) (ints .u8 (belem (mulS R2 x n (i + 1))))
        have hsz2 : (belem S).length = 16 := hlS
        go_wp2_with (first | (refine wpList_store_ints rfl 22 _ _ rfl (w.heap.size + 2) rfl rfl C2' (by rw [ints_size, hsz2]) Try.ar22 hln ?_; (try simp only [Act.put, List.setIfInBounds_toArray, List.set_cons_zero, List.set_cons_succ, World.size_alloc, setRow_size, Nat.add_assoc, Nat.reduceAdd])) | (refine wpList_load_ints rfl 22 _ rfl w.heap.size rfl D0 Try.ar22 hlX ?_; (try simp only [Act.put, List.setIfInBounds_toArray, List.set_cons_zero, List.set_cons_succ, World.size_alloc, setRow_size, Nat.add_assoc, Nat.reduceAdd])))
        refine (double_c (belem X) hlX (belem_lt X) _).mono ?_
        rintro e w4 ⟨rfl, hb4⟩
        rw [dblB_belem hX, ← HU.out]
        have hlu := belem_len (upN R2 (i + 1) x)
        have D0' := D0.below' hb4
        have E0 := D0'.row (ints .u8 (belem (upN R2 (i + 1) x)))
        have E1 := (D1.below' hb4).rowFar (show w.heap.size + 1 ≠ w.heap.size by omega) (ints .u8 (belem (upN R2 (i + 1) x)))
        have E2 := (D2.below' hb4).rowFar (show w.heap.size + 2 ≠ w.heap.size by omega) (ints .u8 (belem (upN R2 (i + 1) x)))
        have hbel3 := bSetRow (bCall hbel2 hb4 hbel2.size) (Nat.le_refl w.heap.size) (ints .u8 (belem (upN R2 (i + 1) x)))
        go_wp2_with (refine wpList_store_ints rfl 22 _ _ rfl w.heap.size rfl rfl D0' (by rw [ints_size, hlX]) Try.ar22 hlu ?_; (try simp only [Act.put, List.setIfInBounds_toArray, List.set_cons_zero, List.set_cons_succ, World.size_alloc, setRow_size, Nat.add_assoc, Nat.reduceAdd]))
        exact ⟨⟨i + 1, by omega, by rw [HS.out]; go_num, E0, E1, E2, hbel3⟩, by simp [intOf] <;> omega⟩
      · rw [h2] at hand hnx
        have HX := Lib.hid hnx
        have HU := Lib.hid hux
        clear hnx hux
        generalize mulS R2 x n i = S at *
        generalize upN R2 i x = X at *
        generalize n / 2 ^ i = v at *
        have hlS := belem_len S
        have hlX := belem_len X
        have hq : decide ((v : Int) > 0) = true := by simp; omega
        go_wp2_with (first | (refine wpList_load_ints rfl 22 _ rfl (w.heap.size + 2) rfl C2 Try.ar22 hlS ?_; (try simp only [Act.put, List.setIfInBounds_toArray, List.set_cons_zero, List.set_cons_succ, World.size_alloc, setRow_size, Nat.add_assoc, Nat.reduceAdd])) | (refine wpList_load_ints rfl 22 _ rfl w.heap.size rfl C0 Try.ar22 hlX ?_; (try simp only [Act.put, List.setIfInBounds_toArray, List.set_cons_zero, List.set_cons_succ, World.size_alloc, setRow_size, Nat.add_assoc, Nat.reduceAdd])))
        refine (sum_c (belem S) (belem X) true hlS (belem_lt S) hlX (belem_lt X) _).mono ?_
        rintro e w2 ⟨rfl, hb2⟩
        rw [sum_true hS hX, ← HX.out]
        have hln := belem_len (mulS R2 x n (i + 1))
        have D0 := (C0.below' hb2).rowFar (show w.heap.size ≠ w.heap.size + 2 by omega) (ints .u8 (belem (mulS R2 x n (i + 1))))
        have D1 := (C1.below' hb2).rowFar (show w.heap.size + 1 ≠ w.heap.size + 2 by omega) (ints .u8 (belem (mulS R2 x n (i + 1))))
        have C2' := C2.below' hb2
        have D2 := C2'.row (ints .u8 (belem (mulS R2 x n (i + 1))))
        have hbel2 := bSetRow (bCall hbelr hb2 hbelr.size) (show w.heap.size ≤ w.heap.size + 2 by omega) (ints .u8 (belem (mulS R2 x n (i + 1))))
        have hsz2 : (belem S).length = 16 := hlS
        go_wp2_with (first | (refine wpList_store_ints rfl 22 _ _ rfl (w.heap.size + 2) rfl rfl C2' (by rw [ints_size, hsz2]) Try.ar22 hln ?_; (try simp only [Act.put, List.setIfInBounds_toArray, List.set_cons_zero, List.set_cons_succ, World.size_alloc, setRow_size, Nat.add_assoc, Nat.reduceAdd])) | (refine wpList_load_ints rfl 22 _ rfl w.heap.size rfl D0 Try.ar22 hlX ?_; (try simp only [Act.put, List.setIfInBounds_toArray, List.set_cons_zero, List.set_cons_succ, World.size_alloc, setRow_size, Nat.add_assoc, Nat.reduceAdd])))
        refine (double_c (belem X) hlX (belem_lt X) _).mono ?_
        rintro e w4 ⟨rfl, hb4⟩
        rw [dblB_belem hX, ← HU.out]
        have hlu := belem_len (upN R2 (i + 1) x)
        have D0' := D0.below' hb4
        have E0 := D0'.row (ints .u8 (belem (upN R2 (i + 1) x)))
        have E1 := (D1.below' hb4).rowFar (show w.heap.size + 1 ≠ w.heap.size by omega) (ints .u8 (belem (upN R2 (i + 1) x)))
        have E2 := (D2.below' hb4).rowFar (show w.heap.size + 2 ≠ w.heap.size by omega) (ints .u8 (belem (upN R2 (i + 1) x)))
        have hbel3 := bSetRow (bCall hbel2 hb4 hbel2.size) (Nat.le_refl w.heap.size) (ints .u8 (belem (upN R2 (i + 1) x)))
        go_wp2_with (refine wpList_store_ints rfl 22 _ _ rfl w.heap.size rfl rfl D0' (by rw [ints_size, hlX]) Try.ar22 hlu ?_; (try simp only [Act.put, List.setIfInBounds_toArray, List.set_cons_zero, List.set_cons_succ, World.size_alloc, setRow_size, Nat.add_assoc, Nat.reduceAdd]))
        exact ⟨⟨i + 1, by omega, by rw [HS.out]; go_num, E0, E1, E2, hbel3⟩, by simp [intOf] <;> omega⟩
    · have h0 : n / 2 ^ i = 0 := Nat.eq_zero_of_not_pos hlt
      have hlt2 : n < 2 ^ i := by
        rcases Nat.div_eq_zero_iff.1 h0 with h | h
        · exact absurd h (Nat.ne_of_gt (Nat.two_pow_pos i))
        · exact h
      have hm := mul_small R2 x n i (by omega) hlt2
      rw [← hm] at C2 hS
      rw [h0]
      clear hstep hlt hv64 hm
      have hel := belem_len (mul R2 x n)
      go_wp2_with (first | (refine wpList_load_ints rfl 22 _ rfl (w.heap.size + 2) rfl C2 Try.ar22 hel ?_; (try simp only [Act.put, List.setIfInBounds_toArray, List.set_cons_zero, List.set_cons_succ, World.size_alloc, setRow_size, Nat.add_assoc, Nat.reduceAdd])) | (refine wpList_store_ints rfl 22 _ _ rfl (w.heap.size + 1) rfl rfl C1 (zeros_size _ _) Try.ar22 hel ?_; (try simp only [Act.put, List.setIfInBounds_toArray, List.set_cons_zero, List.set_cons_succ, World.size_alloc, setRow_size, Nat.add_assoc, Nat.reduceAdd])))
      exact ret_ints rfl rfl (C1.row _) Try.ar22 hel ⟨by rw [Hxd.out], bSetRow hbelr (by omega) _⟩
end Go.Proofs.Ytehhipanbjhffaa
