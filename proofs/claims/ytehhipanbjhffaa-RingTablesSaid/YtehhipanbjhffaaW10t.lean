/- The reference's Dot. No condition but that bytes are below 256. -/
import Derived.Test.YtehhipanbjhffaaW10s
namespace Go.Proofs.Ytehhipanbjhffaa
set_option linter.unusedSimpArgs false
set_option linter.unusedVariables false
set_option linter.unusedSectionVars false
set_option linter.unusedVariables false
open Go.RowKit
open Gf (up upN mulS mul R1 D1 dot down downN)
/-- The coefficients moved down by one, the first k of them. -/
def shL (M k : Nat) : List Nat := (polyN (M / 2)).take k ++ (polyN M).drop k
theorem shL_len (M : Nat) {k : Nat} (hk : k ≤ 256) : (shL M k).length = 256 := by
  unfold shL
  rw [List.length_append, List.length_take, List.length_drop, polyN_len, polyN_len]; omega
theorem half_bit (M k : Nat) : M / 2 / 2 ^ k % 2 = M / 2 ^ (k + 1) % 2 := by
  rw [Nat.div_div_eq_div_mul, Nat.pow_succ, Nat.mul_comm 2]
theorem shL_zero (M : Nat) : shL M 0 = polyN M := by simp [shL]
theorem shL_get (M : Nat) {k : Nat} (hk : k < 255) : (shL M k).getD (k + 1) 0 = M / 2 ^ (k + 1) % 2 := by
  unfold shL
  rw [List.getD_eq_getElem?_getD, List.getElem?_append_right (by rw [List.length_take, polyN_len]; omega), List.length_take, polyN_len, Nat.min_eq_left (by omega), List.getElem?_drop, show k + (k + 1 - k) = k + 1 by omega, polyN_get M (by omega)]; rfl
theorem shL_set (M : Nat) {k : Nat} (hk : k < 256) : (shL M k).set k (M / 2 ^ (k + 1) % 2) = shL M (k + 1) := by
  unfold shL
  rw [List.set_append_right _ _ (by rw [List.length_take, polyN_len]; omega), List.length_take, polyN_len, Nat.min_eq_left (by omega), Nat.sub_self]
  have hd : (polyN M).drop k = (M / 2 ^ k % 2) :: (polyN M).drop (k + 1) := by
    rw [List.drop_eq_getElem_cons (by rw [polyN_len]; exact hk)]
    congr 1
    have := polyN_get M hk
    rw [List.getElem?_eq_getElem (by rw [polyN_len]; exact hk)] at this
    exact Option.some.inj this
  rw [hd, List.set_cons_zero, List.take_add_one, polyN_get _ hk, half_bit]
  simp
theorem shL_end {M : Nat} (hM : M < 2 ^ 129) : (shL M 128).set 128 0 = polyN (M / 2) := by
  have h0 : ∀ j, 128 ≤ j → M / 2 / 2 ^ j % 2 = 0 := fun j hj => by
    rw [Nat.div_eq_of_lt (Nat.lt_of_lt_of_le (show M / 2 < 2 ^ 128 by omega) (Nat.pow_le_pow_right (by omega) hj))]
  apply List.ext_getElem? fun j => ?_
  by_cases hj : j < 256
  · rw [polyN_get _ hj, List.getElem?_set, shL_len M (by omega)]
    by_cases h : 128 = j
    · subst h
      rw [if_pos rfl, if_pos (by omega), h0 128 (by omega)]
    · rw [if_neg h]
      unfold shL
      by_cases h2 : j < 128
      · rw [List.getElem?_append_left (by rw [List.length_take, polyN_len]; omega), List.getElem?_take, if_pos h2, polyN_get _ hj]
      · rw [List.getElem?_append_right (by rw [List.length_take, polyN_len]; omega), List.length_take, polyN_len, List.getElem?_drop, show 128 + (j - min 128 256) = j by omega, polyN_get _ hj, h0 j (by omega),
          Nat.div_eq_of_lt (Nat.lt_of_lt_of_le hM (Nat.pow_le_pow_right (by omega) (by omega)))]
  · rw [List.getElem?_eq_none (by rw [List.length_set, shL_len M (by omega)]; omega), List.getElem?_eq_none (by rw [polyN_len]; omega)]
theorem dot_odd {N : Nat} (h : N / 2 ^ 0 % 2 = 1) : (((((N ^^^ 1 * 2 ^ 0) ^^^ 1 * 2 ^ 121) ^^^ 1 * 2 ^ 126) ^^^ 1 * 2 ^ 127) ^^^ 1 * 2 ^ 128) / 2 = down D1 N := by
  unfold down
  have hb : N.testBit 0 = true := by rw [Nat.testBit_eq_decide_div_mod_eq, h]; rfl
  rw [hb, if_pos rfl]
  simp only [Gf.half_xor, Nat.xor_assoc]
  congr 1
theorem dot_even {N : Nat} (h : N / 2 ^ 0 % 2 = 0) : N / 2 = down D1 N := by
  unfold down
  have hb : N.testBit 0 = false := by rw [Nat.testBit_eq_decide_div_mod_eq, h]; rfl
  rw [hb]; simp
theorem poly_top {W : World} {g t X : Nat} (hX : X < 2 ^ 128) (h : Blk W g t (ints .u8 ((polyN X).set 128 1))) : Blk W g t (ints .u8 (polyN (X ^^^ 1 * 2 ^ 128))) := by
  have := polyN_set X 1 128 (by omega) (by omega)
  rw [Nat.div_eq_of_lt hX, show (0 % 2) ^^^ 1 = 1 by decide] at this
  rw [this] at h; exact h
theorem xor_pow_lt {X k : Nat} (h : X < 2 ^ 128) (hk : k < 128) : X ^^^ 1 * 2 ^ k < 2 ^ 128 := Nat.xor_lt_two_pow h (by rw [Nat.one_mul]; exact Nat.pow_lt_pow_right (by omega) hk)
set_option maxRecDepth 100000 in
set_option maxHeartbeats 20000000 in
theorem dot_ref (as_ bs : List Nat) (hl : as_.length = 16) (hb : ∀ x ∈ as_, x < 256) (hl' : bs.length = 16) (hb' : ∀ x ∈ bs, x < 256) (w : World) :
    Calls Try.prog 15 #[.agg (ints .u8 as_), .agg (ints .u8 bs)] w fun e w' => e = .returned (.agg (ints .u8 (elem (dot R1 D1 (num as_) (num bs))))) ∧ Below w.heap.size w w' := by
  have hx := num_lt hl hb
  have hy := num_lt hl' hb'
  have hd := Gf.mul_lt Gf.R1_lt hx (num bs)
  have hpl := polyN_len (mul R1 (num as_) (num bs))
  have hel := elem_len (dot R1 D1 (num as_) (num bs))
  have B0 := ((Blk.new w 22 (ints .u8 as_)).alloc (.cells (ints .u8 bs) 22)).alloc (.cells (ints .u8 (zeros 16)) 22)
  have B1 := (Blk.new (w.alloc (.cells (ints .u8 as_) 22)) 22 (ints .u8 bs)).alloc (.cells (ints .u8 (zeros 16)) 22)
  have B2 := Blk.new ((w.alloc (.cells (ints .u8 as_) 22)).alloc (.cells (ints .u8 bs) 22)) 22 (ints .u8 (zeros 16))
  rw [World.size_alloc] at B1
  rw [World.size_alloc, World.size_alloc] at B2
  simp only [Nat.add_assoc, Nat.reduceAdd] at B2
  have hbel := (((Below.refl w.heap.size w).alloc (Nat.le_refl _) (.cells (ints .u8 as_) 22)).alloc (by simp) (.cells (ints .u8 bs) 22)).alloc (by simp; omega) (.cells (ints .u8 (zeros 16)) 22)
  go_enter Try.func15, Try.ntmps15
  go_wp2_with (refine wpList_alloc_ints rfl 22 rfl Try.z22 ?_; (try simp only [Act.put, List.setIfInBounds_toArray, List.set_cons_zero, List.set_cons_succ, World.size_alloc, setRow_size, Nat.add_assoc, Nat.reduceAdd]))
  generalize (((w.alloc (.cells (ints .u8 as_) 22)).alloc (.cells (ints .u8 bs) 22)).alloc (.cells (ints .u8 (zeros 16)) 22)) = w0 at *
  refine wp_region_inv (by kernel_rfl) (by kernel_rfl) (fun D a W => ∃ u5 u8 u9 u10 u11 u12 : Value, a = { tmps := #[.agg (ints .u8 as_), .agg (ints .u8 bs), .pointer (some ⟨w.heap.size, 0, none⟩), .pointer (some ⟨w.heap.size + 1, 0, none⟩), .pointer (some ⟨w.heap.size + 2, 0, none⟩), u5, undef, undef, u8, u9, u10, u11, u12, undef, undef, undef, undef, undef, undef, undef, undef, undef, undef, undef, undef, undef, undef, undef, undef, undef, undef, undef, undef, undef, undef, undef, undef, undef, undef, undef, undef, undef, undef, undef, undef, undef, undef], defers := [] } ∧ Below w0.heap.size w0 W ∧ (D 0 → u8 = .agg (ints .u8 as_)) ∧ (D 1 → u9 = .agg (ints .u8 (polyN (num as_)))) ∧ (D 2 → u10 = .agg (ints .u8 bs)) ∧ (D 3 → u11 = .agg (ints .u8 (polyN (num bs)))) ∧ (D 4 → u12 = .agg (ints .u8 (polyN (mul R1 (num as_) (num bs))))) ∧ (D 5 → Al W w0.heap.size u5 47 256 .u8 (D 6) (polyN (mul R1 (num as_) (num bs)))) ∧ (D 6 → D 5)) ?_ ?_ ?_
  · exact ⟨_, _, _, _, _, _, rfl, ⟨rfl, rfl, rfl, Nat.le_refl _, fun _ _ => rfl⟩, (fun h => h.elim), (fun h => h.elim), (fun h => h.elim), (fun h => h.elim), (fun h => h.elim), (fun h => h.elim), (fun h => h.elim)⟩
  · intro i o hi D a W hI hnD hall
    obtain ⟨u5, u8, u9, u10, u11, u12, rfl, hW, f0, f1, f2, f3, f4, f5, f6⟩ := hI
    rcases i with _ | _ | _ | _ | _ | _ | _ | i
    · simp only [Nat.zero_add, Nat.reduceAdd, List.getElem?_toArray, List.getElem?_cons_succ, List.getElem?_cons_zero, Option.some.injEq] at hi
      subst hi
      refine wpOp_load rfl rfl rfl rfl (B0.below' hW) Try.ar22 hl ?_
      exact ⟨_, _, _, _, _, _, rfl, hW, (fun _ => rfl), (fun h => f1 (h.resolve_left (by decide))), (fun h => f2 (h.resolve_left (by decide))), (fun h => f3 (h.resolve_left (by decide))), (fun h => f4 (h.resolve_left (by decide))), (fun h => (f5 (h.resolve_left (by decide))).same (fun h' => h'.resolve_left (by decide))), (fun h => .inr (f6 (h.resolve_left (by decide))))⟩
    · simp only [Nat.zero_add, Nat.reduceAdd, List.getElem?_toArray, List.getElem?_cons_succ, List.getElem?_cons_zero, Option.some.injEq] at hi
      subst hi
      obtain rfl := f0 (pre_of hall 0 rfl)
      refine wpOp_call 33 rfl rfl rfl Try.func33 (by kernel_rfl) (by kernel_rfl) (low_ref as_ hl hb W) ?_
      intro W' hW'
      exact ⟨_, _, _, _, _, _, rfl, bCall hW hW' hW.size, (fun h => f0 (h.resolve_left (by decide))), (fun _ => rfl), (fun h => f2 (h.resolve_left (by decide))), (fun h => f3 (h.resolve_left (by decide))), (fun h => f4 (h.resolve_left (by decide))), (fun h => (f5 (h.resolve_left (by decide))).below hW' (fun h' => h'.resolve_left (by decide))), (fun h => .inr (f6 (h.resolve_left (by decide))))⟩
    · simp only [Nat.zero_add, Nat.reduceAdd, List.getElem?_toArray, List.getElem?_cons_succ, List.getElem?_cons_zero, Option.some.injEq] at hi
      subst hi
      refine wpOp_load rfl rfl rfl rfl (B1.below' hW) Try.ar22 hl' ?_
      exact ⟨_, _, _, _, _, _, rfl, hW, (fun h => f0 (h.resolve_left (by decide))), (fun h => f1 (h.resolve_left (by decide))), (fun _ => rfl), (fun h => f3 (h.resolve_left (by decide))), (fun h => f4 (h.resolve_left (by decide))), (fun h => (f5 (h.resolve_left (by decide))).same (fun h' => h'.resolve_left (by decide))), (fun h => .inr (f6 (h.resolve_left (by decide))))⟩
    · simp only [Nat.zero_add, Nat.reduceAdd, List.getElem?_toArray, List.getElem?_cons_succ, List.getElem?_cons_zero, Option.some.injEq] at hi
      subst hi
      obtain rfl := f2 (pre_of hall 2 rfl)
      refine wpOp_call 33 rfl rfl rfl Try.func33 (by kernel_rfl) (by kernel_rfl) (low_ref bs hl' hb' W) ?_
      intro W' hW'
      exact ⟨_, _, _, _, _, _, rfl, bCall hW hW' hW.size, (fun h => f0 (h.resolve_left (by decide))), (fun h => f1 (h.resolve_left (by decide))), (fun h => f2 (h.resolve_left (by decide))), (fun _ => rfl), (fun h => f4 (h.resolve_left (by decide))), (fun h => (f5 (h.resolve_left (by decide))).below hW' (fun h' => h'.resolve_left (by decide))), (fun h => .inr (f6 (h.resolve_left (by decide))))⟩
    · simp only [Nat.zero_add, Nat.reduceAdd, List.getElem?_toArray, List.getElem?_cons_succ, List.getElem?_cons_zero, Option.some.injEq] at hi
      subst hi
      obtain rfl := f1 (pre_of hall 1 rfl)
      obtain rfl := f3 (pre_of hall 3 rfl)
      refine wpOp_call 32 rfl rfl rfl Try.func32 (by kernel_rfl) (by kernel_rfl) (rest1_ref (num as_) (num bs) hx hy W) ?_
      intro W' hW'
      exact ⟨_, _, _, _, _, _, rfl, bCall hW hW' hW.size, (fun h => f0 (h.resolve_left (by decide))), (fun h => f1 (h.resolve_left (by decide))), (fun h => f2 (h.resolve_left (by decide))), (fun h => f3 (h.resolve_left (by decide))), (fun _ => rfl), (fun h => (f5 (h.resolve_left (by decide))).below hW' (fun h' => h'.resolve_left (by decide))), (fun h => .inr (f6 (h.resolve_left (by decide))))⟩
    · simp only [Nat.zero_add, Nat.reduceAdd, List.getElem?_toArray, List.getElem?_cons_succ, List.getElem?_cons_zero, Option.some.injEq] at hi
      subst hi
      refine wpOp_alloc rfl rfl rfl Try.z47 ?_
      have hnS : ¬ (6 = 5 ∨ D 6) := fun h => h.elim (by decide) (fun h => hnD (f6 h))
      exact ⟨_, _, _, _, _, _, rfl, hW.alloc hW.size _, (fun h => f0 (h.resolve_left (by decide))), (fun h => f1 (h.resolve_left (by decide))), (fun h => f2 (h.resolve_left (by decide))), (fun h => f3 (h.resolve_left (by decide))), (fun h => f4 (h.resolve_left (by decide))), (fun _ => Al.new hW.size (fun h => (hnS h).elim)), (fun _ => .inl rfl)⟩
    · simp only [Nat.zero_add, Nat.reduceAdd, List.getElem?_toArray, List.getElem?_cons_succ, List.getElem?_cons_zero, Option.some.injEq] at hi
      subst hi
      obtain rfl := f4 (pre_of hall 4 rfl)
      obtain ⟨g, l, rfl, hg, hl0, hB, hst⟩ := f5 (pre_of hall 5 rfl)
      refine wpOp_store rfl rfl rfl rfl rfl hB ((ints_size _ _).trans hl0) Try.ar47 hpl ?_
      exact ⟨_, _, _, _, _, _, rfl, bSetRow hW hg _, (fun h => f0 (h.resolve_left (by decide))), (fun h => f1 (h.resolve_left (by decide))), (fun h => f2 (h.resolve_left (by decide))), (fun h => f3 (h.resolve_left (by decide))), (fun h => f4 (h.resolve_left (by decide))), (fun _ => Al.set hB hg hpl), (fun _ => .inr (pre_of hall 5 rfl))⟩
    · exfalso; simp at hi
  · rintro D a W ⟨u5, u8, u9, u10, u11, u12, rfl, hW, f0, f1, f2, f3, f4, f5, f6⟩ hall
    obtain rfl := f0 (hall 0 (by decide))
    obtain rfl := f1 (hall 1 (by decide))
    obtain rfl := f2 (hall 2 (by decide))
    obtain rfl := f3 (hall 3 (by decide))
    obtain rfl := f4 (hall 4 (by decide))
    obtain ⟨g5, l5, rfl, hg5, -, hB5, hl5⟩ := f5 (hall 5 (by decide))
    obtain rfl := hl5 (hall 6 (by decide))
    clear f0 f1 f2 f3 f4 f5 f6 hall
    have C2 := B2.below' hW
    have hlt2 := B2.lt
    have hbel1 := bCall hbel hW (by omega)
    have hg : w.heap.size + 2 < g5 := by omega
    clear B0 B1 B2 hbel hW hl5 hg5
    have hdot : downN D1 128 (mul R1 (num as_) (num bs)) = dot R1 D1 (num as_) (num bs) := rfl
    have HD := Lib.hid hdot
    clear hdot hpl
    obtain ⟨x, Hx⟩ : ∃ x, Hid (mul R1 (num as_) (num bs) = x) := ⟨_, Lib.hid rfl⟩
    rw [Hx.out] at hB5 hd HD
    go_wp2
    go_loopw [6] (fun t wr => ∃ i : Nat, i ≤ 128 ∧ t = .int .i64 i ∧ Blk wr (w.heap.size + 2) 22 (ints .u8 (zeros 16)) ∧ Blk wr g5 47 (ints .u8 (polyN (downN D1 i x))) ∧ Below w.heap.size w wr) (fun t wr => 128 - (intOf t).toNat)
    case atStart => exact ⟨0, by omega, rfl, C2, hB5, hbel1⟩
    case round =>
      rename_i hrel
      obtain ⟨i, hi, rfl, D2, C5, hbelr⟩ := hrel
      clear C2 hB5 hbel1
      by_cases hlt : i < 128
      · have hN := Gf.downN_lt Gf.pair1.d hd i
        have Hs := Lib.hid (show downN D1 (i + 1) x = down D1 (downN D1 i x) from rfl)
        generalize downN D1 i x = N at *
        have hd0 : decide ((i : Int) < 128) = true := by simp; omega
        obtain ⟨v, hv, H, c0, -⟩ := poly_cell C5 0 (by omega)
        have hv2 : v = 0 ∨ v = 1 := by omega
        rcases hv2 with rfl | rfl
        · have HM := Lib.hid (dot_even H.out)
          have hM := Lib.hid (show N < 2 ^ 129 from Nat.lt_of_lt_of_le hN (by decide))
          clear hN H
          rw [← HM.out] at Hs
          clear HM
          go_wp2
          obtain ⟨M, rfl⟩ : ∃ M, M = N := ⟨_, rfl⟩
          have G2 := D2
          have G5 := C5
          have hbel6 := hbelr
          clear D2 C5 hbelr c0
          rw [← shL_zero M] at G5
          go_loopw [7] (fun t wr => ∃ k : Nat, k ≤ 128 ∧ t = .int .i64 k ∧ Blk wr (w.heap.size + 2) 22 (ints .u8 (zeros 16)) ∧ Blk wr g5 47 (ints .u8 (shL M k)) ∧ Below w.heap.size w wr) (fun t wr => 128 - (intOf t).toNat)
          case atStart => exact ⟨0, by omega, rfl, G2, G5, hbel6⟩
          case round =>
            rename_i hrel
            obtain ⟨k, hk, rfl, I2, I5, hbel7⟩ := hrel
            clear G2 G5 hbel6
            have hSl := shL_len M (show k ≤ 256 by omega)
            by_cases hlk : k < 128
            · have c7 := I5.int (i := k + 1) (by omega)
              rw [shL_get M (by omega)] at c7
              have hset := shL_set M (show k < 256 by omega)
              generalize M / 2 ^ (k + 1) % 2 = v at *
              have HS := Lib.hid hset
              clear hset
              have hd1 : decide ((k : Int) < 128) = true := by simp; omega
              go_wp2_with (refine wpList_store_one rfl 5 _ _ rfl Try.one5 I5 k v rfl rfl (by omega) ?_; intro w7 J5 F7; rw [HS.out] at J5; (try simp only [Act.put, List.setIfInBounds_toArray, List.set_cons_zero, List.set_cons_succ, World.size_alloc, setRow_size, Nat.add_assoc, Nat.reduceAdd]))
              exact ⟨⟨k + 1, by omega, by go_num, F7.blk I2 (by omega), J5, F7.below hbel7 (by omega)⟩, by simp [intOf] <;> omega⟩
            · obtain rfl : k = 128 := by omega
              go_wp2_with (refine wpList_store_one rfl 5 _ _ rfl Try.one5 I5 128 0 rfl rfl (by omega) ?_; intro w7 J5 F7; rw [shL_end hM.out, ← Hs.out] at J5; (try simp only [Act.put, List.setIfInBounds_toArray, List.set_cons_zero, List.set_cons_succ, World.size_alloc, setRow_size, Nat.add_assoc, Nat.reduceAdd]))
              exact ⟨⟨i + 1, by omega, by go_num, F7.blk I2 (by omega), J5, F7.below hbel7 (by omega)⟩, by simp [intOf] <;> omega⟩
        · have hN1 := xor_pow_lt hN (show 0 < 128 by omega)
          have hN2 := xor_pow_lt hN1 (show 121 < 128 by omega)
          have hN3 := xor_pow_lt hN2 (show 126 < 128 by omega)
          have hN4 := xor_pow_lt hN3 (show 127 < 128 by omega)
          have HM := Lib.hid (dot_odd H.out)
          have hM : ((((N ^^^ 1 * 2 ^ 0) ^^^ 1 * 2 ^ 121) ^^^ 1 * 2 ^ 126) ^^^ 1 * 2 ^ 127) ^^^ 1 * 2 ^ 128 < 2 ^ 129 := Nat.xor_lt_two_pow (Nat.lt_of_lt_of_le hN4 (by decide)) (by decide)
          have hN4 := Lib.hid hN4
          have hM := Lib.hid hM
          clear hN hN1 hN2 hN3
          rw [← HM.out] at Hs
          go_wp2_with (first
              | (refine wpList_store_one rfl 5 _ _ rfl Try.one5 C5 0 0 rfl rfl (by rw [polyN_len]; omega) ?_; intro w2 E2 F2; rw [polyN_clear N 0 (by omega) H.out] at E2; obtain ⟨v2, hv2, H2, e2, x2⟩ := poly_cell E2 121 (by omega); (try simp only [Act.put, List.setIfInBounds_toArray, List.set_cons_zero, List.set_cons_succ, World.size_alloc, setRow_size, Nat.add_assoc, Nat.reduceAdd]))
              | (refine wpList_store_one rfl 5 _ _ rfl Try.one5 E2 121 (v2 ^^^ 1) rfl rfl (by rw [polyN_len]; omega) ?_; intro w3 E3' F3; have E3 := poly_flip H2 (by omega) E3'; clear E3'; obtain ⟨v3, hv3, H3, e3, x3⟩ := poly_cell E3 126 (by omega); (try simp only [Act.put, List.setIfInBounds_toArray, List.set_cons_zero, List.set_cons_succ, World.size_alloc, setRow_size, Nat.add_assoc, Nat.reduceAdd]))
              | (refine wpList_store_one rfl 5 _ _ rfl Try.one5 E3 126 (v3 ^^^ 1) rfl rfl (by rw [polyN_len]; omega) ?_; intro w4 E4' F4; have E4 := poly_flip H3 (by omega) E4'; clear E4'; obtain ⟨v4, hv4, H4, e4, x4⟩ := poly_cell E4 127 (by omega); (try simp only [Act.put, List.setIfInBounds_toArray, List.set_cons_zero, List.set_cons_succ, World.size_alloc, setRow_size, Nat.add_assoc, Nat.reduceAdd]))
              | (refine wpList_store_one rfl 5 _ _ rfl Try.one5 E4 127 (v4 ^^^ 1) rfl rfl (by rw [polyN_len]; omega) ?_; intro w5 E5' F5; have E5 := poly_flip H4 (by omega) E5'; clear E5'; (try simp only [Act.put, List.setIfInBounds_toArray, List.set_cons_zero, List.set_cons_succ, World.size_alloc, setRow_size, Nat.add_assoc, Nat.reduceAdd]))
              | (refine wpList_store_one rfl 5 _ _ rfl Try.one5 E5 128 1 rfl rfl (by rw [polyN_len]; omega) ?_; intro w6 E6' F6; have E6 := poly_top hN4.out E6'; clear E6'; (try simp only [Act.put, List.setIfInBounds_toArray, List.set_cons_zero, List.set_cons_succ, World.size_alloc, setRow_size, Nat.add_assoc, Nat.reduceAdd])))
          obtain ⟨M, HMM⟩ : ∃ M, Hid (((((N ^^^ 1 * 2 ^ 0) ^^^ 1 * 2 ^ 121) ^^^ 1 * 2 ^ 126) ^^^ 1 * 2 ^ 127) ^^^ 1 * 2 ^ 128 = M) := ⟨_, Lib.hid rfl⟩
          rw [HMM.out] at E6 Hs hM
          have G2 := F6.blk (F5.blk (F4.blk (F3.blk (F2.blk D2 (by omega)) (by omega)) (by omega)) (by omega)) (by omega)
          have hbel6 := F6.below (F5.below (F4.below (F3.below (F2.below hbelr (by omega)) (by omega)) (by omega)) (by omega)) (by omega)
          have G5 := E6
          clear F6 F5 F4 F3 F2 E6 E5 E4 E3 E2 D2 C5 hbelr H H2 H3 H4 HMM HM hN4 e2 e3 e4 c0 x2 x3 x4 hv2 hv3 hv4
          rw [← shL_zero M] at G5
          go_loopw [7] (fun t wr => ∃ k : Nat, k ≤ 128 ∧ t = .int .i64 k ∧ Blk wr (w.heap.size + 2) 22 (ints .u8 (zeros 16)) ∧ Blk wr g5 47 (ints .u8 (shL M k)) ∧ Below w.heap.size w wr) (fun t wr => 128 - (intOf t).toNat)
          case atStart => exact ⟨0, by omega, rfl, G2, G5, hbel6⟩
          case round =>
            rename_i hrel
            obtain ⟨k, hk, rfl, I2, I5, hbel7⟩ := hrel
            clear G2 G5 hbel6
            have hSl := shL_len M (show k ≤ 256 by omega)
            by_cases hlk : k < 128
            · have c7 := I5.int (i := k + 1) (by omega)
              rw [shL_get M (by omega)] at c7
              have hset := shL_set M (show k < 256 by omega)
              generalize M / 2 ^ (k + 1) % 2 = v at *
              have HS := Lib.hid hset
              clear hset
              have hd1 : decide ((k : Int) < 128) = true := by simp; omega
              go_wp2_with (refine wpList_store_one rfl 5 _ _ rfl Try.one5 I5 k v rfl rfl (by omega) ?_; intro w7 J5 F7; rw [HS.out] at J5; (try simp only [Act.put, List.setIfInBounds_toArray, List.set_cons_zero, List.set_cons_succ, World.size_alloc, setRow_size, Nat.add_assoc, Nat.reduceAdd]))
              exact ⟨⟨k + 1, by omega, by go_num, F7.blk I2 (by omega), J5, F7.below hbel7 (by omega)⟩, by simp [intOf] <;> omega⟩
            · obtain rfl : k = 128 := by omega
              go_wp2_with (refine wpList_store_one rfl 5 _ _ rfl Try.one5 I5 128 0 rfl rfl (by omega) ?_; intro w7 J5 F7; rw [shL_end hM.out, ← Hs.out] at J5; (try simp only [Act.put, List.setIfInBounds_toArray, List.set_cons_zero, List.set_cons_succ, World.size_alloc, setRow_size, Nat.add_assoc, Nat.reduceAdd]))
              exact ⟨⟨i + 1, by omega, by go_num, F7.blk I2 (by omega), J5, F7.below hbel7 (by omega)⟩, by simp [intOf] <;> omega⟩
      · obtain rfl : i = 128 := by omega
        have hdl := Gf.downN_lt Gf.pair1.d hd 128
        rw [HD.out] at C5 hdl
        have hpl := polyN_len (dot R1 D1 (num as_) (num bs))
        have Hdl := Lib.hid hdl
        clear hdl hd
        go_wp2_with (refine wpList_load_ints rfl 47 _ rfl g5 rfl C5 Try.ar47 hpl ?_; (try simp only [Act.put, List.setIfInBounds_toArray, List.set_cons_zero, List.set_cons_succ, World.size_alloc, setRow_size, Nat.add_assoc, Nat.reduceAdd]))
        refine (lowest_ref _ Hdl.out _).mono ?_
        rintro e w8 ⟨rfl, hb8⟩
        have K2 := D2.below' hb8
        have hbel8 := bCall hbelr hb8 hbelr.size
        go_wp2_with (refine wpList_store_ints rfl 22 _ _ rfl (w.heap.size + 2) rfl rfl K2 (zeros_size _ _) Try.ar22 hel ?_; (try simp only [Act.put, List.setIfInBounds_toArray, List.set_cons_zero, List.set_cons_succ, World.size_alloc, setRow_size, Nat.add_assoc, Nat.reduceAdd]))
        exact ret_ints rfl rfl (K2.row _) Try.ar22 hel ⟨rfl, bSetRow hbel8 (by omega) _⟩
end Go.Proofs.Ytehhipanbjhffaa
