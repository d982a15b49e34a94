/- What nh.Hash answers. No condition but that the rows are no longer than a slice may be. -/
import Derived.Test.YtolfngmpoafaaaaW9b
import Derived.StillTailTactics
namespace Go.Proofs.Ytolfngmpoafaaaa
set_option linter.unusedSimpArgs false
set_option linter.unusedVariables false
set_option linter.unusedSectionVars false
set_option linter.unusedVariables false
open Go.RowKit
/-- The sums of the four passes: the first p of them one unit further. -/
def sumsN (W bs : List Nat) (u p : Nat) : List Nat := (List.range 4).map fun i => if i < p then nhS W bs i (u + 1) else nhS W bs i u
theorem sumsN_zero (W bs : List Nat) : sumsN W bs 0 0 = zeros 4 := rfl
theorem sumsN_len (W bs : List Nat) (u p : Nat) : (sumsN W bs u p).length = 4 := by simp [sumsN]
theorem sumsN_full (W bs : List Nat) (u : Nat) : sumsN W bs u 4 = sumsN W bs (u + 1) 0 := by
  unfold sumsN
  apply List.map_congr_left
  intro i hi
  rw [List.mem_range] at hi
  rw [if_pos hi, if_neg (by omega)]
theorem sumsN_getD (W bs : List Nat) (u p i : Nat) (hi : i < 4) : (sumsN W bs u p).getD i 0 = if i < p then nhS W bs i (u + 1) else nhS W bs i u := by
  unfold sumsN
  rw [List.getD_eq_getElem?_getD, List.getElem?_map, List.getElem?_range hi]; rfl
theorem sumsN_set (W bs : List Nat) (u p : Nat) (hp : p < 4) : (sumsN W bs u p).set p (nhS W bs p (u + 1)) = sumsN W bs u (p + 1) := by
  apply List.ext_getElem? fun i => ?_
  by_cases hi : i < 4
  · rw [getD_lt (xs := sumsN W bs u (p + 1)) (by rw [sumsN_len]; exact hi), sumsN_getD _ _ _ _ _ hi, List.getElem?_set]
    by_cases h : p = i
    · subst h
      rw [if_pos rfl, if_pos (by rw [sumsN_len]; exact hp), if_pos (by omega)]
    · rw [if_neg h, getD_lt (by rw [sumsN_len]; exact hi), sumsN_getD _ _ _ _ _ hi]
      by_cases h2 : i < p
      · rw [if_pos h2, if_pos (by omega)]
      · rw [if_neg h2, if_neg (by omega)]
  · rw [List.getElem?_eq_none (by simp [sumsN_len]; omega), List.getElem?_eq_none (by rw [sumsN_len]; omega)]
theorem splice_next (W bs : List Nat) {p : Nat} (hp : p < 4) : splice ((nhH W bs).take (8 * p) ++ zeros (32 - 8 * p)) (8 * p) (nhB W bs p) = (nhH W bs).take (8 * (p + 1)) ++ zeros (32 - 8 * (p + 1)) := by
  have hH := nhH_len W bs
  have hB := nhB_len W bs p
  apply List.ext_getElem? fun i => ?_
  by_cases hi : i < 32
  · have e1 : (splice ((nhH W bs).take (8 * p) ++ zeros (32 - 8 * p)) (8 * p) (nhB W bs p)).length = 32 := by
      rw [splice_len (by simp [zeros, hH, hB]; omega)]; simp [zeros, hH]; omega
    have e2 : ((nhH W bs).take (8 * (p + 1)) ++ zeros (32 - 8 * (p + 1))).length = 32 := by simp [zeros, hH]; omega
    rw [getD_lt (by omega), getD_lt (by omega)]
    congr 1
    simp only [splice, List.getD_eq_getElem?_getD]
    by_cases h1 : i < 8 * p
    · rw [List.getElem?_append_left (by simp [zeros, hH]; omega), List.getElem?_take, if_pos h1, List.getElem?_append_left (by simp [hH]; omega), List.getElem?_take, if_pos h1, List.getElem?_append_left (by simp [hH]; omega), List.getElem?_take, if_pos (by omega)]
    · have e3 : (((nhH W bs).take (8 * p) ++ zeros (32 - 8 * p)).take (8 * p)).length = 8 * p := by simp [zeros, hH]; omega
      rw [List.getElem?_append_right (by omega), e3]
      by_cases h2 : i < 8 * p + 8
      · have hg := nhH_getD W bs p (i - 8 * p) hp (by omega)
        rw [show 8 * p + (i - 8 * p) = i by omega] at hg
        simp only [List.getD_eq_getElem?_getD] at hg
        rw [List.getElem?_append_left (by omega), ← hg, List.getElem?_append_left (by simp [hH]; omega), List.getElem?_take, if_pos (by omega)]
      · rw [List.getElem?_append_right (by omega), List.getElem?_drop, hB, List.getElem?_append_right (by simp [hH]; omega), List.getElem?_append_right (by simp [hH]; omega)]
        have z : ∀ m j : Nat, (zeros m)[j]?.getD 0 = 0 := fun m j => by
          unfold zeros; rw [List.getElem?_replicate]; split <;> rfl
        rw [z, z]
  · rw [List.getElem?_eq_none (by rw [splice_len (by simp [zeros, hH, hB]; omega)]; simp [zeros, hH]; omega), List.getElem?_eq_none (by simp [zeros, hH]; omega)]
theorem sum_step (a x y : Nat) : IntKind.u64.wrap ((a : Int) + IntKind.u64.wrap ((x : Int) + (y : Int))) = (((a + (x + y)) % 18446744073709551616 : Nat) : Int) := by
  simp [IntKind.wrap, IntKind.bits, IntKind.signed]
set_option maxRecDepth 100000 in
set_option maxHeartbeats 8000000 in
theorem hash_c (aw ab : Option Addr) (cw cb : Nat) (W bs : List Nat) (hb : ∀ x ∈ bs, x < 256) (hW : ∀ x ∈ W, x < 4294967296) (hlb : bs.length < 2 ^ 40) (hlW : W.length < 2 ^ 40) (hcw : W.length ≤ cw) (hcw' : cw ≤ maxLen) (w : World) (hsw : Sl w aw .u32 W) (hsb : Sl w ab .u8 bs) :
    Calls Try.prog 21 #[.slice aw W.length cw, .slice ab bs.length cb] w fun e w' => e = .returned (.tuple #[.agg (ints .u8 (nhOut W bs)), .int .i64 (nhErr W bs : Nat)]) ∧ Below w.heap.size w w' := by
  have Z0 := (Blk.new w 47 (ints .u8 (zeros 32))).alloc (.cells (ints .u8 (zeros 32)) 47)
  have Z1 := Blk.new (w.alloc (.cells (ints .u8 (zeros 32)) 47)) 47 (ints .u8 (zeros 32))
  rw [World.size_alloc] at Z1
  have hbel := ((Below.refl w.heap.size w).alloc (Nat.le_refl _) (.cells (ints .u8 (zeros 32)) 47)).alloc (by simp) (.cells (ints .u8 (zeros 32)) 47)
  have hbelz := bSetRow hbel (Nat.le_refl w.heap.size) (ints .u8 (zeros 32))
  have ZR := Z0.row (ints .u8 (zeros 32))
  by_cases h1 : 1024 < bs.length
  · have e1 : nhErr W bs = 6 := by simp [nhErr, h1]
    have e2 : nhOut W bs = zeros 32 := by simp [nhOut, e1, zeros]
    rw [e1, e2]
    clear e1 e2
    go_enter Try.func21, Try.ntmps21
    go_wp2_with (first | (refine wpList_alloc_ints rfl 47 rfl Try.z47 ?_; (try simp only [Act.put, List.setIfInBounds_toArray, List.set_cons_zero, List.set_cons_succ, World.size_alloc, setRow_size, Nat.add_assoc, Nat.reduceAdd])))
    go_step3
    go_wp2_with (first | (refine wpList_alloc_ints rfl 47 rfl Try.z47 ?_; (try simp only [Act.put, List.setIfInBounds_toArray, List.set_cons_zero, List.set_cons_succ, World.size_alloc, setRow_size, Nat.add_assoc, Nat.reduceAdd])) | (refine wpList_load_ints rfl 47 _ rfl (w.heap.size + 1) rfl Z1 Try.ar47 (zeros_len _) ?_; (try simp only [Act.put, List.setIfInBounds_toArray, List.set_cons_zero, List.set_cons_succ, World.size_alloc, setRow_size, Nat.add_assoc, Nat.reduceAdd])) | (refine wpList_store_ints rfl 47 _ _ rfl w.heap.size rfl rfl Z0 (zeros_size _ _) Try.ar47 (zeros_len _) ?_; (try simp only [Act.put, List.setIfInBounds_toArray, List.set_cons_zero, List.set_cons_succ, World.size_alloc, setRow_size, Nat.add_assoc, Nat.reduceAdd])))
    rw [Exit.noGoto_ret]; exact ret_ints_tmp rfl rfl rfl ZR Try.ar47 (zeros_len _) ⟨rfl, hbelz⟩
  · by_cases h2 : bs.length % 16 = 0
    · by_cases h3 : W.length < bs.length / 4 + 12
      · have e1 : nhErr W bs = 2 := by simp [nhErr, h1, h2, h3]
        have e2 : nhOut W bs = zeros 32 := by simp [nhOut, e1, zeros]
        rw [e1, e2]
        clear e1 e2
        have h3i : (W.length : Int) < (bs.length : Int) / 16 * 4 + 12 := by omega
        go_enter Try.func21, Try.ntmps21
        go_wp2_with (first | (refine wpList_alloc_ints rfl 47 rfl Try.z47 ?_; (try simp only [Act.put, List.setIfInBounds_toArray, List.set_cons_zero, List.set_cons_succ, World.size_alloc, setRow_size, Nat.add_assoc, Nat.reduceAdd])))
        go_step3
        go_wp2_with (first | (refine wpList_alloc_ints rfl 47 rfl Try.z47 ?_; (try simp only [Act.put, List.setIfInBounds_toArray, List.set_cons_zero, List.set_cons_succ, World.size_alloc, setRow_size, Nat.add_assoc, Nat.reduceAdd])) | (refine wpList_load_ints rfl 47 _ rfl (w.heap.size + 1) rfl Z1 Try.ar47 (zeros_len _) ?_; (try simp only [Act.put, List.setIfInBounds_toArray, List.set_cons_zero, List.set_cons_succ, World.size_alloc, setRow_size, Nat.add_assoc, Nat.reduceAdd])) | (refine wpList_store_ints rfl 47 _ _ rfl w.heap.size rfl rfl Z0 (zeros_size _ _) Try.ar47 (zeros_len _) ?_; (try simp only [Act.put, List.setIfInBounds_toArray, List.set_cons_zero, List.set_cons_succ, World.size_alloc, setRow_size, Nat.add_assoc, Nat.reduceAdd])))
        rw [Exit.noGoto_ret]; exact ret_ints_tmp rfl rfl rfl ZR Try.ar47 (zeros_len _) ⟨rfl, hbelz⟩
      · have e1 : nhErr W bs = 0 := by simp [nhErr, h1, h2, h3]
        have e2 : nhOut W bs = nhH W bs := by simp [nhOut, e1]
        rw [e1, e2]
        clear e1 e2
        have hH := nhH_len W bs
        have h3i : ¬ (W.length : Int) < (bs.length : Int) / 16 * 4 + 12 := by omega
        go_enter Try.func21, Try.ntmps21
        go_wp2_with (first | (refine wpList_alloc_ints rfl 47 rfl Try.z47 ?_; (try simp only [Act.put, List.setIfInBounds_toArray, List.set_cons_zero, List.set_cons_succ, World.size_alloc, setRow_size, Nat.add_assoc, Nat.reduceAdd])) | (refine wpList_alloc_ints rfl 74 rfl Try.z74 ?_; (try simp only [Act.put, List.setIfInBounds_toArray, List.set_cons_zero, List.set_cons_succ, World.size_alloc, setRow_size, Nat.add_assoc, Nat.reduceAdd])))
        have hlb' : bs.length ≤ maxLen := by unfold maxLen; omega
        have Z2 := Z0.alloc (.cells (ints .u64 (zeros 4)) 74)
        have Z3 := Z1.alloc (.cells (ints .u64 (zeros 4)) 74)
        have Z4 := Blk.new ((w.alloc (.cells (ints .u8 (zeros 32)) 47)).alloc (.cells (ints .u8 (zeros 32)) 47)) 74 (ints .u64 (zeros 4))
        rw [World.size_alloc, World.size_alloc] at Z4
        have hbel2 := hbel.alloc (by simp; omega) (.cells (ints .u64 (zeros 4)) 74)
        simp only [Nat.add_assoc, Nat.reduceAdd] at Z4
        obtain ⟨J, HJ, HI⟩ : ∃ J : Act → World → Prop, Hid (∀ (a : Act) (w' : World), J a w' → ∃ (U : Nat → Value) (u : Nat), a = { tmps := #[.slice aw W.length cw, .slice ab bs.length cb, U 2, U 3, .pointer (some ⟨w.heap.size, 0, none⟩), .int .i64 0, .pointer (some ⟨w.heap.size + 1, 0, none⟩), .pointer (some ⟨w.heap.size + 2, 0, none⟩), .int .i64 (16 * (u : Int)), U 9, U 10, U 11, U 12, U 13, U 14, U 15, U 16, U 17, U 18, U 19, U 20, U 21, U 22, U 23, U 24, U 25, U 26, U 27, U 28, U 29, U 30, U 31, U 32, U 33, U 34, U 35, U 36, U 37, U 38, U 39, U 40, U 41, U 42, U 43, U 44, U 45, U 46, U 47, U 48, U 49, U 50, U 51, U 52, U 53, U 54, U 55, U 56, U 57, U 58, U 59, U 60, U 61, U 62, U 63, U 64, U 65, U 66, U 67, U 68, U 69, U 70, U 71, U 72, U 73, U 74, U 75, U 76, U 77, U 78, U 79, U 80, U 81, U 82, U 83, U 84, U 85, U 86, U 87, U 88, U 89, U 90, U 91, U 92, U 93, U 94, U 95, U 96, U 97, U 98, U 99, U 100, U 101, U 102, U 103, U 104, U 105, U 106, U 107, U 108, U 109, U 110, U 111], defers := [] } ∧ u ≤ bs.length / 16 ∧ Blk w' w.heap.size 47 (ints .u8 (zeros 32)) ∧ Blk w' (w.heap.size + 1) 47 (ints .u8 (zeros 32)) ∧ Blk w' (w.heap.size + 2) 74 (ints .u64 (sumsN W bs u 0)) ∧ Below w.heap.size w w') ∧
            Hid (∀ (T : Array Value) (w' : World), (∃ (u : Nat), T = #[.slice aw W.length cw, .slice ab bs.length cb, T.getD 2 undef, T.getD 3 undef, .pointer (some ⟨w.heap.size, 0, none⟩), .int .i64 0, .pointer (some ⟨w.heap.size + 1, 0, none⟩), .pointer (some ⟨w.heap.size + 2, 0, none⟩), .int .i64 (16 * (u : Int)), T.getD 9 undef, T.getD 10 undef, T.getD 11 undef, T.getD 12 undef, T.getD 13 undef, T.getD 14 undef, T.getD 15 undef, T.getD 16 undef, T.getD 17 undef, T.getD 18 undef, T.getD 19 undef, T.getD 20 undef, T.getD 21 undef, T.getD 22 undef, T.getD 23 undef, T.getD 24 undef, T.getD 25 undef, T.getD 26 undef, T.getD 27 undef, T.getD 28 undef, T.getD 29 undef, T.getD 30 undef, T.getD 31 undef, T.getD 32 undef, T.getD 33 undef, T.getD 34 undef, T.getD 35 undef, T.getD 36 undef, T.getD 37 undef, T.getD 38 undef, T.getD 39 undef, T.getD 40 undef, T.getD 41 undef, T.getD 42 undef, T.getD 43 undef, T.getD 44 undef, T.getD 45 undef, T.getD 46 undef, T.getD 47 undef, T.getD 48 undef, T.getD 49 undef, T.getD 50 undef, T.getD 51 undef, T.getD 52 undef, T.getD 53 undef, T.getD 54 undef, T.getD 55 undef, T.getD 56 undef, T.getD 57 undef, T.getD 58 undef, T.getD 59 undef, T.getD 60 undef, T.getD 61 undef, T.getD 62 undef, T.getD 63 undef, T.getD 64 undef, T.getD 65 undef, T.getD 66 undef, T.getD 67 undef, T.getD 68 undef, T.getD 69 undef, T.getD 70 undef, T.getD 71 undef, T.getD 72 undef, T.getD 73 undef, T.getD 74 undef, T.getD 75 undef, T.getD 76 undef, T.getD 77 undef, T.getD 78 undef, T.getD 79 undef, T.getD 80 undef, T.getD 81 undef, T.getD 82 undef, T.getD 83 undef, T.getD 84 undef, T.getD 85 undef, T.getD 86 undef, T.getD 87 undef, T.getD 88 undef, T.getD 89 undef, T.getD 90 undef, T.getD 91 undef, T.getD 92 undef, T.getD 93 undef, T.getD 94 undef, T.getD 95 undef, T.getD 96 undef, T.getD 97 undef, T.getD 98 undef, T.getD 99 undef, T.getD 100 undef, T.getD 101 undef, T.getD 102 undef, T.getD 103 undef, T.getD 104 undef, T.getD 105 undef, T.getD 106 undef, T.getD 107 undef, T.getD 108 undef, T.getD 109 undef, T.getD 110 undef, T.getD 111 undef] ∧ u ≤ bs.length / 16 ∧ Blk w' w.heap.size 47 (ints .u8 (zeros 32)) ∧ Blk w' (w.heap.size + 1) 47 (ints .u8 (zeros 32)) ∧ Blk w' (w.heap.size + 2) 74 (ints .u64 (sumsN W bs u 0)) ∧ Below w.heap.size w w') → J { tmps := T, defers := [] } w') :=
          ⟨fun a w' => ∃ (U : Nat → Value) (u : Nat), a = { tmps := #[.slice aw W.length cw, .slice ab bs.length cb, U 2, U 3, .pointer (some ⟨w.heap.size, 0, none⟩), .int .i64 0, .pointer (some ⟨w.heap.size + 1, 0, none⟩), .pointer (some ⟨w.heap.size + 2, 0, none⟩), .int .i64 (16 * (u : Int)), U 9, U 10, U 11, U 12, U 13, U 14, U 15, U 16, U 17, U 18, U 19, U 20, U 21, U 22, U 23, U 24, U 25, U 26, U 27, U 28, U 29, U 30, U 31, U 32, U 33, U 34, U 35, U 36, U 37, U 38, U 39, U 40, U 41, U 42, U 43, U 44, U 45, U 46, U 47, U 48, U 49, U 50, U 51, U 52, U 53, U 54, U 55, U 56, U 57, U 58, U 59, U 60, U 61, U 62, U 63, U 64, U 65, U 66, U 67, U 68, U 69, U 70, U 71, U 72, U 73, U 74, U 75, U 76, U 77, U 78, U 79, U 80, U 81, U 82, U 83, U 84, U 85, U 86, U 87, U 88, U 89, U 90, U 91, U 92, U 93, U 94, U 95, U 96, U 97, U 98, U 99, U 100, U 101, U 102, U 103, U 104, U 105, U 106, U 107, U 108, U 109, U 110, U 111], defers := [] } ∧ u ≤ bs.length / 16 ∧ Blk w' w.heap.size 47 (ints .u8 (zeros 32)) ∧ Blk w' (w.heap.size + 1) 47 (ints .u8 (zeros 32)) ∧ Blk w' (w.heap.size + 2) 74 (ints .u64 (sumsN W bs u 0)) ∧ Below w.heap.size w w', Lib.hid fun _ _ h => h, Lib.hid fun T w' ⟨u, h, r⟩ => ⟨fun i => T.getD i undef, u, congrArg (fun T => ({ tmps := T, defers := [] } : Act)) h, r⟩⟩
        obtain ⟨μ, Hμ⟩ : ∃ μ : Act → World → Nat, Hid (∀ a w', μ a w' = bs.length / 16 - (intOf (a.tmps.getD 8 undef)).toNat / 16) := ⟨_, Lib.hid fun _ _ => rfl⟩
        refine wp_scope_mid 0 J μ (by simp only [findLabel]; rfl) ?_ ?_
        · intro a wr hj
          obtain ⟨U, u, rfl, hu, C0, C1, C2, hbelr⟩ := HJ.out _ _ hj
          clear hj
          have hμ := Hμ.out
          clear Hμ
          by_cases hlt : u < bs.length / 16
          · have hti : decide (16 * (u : Int) < (bs.length : Int)) = true := by simp; omega
            go_wp2_with (fail)
            refine (word_at ab cb bs hb hlb' (16 * u) (16 * (u : Int)) (by omega) (by omega) _ (hsb.below hbelr)).mono ?_
            rintro e w1 ⟨rfl, hb1⟩
            have hbel1 := bCall hbelr hb1 hbelr.size
            go_wp2_with (fail)
            refine (word_at ab cb bs hb hlb' (16 * u + 4) (16 * (u : Int) + 4) (by omega) (by omega) _ (hsb.below hbel1)).mono ?_
            rintro e w2 ⟨rfl, hb2⟩
            have hbel2' := bCall hbel1 hb2 hbel1.size
            go_wp2_with (fail)
            refine (word_at ab cb bs hb hlb' (16 * u + 8) (16 * (u : Int) + 8) (by omega) (by omega) _ (hsb.below hbel2')).mono ?_
            rintro e w3 ⟨rfl, hb3⟩
            have hbel3 := bCall hbel2' hb3 hbel2'.size
            go_wp2_with (fail)
            refine (word_at ab cb bs hb hlb' (16 * u + 12) (16 * (u : Int) + 12) (by omega) (by omega) _ (hsb.below hbel3)).mono ?_
            rintro e w4 ⟨rfl, hb4⟩
            have hbel4 := bCall hbel3 hb4 hbel3.size
            have D0 := ((((C0.below' hb1).below' hb2).below' hb3).below' hb4)
            have D1 := ((((C1.below' hb1).below' hb2).below' hb3).below' hb4)
            have D2 := ((((C2.below' hb1).below' hb2).below' hb3).below' hb4)
            clear C0 C1 C2 hb1 hb2 hb3 hb4 hbelr hbel1 hbel2' hbel3 hti
            have l2 := D2.lt
            have M0 := Blk.new w4 75 (ints .u32 (zeros 4))
            have hm0 := numAt_lt hb (16 * u) 4
            have hm1 := numAt_lt hb (16 * u + 4) 4
            have hm2 := numAt_lt hb (16 * u + 8) 4
            have hm3 := numAt_lt hb (16 * u + 12) 4
            go_wp2_with (first | (refine wpList_alloc_ints rfl 75 rfl Try.z75 ?_; (try simp only [Act.put, List.setIfInBounds_toArray, List.set_cons_zero, List.set_cons_succ, World.size_alloc, setRow_size, Nat.add_assoc, Nat.reduceAdd])) | (refine wpList_store_ints rfl 75 _ _ rfl w4.heap.size (k := .u32) (xs := [numAt bs (16 * u) 4, numAt bs (16 * u + 4) 4, numAt bs (16 * u + 8) 4, numAt bs (16 * u + 12) 4]) rfl rfl M0 (zeros_size _ _) Try.ar75 rfl ?_; (try simp only [Act.put, List.setIfInBounds_toArray, List.set_cons_zero, List.set_cons_succ, World.size_alloc, setRow_size, Nat.add_assoc, Nat.reduceAdd])))
            have E0 := (D0.alloc (.cells (ints .u32 (zeros 4)) 75)).rowFar (show w.heap.size ≠ w4.heap.size by omega) (ints .u32 [numAt bs (16 * u) 4, numAt bs (16 * u + 4) 4, numAt bs (16 * u + 8) 4, numAt bs (16 * u + 12) 4])
            have E1 := (D1.alloc (.cells (ints .u32 (zeros 4)) 75)).rowFar (show w.heap.size + 1 ≠ w4.heap.size by omega) (ints .u32 [numAt bs (16 * u) 4, numAt bs (16 * u + 4) 4, numAt bs (16 * u + 8) 4, numAt bs (16 * u + 12) 4])
            have E2 := (D2.alloc (.cells (ints .u32 (zeros 4)) 75)).rowFar (show w.heap.size + 2 ≠ w4.heap.size by omega) (ints .u32 [numAt bs (16 * u) 4, numAt bs (16 * u + 4) 4, numAt bs (16 * u + 8) 4, numAt bs (16 * u + 12) 4])
            have M1 := M0.row (ints .u32 [numAt bs (16 * u) 4, numAt bs (16 * u + 4) 4, numAt bs (16 * u + 8) 4, numAt bs (16 * u + 12) 4])
            have hbel5 := bSetRow (hbel4.alloc hbel4.size (.cells (ints .u32 (zeros 4)) 75)) hbel4.size (ints .u32 [numAt bs (16 * u) 4, numAt bs (16 * u + 4) 4, numAt bs (16 * u + 8) 4, numAt bs (16 * u + 12) 4])
            clear D0 D1 D2 M0 hbel4
            generalize ((w4.alloc (.cells (ints .u32 (zeros 4)) 75)).setRow w4.heap.size (ints .u32 [numAt bs (16 * u) 4, numAt bs (16 * u + 4) 4, numAt bs (16 * u + 8) 4, numAt bs (16 * u + 12) 4])) = w5 at *
            generalize w4.heap.size = gm at *
            go_loopw [56] (fun t wr => ∃ p : Nat, p ≤ 4 ∧ t = .int .i64 p ∧ Blk wr w.heap.size 47 (ints .u8 (zeros 32)) ∧ Blk wr (w.heap.size + 1) 47 (ints .u8 (zeros 32)) ∧ Blk wr (w.heap.size + 2) 74 (ints .u64 (sumsN W bs u p)) ∧ Blk wr gm 75 (ints .u32 [numAt bs (16 * u) 4, numAt bs (16 * u + 4) 4, numAt bs (16 * u + 8) 4, numAt bs (16 * u + 12) 4]) ∧ Below w.heap.size w wr) (fun t wr => 4 - (intOf t).toNat)
            case atStart => exact ⟨0, by omega, rfl, E0, E1, E2, M1, hbel5⟩
            case round =>
              rename_i hrel
              obtain ⟨p, hp, rfl, F0, F1, F2, F3, hbel6⟩ := hrel
              by_cases hlp : p < 4
              · obtain ⟨g, off, rfl, hg, k0⟩ := (hsw.below hbel6).at_ (i := 4 * u + 4 * p) (by omega)
                have k1 := (hsw.below hbel6).eq (i := 4 * u + 4 * p + 1) (by omega)
                have k2 := (hsw.below hbel6).eq (i := 4 * u + 4 * p + 2) (by omega)
                have k3 := (hsw.below hbel6).eq (i := 4 * u + 4 * p + 3) (by omega)
                have ea : off + (4 * u + 4 * p) = off + (u * 4 + p * 4) := by omega
                have ea1 : off + (4 * u + 4 * p + 1) = off + (u * 4 + p * 4) + 1 := by omega
                have ea2 : off + (4 * u + 4 * p + 2) = off + (u * 4 + p * 4) + 2 := by omega
                have ea3 : off + (4 * u + 4 * p + 3) = off + (u * 4 + p * 4) + 3 := by omega
                rw [ea] at k0
                rw [ea1] at k1
                rw [ea2] at k2
                rw [ea3] at k3
                clear ea ea1 ea2 ea3
                have y0 : 0 < W.length - (u * 4 + p * 4) := by omega
                have y1 : 1 < W.length - (u * 4 + p * 4) := by omega
                have y2 : 2 < W.length - (u * 4 + p * 4) := by omega
                have y3 : 3 < W.length - (u * 4 + p * 4) := by omega
                have y1' : (1 : Int) < ((W.length - (u * 4 + p * 4) : Nat) : Int) := by omega
                have y2' : (2 : Int) < ((W.length - (u * 4 + p * 4) : Nat) : Int) := by omega
                have y3' : (3 : Int) < ((W.length - (u * 4 + p * 4) : Nat) : Int) := by omega
                have s0 := F2.int (i := p) (by rw [sumsN_len]; exact hlp)
                have zs := F2.frozen p
                have n0 := F3.int (i := 0) (by simp)
                have n1 := F3.int (i := 1) (by simp)
                have n2 := F3.int (i := 2) (by simp)
                have n3 := F3.int (i := 3) (by simp)
                simp only [List.getD_cons_zero, List.getD_cons_succ] at n0 n1 n2 n3
                have b0 := getD_bound hW (by omega) (4 * u + 4 * p)
                have b1 := getD_bound hW (by omega) (4 * u + 4 * p + 1)
                have b2 := getD_bound hW (by omega) (4 * u + 4 * p + 2)
                have b3 := getD_bound hW (by omega) (4 * u + 4 * p + 3)
                have hp1 := product_c (numAt bs (16 * u) 4) (W.getD (4 * u + 4 * p) 0) (numAt bs (16 * u + 8) 4) (W.getD (4 * u + 4 * p + 2) 0) hm0 b0 hm2 b2
                have hp2 := product_c (numAt bs (16 * u + 4) 4) (W.getD (4 * u + 4 * p + 1) 0) (numAt bs (16 * u + 12) 4) (W.getD (4 * u + 4 * p + 3) 0) hm1 b1 hm3 b3
                have hsN : (sumsN W bs u p).getD p 0 = nhS W bs p u := by rw [sumsN_getD _ _ _ _ _ hlp, if_neg (by omega)]
                have hnx : nhS W bs p (u + 1) = (nhS W bs p u + ((numAt bs (16 * u) 4 + W.getD (4 * u + 4 * p) 0) % 4294967296 * ((numAt bs (16 * u + 8) 4 + W.getD (4 * u + 4 * p + 2) 0) % 4294967296) + (numAt bs (16 * u + 4) 4 + W.getD (4 * u + 4 * p + 1) 0) % 4294967296 * ((numAt bs (16 * u + 12) 4 + W.getD (4 * u + 4 * p + 3) 0) % 4294967296))) % 18446744073709551616 := by
                  show (nhS W bs p u + (0 + uv W bs p u 0 + uv W bs p u 1)) % _ = _
                  rw [Nat.zero_add]; rfl
                have hsl := nhS_lt W bs p u
                rw [hsN] at s0
                have F2' := F2.intSet p (nhS W bs p (u + 1))
                rw [sumsN_set _ _ _ _ hlp] at F2'
                have HF := Lib.hid F2'
                have HX := Lib.hid hnx
                have HP1 := Lib.hid hp1
                have HP2 := Lib.hid hp2
                clear hsN hnx F2' hp1 hp2
                generalize numAt bs (16 * u) 4 = q0 at *
                generalize numAt bs (16 * u + 4) 4 = q1 at *
                generalize numAt bs (16 * u + 8) 4 = q2 at *
                generalize numAt bs (16 * u + 12) 4 = q3 at *
                generalize W.getD (4 * u + 4 * p) 0 = r0 at *
                generalize W.getD (4 * u + 4 * p + 1) 0 = r1 at *
                generalize W.getD (4 * u + 4 * p + 2) 0 = r2 at *
                generalize W.getD (4 * u + 4 * p + 3) 0 = r3 at *
                go_wp2
                refine wp_region_still_tail 28 (by kernel_rfl) (by kernel_rfl) ?_
                simp only [List.take_succ_cons, List.take_zero, List.drop_succ_cons, List.drop_zero]
                repeat still_step
                still_call ((HP1.out _).mono fun e w' ⟨h1, h2⟩ => ⟨h1, h2.symm⟩)
                repeat still_step
                still_call ((HP2.out _).mono fun e w' ⟨h1, h2⟩ => ⟨h1, h2.symm⟩)
                repeat still_step
                refine wpStill_nil ?_
                change wpList _ _ _ _ _ wr.drew
                go_wp2
                have hval : IntKind.u64.wrap ((nhS W bs p u : Int) + IntKind.u64.wrap (((q0 : Int) + r0) % 4294967296 * (((q2 : Int) + r2) % 4294967296) + ((q1 : Int) + r1) % 4294967296 * (((q3 : Int) + r3) % 4294967296))) = ((nhS W bs p (u + 1) : Nat) : Int) := by
                  rw [HX.out, ← sum_step]; simp
                rw [hval]
                exact ⟨⟨p + 1, by omega, by go_num, (F0.far (by first | omega | (simp; done) | (simp; omega)) _).drew, (F1.far (by first | omega | (simp; done) | (simp; omega)) _).drew, HF.out.drew, (F3.far (by first | omega | (simp; done) | (simp; omega)) _).drew, (hbel6.setCell (by first | omega | (simp; done) | (simp; omega)) _).drew⟩, by simp [intOf] <;> omega⟩
              · obtain rfl : p = 4 := by omega
                go_wp2
                go_step3
                rw [sumsN_full] at F2
                refine ⟨rfl, HI.out _ _ ⟨u + 1, rfl, by omega, F0, F1, F2, hbel6⟩, ?_⟩
                rw [hμ, hμ]
                simp [intOf]
                omega
          · obtain rfl : u = bs.length / 16 := by omega
            have hti : ¬ (16 * ((bs.length : Int) / 16) < (bs.length : Int)) := by omega
            have hidx := fun p hp W0 => run_index_ints (P := Try.prog) Try.underlying74 Try.underlying28 Try.s128 (sumsN_len W bs (bs.length / 16) 0) (i := p) hp W0
            have Hidx := Lib.hid hidx
            clear hidx
            go_wp2_with (first | (refine wpList_load_ints rfl 74 _ rfl (w.heap.size + 2) rfl C2 Try.ar74 (sumsN_len _ _ _ _) ?_; (try simp only [Act.put, List.setIfInBounds_toArray, List.set_cons_zero, List.set_cons_succ, World.size_alloc, setRow_size, Nat.add_assoc, Nat.reduceAdd])))
            go_loopw [99] (fun t wr => ∃ p : Nat, p ≤ 4 ∧ t = .int .i64 p ∧ Blk wr w.heap.size 47 (ints .u8 (zeros 32)) ∧ Blk wr (w.heap.size + 1) 47 (ints .u8 ((nhH W bs).take (8 * p) ++ zeros (32 - 8 * p))) ∧ Below w.heap.size w wr) (fun t wr => 4 - (intOf t).toNat)
            case atStart => exact ⟨0, by omega, rfl, C0, C1, hbelr⟩
            case round =>
              rename_i hrel
              obtain ⟨p, hp, rfl, F0, F1, hbel6⟩ := hrel
              by_cases hlp : p < 4
              · have hix := Hidx.out p hlp
                rw [sumsN_getD _ _ _ _ _ hlp, if_neg (by omega)] at hix
                have hs := nhS_lt W bs p (bs.length / 16)
                go_wp2_with (fail)
                refine (putLong_c _ hs _).mono ?_
                rintro e w1 ⟨rfl, hb1⟩
                have hbel7 := bCall hbel6 hb1 hbel6.size
                have hBl := nhB_len W bs p
                have hV := Blk.new w1 77 (ints .u8 (zeros 8))
                have G0 := ((F0.below' hb1).alloc (.cells (ints .u8 (zeros 8)) 77)).rowFar (show w.heap.size ≠ w1.heap.size by have := (F1.below' hb1).lt; omega) (ints .u8 (nhB W bs p))
                have G1 := ((F1.below' hb1).alloc (.cells (ints .u8 (zeros 8)) 77)).rowFar (show w.heap.size + 1 ≠ w1.heap.size by have := (F1.below' hb1).lt; omega) (ints .u8 (nhB W bs p))
                have G2 := hV.row (ints .u8 (nhB W bs p))
                have hbel8 := bSetRow (hbel7.alloc hbel7.size (.cells (ints .u8 (zeros 8)) 77)) hbel7.size (ints .u8 (nhB W bs p))
                have hcat : splice ((nhH W bs).take (8 * p) ++ zeros (32 - 8 * p)) (8 * p) (nhB W bs p) = (nhH W bs).take (8 * (p + 1)) ++ zeros (32 - 8 * (p + 1)) := splice_next W bs hlp
                have hll : ((nhH W bs).take (8 * p) ++ zeros (32 - 8 * p)).length = 32 := by simp [zeros, hH]; omega
                go_wp2_with (first | (refine wpList_alloc_ints rfl 77 rfl Try.z77 ?_; (try simp only [Act.put, List.setIfInBounds_toArray, List.set_cons_zero, List.set_cons_succ, World.size_alloc, setRow_size, Nat.add_assoc, Nat.reduceAdd])) | (refine wpList_store_ints rfl 77 _ _ rfl w1.heap.size (k := .u8) (xs := nhB W bs p) rfl rfl hV (zeros_size _ _) Try.ar77 hBl ?_; (try simp only [Act.put, List.setIfInBounds_toArray, List.set_cons_zero, List.set_cons_succ, World.size_alloc, setRow_size, Nat.add_assoc, Nat.reduceAdd])))
                have HC := Lib.hid hcat
                have hsz1 : ¬ w1.heap.size = w.heap.size + 1 := by have := (F1.below' hb1).lt; omega
                clear hcat hb1 hbel7 hbel6 F0 F1 hV hix hs
                generalize ((w1.alloc (.cells (ints .u8 (zeros 8)) 77)).setRow w1.heap.size (ints .u8 (nhB W bs p))) = w2 at *
                generalize w1.heap.size = gv at *
                refine wp_region_still_tail 4 (by kernel_rfl) (by kernel_rfl) ?_
                simp only [List.take_succ_cons, List.take_zero, List.drop_succ_cons, List.drop_zero]
                have q1 : IntKind.i64.wrap (8 * (p : Int)) = 8 * p := IntWalk.i64_in _ (by omega)
                have q2 : (0 : Int) ≤ 8 * p := by omega
                have q3 : (8 : Int) * p ≤ 32 := by omega
                have q4 : (8 * (p : Int)).toNat = 8 * p := by omega
                have q5 : 8 * p ≤ 32 := by omega
                have q6 : ¬ 8 * p = 32 := by omega
                repeat still_step
                refine wpStill_nil ?_
                change wpList _ _ _ _ _ w2.drew
                clear q1 q2 q3 q4 q5 q6
                refine wpList_copy_ints (off := 8 * p) (dLen := 32 - 8 * p) (sLen := 8) rfl rfl Try.underlying22 Try.s15 rfl rfl (G1.drew) (Sl.blk G2.drew) (by rw [hBl]; exact (Nat.min_eq_left (by omega)).symm) (fun _ => by rw [if_neg (by omega)]) (by rw [hll, hBl]; omega) ?_
                intro w3 K1 ho
                rw [HC.out] at K1
                have K0 := G0.drew.only ho (by omega)
                have hbel9 := ho.below _ _ hbel8.drew (by omega)
                go_wp2
                exact ⟨⟨p + 1, by omega, by go_num, K0, K1, hbel9⟩, by simp [intOf] <;> omega⟩
              · obtain rfl : p = 4 := by omega
                have he : (nhH W bs).take (8 * 4) ++ zeros (32 - 8 * 4) = nhH W bs := by rw [List.take_of_length_le (by omega)]; simp [zeros]
                rw [he] at F1
                clear he
                go_wp2_with (first | (refine wpList_load_ints rfl 47 _ rfl (w.heap.size + 1) rfl F1 Try.ar47 hH ?_; (try simp only [Act.put, List.setIfInBounds_toArray, List.set_cons_zero, List.set_cons_succ, World.size_alloc, setRow_size, Nat.add_assoc, Nat.reduceAdd])) | (refine wpList_store_ints rfl 47 _ _ rfl w.heap.size rfl rfl F0 (zeros_size _ _) Try.ar47 hH ?_; (try simp only [Act.put, List.setIfInBounds_toArray, List.set_cons_zero, List.set_cons_succ, World.size_alloc, setRow_size, Nat.add_assoc, Nat.reduceAdd])))
                simp only [Exit.jump]
                exact ret_ints_tmp rfl rfl rfl (F0.row _) Try.ar47 hH ⟨rfl, bSetRow hbel6 (Nat.le_refl _) _⟩
        · intro hgo
          go_wp2_with (first | (refine wpList_alloc_ints rfl 47 rfl Try.z47 ?_; (try simp only [Act.put, List.setIfInBounds_toArray, List.set_cons_zero, List.set_cons_succ, World.size_alloc, setRow_size, Nat.add_assoc, Nat.reduceAdd])) | (refine wpList_alloc_ints rfl 74 rfl Try.z74 ?_; (try simp only [Act.put, List.setIfInBounds_toArray, List.set_cons_zero, List.set_cons_succ, World.size_alloc, setRow_size, Nat.add_assoc, Nat.reduceAdd])))
          refine wp_label ?_
          rename_i hK
          refine hK _ _ ?_
          refine hgo _ _ (HI.out _ _ ⟨0, rfl, by omega, Z2, Z3, ?_, hbel2⟩)
          rw [sumsN_zero]; exact Z4
    · have e1 : nhErr W bs = 5 := by simp [nhErr, h1, h2]
      have e2 : nhOut W bs = zeros 32 := by simp [nhOut, e1, zeros]
      rw [e1, e2]
      clear e1 e2
      go_enter Try.func21, Try.ntmps21
      go_wp2_with (first | (refine wpList_alloc_ints rfl 47 rfl Try.z47 ?_; (try simp only [Act.put, List.setIfInBounds_toArray, List.set_cons_zero, List.set_cons_succ, World.size_alloc, setRow_size, Nat.add_assoc, Nat.reduceAdd])))
      go_step3
      go_wp2_with (first | (refine wpList_alloc_ints rfl 47 rfl Try.z47 ?_; (try simp only [Act.put, List.setIfInBounds_toArray, List.set_cons_zero, List.set_cons_succ, World.size_alloc, setRow_size, Nat.add_assoc, Nat.reduceAdd])) | (refine wpList_load_ints rfl 47 _ rfl (w.heap.size + 1) rfl Z1 Try.ar47 (zeros_len _) ?_; (try simp only [Act.put, List.setIfInBounds_toArray, List.set_cons_zero, List.set_cons_succ, World.size_alloc, setRow_size, Nat.add_assoc, Nat.reduceAdd])) | (refine wpList_store_ints rfl 47 _ _ rfl w.heap.size rfl rfl Z0 (zeros_size _ _) Try.ar47 (zeros_len _) ?_; (try simp only [Act.put, List.setIfInBounds_toArray, List.set_cons_zero, List.set_cons_succ, World.size_alloc, setRow_size, Nat.add_assoc, Nat.reduceAdd])))
      rw [Exit.noGoto_ret]; exact ret_ints_tmp rfl rfl rfl ZR Try.ar47 (zeros_len _) ⟨rfl, hbelz⟩
end Go.Proofs.Ytolfngmpoafaaaa
