/- ring.Raised. No condition but that bytes are below 256 and the number below 2^63. -/
import Derived.Test.YtehhipanbjhffaaW10f
namespace Go.Proofs.Ytehhipanbjhffaa
set_option linter.unusedSimpArgs false
set_option linter.unusedVariables false
set_option linter.unusedSectionVars false
set_option linter.unusedVariables false
open Go.RowKit
open Gf (up upN mulS mul)
theorem and1i (a : Nat) (ha : a < 9223372036854775808) : bits BinOp.and IntKind.i64 (a : Int) 1 = ((a % 2 : Nat) : Int) := by
  show IntKind.i64.wrap ((BitVec.ofInt 64 (a : Int) &&& BitVec.ofInt 64 ((1 : Nat) : Int)).toNat : Int) = _
  rw [BitVec.toNat_and, ofInt_u64 a (by omega), ofInt_u64 1 (by omega), Nat.and_one_is_mod]
  exact IntWalk.i64_in _ (by omega)
theorem one_lt : 1 < 2 ^ 128 := by decide
theorem up128 : upN R2 128 1 = R2 := by
  rw [← Gf.mul_R R2 R2_lt one_lt, Gf.one_mul R2 R2_lt]
theorem belem_R2 : belem R2 = awD := by decide
theorem mul_up1 {a : Nat} (ha : a < 2 ^ 128) (e : Nat) : mul R2 a (upN R2 e 1) = upN R2 e a := by
  rw [Gf.mul_upN_r R2 R2_lt ha one_lt, Gf.mul_one]
theorem square_up (e : Nat) : mul R2 (upN R2 e 1) (upN R2 e 1) = upN R2 (2 * e) 1 := by
  rw [mul_up1 (Gf.upN_lt R2_lt one_lt e), ← Gf.upN_add, show e + e = 2 * e by omega]
set_option maxRecDepth 100000 in
set_option maxHeartbeats 8000000 in
theorem raised_c (n : Nat) (xs : List Nat) (hn : n < 2 ^ 63) (hl : xs.length = 16) (hb : ∀ x ∈ xs, x < 256) (w : World) :
    Calls Try.prog 22 #[.int .i64 n, .agg (ints .u8 xs)] w fun e w' => e = .returned (.agg (ints .u8 (belem (upN R2 n (bnum xs))))) ∧ Below w.heap.size w w' := by
  have hx := bnum_lt hl hb
  have hxe := belem_bnum hl hb
  have B0 := (Blk.new w 22 (ints .u8 xs)).alloc (.cells (ints .u8 (zeros 16)) 22)
  have B1 := Blk.new (w.alloc (.cells (ints .u8 xs) 22)) 22 (ints .u8 (zeros 16))
  rw [World.size_alloc] at B1
  have hbel := ((Below.refl w.heap.size w).alloc (Nat.le_refl _) (.cells (ints .u8 xs) 22)).alloc (by simp) (.cells (ints .u8 (zeros 16)) 22)
  have hxe2 : Hid (belem (bnum xs) = xs) := Lib.hid hxe
  clear hxe
  obtain ⟨x, Hxd⟩ : ∃ x, Hid (bnum xs = x) := ⟨_, Lib.hid rfl⟩
  rw [Hxd.out] at hx
  have hxe3 := hxe2.out
  rw [Hxd.out] at hxe3
  have Hxe := Lib.hid hxe3
  clear hxe3 hxe2
  go_enter Try.func22, Try.ntmps22
  go_wp2_with (refine wpList_alloc_ints rfl 22 rfl Try.z22 ?_; (try simp only [Act.put, List.setIfInBounds_toArray, List.set_cons_zero, List.set_cons_succ, World.size_alloc, setRow_size, Nat.add_assoc, Nat.reduceAdd]))
  obtain ⟨J, HJ, HI⟩ : ∃ J : Act → World → Prop, Hid (∀ (a : Act) (w' : World), J a w' → ∃ (U : Nat → Value) (v e g A : Nat), a = { tmps := #[.int .i64 (v : Int), .agg (ints .u8 xs), undef, .pointer (some ⟨w.heap.size, 0, none⟩), .pointer (some ⟨w.heap.size + 1, 0, none⟩), .pointer (some ⟨g, 0, none⟩), U 6, U 7, U 8, U 9, U 10, U 11, U 12, U 13, U 14, U 15, U 16, U 17, U 18, U 19, U 20, U 21, U 22, U 23, U 24, U 25, U 26, U 27, U 28, U 29, U 30, U 31, U 32], defers := [] } ∧ v < 2 ^ 63 ∧ w.heap.size + 2 ≤ g ∧ A < 2 ^ 128 ∧ upN R2 (e * v) A = upN R2 n x ∧ Blk w' w.heap.size 22 (ints .u8 (belem A)) ∧ Blk w' (w.heap.size + 1) 22 (ints .u8 (zeros 16)) ∧ Blk w' g 22 (ints .u8 (belem (upN R2 e 1))) ∧ Below w.heap.size w w') ∧
      Hid (∀ (T : Array Value) (w' : World), (∃ (v e g A : Nat), T = #[.int .i64 (v : Int), .agg (ints .u8 xs), undef, .pointer (some ⟨w.heap.size, 0, none⟩), .pointer (some ⟨w.heap.size + 1, 0, none⟩), .pointer (some ⟨g, 0, none⟩), T.getD 6 undef, T.getD 7 undef, T.getD 8 undef, T.getD 9 undef, T.getD 10 undef, T.getD 11 undef, T.getD 12 undef, T.getD 13 undef, T.getD 14 undef, T.getD 15 undef, T.getD 16 undef, T.getD 17 undef, T.getD 18 undef, T.getD 19 undef, T.getD 20 undef, T.getD 21 undef, T.getD 22 undef, T.getD 23 undef, T.getD 24 undef, T.getD 25 undef, T.getD 26 undef, T.getD 27 undef, T.getD 28 undef, T.getD 29 undef, T.getD 30 undef, T.getD 31 undef, T.getD 32 undef] ∧ v < 2 ^ 63 ∧ w.heap.size + 2 ≤ g ∧ A < 2 ^ 128 ∧ upN R2 (e * v) A = upN R2 n x ∧ Blk w' w.heap.size 22 (ints .u8 (belem A)) ∧ Blk w' (w.heap.size + 1) 22 (ints .u8 (zeros 16)) ∧ Blk w' g 22 (ints .u8 (belem (upN R2 e 1))) ∧ Below w.heap.size w w') → J { tmps := T, defers := [] } w') :=
    ⟨fun a w' => ∃ (U : Nat → Value) (v e g A : Nat), a = { tmps := #[.int .i64 (v : Int), .agg (ints .u8 xs), undef, .pointer (some ⟨w.heap.size, 0, none⟩), .pointer (some ⟨w.heap.size + 1, 0, none⟩), .pointer (some ⟨g, 0, none⟩), U 6, U 7, U 8, U 9, U 10, U 11, U 12, U 13, U 14, U 15, U 16, U 17, U 18, U 19, U 20, U 21, U 22, U 23, U 24, U 25, U 26, U 27, U 28, U 29, U 30, U 31, U 32], defers := [] } ∧ v < 2 ^ 63 ∧ w.heap.size + 2 ≤ g ∧ A < 2 ^ 128 ∧ upN R2 (e * v) A = upN R2 n x ∧ Blk w' w.heap.size 22 (ints .u8 (belem A)) ∧ Blk w' (w.heap.size + 1) 22 (ints .u8 (zeros 16)) ∧ Blk w' g 22 (ints .u8 (belem (upN R2 e 1))) ∧ Below w.heap.size w w', Lib.hid fun _ _ h => h, Lib.hid fun T w' ⟨v, e, g, A, h, r⟩ => ⟨fun i => T.getD i undef, v, e, g, A, congrArg (fun T => ({ tmps := T, defers := [] } : Act)) h, r⟩⟩
  obtain ⟨μ, Hμ⟩ : ∃ μ : Act → World → Nat, Hid (∀ a w', μ a w' = (intOf (a.tmps.getD 0 undef)).toNat) := ⟨_, Lib.hid fun _ _ => rfl⟩
  refine wp_scope_mid 0 J μ (by simp only [findLabel]; rfl) ?_ ?_
  · intro a wr hj
    obtain ⟨U, v, e, g, A, rfl, hv, hg, hA, hup, C0, C1, C2, hbelr⟩ := HJ.out _ _ hj
    clear hj
    have hμ := Hμ.out
    clear Hμ
    have hlA := belem_len A
    have hlE := belem_len (upN R2 e 1)
    have hE := Gf.upN_lt R2_lt one_lt e
    by_cases h0 : v = 0
    · subst h0
      rw [Nat.mul_zero] at hup
      replace hup : A = upN R2 n x := hup
      clear hμ
      go_wp2_with (first | (refine wpList_load_ints rfl 22 _ rfl w.heap.size rfl C0 Try.ar22 hlA ?_; (try simp only [Act.put, List.setIfInBounds_toArray, List.set_cons_zero, List.set_cons_succ, World.size_alloc, setRow_size, Nat.add_assoc, Nat.reduceAdd])) | (refine wpList_store_ints rfl 22 _ _ rfl (w.heap.size + 1) rfl rfl C1 (zeros_size _ _) Try.ar22 hlA ?_; (try simp only [Act.put, List.setIfInBounds_toArray, List.set_cons_zero, List.set_cons_succ, World.size_alloc, setRow_size, Nat.add_assoc, Nat.reduceAdd])))
      simp only [Exit.jump]
      exact ret_ints rfl rfl (C1.row _) Try.ar22 hlA ⟨by rw [Hxd.out], bSetRow hbelr (by omega) _⟩
    · have hand := and1i v (by omega)
      have hne : decide ((v : Int) = 0) = false := by simp; omega
      rcases Nat.mod_two_eq_zero_or_one v with h2 | h2
      · rw [h2] at hand
        have Hup2 : Hid (upN R2 (2 * e * (v / 2)) A = upN R2 n x) := Lib.hid (by
          rw [← hup]
          congr 1
          rw [Nat.mul_comm 2 e, Nat.mul_assoc]
          congr 1
          omega)
        clear hup
        go_wp2_with (refine wpList_load_ints rfl 22 _ rfl g rfl C2 Try.ar22 hlE ?_; (try simp only [Act.put, List.setIfInBounds_toArray, List.set_cons_zero, List.set_cons_succ, World.size_alloc, setRow_size, Nat.add_assoc, Nat.reduceAdd]))
        refine (product_c _ _ hlE (belem_lt _) hlE (belem_lt _) _).mono ?_
        rintro e3 w5 ⟨rfl, hb5⟩
        rw [bnum_belem hE, square_up]
        have hl2 := belem_len (upN R2 (2 * e) 1)
        have F0 := (C0.below' hb5).rowFar (show w.heap.size ≠ g by omega) (ints .u8 (belem (upN R2 (2 * e) 1)))
        have F1 := (C1.below' hb5).rowFar (show w.heap.size + 1 ≠ g by omega) (ints .u8 (belem (upN R2 (2 * e) 1)))
        have F2' := C2.below' hb5
        have F2 := F2'.row (ints .u8 (belem (upN R2 (2 * e) 1)))
        have hbel5 := bSetRow (bCall hbelr hb5 hbelr.size) (show w.heap.size ≤ g by omega) (ints .u8 (belem (upN R2 (2 * e) 1)))
        go_wp2_with (refine wpList_store_ints rfl 22 _ _ rfl g rfl rfl F2' (by rw [ints_size, hlE]) Try.ar22 hl2 ?_; (try simp only [Act.put, List.setIfInBounds_toArray, List.set_cons_zero, List.set_cons_succ, World.size_alloc, setRow_size, Nat.add_assoc, Nat.reduceAdd]))
        go_step3
        refine ⟨rfl, HI.out _ _ ⟨v / 2, 2 * e, g, _, rfl, by omega, hg, hA, Hup2.out, F0, F1, F2, hbel5⟩, ?_⟩
        rw [hμ, hμ]
        simp [intOf]
        omega
      · rw [h2] at hand
        have hA2 := Gf.upN_lt R2_lt hA e
        have Hup2 : Hid (upN R2 (2 * e * (v / 2)) (upN R2 e A) = upN R2 n x) := Lib.hid (by
          rw [← Gf.upN_add, ← hup]
          congr 1
          rw [Nat.mul_comm 2 e, Nat.mul_assoc, ← Nat.mul_succ]
          congr 1
          omega)
        clear hup
        go_wp2_with (first | (refine wpList_load_ints rfl 22 _ rfl w.heap.size rfl C0 Try.ar22 hlA ?_; (try simp only [Act.put, List.setIfInBounds_toArray, List.set_cons_zero, List.set_cons_succ, World.size_alloc, setRow_size, Nat.add_assoc, Nat.reduceAdd])) | (refine wpList_load_ints rfl 22 _ rfl g rfl C2 Try.ar22 hlE ?_; (try simp only [Act.put, List.setIfInBounds_toArray, List.set_cons_zero, List.set_cons_succ, World.size_alloc, setRow_size, Nat.add_assoc, Nat.reduceAdd])))
        refine (product_c _ _ hlA (belem_lt _) hlE (belem_lt _) _).mono ?_
        rintro e2 w4 ⟨rfl, hb4⟩
        rw [bnum_belem hE, bnum_belem hA, mul_up1 hA]
        have hl1 := belem_len (upN R2 e A)
        have D0' := C0.below' hb4
        have D0 := D0'.row (ints .u8 (belem (upN R2 e A)))
        have D1 := (C1.below' hb4).rowFar (show w.heap.size + 1 ≠ w.heap.size by omega) (ints .u8 (belem (upN R2 e A)))
        have D2 := (C2.below' hb4).rowFar (show g ≠ w.heap.size by omega) (ints .u8 (belem (upN R2 e A)))
        have hbel4 := bSetRow (bCall hbelr hb4 hbelr.size) (Nat.le_refl w.heap.size) (ints .u8 (belem (upN R2 e A)))
        clear C0 C1 C2 hbelr hb4
        go_wp2_with (first | (refine wpList_store_ints rfl 22 _ _ rfl w.heap.size rfl rfl D0' (by rw [ints_size, hlA]) Try.ar22 hl1 ?_; (try simp only [Act.put, List.setIfInBounds_toArray, List.set_cons_zero, List.set_cons_succ, World.size_alloc, setRow_size, Nat.add_assoc, Nat.reduceAdd])) | (refine wpList_load_ints rfl 22 _ rfl g rfl D2 Try.ar22 hlE ?_; (try simp only [Act.put, List.setIfInBounds_toArray, List.set_cons_zero, List.set_cons_succ, World.size_alloc, setRow_size, Nat.add_assoc, Nat.reduceAdd])))
        refine (product_c _ _ hlE (belem_lt _) hlE (belem_lt _) _).mono ?_
        rintro e3 w5 ⟨rfl, hb5⟩
        rw [bnum_belem hE, square_up]
        have hl2 := belem_len (upN R2 (2 * e) 1)
        have F0 := (D0.below' hb5).rowFar (show w.heap.size ≠ g by omega) (ints .u8 (belem (upN R2 (2 * e) 1)))
        have F1 := (D1.below' hb5).rowFar (show w.heap.size + 1 ≠ g by omega) (ints .u8 (belem (upN R2 (2 * e) 1)))
        have F2' := D2.below' hb5
        have F2 := F2'.row (ints .u8 (belem (upN R2 (2 * e) 1)))
        have hbel5 := bSetRow (bCall hbel4 hb5 hbel4.size) (show w.heap.size ≤ g by omega) (ints .u8 (belem (upN R2 (2 * e) 1)))
        go_wp2_with (refine wpList_store_ints rfl 22 _ _ rfl g rfl rfl F2' (by rw [ints_size, hlE]) Try.ar22 hl2 ?_; (try simp only [Act.put, List.setIfInBounds_toArray, List.set_cons_zero, List.set_cons_succ, World.size_alloc, setRow_size, Nat.add_assoc, Nat.reduceAdd]))
        go_step3
        refine ⟨rfl, HI.out _ _ ⟨v / 2, 2 * e, g, _, rfl, by omega, hg, hA2, Hup2.out, F0, F1, F2, hbel5⟩, ?_⟩
        rw [hμ, hμ]
        simp [intOf]
        omega
  · intro hgo
    have hn0 : decide ((n : Int) < 0) = false := by simp
    obtain ⟨m, q, hmq, hm, hr1, hq1⟩ : ∃ m q : Nat, n = 128 * q + m ∧ m < 128 ∧ (n : Int) % 128 = (m : Int) ∧ (n : Int) / 128 = (q : Int) := ⟨n % 128, n / 128, by omega, by omega, by omega, by omega⟩
    have Hnq : Hid (upN R2 (128 * q) (upN R2 m x) = upN R2 n x) := Lib.hid (by rw [← Gf.upN_add, ← hmq])
    have hq63 : q < 2 ^ 63 := by omega
    clear hmq
    go_wp2_with (refine wpList_alloc_ints rfl 22 rfl Try.z22 ?_; (try simp only [Act.put, List.setIfInBounds_toArray, List.set_cons_zero, List.set_cons_succ, World.size_alloc, setRow_size, Nat.add_assoc, Nat.reduceAdd]))
    generalize ((w.alloc (.cells (ints .u8 xs) 22)).alloc (.cells (ints .u8 (zeros 16)) 22)) = w1 at *
    go_loopw [11] (fun t wr => ∃ i : Nat, i ≤ m ∧ t = .int .i64 i ∧ Blk wr w.heap.size 22 (ints .u8 (belem (upN R2 i x))) ∧ Blk wr (w.heap.size + 1) 22 (ints .u8 (zeros 16)) ∧ Below w.heap.size w wr) (fun t wr => m - (intOf t).toNat)
    case atStart => exact ⟨0, by omega, rfl, by rw [show belem (upN R2 0 x) = xs from Hxe.out]; exact B0, B1, hbel⟩
    case round =>
      rename_i hrel
      obtain ⟨i, hi, rfl, C0, C1, hbelr⟩ := hrel
      have hX := Gf.upN_lt R2_lt hx i
      by_cases hlt : i < m
      · have hux : upN R2 (i + 1) x = up R2 (upN R2 i x) := rfl
        have HU := Lib.hid hux
        clear hux
        generalize upN R2 i x = X at *
        have hlX := belem_len X
        go_wp2_with (refine wpList_load_ints rfl 22 _ rfl w.heap.size rfl C0 Try.ar22 hlX ?_; (try simp only [Act.put, List.setIfInBounds_toArray, List.set_cons_zero, List.set_cons_succ, World.size_alloc, setRow_size, Nat.add_assoc, Nat.reduceAdd]))
        refine (double_c (belem X) hlX (belem_lt X) _).mono ?_
        rintro e w4 ⟨rfl, hb4⟩
        rw [dblB_belem hX, ← HU.out]
        have hlu := belem_len (upN R2 (i + 1) x)
        have D0' := C0.below' hb4
        have D0 := D0'.row (ints .u8 (belem (upN R2 (i + 1) x)))
        have D1 := (C1.below' hb4).rowFar (show w.heap.size + 1 ≠ w.heap.size by omega) (ints .u8 (belem (upN R2 (i + 1) x)))
        have hbel3 := bSetRow (bCall hbelr hb4 hbelr.size) (Nat.le_refl w.heap.size) (ints .u8 (belem (upN R2 (i + 1) x)))
        go_wp2_with (refine wpList_store_ints rfl 22 _ _ rfl w.heap.size rfl rfl D0' (by rw [ints_size, hlX]) Try.ar22 hlu ?_; (try simp only [Act.put, List.setIfInBounds_toArray, List.set_cons_zero, List.set_cons_succ, World.size_alloc, setRow_size, Nat.add_assoc, Nat.reduceAdd]))
        exact ⟨⟨i + 1, by omega, by go_num, D0, D1, hbel3⟩, by simp [intOf] <;> omega⟩
      · obtain rfl : i = m := by omega
        have l1 := C1.lt
        have D0 := C0.alloc (.cells (ints .u8 (zeros 16)) 22)
        have D1 := C1.alloc (.cells (ints .u8 (zeros 16)) 22)
        have D2 := Blk.new wr 22 (ints .u8 (zeros 16))
        have E0 := D0.rowFar (show w.heap.size ≠ wr.heap.size by omega) (ints .u8 awD)
        have E1 := D1.rowFar (show w.heap.size + 1 ≠ wr.heap.size by omega) (ints .u8 awD)
        have E2 := D2.row (ints .u8 awD)
        have hbel2 := bSetRow (hbelr.alloc hbelr.size (.cells (ints .u8 (zeros 16)) 22)) hbelr.size (ints .u8 awD)
        have hal : awD.length = 16 := rfl
        have HA := Lib.hid (show Value.agg #[.int .u8 0, .int .u8 0, .int .u8 0, .int .u8 0, .int .u8 0, .int .u8 0, .int .u8 0, .int .u8 0, .int .u8 0, .int .u8 0, .int .u8 0, .int .u8 0, .int .u8 0, .int .u8 0, .int .u8 0, .int .u8 135] = .agg (ints .u8 awD) by rw [awD_c])
        clear C0 C1 D0 D1
        go_wp2_with (first | (refine wpList_alloc_ints rfl 22 rfl Try.z22 ?_; (try simp only [Act.put, List.setIfInBounds_toArray, List.set_cons_zero, List.set_cons_succ, World.size_alloc, setRow_size, Nat.add_assoc, Nat.reduceAdd])) | (refine wpList_store_ints rfl 22 _ _ rfl wr.heap.size (k := .u8) (xs := awD) rfl HA.out D2 (zeros_size _ _) Try.ar22 hal ?_; (try simp only [Act.put, List.setIfInBounds_toArray, List.set_cons_zero, List.set_cons_succ, World.size_alloc, setRow_size, Nat.add_assoc, Nat.reduceAdd])))
        refine wp_label ?_
        rename_i hK
        refine hK _ _ ?_
        refine hgo _ _ (HI.out _ _ ⟨q, 128, wr.heap.size, upN R2 i x, rfl, hq63, by omega, hX, Hnq.out, E0, E1, ?_, hbel2⟩)
        rw [up128, belem_R2]; exact E2
end Go.Proofs.Ytehhipanbjhffaa
