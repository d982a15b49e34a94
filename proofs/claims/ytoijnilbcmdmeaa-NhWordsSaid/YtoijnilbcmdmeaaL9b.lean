/- The walk of NhWords. No condition but that what came in is no longer than a slice may be. -/
import Derived.Test.YtoijnilbcmdmeaaL9
import Derived.Test.YtoijnilbcmdmeaaW9d
namespace Go.Proofs.Ytoijnilbcmdmeaa
set_option linter.unusedSimpArgs false
set_option linter.unusedVariables false
set_option linter.unusedSectionVars false
set_option linter.unusedVariables false
open Go.RowKit
set_option maxRecDepth 100000 in
set_option maxHeartbeats 2000000 in
theorem nhWords_c (ab : Option Addr) (cb : Nat) (bs : List Nat) (hb : ∀ x ∈ bs, x < 2 ^ 8) (hcb : bs.length ≤ cb) (hmb : cb ≤ maxLen) (w : World) (hsb : Sl w ab .u8 bs) :
    Calls Try.prog 16 #[.slice ab bs.length cb] w fun e w' => e = .returned (.bool true) ∧ Below w.heap.size w w' := by
  have hmb' : cb ≤ 9223372036854775807 := hmb
  by_cases h1 : 1100 < bs.length
  · have q1 : decide ((1100 : Int) < (bs.length : Int)) = true := by simp; omega
    go_enter Try.func16, Try.ntmps16
    go_wp2
    go_ret
    exact ⟨rfl, Below.refl _ _⟩
  · have q1 : decide ((1100 : Int) < (bs.length : Int)) = false := by simp; omega
    by_cases h2 : bs.length = 1072
    · have hw := wordsN_len bs
      have H1 := Lib.hid (words_c ab cb bs hb h2)
      have H2 := Lib.hid (rwords_c ab cb bs hb h2)
      clear h2
      go_enter Try.func16, Try.ntmps16
      go_wp2_with (fail)
      refine (H1.out _ hsb).mono ?_
      rintro e w1 ⟨rfl, C0, hb1⟩
      go_wp2_with (fail)
      refine (H2.out _ (hsb.below hb1)).mono ?_
      rintro e w2 ⟨v, rfl, hown, hb2⟩
      have D0 := C0.below' hb2
      have hbel := bCall hb1 hb2 hb1.size
      obtain ⟨g, c', rfl, hg, -, hsl, hc1, hc2⟩ := hown.sl2 (by intro h; rw [h] at hw; cases hw)
      rw [hw]
      clear hown C0 hb1 hb2
      have hww := wordsN_lt hb
      go_wp2
      go_loopw [7] (fun t wr => ∃ k : Nat, k ≤ 268 ∧ t = .int .i64 k ∧ Blk wr w.heap.size 22 (ints .u32 (wordsN bs)) ∧ Sl wr (some ⟨g, 0, none⟩) .u32 (wordsN bs) ∧ Below w.heap.size w wr) (fun t wr => 268 - (intOf t).toNat)
      case atStart => exact ⟨0, by omega, rfl, D0, hsl, hbel⟩
      case round =>
        rename_i hrel
        obtain ⟨k, hk, rfl, E0, E1, hbel2⟩ := hrel
        by_cases hlt : k < 268
        · have c0 := E0.int (i := k) (by omega)
          have c1 := E1.eq (i := k) (by omega)
          rw [Nat.zero_add] at c1
          have hv := getD_bound hww (by omega) k
          generalize (wordsN bs).getD k 0 = v at *
          go_wp2
          go_quiet (fail)
          go_wp2
          exact ⟨⟨k + 1, by omega, by go_num, E0.drewN _, E1.below (bDrewN (Below.refl _ _) _), bDrewN hbel2 _⟩, by simp [intOf] <;> omega⟩
        · obtain rfl : k = 268 := by omega
          go_wp2_with (fail)
          refine (awake9_c _).mono ?_
          rintro e w4 ⟨rfl, hb4⟩
          go_wp2
          go_ret
          exact ⟨rfl, bCall hbel2 hb4 hbel2.size⟩
    · have H1 := Lib.hid (words_no ab cb bs.length h2 (by omega))
      have H2 := Lib.hid (rwords_no ab cb bs.length h2 (by omega))
      clear h2
      go_enter Try.func16, Try.ntmps16
      go_wp2_with (fail)
      refine (H1.out _).mono ?_
      rintro e w1 ⟨rfl, rfl⟩
      go_wp2_with (fail)
      refine (H2.out _).mono ?_
      rintro e w2 ⟨rfl, rfl⟩
      go_wp2
      refine wp_loop_rounds 1 ?_
      rw [rounds_succ]
      go_wp2_with (fail)
      refine (awake9_c _).mono ?_
      rintro e w4 ⟨rfl, hb4⟩
      go_wp2
      go_ret
      exact ⟨rfl, hb4⟩
end Go.Proofs.Ytoijnilbcmdmeaa
