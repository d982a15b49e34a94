/- The walk of AdhashBoth. No condition but that bytes are below 256. -/
import Derived.Test.YtolfngmpoafaaaaL12b
namespace Go.Proofs.Ytolfngmpoafaaaa
set_option linter.unusedSimpArgs false
set_option linter.unusedVariables false
set_option linter.unusedSectionVars false
set_option linter.unusedVariables false
open Go.RowKit
/-- The cells of a key, two tweaks and a message. -/
def fourC (a0 a1 a2 a3 : Option Addr) (c0 c1 c2 c3 : Nat) (x0 x1 x2 x3 : List Nat) : Array Value := #[.slice a0 x0.length c0, .slice a1 x1.length c1, .slice a2 x2.length c2, .slice a3 x3.length c3]
theorem both_eq (h1 h2 B : Nat) : W12 (h1 + B + 340282366920938463463374607431768211456 - (h2 + B) % 340282366920938463463374607431768211456) = W12 (h1 + 340282366920938463463374607431768211456 - h2 % 340282366920938463463374607431768211456) := W12_congr (by omega)
set_option maxRecDepth 100000 in
set_option maxHeartbeats 16000000 in
theorem adhashBoth_c (key tw ot b : List Nat) (a0 a1 a2 a3 : Option Addr) (c0 c1 c2 c3 : Nat) (hkb : ∀ x ∈ key, x < 256) (htb : ∀ x ∈ tw, x < 256) (hob : ∀ x ∈ ot, x < 256) (hbb : ∀ x ∈ b, x < 256) (hc0 : key.length ≤ c0) (hc1 : tw.length ≤ c1) (hc2 : ot.length ≤ c2) (w : World) (s0 : Sl w a0 .u8 key) (s1 : Sl w a1 .u8 tw) (s2 : Sl w a2 .u8 ot) (s3 : Sl w a3 .u8 b) :
    Calls Try.prog 8 #[.agg (fourC a0 a1 a2 a3 c0 c1 c2 c3 key tw ot b)] w fun e w' => e = .returned (.bool true) ∧ Below w.heap.size w w' := by
  have B0 := Blk.new w 53 (fourC a0 a1 a2 a3 c0 c1 c2 c3 key tw ot b)
  have hbel := (Below.refl w.heap.size w).alloc (Nat.le_refl _) (.cells (fourC a0 a1 a2 a3 c0 c1 c2 c3 key tw ot b) 53)
  have k0 : (w.alloc (.cells (fourC a0 a1 a2 a3 c0 c1 c2 c3 key tw ot b) 53)).cell? ⟨w.heap.size, 0, none⟩ = some (.slice a0 key.length c0) := by rw [B0.cell]; rfl
  have k1 : (w.alloc (.cells (fourC a0 a1 a2 a3 c0 c1 c2 c3 key tw ot b) 53)).cell? ⟨w.heap.size, 1, none⟩ = some (.slice a1 tw.length c1) := by rw [B0.cell]; rfl
  have k2 : (w.alloc (.cells (fourC a0 a1 a2 a3 c0 c1 c2 c3 key tw ot b) 53)).cell? ⟨w.heap.size, 2, none⟩ = some (.slice a2 ot.length c2) := by rw [B0.cell]; rfl
  have k3 : (w.alloc (.cells (fourC a0 a1 a2 a3 c0 c1 c2 c3 key tw ot b) 53)).cell? ⟨w.heap.size, 3, none⟩ = some (.slice a3 b.length c3) := by rw [B0.cell]; rfl
  by_cases hkl : key.length = 1104
  · rw [hkl] at hc0 k0
    by_cases ht : tw.length ≤ 200
    · have hd1 : decide ((tw.length : Int) > 200) = false := by simp; omega
      by_cases ho : ot.length ≤ 200
      · have hd2 : decide ((ot.length : Int) > 200) = false := by simp; omega
        by_cases hbl : b.length ≤ 200
        · have hd3 : decide ((b.length : Int) > 200) = false := by simp; omega
          have HB := Lib.hid fun W g gw (hK : IsK W g gw key) (h : Sl W a3 .u8 b) => body12_c g gw key b hkb hbb (by omega) a3 c3 W hK h
          have HS1 := Lib.hid fun W g gw (hK : IsK W g gw key) (h : Sl W a1 .u8 tw) (h' : Sl W a3 .u8 b) => sum12_c g gw key tw b hkb htb (by omega) hbb (by omega) a1 a3 c1 c3 hc1 W hK h h'
          have HS2 := Lib.hid fun W g gw (hK : IsK W g gw key) (h : Sl W a2 .u8 ot) (h' : Sl W a3 .u8 b) => sum12_c g gw key ot b hkb hob (by omega) hbb (by omega) a2 a3 c2 c3 hc2 W hK h h'
          have HH1 := Lib.hid fun W g gw (hK : IsK W g gw key) (h : Sl W a1 .u8 tw) => head12_c g gw key tw hkb htb (by omega) (b.length : Int) b.length (by omega) (.inl rfl) a1 c1 hc1 W hK h
          have HH2 := Lib.hid fun W g gw (hK : IsK W g gw key) (h : Sl W a2 .u8 ot) => head12_c g gw key ot hkb hob (by omega) (b.length : Int) b.length (by omega) (.inl rfl) a2 c2 hc2 W hK h
          go_enter Try.func8, Try.ntmps8
          go_wp2_with fail
          generalize (w.alloc (.cells (fourC a0 a1 a2 a3 c0 c1 c2 c3 key tw ot b) 53)) = w1 at *
          go_region
          all_goals
            go_wp2_with fail
            refine (long_yes _ _ _).mono ?_
            rintro e w' ⟨rfl, rfl⟩
            have hb1 : Below w.heap.size w w1.drew := hbel.drew
            generalize w1.drew = w2 at *
            go_wp2_with fail
            refine (new12_c key hkb hkl a0 c0 hc0 _ (s0.below hb1)).mono ?_
            rintro e w3 ⟨g, gw, rfl, hg, hgw, K3, hb3⟩
            have hbel3 := bCall hb1 hb3 hb1.size
            go_wp2_with fail
            refine (HS1.out _ g gw K3 (s1.below hbel3) (s3.below hbel3)).mono ?_
            rintro e w4 ⟨rfl, hb4⟩
            have K4 := K3.below hb4
            have hbel4 := bCall hbel3 hb4 hbel3.size
            go_wp2_with fail
            refine (HH1.out _ g gw K4 (s1.below hbel4)).mono ?_
            rintro e w5 ⟨rfl, hb5⟩
            have K5 := K4.below hb5
            have hbel5 := bCall hbel4 hb5 hbel4.size
            go_wp2_with fail
            refine (HB.out _ g gw K5 (s3.below hbel5)).mono ?_
            rintro e w6 ⟨rfl, hb6⟩
            have K6 := K5.below hb6
            have hbel6 := bCall hbel5 hb6 hbel5.size
            go_wp2_with fail
            refine (wplus_c _ _ _).mono ?_
            rintro e w7 ⟨rfl, hb7⟩
            have K7 := K6.below hb7
            have hbel7 := bCall hbel6 hb7 hbel6.size
            go_wp2_with (refine wpList_valG (v := .bool true) rfl (run_eqlOp rfl rfl rfl Try.egW (W12eq _ _ rfl rfl)) ?_; (try simp only [Act.put, List.setIfInBounds_toArray, List.set_cons_zero, List.set_cons_succ, World.size_alloc, setRow_size, Nat.add_assoc, Nat.reduceAdd]))
            refine (HS1.out _ g gw K7 (s1.below hbel7) (s3.below hbel7)).mono ?_
            rintro e w8 ⟨rfl, hb8⟩
            have K8 := K7.below hb8
            have hbel8 := bCall hbel7 hb8 hbel7.size
            go_wp2_with fail
            refine (HS2.out _ g gw K8 (s2.below hbel8) (s3.below hbel8)).mono ?_
            rintro e w9 ⟨rfl, hb9⟩
            have K9 := K8.below hb9
            have hbel9 := bCall hbel8 hb9 hbel8.size
            go_wp2_with fail
            refine (wminus_c _ _ _).mono ?_
            rintro e w10 ⟨rfl, hb10⟩
            have K10 := K9.below hb10
            have hbel10 := bCall hbel9 hb10 hbel9.size
            rw [both_eq]
            go_wp2_with fail
            refine (HH1.out _ g gw K10 (s1.below hbel10)).mono ?_
            rintro e w11 ⟨rfl, hb11⟩
            have K11 := K10.below hb11
            have hbel11 := bCall hbel10 hb11 hbel10.size
            go_wp2_with fail
            refine (HH2.out _ g gw K11 (s2.below hbel11)).mono ?_
            rintro e w12 ⟨rfl, hb12⟩
            have hbel12 := bCall hbel11 hb12 hbel11.size
            go_wp2_with fail
            refine (wminus_c _ _ _).mono ?_
            rintro e w13 ⟨rfl, hb13⟩
            have hbel13 := bCall hbel12 hb13 hbel12.size
            go_wp2_with (refine wpList_valG (v := .bool true) rfl (run_eqlOp rfl rfl rfl Try.egW (W12eq _ _ rfl rfl)) ?_; (try simp only [Act.put, List.setIfInBounds_toArray, List.set_cons_zero, List.set_cons_succ, World.size_alloc, setRow_size, Nat.add_assoc, Nat.reduceAdd]))
            refine (awake12_c _).mono ?_
            rintro e w14 ⟨rfl, hb14⟩
            have hbel14 := bCall hbel13 hb14 hbel13.size
            go_wp2
            go_ret
            exact ⟨rfl, hbel14⟩
        · have hd3 : decide ((b.length : Int) > 200) = true := by simp; omega
          go_enter Try.func8, Try.ntmps8
          go_wp2_with fail
          generalize (w.alloc (.cells (fourC a0 a1 a2 a3 c0 c1 c2 c3 key tw ot b) 53)) = w1 at *
          go_region
          all_goals
            go_wp2_with fail
            refine (long_yes _ _ _).mono ?_
            rintro e w' ⟨rfl, rfl⟩
            go_wp2
            go_ret
            exact ⟨rfl, hbel.drew⟩
      · have hd2 : decide ((ot.length : Int) > 200) = true := by simp; omega
        go_enter Try.func8, Try.ntmps8
        go_wp2_with fail
        generalize (w.alloc (.cells (fourC a0 a1 a2 a3 c0 c1 c2 c3 key tw ot b) 53)) = w1 at *
        go_region
        all_goals
          go_wp2_with fail
          refine (long_yes _ _ _).mono ?_
          rintro e w' ⟨rfl, rfl⟩
          go_wp2
          go_ret
          exact ⟨rfl, hbel.drew⟩
    · have hd1 : decide ((tw.length : Int) > 200) = true := by simp; omega
      go_enter Try.func8, Try.ntmps8
      go_wp2_with fail
      generalize (w.alloc (.cells (fourC a0 a1 a2 a3 c0 c1 c2 c3 key tw ot b) 53)) = w1 at *
      go_region
      all_goals
        go_wp2_with fail
        refine (long_yes _ _ _).mono ?_
        rintro e w' ⟨rfl, rfl⟩
        go_wp2
        go_ret
        exact ⟨rfl, hbel.drew⟩
  · skip
    go_enter Try.func8, Try.ntmps8
    go_wp2_with fail
    generalize (w.alloc (.cells (fourC a0 a1 a2 a3 c0 c1 c2 c3 key tw ot b) 53)) = w1 at *
    go_region
    all_goals
      go_wp2_with fail
      refine (long_no _ _ _ hkl _).mono ?_
      rintro e w' ⟨rfl, rfl⟩
      go_wp2
      go_ret
      exact ⟨rfl, hbel.drew⟩
end Go.Proofs.Ytolfngmpoafaaaa
