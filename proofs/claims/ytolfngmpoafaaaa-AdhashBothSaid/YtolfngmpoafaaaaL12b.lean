/- The walks of AdhashKeys, AdhashHeads, AdhashSums. No condition but that bytes are below 256 and numbers fit. -/
import Derived.Test.YtolfngmpoafaaaaL12a
namespace Go.Proofs.Ytolfngmpoafaaaa
set_option linter.unusedSimpArgs false
set_option linter.unusedVariables false
set_option linter.unusedSectionVars false
set_option linter.unusedVariables false
open Go.RowKit
theorem awk12 {k : Int} (hw : (Lit.int .i64 k).wf = true) : -9223372036854775808 ≤ k ∧ k ≤ 9223372036854775807 := by
  unfold Lit.wf at hw
  simp only [Bool.and_eq_true, decide_eq_true_eq] at hw
  exact ⟨hw.1, hw.2⟩
theorem long_yes (a : Option Addr) (c : Nat) (w : World) : Calls Try.prog 10 #[.slice a 1104 c] w fun e w' => e = .returned (.bool true) ∧ w = w' := long12_c a 1104 c w
theorem long_no (a : Option Addr) (n c : Nat) (h : n ≠ 1104) (w : World) : Calls Try.prog 10 #[.slice a n c] w fun e w' => e = .returned (.bool false) ∧ w = w' := by
  have := long12_c a n c w
  rwa [decide_eq_false h] at this
set_option maxRecDepth 100000 in
set_option maxHeartbeats 8000000 in
theorem adhashHeads_c (key tweak : List Nat) (n : Int) (hkb : ∀ x ∈ key, x < 256) (htb : ∀ x ∈ tweak, x < 256) (hn : -9223372036854775808 ≤ n ∧ n ≤ 9223372036854775807) (a1 a2 : Option Addr) (c1 c2 : Nat) (hc1 : key.length ≤ c1) (hc2 : tweak.length ≤ c2) (hn2 : a2 = none → c2 = 0) (w : World) (s1 : Sl w a1 .u8 key) (s2 : Sl w a2 .u8 tweak) :
    Calls Try.prog 4 #[.slice a1 key.length c1, .slice a2 tweak.length c2, .int .i64 n] w fun e w' => e = .returned (.bool true) ∧ Below w.heap.size w w' := by
  by_cases hkl : key.length = 1104
  · rw [hkl] at hc1 ⊢
    by_cases ht : tweak.length ≤ 200
    · have hd0 : decide ((tweak.length : Int) > 200) = false := by simp; omega
      have hN : ∃ m : Nat, m < 2 ^ 63 ∧ (n = (m : Int) ∨ n < 0 ∧ m = 0) := by
        by_cases h : 0 ≤ n
        · exact ⟨n.toNat, by omega, .inl (by omega)⟩
        · exact ⟨0, by omega, .inr ⟨by omega, rfl⟩⟩
      obtain ⟨m, hm63, hnm⟩ := hN
      have HH := Lib.hid fun W g gw (hK : IsK W g gw key) (h : Sl W a2 .u8 tweak) => head12_c g gw key tweak hkb htb (by omega) n m hm63 hnm a2 c2 hc2 W hK h
      have HR := Lib.hid fun W (h1 : Sl W a1 .u8 key) (h2 : Sl W a2 .u8 tweak) => rhead12_c key tweak hkl hkb htb (by omega) m hm63 a1 a2 c1 c2 hc1 hn2 W h1 h2
      have HE : Hid (dig 256 16 (headN (blockN key) tweak m) = hashP (blockN key) (dig 256 16 (8 * m) ++ tweak)) := Lib.hid rfl
      go_enter Try.func4, Try.ntmps4
      go_wp2_with fail
      refine (long_yes _ _ _).mono ?_
      rintro e w' ⟨rfl, rfl⟩
      go_wp2_with fail
      refine (new12_c key hkb hkl a1 c1 hc1 _ s1).mono ?_
      rintro e w2 ⟨g, gw, rfl, hg, hgw, K2, hb2⟩
      have t1 := s1.below hb2
      have t2 := s2.below hb2
      rcases hnm with rfl | ⟨hneg, rfl⟩
      · have hd1 : decide ((m : Int) < 0) = false := by simp
        have hge : ¬ (m : Int) < 0 := by omega
        go_wp2_with fail
        refine (HH.out _ _ _ K2 t2).mono ?_
        rintro e w3 ⟨rfl, hb3⟩
        have hbel3 := bCall hb2 hb3 hb2.size
        go_wp2_with fail
        refine (bytes12_c _ _).mono ?_
        rintro e w4 ⟨rfl, hb4⟩
        have hbel4 := bCall hbel3 hb4 hbel3.size
        go_wp2_with fail
        refine (HR.out _ (s1.below hbel4) (s2.below hbel4)).mono ?_
        rintro e w5 ⟨rfl, hb5⟩
        have hbel5 := bCall hbel4 hb5 hbel4.size
        go_wp2_with (refine wpList_valG (v := .bool true) rfl (run_eqlOp rfl rfl rfl Try.eg8b (b8eq _ _ (dig_length _ _ _) HE.out)) ?_; (try simp only [Act.put, List.setIfInBounds_toArray, List.set_cons_zero, List.set_cons_succ, World.size_alloc, setRow_size, Nat.add_assoc, Nat.reduceAdd]))
        refine (awake12_c _).mono ?_
        rintro e w6 ⟨rfl, hb6⟩
        have hbel6 := bCall hbel5 hb6 hbel5.size
        go_wp2
        go_ret
        exact ⟨rfl, hbel6⟩
      · have hd1 : decide (n < 0) = true := by simp; omega
        go_wp2_with fail
        refine (HH.out _ _ _ K2 t2).mono ?_
        rintro e w3 ⟨rfl, hb3⟩
        have hbel3 := bCall hb2 hb3 hb2.size
        go_wp2_with fail
        refine (bytes12_c _ _).mono ?_
        rintro e w4 ⟨rfl, hb4⟩
        have hbel4 := bCall hbel3 hb4 hbel3.size
        go_wp2_with fail
        refine (HR.out _ (s1.below hbel4) (s2.below hbel4)).mono ?_
        rintro e w5 ⟨rfl, hb5⟩
        have hbel5 := bCall hbel4 hb5 hbel4.size
        go_wp2_with (refine wpList_valG (v := .bool true) rfl (run_eqlOp rfl rfl rfl Try.eg8b (b8eq _ _ (dig_length _ _ _) HE.out)) ?_; (try simp only [Act.put, List.setIfInBounds_toArray, List.set_cons_zero, List.set_cons_succ, World.size_alloc, setRow_size, Nat.add_assoc, Nat.reduceAdd]))
        refine (awake12_c _).mono ?_
        rintro e w6 ⟨rfl, hb6⟩
        have hbel6 := bCall hbel5 hb6 hbel5.size
        go_wp2
        go_ret
        exact ⟨rfl, hbel6⟩
    · have hd0 : decide ((tweak.length : Int) > 200) = true := by simp; omega
      go_enter Try.func4, Try.ntmps4
      go_wp2_with fail
      refine (long_yes _ _ _).mono ?_
      rintro e w' ⟨rfl, rfl⟩
      go_wp2
      go_ret
      exact ⟨rfl, Below.refl _ _⟩
  · go_enter Try.func4, Try.ntmps4
    go_wp2_with fail
    refine (long_no _ _ _ hkl _).mono ?_
    rintro e w' ⟨rfl, rfl⟩
    go_wp2
    go_ret
    exact ⟨rfl, Below.refl _ _⟩
set_option maxRecDepth 100000 in
set_option maxHeartbeats 8000000 in
theorem adhashSums_c (key tweak b : List Nat) (hkb : ∀ x ∈ key, x < 256) (htb : ∀ x ∈ tweak, x < 256) (hbb : ∀ x ∈ b, x < 256) (a1 a2 a3 : Option Addr) (c1 c2 c3 : Nat) (hc1 : key.length ≤ c1) (hc2 : tweak.length ≤ c2) (hn2 : a2 = none → c2 = 0) (hn3 : a3 = none → c3 = 0) (w : World) (s1 : Sl w a1 .u8 key) (s2 : Sl w a2 .u8 tweak) (s3 : Sl w a3 .u8 b) :
    Calls Try.prog 5 #[.slice a1 key.length c1, .slice a2 tweak.length c2, .slice a3 b.length c3] w fun e w' => e = .returned (.bool true) ∧ Below w.heap.size w w' := by
  by_cases hkl : key.length = 1104
  · rw [hkl] at hc1 ⊢
    by_cases ht : tweak.length ≤ 200
    · have hd0 : decide ((tweak.length : Int) > 200) = false := by simp; omega
      by_cases hbl : b.length ≤ 2500
      · have hd1 : decide ((b.length : Int) > 2500) = false := by simp; omega
        have HB := Lib.hid fun W g gw (hK : IsK W g gw key) (h : Sl W a3 .u8 b) => body12_c g gw key b hkb hbb (by omega) a3 c3 W hK h
        have HS := Lib.hid fun W g gw (hK : IsK W g gw key) (h : Sl W a2 .u8 tweak) (h' : Sl W a3 .u8 b) => sum12_c g gw key tweak b hkb htb (by omega) hbb (by omega) a2 a3 c2 c3 hc2 W hK h h'
        have HRB := Lib.hid fun W (h1 : Sl W a1 .u8 key) (h2 : Sl W a3 .u8 b) => rbody12_c key b hkl hkb hbb (by omega) a1 a3 c1 c3 hc1 hn3 W h1 h2
        have HRS := Lib.hid fun W (h1 : Sl W a1 .u8 key) (h2 : Sl W a2 .u8 tweak) (h3 : Sl W a3 .u8 b) => rsum12_c key tweak b hkl hkb htb (by omega) hbb (by omega) a1 a2 a3 c1 c2 c3 hc1 hn2 hn3 W h1 h2 h3
        have HE : Hid (dig 256 16 (bodyN (blockN (key.drop 16)) (wordsN (key.drop 32)) b) = hashP (blockN (key.drop 16)) (nhAll (wordsN (key.drop 32)) (padL b) (piecesN (padL b).length))) := Lib.hid rfl
        go_enter Try.func5, Try.ntmps5
        go_wp2_with fail
        refine (long_yes _ _ _).mono ?_
        rintro e w' ⟨rfl, rfl⟩
        go_wp2_with fail
        refine (new12_c key hkb hkl a1 c1 hc1 _ s1).mono ?_
        rintro e w2 ⟨g, gw, rfl, hg, hgw, K2, hb2⟩
        go_wp2_with fail
        refine (HB.out _ _ _ K2 (s3.below hb2)).mono ?_
        rintro e w3 ⟨rfl, hb3⟩
        have K3 := K2.below hb3
        have hbel3 := bCall hb2 hb3 hb2.size
        go_wp2_with fail
        refine (bytes12_c _ _).mono ?_
        rintro e w4 ⟨rfl, hb4⟩
        have K4 := K3.below hb4
        have hbel4 := bCall hbel3 hb4 hbel3.size
        go_wp2_with fail
        refine (HRB.out _ (s1.below hbel4) (s3.below hbel4)).mono ?_
        rintro e w5 ⟨rfl, hb5⟩
        have K5 := K4.below hb5
        have hbel5 := bCall hbel4 hb5 hbel4.size
        go_wp2_with (refine wpList_valG (v := .bool true) rfl (run_eqlOp rfl rfl rfl Try.eg8b (b8eq _ _ (dig_length _ _ _) HE.out)) ?_; (try simp only [Act.put, List.setIfInBounds_toArray, List.set_cons_zero, List.set_cons_succ, World.size_alloc, setRow_size, Nat.add_assoc, Nat.reduceAdd]))
        refine (HS.out _ _ _ K5 (s2.below hbel5) (s3.below hbel5)).mono ?_
        rintro e w6 ⟨rfl, hb6⟩
        have hbel6 := bCall hbel5 hb6 hbel5.size
        go_wp2_with fail
        refine (bytes12_c _ _).mono ?_
        rintro e w7 ⟨rfl, hb7⟩
        have hbel7 := bCall hbel6 hb7 hbel6.size
        go_wp2_with fail
        refine (HRS.out _ (s1.below hbel7) (s2.below hbel7) (s3.below hbel7)).mono ?_
        rintro e w8 ⟨rfl, hb8⟩
        have hbel8 := bCall hbel7 hb8 hbel7.size
        go_wp2_with (refine wpList_valG (v := .bool true) rfl (run_eqlOp rfl rfl rfl Try.eg8b (b8eq _ _ (dig_length _ _ _) rfl)) ?_; (try simp only [Act.put, List.setIfInBounds_toArray, List.set_cons_zero, List.set_cons_succ, World.size_alloc, setRow_size, Nat.add_assoc, Nat.reduceAdd]))
        refine (awake12_c _).mono ?_
        rintro e w9 ⟨rfl, hb9⟩
        have hbel9 := bCall hbel8 hb9 hbel8.size
        go_wp2
        go_ret
        exact ⟨rfl, hbel9⟩
      · have hd1 : decide ((b.length : Int) > 2500) = true := by simp; omega
        go_enter Try.func5, Try.ntmps5
        go_wp2_with fail
        refine (long_yes _ _ _).mono ?_
        rintro e w' ⟨rfl, rfl⟩
        go_wp2
        go_ret
        exact ⟨rfl, Below.refl _ _⟩
    · have hd0 : decide ((tweak.length : Int) > 200) = true := by simp; omega
      go_enter Try.func5, Try.ntmps5
      go_wp2_with fail
      refine (long_yes _ _ _).mono ?_
      rintro e w' ⟨rfl, rfl⟩
      go_wp2
      go_ret
      exact ⟨rfl, Below.refl _ _⟩
  · go_enter Try.func5, Try.ntmps5
    go_wp2_with fail
    refine (long_no _ _ _ hkl _).mono ?_
    rintro e w' ⟨rfl, rfl⟩
    go_wp2
    go_ret
    exact ⟨rfl, Below.refl _ _⟩
set_option maxRecDepth 100000 in
set_option maxHeartbeats 8000000 in
theorem adhashKeys_c (key : List Nat) (hkb : ∀ x ∈ key, x < 256) (a1 : Option Addr) (c1 : Nat) (hc1 : key.length ≤ c1) (w : World) (s1 : Sl w a1 .u8 key) :
    Calls Try.prog 3 #[.slice a1 key.length c1] w fun e w' => e = .returned (.bool true) ∧ Below w.heap.size w w' := by
  by_cases hbig : key.length ≤ 1200
  · by_cases hkl : key.length = 1104
    · rw [hkl] at hc1 ⊢
      go_enter Try.func3, Try.ntmps3
      go_wp2_with fail
      refine (new12_c key hkb hkl a1 c1 hc1 _ s1).mono ?_
      rintro e w2 ⟨g, gw, rfl, hg, hgw, K2, hb2⟩
      go_wp2_with fail
      refine (long_yes _ _ _).mono ?_
      rintro e w' ⟨rfl, rfl⟩
      go_wp2_with fail
      refine (awake12_c _).mono ?_
      rintro e w3 ⟨rfl, hb3⟩
      have hbel3 := bCall hb2 hb3 hb2.size
      go_wp2
      go_ret
      exact ⟨rfl, hbel3⟩
    · have hd0 : decide ((key.length : Int) > 1200) = false := by simp; omega
      have HNL := Lib.hid fun W => long_no a1 _ c1 hkl W
      have HNN := Lib.hid fun W => new12_no _ hkl a1 c1 W
      have HSN := Lib.hid fun v W => sumNil12_c v a1 key.length c1 (by omega) W
      generalize key.length = kl at *
      go_enter Try.func3, Try.ntmps3
      go_wp2_with fail
      refine (HNN.out _).mono ?_
      rintro e w' ⟨rfl, rfl⟩
      go_wp2_with fail
      refine (HNL.out _).mono ?_
      rintro e w' ⟨rfl, rfl⟩
      go_wp2_with fail
      refine (HSN.out _ _).mono ?_
      rintro e w3 ⟨rfl, hb3⟩
      go_wp2_with (refine wpList_valG (v := .bool true) rfl (run_eqlOp rfl rfl rfl Try.egW (W12eq0 _ rfl)) ?_; (try simp only [Act.put, List.setIfInBounds_toArray, List.set_cons_zero, List.set_cons_succ, World.size_alloc, setRow_size, Nat.add_assoc, Nat.reduceAdd]))
      refine (headNil12_c _ _ _).mono ?_
      rintro e w4 ⟨rfl, hb4⟩
      have hbel4 := bCall hb3 hb4 hb3.size
      go_wp2_with (refine wpList_valG (v := .bool true) rfl (run_eqlOp rfl rfl rfl Try.egW (W12eq0 _ rfl)) ?_; (try simp only [Act.put, List.setIfInBounds_toArray, List.set_cons_zero, List.set_cons_succ, World.size_alloc, setRow_size, Nat.add_assoc, Nat.reduceAdd]))
      refine (bodyNil12_c _ _).mono ?_
      rintro e w5 ⟨rfl, hb5⟩
      have hbel5 := bCall hbel4 hb5 hbel4.size
      go_wp2_with (refine wpList_valG (v := .bool true) rfl (run_eqlOp rfl rfl rfl Try.egW (W12eq0 _ rfl)) ?_; (try simp only [Act.put, List.setIfInBounds_toArray, List.set_cons_zero, List.set_cons_succ, World.size_alloc, setRow_size, Nat.add_assoc, Nat.reduceAdd]))
      refine (awake12_c _).mono ?_
      rintro e w6 ⟨rfl, hb6⟩
      have hbel6 := bCall hbel5 hb6 hbel5.size
      go_wp2
      go_ret
      exact ⟨rfl, hbel6⟩
  · have hd0 : decide ((key.length : Int) > 1200) = true := by simp; omega
    go_enter Try.func3, Try.ntmps3
    go_wp2
    go_ret
    exact ⟨rfl, Below.refl _ _⟩
end Go.Proofs.Ytolfngmpoafaaaa
