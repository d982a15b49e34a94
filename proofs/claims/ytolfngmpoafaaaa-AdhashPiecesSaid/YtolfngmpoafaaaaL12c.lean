/- The walk of AdhashPads. No condition but that bytes are below 256. -/
import Derived.Test.YtolfngmpoafaaaaL12b
namespace Go.Proofs.Ytolfngmpoafaaaa
set_option linter.unusedSimpArgs false
set_option linter.unusedVariables false
set_option linter.unusedSectionVars false
set_option linter.unusedVariables false
open Go.RowKit
theorem IsK.grown {w w' : World} {g gw B e : Nat} {key : List Nat} {k : IntKind} {v : Value} {xs : List Nat} (h : IsK w g gw key) (hgr : w.grownBy w' v.ownBlock) (hown : Own w B e k v xs) (h1 : g < B) (h2 : gw < B) : IsK w' g gw key := ⟨h.1.grownOwn hgr hown h1, h.2.grownOwn hgr hown h2⟩
def lenV12 : Value → Nat
  | .slice _ n _ => n
  | _ => 0
theorem pad_step (b : List Nat) (j : Nat) : (b ++ zeros j) ++ [0] = b ++ zeros (j + 1) := by
  rw [List.append_assoc, show [0] = zeros 1 from rfl, zeros_add]
set_option maxRecDepth 100000 in
set_option maxHeartbeats 8000000 in
theorem adhashPads_c (key b : List Nat) (hkb : ∀ x ∈ key, x < 256) (hbb : ∀ x ∈ b, x < 256) (a1 a2 : Option Addr) (c1 c2 : Nat) (hc1 : key.length ≤ c1) (hn2 : a2 = none → c2 = 0) (w : World) (s1 : Sl w a1 .u8 key) (s2 : Sl w a2 .u8 b) :
    Calls Try.prog 6 #[.slice a1 key.length c1, .slice a2 b.length c2] w fun e w' => e = .returned (.bool true) ∧ Below w.heap.size w w' := by
  by_cases hkl : key.length = 1104
  · rw [hkl] at hc1 ⊢
    by_cases hbl : b.length ≤ 300
    · have hd0 : decide ((b.length : Int) > 300) = false := by simp; omega
      have HB2 := Lib.hid fun W g gw (hK : IsK W g gw key) (h : Sl W a2 .u8 b) => body12_c g gw key b hkb hbb (by omega) a2 c2 W hK h
      have HB1 : Hid (∀ W g gw v B, IsK W g gw key → Own W B 5 .u8 v (padL b) → Calls Try.prog 13 #[.pointer (some ⟨g, 0, none⟩), v] W fun e w' => e = .returned (.agg (ints .u64 (W12 (bodyN (blockN (key.drop 16)) (wordsN (key.drop 32)) b)))) ∧ Below W.heap.size W w') := Lib.hid fun W g gw v B hK ho => by
        obtain ⟨a, c, rfl, hsl, -, -⟩ := ho.sl
        have := body12_c g gw key (padL b) hkb (padL_lt hbb) (by rw [padL_len]; omega) a c W hK hsl
        rwa [bodyN_pad] at this
      have HB0 := Lib.hid fun W g gw (hK : IsK W g gw key) => body12_c g gw key [] hkb (by simp) (by simp) none 0 W hK (Sl.nil _ _ _)
      have hlno : ([] : List Nat).length + b.length < 2 ^ 40 := by simp; omega
      go_enter Try.func6, Try.ntmps6
      go_wp2_with fail
      refine (long_yes _ _ _).mono ?_
      rintro e w' ⟨rfl, rfl⟩
      go_wp2_with fail
      refine (new12_c key hkb hkl a1 c1 hc1 _ s1).mono ?_
      rintro e w2 ⟨g, gw, rfl, hg, hgw, K2, hb2⟩
      obtain ⟨B, HB⟩ : ∃ B, Hid (w2.heap.size = B) := ⟨_, Lib.hid rfl⟩
      have hgB : g < B := by rw [← HB.out]; exact K2.1.lt
      have hgwB : gw < B := by rw [← HB.out]; exact K2.2.lt
      have hwB : w.heap.size ≤ B := by rw [← HB.out]; exact hb2.size
      have E := Own.empty w2 B (Nat.le_of_eq HB.out.symm)
      have hb3 := (Below.refl w2.heap.size w2).alloc (Nat.le_refl _) (.cells #[] 5)
      have K3 := K2.below hb3
      have hbel3 := bCall hb2 hb3 hb2.size
      have s23 := s2.below hbel3
      have hz3 : B ≤ (w2.alloc (.cells #[] 5)).heap.size := by rw [World.size_alloc, HB.out]; omega
      go_wp2_with (refine wpList_append_sl (zs := b) rfl rfl Try.underlying22 Try.inf8 rfl (by omega) rfl E rfl rfl hn2 s23 hlno hz3 ?_; intro v4 w4 hown4 hgr4; rw [List.nil_append] at hown4; have hbel4 := bGrown hbel3 hgr4 hbel3.size E hwB; have K4 := K3.grown hgr4 E hgB hgwB; have hz4 := Nat.le_trans hz3 hgr4.size; clear hgr4)
      go_loopw [7] (fun v wr => ∃ j : Nat, j ≤ (16 - b.length % 16) % 16 ∧ Own wr B 5 .u8 v (b ++ zeros j) ∧ B ≤ wr.heap.size ∧ IsK wr g gw key ∧ Below w.heap.size w wr) (fun v wr => (16 - lenV12 v % 16) % 16)
      case atStart => exact ⟨0, by omega, by simpa [zeros] using hown4, hz4, K4, hbel4⟩
      case round =>
        obtain ⟨j, hj, hown, hBs, K5, hbel5⟩ := hrel
        clear hown4 hz4 K4 hbel4 K2 K3 hb3 hbel3 E s23 hz3
        obtain ⟨av, cv, rfl, hslv, -, -⟩ := hown.sl
        have hlv : (b ++ zeros j).length = b.length + j := by rw [List.length_append, zeros_len]
        by_cases hlj : j < (16 - b.length % 16) % 16
        · have hne : (((((b ++ zeros j).length : Nat) : Int) % 16) == 0) = false := by rw [hlv]; simp; omega
          have hln1 : (b ++ zeros j).length < 2 ^ 40 := by rw [hlv]; omega
          have HZ := Lib.hid (pad_step b j)
          have Hlv := Lib.hid hlv
          have Hl1 : Hid ((b ++ zeros (j + 1)).length = b.length + (j + 1)) := Lib.hid (by rw [List.length_append, zeros_len])
          clear hlv hslv
          generalize (b ++ zeros j) = xs at *
          have ho1 := hown.alloc (.cells #[.int .u8 0] 5)
          have hB1 : B ≤ (World.alloc _ (.cells #[.int .u8 0] 5)).heap.size := Nat.le_trans hBs (by rw [World.size_alloc]; exact Nat.le_succ _)
          have K6 : IsK (World.alloc _ (.cells #[.int .u8 0] 5)) g gw key := ⟨K5.1.alloc _, K5.2.alloc _⟩
          have hbel6 := hbel5.alloc hbel5.size (.cells #[.int .u8 0] 5)
          go_wp2_with (refine wpList_append_one (n := 0) rfl rfl Try.underlying22 Try.inf8 rfl (by omega) rfl ho1 rfl (by simp) hln1 hB1 ?_; intro v7 w7 hown7 hgr7; have hbel7 := bGrown hbel6 hgr7 hbel6.size ho1 hwB; have K7 := K6.grown hgr7 ho1 hgB hgwB; have hB7 := Nat.le_trans hB1 hgr7.size; clear hgr7; (try simp only [Act.put, List.setIfInBounds_toArray, List.set_cons_zero, List.set_cons_succ, World.size_alloc, setRow_size, Nat.add_assoc, Nat.reduceAdd]))
          rw [HZ.out] at hown7
          obtain ⟨a7, c7, rfl, -, -, -⟩ := hown7.sl
          exact ⟨⟨j + 1, by omega, hown7, hB7, K7, hbel7⟩, by simp only [lenV12]; rw [Hl1.out, Hlv.out]; omega⟩
        · obtain rfl : j = (16 - b.length % 16) % 16 := by omega
          have hne : (((((b ++ zeros ((16 - b.length % 16) % 16)).length : Nat) : Int) % 16) == 0) = true := by rw [hlv]; simp; omega
          have HP : Hid (b ++ zeros ((16 - b.length % 16) % 16) = padL b) := Lib.hid rfl
          clear hlv hslv hlj hj
          have hown' := hown
          rw [HP.out] at hown' hne
          have HO := Lib.hid hown'
          clear hown hown'
          rw [HP.out]
          go_wp2_with fail
          refine (HB1.out _ g gw _ B K5 HO.out).mono ?_
          rintro e w6 ⟨rfl, hb6⟩
          have K6 := K5.below hb6
          have hbel6 := bCall hbel5 hb6 hbel5.size
          go_wp2_with fail
          refine (HB2.out _ g gw K6 (s2.below hbel6)).mono ?_
          rintro e w7 ⟨rfl, hb7⟩
          have K7 := K6.below hb7
          have hbel7 := bCall hbel6 hb7 hbel6.size
          go_wp2_with (refine wpList_valG (v := .bool true) rfl (run_eqlOp rfl rfl rfl Try.egW (W12eq _ _ rfl rfl)) ?_; (try simp only [Act.put, List.setIfInBounds_toArray, List.set_cons_zero, List.set_cons_succ, World.size_alloc, setRow_size, Nat.add_assoc, Nat.reduceAdd]))
          refine (HB0.out _ g gw K7).mono ?_
          rintro e w8 ⟨rfl, hb8⟩
          have hbel8 := bCall hbel7 hb8 hbel7.size
          go_wp2_with (refine wpList_valG (v := .bool true) rfl (run_eqlOp rfl rfl rfl Try.egW (W12eq0 _ (by rw [bodyN_nil]; rfl))) ?_; (try simp only [Act.put, List.setIfInBounds_toArray, List.set_cons_zero, List.set_cons_succ, World.size_alloc, setRow_size, Nat.add_assoc, Nat.reduceAdd]))
          refine (awake12_c _).mono ?_
          rintro e w9 ⟨rfl, hb9⟩
          have hbel9 := bCall hbel8 hb9 hbel8.size
          go_wp2
          go_ret
          exact ⟨rfl, hbel9⟩
    · have hd0 : decide ((b.length : Int) > 300) = true := by simp; omega
      go_enter Try.func6, Try.ntmps6
      go_wp2_with fail
      refine (long_yes _ _ _).mono ?_
      rintro e w' ⟨rfl, rfl⟩
      go_wp2
      go_ret
      exact ⟨rfl, Below.refl _ _⟩
  · go_enter Try.func6, Try.ntmps6
    go_wp2_with fail
    refine (long_no _ _ _ hkl _).mono ?_
    rintro e w' ⟨rfl, rfl⟩
    go_wp2
    go_ret
    exact ⟨rfl, Below.refl _ _⟩
end Go.Proofs.Ytolfngmpoafaaaa
