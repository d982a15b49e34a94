/- The walk of TopCycle. No condition but that bytes are below 256. -/
import Derived.Test.YtaiffkajkbiidaaGreatDoorWTb
import Derived.Test.YtaiffkajkbiidaaGreatDoorPT
import Derived.Test.YtaiffkajkbiidaaGreatDoorKit9
namespace Go.Proofs.YtaiffkajkbiidaaGreatDoor
set_option linter.unusedSimpArgs false
set_option linter.unusedVariables false
set_option linter.unusedSectionVars false
set_option linter.unusedVariables false
open Go.RowKit
theorem run_bsC {o : Oper} {a : Act} {x : Operand} {n : Nat} {w : World} (ho : o.op = .buildSlice 23 1 #[(0, x)]) (hx : a.eval x = .int .u8 (n : Int)) : (execOp a.eval o).run Tryz.prog w = .ok (.value (.slice (some ⟨w.heap.size, 0, none⟩) 1 1)) (w.alloc (.cells (ints .u8 [n]) 5)) :=
  run_bs1 ho hx (by kernel_rfl)
set_option maxRecDepth 100000 in
set_option maxHeartbeats 40000000 in
theorem topCycle_c (key tw : List Nat) (b : Nat) (a0 a1 : Option Addr) (c0 c1 : Nat) (hb0 : ∀ x ∈ key, x < 256) (hb1 : ∀ x ∈ tw, x < 256) (hb2 : b < 256) (hc0 : key.length ≤ c0) (hc1 : tw.length ≤ c1) (hn0 : a0 = none → c0 = 0) (hm0 : key.length ≤ maxLen) (hm1 : tw.length ≤ maxLen) (w : World) (hGl : Gl w) (hG : GlB w) (S0 : Sl w a0 .u8 key) (S1 : Sl w a1 .u8 tw) :
    Calls Tryz.prog 5 #[.slice a0 key.length c0, .slice a1 tw.length c1, .int .u8 (b : Int)] w fun e w' => e = .returned (.bool true) ∧ Below w.heap.size w w' := by
  have hmay := fun W => may3_c key.length c0 a0 W
  have hcip := fun (h : 0 < key.length ∧ key.length ≤ 128) W h1 h2 h3 => cipher3_c key a0 c0 (by omega) h.2 hb0 hc0 hn0 W h1 h2 h3
  obtain ⟨I, hI⟩ : ∃ I, Hid (exI key = I) := ⟨_, Lib.hid rfl⟩
  obtain ⟨J, hJ⟩ : ∃ J, Hid (exJ key = J) := ⟨_, Lib.hid rfl⟩
  obtain ⟨Z, hZ⟩ : ∃ Z, Hid (exZ key = Z) := ⟨_, Lib.hid rfl⟩
  rw [hI.out, hJ.out, hZ.out] at hcip
  have hEn := fun (htl : tw.length < 2 ^ 31) gc gk gt gb b hb a c W h1 h2 h3 => wideEnc_c gc gk gt gb I J Z tw hb1 htl a1 c1 hc1 b hb a c W h1 h2 h3
  have hDe := fun (htl : tw.length < 2 ^ 31) gc gk gt gb b hb a c W h1 h2 h3 => wideDec_c gc gk gt gb I J Z tw hb1 htl a1 c1 hc1 b hb a c W h1 h2 h3
  obtain ⟨n, hn⟩ : ∃ n, Hid (key.length = n) := ⟨_, Lib.hid rfl⟩
  obtain ⟨m, hm⟩ : ∃ m, Hid (tw.length = m) := ⟨_, Lib.hid rfl⟩
  have hS : ∀ j x, sT I J Z (hashN I J Z tw) j x < 16 := sT_lt I J Z _
  have hFl : ∀ b, b < 256 → cdN false I J Z tw b < 256 := fun b hb => encT_lt hS _ hb
  have hDF : ∀ b, b < 256 → cdN true I J Z tw (cdN false I J Z tw b) = b := fun b hb => decT_encT hS _ hb
  obtain ⟨F, hF⟩ : ∃ F : Nat → Nat, Hid (∀ b, cdN false I J Z tw b = F b) := ⟨_, Lib.hid fun _ => rfl⟩
  obtain ⟨D, hD⟩ : ∃ D : Nat → Nat, Hid (∀ b, cdN true I J Z tw b = D b) := ⟨_, Lib.hid fun _ => rfl⟩
  simp only [hF.out] at hFl hEn hDF
  simp only [hD.out] at hDe hDF
  have HB : Hid (∃ k, 1 ≤ k ∧ k ≤ 256 ∧ itT F k b = b) := Lib.hid (it_back hFl hDF hb2)
  have hIt := it_lt hFl hb2
  rw [hn.out] at hmay hcip hm0 ⊢
  rw [hm.out] at hEn hDe hm1 ⊢
  clear hF hD hS hI hJ hZ
  go_enter Tryz.func5, Tryz.ntmps5
  go_wp2_with fail
  have B1 := Blk.new w 27 #[.int .i64 3, .slice a0 n c0, .slice none 0 0, .bool false]
  have hbl1 := (Below.refl w.heap.size w).alloc (Nat.le_refl _) (.cells #[.int .i64 3, .slice a0 n c0, .slice none 0 0, .bool false] 27)
  generalize (w.alloc (.cells #[.int .i64 3, .slice a0 n c0, .slice none 0 0, .bool false] 27)) = w1 at *
  refine (hmay w1).mono ?_
  clear hmay
  rintro e w2 ⟨rfl, hb2'⟩
  have B2 := B1.below' hb2'
  have hbl2 := bCall hbl1 hb2' hbl1.size
  clear B1 hbl1 hb2'
  by_cases hk : 0 < n ∧ n ≤ 128
  · rw [decide_eq_true hk]
    by_cases hm60 : m ≤ 60
    · have e0 : decide ((m : Int) > 60) = false := by simp; omega
      have k0 : w2.cell? ⟨w.heap.size, 0, none⟩ = some (.int .i64 3) := by rw [B2.cell]; rfl
      have k1 : w2.cell? ⟨w.heap.size, 1, none⟩ = some (.slice a0 n c0) := by rw [B2.cell]; rfl
      have hc := hcip hk w2 (hGl.below hbl2) (hG.below hbl2) (S0.below hbl2)
      have hm31 : m < 2 ^ 31 := by omega
      replace hEn := hEn hm31
      replace hDe := hDe hm31
      clear hcip B2 hm1 hm0 hk hm60
      go_wp2_with fail
      refine hc.mono ?_
      clear hc k0 k1
      rintro e w3 ⟨gc, gk, gt, gb, rfl, hgc, C3, hb3⟩
      have hbl3 := bCall hbl2 hb3 hbl2.size
      clear hbl2 hb3
      have hb4 := (Below.refl w3.heap.size w3).alloc (Nat.le_refl _) (.cells (ints .u8 [b]) 5)
      have N4 : Sl _ (some ⟨w3.heap.size, 0, none⟩) .u8 [b] := Sl.blk (Blk.new w3 5 (ints .u8 [b]))
      have HC : Hid (∀ W, Below w3.heap.size w3 W → IsCip W gc gk gt gb I J Z) := Lib.hid fun W h => C3.below h
      have hnb := hbl3.size
      have HT : Hid (∀ W, Below w3.heap.size w3 W → Below w.heap.size w W) := Lib.hid fun W h => bCall hbl3 h hnb
      clear hbl3 C3
      go_wp2_with (refine wpList_runW rfl (run_bsC rfl rfl) ?_; generalize (w3.alloc (.cells (ints .u8 [b]) 5)) = w4 at *; (try simp only [Act.put, List.setIfInBounds_toArray, List.set_cons_zero, List.set_cons_succ, World.size_alloc, setRow_size, Nat.add_assoc, Nat.reduceAdd]))
      go_loopw [10, 11] (fun s t wr => ∃ (i : Nat) (ax : Option Addr) (cx : Nat), i ≤ 256 ∧ t = .int .i64 (i : Int) ∧ s = .slice ax 1 cx ∧ Sl wr ax .u8 [itT F i b] ∧ (∀ k, 1 ≤ k → k ≤ i → itT F k b ≠ b) ∧ Below w3.heap.size w3 wr) (fun s t wr => 256 - (intOf t).toNat)
      case atStart => exact ⟨0, _, 1, by omega, rfl, rfl, N4, fun k h1 h2 => by omega, hb4⟩
      case round =>
        clear N4 hb4
        obtain ⟨i, ax, cx, hi, rfl, rfl, Sx, hno, hbel⟩ := hrel
        by_cases hlt : i < 256
        · have hd : decide ((i : Int) < 256) = true := by simp; omega
          have hT5 := HT.out _ hbel
          have HN := Lib.hid hno
          clear hno
          have hE := hEn gc gk gt gb (itT F i b) (hIt i) ax cx wr (S1.below hT5) Sx (HC.out _ hbel)
          go_wp2_with fail
          refine hE.mono ?_
          clear hE
          rintro e w6 ⟨v, rfl, ov, hb6⟩
          have hbel6 := bCall hbel hb6 hbel.size
          have Sx6 := Sx.below hb6
          obtain ⟨ay, cy, rfl, sy, -, -⟩ := ov.sl
          have k6 : ∃ g6 o6, ay = some ⟨g6, o6, none⟩ ∧ w6.cell? ⟨g6, o6, none⟩ = some (.int .u8 ((F (itT F i b) : Nat) : Int)) := by
            obtain ⟨g6, o6, e6, -, k6⟩ := sy.at_ (i := 0) (by simp)
            simp only [List.getD_cons_zero, Nat.add_zero] at k6
            exact ⟨g6, o6, e6, k6⟩
          obtain ⟨g6, o6, rfl, k6⟩ := k6
          have hs1 : F (itT F i b) = itT F (i + 1) b := rfl
          have hDx := hDF (itT F i b) (hIt i)
          have hT6 := HT.out _ hbel6
          by_cases hyb : F (itT F i b) = b
          · rw [hyb] at k6 hDx
            have hb7 := (Below.refl w6.heap.size w6).alloc (Nat.le_refl _) (.cells (ints .u8 [b]) 5)
            have N7 : Sl _ (some ⟨w6.heap.size, 0, none⟩) .u8 [b] := Sl.blk (Blk.new w6 5 (ints .u8 [b]))
            have hbel7 := bCall hbel6 hb7 hbel6.size
            have Sx7 := Sx6.below hb7
            clear hbel hT5 hb6 Sx ov sy hs1 hyb
            go_wp2_with (refine wpList_runW rfl (run_bsC rfl rfl) ?_; generalize (w6.alloc (.cells (ints .u8 [b]) 5)) = w7 at *; (try simp only [Act.put, List.setIfInBounds_toArray, List.set_cons_zero, List.set_cons_succ, World.size_alloc, setRow_size, Nat.add_assoc, Nat.reduceAdd]))
            refine (hDe gc gk gt gb b hb2 _ 1 w7 (S1.below (HT.out _ hbel7)) N7 (HC.out _ hbel7)).mono ?_
            rintro e w8 ⟨v, rfl, ov, hb8⟩
            rw [hDx] at ov
            have hbel8 := bCall hbel7 hb8 hbel7.size
            have Sx8 := Sx7.below hb8
            have hT8 := HT.out _ hbel8
            obtain ⟨az, cz, rfl, sz, -, -⟩ := ov.sl
            clear N7 hbel7 hb8 Sx7 Sx6 hbel6 hT6 hb7 hEn hDe hDx ov
            generalize itT F i b = q at *
            go_wp2_with (first
              | (refine wpList_valG rfl (run_convSl (xs := [q]) Tryz.underlying23 Tryz.underlying5 Tryz.underlying9 rfl rfl sz) ?_; (try simp only [Act.put, List.setIfInBounds_toArray, List.set_cons_zero, List.set_cons_succ, World.size_alloc, setRow_size, Nat.add_assoc, Nat.reduceAdd]))
              | (refine wpList_valG rfl (run_convSl (xs := [q]) Tryz.underlying23 Tryz.underlying5 Tryz.underlying9 rfl rfl Sx8) ?_; (try simp only [Act.put, List.setIfInBounds_toArray, List.set_cons_zero, List.set_cons_succ, World.size_alloc, setRow_size, Nat.add_assoc, Nat.reduceAdd]))
              | (refine wpList_valG rfl (run_eqsOp rfl rfl rfl (strEq_same rfl)) ?_; (try simp only [Act.put, List.setIfInBounds_toArray, List.set_cons_zero, List.set_cons_succ, World.size_alloc, setRow_size, Nat.add_assoc, Nat.reduceAdd])))
            refine (topAwake_c w8 (hGl.below hT8)).mono ?_
            rintro e w9 ⟨rfl, hb9⟩
            have hbel9 := bCall hT8 hb9 hT8.size
            go_wp2_with fail
            go_ret
            exact ⟨rfl, hbel9⟩
          · have hyi : (((F (itT F i b) : Nat) : Int) == (b : Int)) = false := by simp; omega
            have HN2 : Hid (∀ k, 1 ≤ k → k ≤ i + 1 → itT F k b ≠ b) := Lib.hid fun k h1 h2 => by
              rcases Nat.lt_or_ge i k with h | h
              · obtain rfl : k = i + 1 := by omega
                exact hyb
              · exact HN.out k h1 h
            have sy2 : Sl w6 (some ⟨g6, o6, none⟩) .u8 [itT F (i + 1) b] := sy
            clear hbel hT5 hb6 Sx ov hDx hs1 sy HN hyb
            generalize F (itT F i b) = y at *
            go_wp2_with fail
            exact ⟨⟨i + 1, _, _, by omega, by go_num, rfl, sy2, HN2.out, hbel6⟩, by simp [intOf] <;> omega⟩
        · obtain ⟨k, h1, h2, h3⟩ := HB.out
          exact absurd h3 (hno k h1 (by omega))
    · have e0 : decide ((m : Int) > 60) = true := by simp; omega
      go_wp2_with fail
      go_ret
      exact ⟨rfl, hbl2⟩
  · rw [decide_eq_false hk]
    go_wp2_with fail
    go_ret
    exact ⟨rfl, hbl2⟩
end Go.Proofs.YtaiffkajkbiidaaGreatDoor
