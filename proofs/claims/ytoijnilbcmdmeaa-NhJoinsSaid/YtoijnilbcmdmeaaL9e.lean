/- The walk of NhJoins. No condition but that what came in is no longer than a slice may be. -/
import Derived.Test.YtoijnilbcmdmeaaL9d
namespace Go.Proofs.Ytoijnilbcmdmeaa
set_option linter.unusedSimpArgs false
set_option linter.unusedVariables false
set_option linter.unusedSectionVars false
set_option linter.unusedVariables false
open Go.RowKit
theorem getD_app_l {xs ys : List Nat} {i : Nat} (h : i < xs.length) : (xs ++ ys).getD i 0 = xs.getD i 0 := by
  rw [List.getD_eq_getElem?_getD, List.getD_eq_getElem?_getD, List.getElem?_append_left h]
theorem getD_app_r (xs ys : List Nat) (i : Nat) : (xs ++ ys).getD (xs.length + i) 0 = ys.getD i 0 := by
  rw [List.getD_eq_getElem?_getD, List.getD_eq_getElem?_getD, List.getElem?_append_right (by omega), Nat.add_sub_cancel_left]
theorem getD_drop (xs : List Nat) (m i : Nat) : (xs.drop m).getD i 0 = xs.getD (m + i) 0 := by
  rw [List.getD_eq_getElem?_getD, List.getD_eq_getElem?_getD, List.getElem?_drop]
theorem nhS_step {W W' bs bs' : List Nat} {p p' u u' : Nat} (h : ∀ i, i < 2 → uv W bs p u i = uv W' bs' p' u' i) : uvS W bs p u 2 = uvS W' bs' p' u' 2 := by
  show 0 + uv W bs p u 0 + uv W bs p u 1 = 0 + uv W' bs' p' u' 0 + uv W' bs' p' u' 1
  rw [h 0 (by omega), h 1 (by omega)]
theorem nhS_head (W xs bs : List Nat) (p : Nat) : ∀ U, 16 * U ≤ xs.length → nhS W (xs ++ bs) p U = nhS W xs p U
  | 0, _ => rfl
  | u + 1, h => by
    show (nhS W (xs ++ bs) p u + uvS W (xs ++ bs) p u 2) % _ = (nhS W xs p u + uvS W xs p u 2) % _
    rw [nhS_head W xs bs p u (by omega), nhS_step fun i hi => uv_congr (fun _ _ => rfl) (fun j hj => getD_app_l (by omega)) hi]
theorem nhS_join (W xs bs : List Nat) (p U : Nat) (hU : xs.length = 16 * U) : ∀ u, nhS W (xs ++ bs) p (U + u) = (nhS W xs p U + nhS (W.drop (4 * U)) bs p u) % 18446744073709551616
  | 0 => by
    have := nhS_lt W xs p U
    show nhS W (xs ++ bs) p U = (nhS W xs p U + 0) % _
    rw [nhS_head W xs bs p U (by omega)]; omega
  | u + 1 => by
    have hs : uvS W (xs ++ bs) p (U + u) 2 = uvS (W.drop (4 * U)) bs p u 2 := nhS_step fun i hi => by
      refine uv_congr (fun j hj => ?_) (fun j hj => ?_) hi
      · rw [getD_drop, show 4 * (U + u) + 4 * p + j = 4 * U + (4 * u + 4 * p + j) by omega]
      · rw [show 16 * (U + u) + j = xs.length + (16 * u + j) by omega, getD_app_r]
    show (nhS W (xs ++ bs) p (U + u) + uvS W (xs ++ bs) p (U + u) 2) % _ = (nhS W xs p U + (nhS (W.drop (4 * U)) bs p u + uvS (W.drop (4 * U)) bs p u 2) % _) % _
    rw [nhS_join W xs bs p U hU u, hs]
    omega
theorem numAt_nhH (W bs : List Nat) {p : Nat} (hp : p < 4) : numAt (nhH W bs) (8 * p) 8 = nhS W bs p (bs.length / 16) := by
  have e : (List.range 8).map (fun k => (nhH W bs).getD (8 * p + k) 0) = nhB W bs p := by
    have h8 := nhB_len W bs p
    apply List.ext_getElem? fun i => ?_
    by_cases hi : i < 8
    · rw [List.getElem?_map, List.getElem?_range hi, getD_lt (by omega)]
      simp only [Option.map_some]
      rw [nhH_getD W bs p i hp hi]
    · rw [List.getElem?_eq_none (by simp; omega), List.getElem?_eq_none (by omega)]
  unfold numAt
  rw [e]
  unfold nhB
  rw [undig_dig]
  exact Nat.mod_eq_of_lt (nhS_lt _ _ _ _)
theorem nhH_lt (W bs : List Nat) : ∀ x ∈ nhH W bs, x < 256 := by
  unfold nhH nhB
  intro x hx
  simp only [List.mem_append] at hx
  rcases hx with h | h | h | h <;> exact dig_lt (by omega) _ _ x h
theorem nhOk {W bs : List Nat} (h1 : bs.length ≤ 1024) (h2 : bs.length % 16 = 0) (h3 : bs.length / 4 + 12 ≤ W.length) : nhOut W bs = nhH W bs ∧ nhErr W bs = 0 := by
  have e : nhErr W bs = 0 := by unfold nhErr; rw [if_neg (by omega), if_neg (by omega), if_neg (by omega)]
  exact ⟨by unfold nhOut; rw [if_pos e], e⟩
theorem long_at (a : Option Addr) (c : Nat) (bs : List Nat) (hb : ∀ x ∈ bs, x < 256) (hlen : bs.length ≤ maxLen) (n p : Nat) (hn : n = bs.length) (z : Int) (hz : z = p) (hp : p < 2 ^ 62) (w : World) (hs : Sl w a .u8 bs) :
    Calls Try.prog 42 #[.slice a n c, .int .i64 z] w fun e w' => e = .returned (.int .u64 (numAt bs p 8 : Nat)) ∧ Below w.heap.size w w' := by
  subst hz hn; exact long_c a c bs hb hlen p hp w hs
set_option maxRecDepth 100000 in
set_option maxHeartbeats 4000000 in
theorem nhJoins_c (aw ab ac : Option Addr) (cw cb cc : Nat) (W xs bs : List Nat) (hW : ∀ x ∈ W, x < 2 ^ 32) (hb : ∀ x ∈ xs, x < 2 ^ 8) (hb2 : ∀ x ∈ bs, x < 2 ^ 8) (hcw : W.length ≤ cw) (hmw : cw ≤ maxLen) (hcb : xs.length ≤ cb) (hmb : cb ≤ maxLen) (hzb : ab = none → cb = 0) (hcc : bs.length ≤ cc) (hmc : cc ≤ maxLen) (hzc : ac = none → cc = 0) (w : World) (hsw : Sl w aw .u32 W) (hsb : Sl w ab .u8 xs) (hsc : Sl w ac .u8 bs) :
    Calls Try.prog 11 #[.slice aw W.length cw, .slice ab xs.length cb, .slice ac bs.length cc] w fun e w' => e = .returned (.bool true) ∧ Below w.heap.size w w' := by
  have hmb' : cb ≤ 9223372036854775807 := hmb
  have hmw' : cw ≤ 9223372036854775807 := hmw
  have hmc' : cc ≤ 9223372036854775807 := hmc
  by_cases h1 : 1024 < xs.length
  · have q1 : decide ((1024 : Int) < (xs.length : Int)) = true := by simp; omega
    go_enter Try.func11, Try.ntmps11
    go_wp2
    go_ret
    exact ⟨rfl, Below.refl _ _⟩
  · have q1 : decide ((1024 : Int) < (xs.length : Int)) = false := by simp; omega
    by_cases h2 : 1024 < bs.length
    · have q2 : decide ((1024 : Int) < (bs.length : Int)) = true := by simp; omega
      go_enter Try.func11, Try.ntmps11
      go_wp2
      go_ret
      exact ⟨rfl, Below.refl _ _⟩
    · have q2 : decide ((1024 : Int) < (bs.length : Int)) = false := by simp; omega
      by_cases h3 : xs.length % 16 = 0
      · have q3 : ((xs.length : Int) % 16 != 0) = false := by simp; omega
        have HM := Lib.hid h3
        clear h3
        by_cases h4 : Enough W.length (xs.length + bs.length)
        · obtain ⟨e1, e2, e3, e4⟩ := id h4
          have H4 := Lib.hid h4
          have E3 := Lib.hid e3
          clear h4 e3
          obtain ⟨g, off, rfl, hg, -⟩ := hsw.at_ (i := 0) (by omega)
          have hbb : ∀ x ∈ xs ++ bs, x < 256 := fun x hx => (List.mem_append.1 hx).elim (hb x) (hb2 x)
          have hlab : (xs ++ bs).length = xs.length + bs.length := by simp
          have hld : (W.drop (xs.length / 4)).length = W.length - xs.length / 4 := by simp
          have hm16 := HM.out
          have hm16' := E3.out
          obtain ⟨A1, A2⟩ := nhOk (W := W) (bs := xs ++ bs) (by omega) (by omega) (by omega)
          obtain ⟨A3, A4⟩ := nhOk (W := W) (bs := xs) (by omega) hm16 (by omega)
          obtain ⟨A5, A6⟩ := nhOk (W := W.drop (xs.length / 4)) (bs := bs) (by omega) (by omega) (by omega)
          have hl1 := nhH_len W (xs ++ bs)
          have hl2 := nhH_len W xs
          have hl3 := nhH_len (W.drop (xs.length / 4)) bs
          have hC1 := fun a' c' W0 hs1 hs2 => hash_c (some ⟨g, off, none⟩) a' cw c' W (xs ++ bs) hbb hW (by omega) (by omega) hcw hmw W0 hs1 hs2
          have hC2 := fun W0 hs1 hs2 => hash_c (some ⟨g, off, none⟩) ab cw cb W xs hb hW (by omega) (by omega) hcw hmw W0 hs1 hs2
          have hC3 := fun W0 hs1 hs2 => hash_c (some ⟨g, off + xs.length / 4, none⟩) ac (cw - xs.length / 4) cc (W.drop (xs.length / 4)) bs hb2 (fun x hx => hW x (List.mem_of_mem_drop hx)) (by omega) (by omega) (by omega) (by omega) W0 hs1 hs2
          rw [A1, A2] at hC1
          simp only [hlab] at hC1
          rw [A3, A4] at hC2
          rw [A5, A6, hld] at hC3
          have hsum : ∀ i, i < 4 → numAt (nhH W (xs ++ bs)) (8 * i) 8 = (numAt (nhH W xs) (8 * i) 8 + numAt (nhH (W.drop (xs.length / 4)) bs) (8 * i) 8) % 18446744073709551616 := fun i hi => by
            rw [numAt_nhH _ _ hi, numAt_nhH _ _ hi, numAt_nhH _ _ hi, hlab]
            have := nhS_join W xs bs i (xs.length / 16) (by omega) (bs.length / 16)
            rw [show 4 * (xs.length / 16) = xs.length / 4 by omega] at this
            rw [show (xs.length + bs.length) / 16 = xs.length / 16 + bs.length / 16 by omega]
            exact this
          have HS := Lib.hid hsum
          have HC1 := Lib.hid hC1
          have HC2 := Lib.hid hC2
          have HC3 := Lib.hid hC3
          have hnc : ¬ cw = xs.length / 4 := by omega
          have hle4 : xs.length / 4 ≤ W.length := by omega
          have hab40 : xs.length + bs.length < 2 ^ 40 := by omega
          have Hlab := Lib.hid hlab
          clear A1 A2 A3 A4 A5 A6 hC1 hC2 hC3 hm16 hm16' hsum hld hlab hbb
          have b1 := nhH_lt W (xs ++ bs)
          have b2 := nhH_lt W xs
          have b3 := nhH_lt (W.drop (xs.length / 4)) bs
          obtain ⟨R1, hR1⟩ : ∃ R, nhH W (xs ++ bs) = R := ⟨_, rfl⟩
          obtain ⟨R2, hR2⟩ : ∃ R, nhH W xs = R := ⟨_, rfl⟩
          obtain ⟨R3, hR3⟩ : ∃ R, nhH (W.drop (xs.length / 4)) bs = R := ⟨_, rfl⟩
          rw [hR1] at hl1 b1 HC1 HS
          rw [hR2] at hl2 b2 HC2 HS
          rw [hR3] at hl3 b3 HC3 HS
          clear hR1 hR2 hR3
          have hO := Own.made (B := w.heap.size) (k := .u8) (xs := []) (Blk.new' (w := w) (t := 5) (cs := #[]) (n := w.heap.size) rfl) (Nat.le_refl _) (by simp [maxLen])
          have hbel0 := (Below.refl w.heap.size w).alloc (Nat.le_refl _) (.cells #[] 5)
          have hs1 := hsb.below hbel0
          have hsz0 : ([] : List Nat).length + xs.length < 2 ^ 40 := by simp; omega
          go_enter Try.func11, Try.ntmps11
          go_wp2_with (fail)
          refine (enough_yes _ _ _ _ H4.out _).mono ?_
          rintro e w' ⟨rfl, rfl⟩
          go_wp2_with (first | (refine wpList_append_sl (s := .tmp 40) (x := .tmp 41) (xs := []) (zs := xs) rfl rfl Try.underlying37 u8_inf rfl (by omega) rfl hO rfl rfl hzb hs1 hsz0 (by simp) ?_; intro v1 w2 hown1 hgr1; rw [List.nil_append] at hown1; have hbel1 := bGrown hbel0 hgr1 hbel0.size hO (Nat.le_refl _); have hs2 := hsc.below hbel1) | (refine wpList_append_sl (s := .tmp 42) (x := .tmp 43) (zs := bs) rfl rfl Try.underlying37 u8_inf rfl (by omega) rfl hown1 rfl rfl hzc hs2 hab40 hbel1.size ?_; intro v2 w3 hown2 hgr2; have hbel2 := bGrown hbel1 hgr2 hbel1.size hown1 (Nat.le_refl _); obtain ⟨a2, c2, hv2, hsl2, hcc2, hcm2⟩ := hown2.sl; subst hv2; rw [Hlab.out]))
          refine (HC1.out a2 c2 _ (hsw.below hbel2) hsl2).mono ?_
          rintro e w4 ⟨rfl, hb4⟩
          have hbel4 := bCall hbel2 hb4 hbel2.size
          have Z1 := Blk.new w4 38 (ints .u8 (zeros 32))
          have Y1 := Z1.row (ints .u8 R1)
          have hbel5 := bSetRow (hbel4.alloc hbel4.size (.cells (ints .u8 (zeros 32)) 38)) hbel4.size (ints .u8 R1)
          go_wp2_with (first | (refine wpList_alloc_ints rfl 38 rfl Try.z38 ?_; (try simp only [Act.put, List.setIfInBounds_toArray, List.set_cons_zero, List.set_cons_succ, World.size_alloc, setRow_size, Nat.add_assoc, Nat.reduceAdd])) | (refine wpList_store_ints rfl 38 _ _ rfl w4.heap.size (k := .u8) rfl rfl Z1 (zeros_size _ _) Try.ar38 hl1 ?_; (try simp only [Act.put, List.setIfInBounds_toArray, List.set_cons_zero, List.set_cons_succ, World.size_alloc, setRow_size, Nat.add_assoc, Nat.reduceAdd])))
          refine (HC2.out _ (hsw.below hbel5) (hsb.below hbel5)).mono ?_
          rintro e w5 ⟨rfl, hb5⟩
          have hbel6 := bCall hbel5 hb5 hbel5.size
          have Z2 := Blk.new w5 38 (ints .u8 (zeros 32))
          have X1 := Z2.row (ints .u8 R2)
          have Y2 := ((Y1.below' hb5).alloc (.cells (ints .u8 (zeros 32)) 38)).rowFar (show w4.heap.size ≠ w5.heap.size by have := (Y1.below' hb5).lt; omega) (ints .u8 R2)
          have hbel7 := bSetRow (hbel6.alloc hbel6.size (.cells (ints .u8 (zeros 32)) 38)) hbel6.size (ints .u8 R2)
          go_wp2_with (first | (refine wpList_alloc_ints rfl 38 rfl Try.z38 ?_; (try simp only [Act.put, List.setIfInBounds_toArray, List.set_cons_zero, List.set_cons_succ, World.size_alloc, setRow_size, Nat.add_assoc, Nat.reduceAdd])) | (refine wpList_store_ints rfl 38 _ _ rfl w5.heap.size (k := .u8) rfl rfl Z2 (zeros_size _ _) Try.ar38 hl2 ?_; (try simp only [Act.put, List.setIfInBounds_toArray, List.set_cons_zero, List.set_cons_succ, World.size_alloc, setRow_size, Nat.add_assoc, Nat.reduceAdd])))
          refine (HC3.out _ ((hsw.drop (xs.length / 4)).below hbel7) (hsc.below hbel7)).mono ?_
          rintro e w6 ⟨rfl, hb6⟩
          have hbel8 := bCall hbel7 hb6 hbel7.size
          have Z3 := Blk.new w6 38 (ints .u8 (zeros 32))
          have T1 := Z3.row (ints .u8 R3)
          have X2 := ((X1.below' hb6).alloc (.cells (ints .u8 (zeros 32)) 38)).rowFar (show w5.heap.size ≠ w6.heap.size by have := (X1.below' hb6).lt; omega) (ints .u8 R3)
          have Y3 := ((Y2.below' hb6).alloc (.cells (ints .u8 (zeros 32)) 38)).rowFar (show w4.heap.size ≠ w6.heap.size by have := (Y2.below' hb6).lt; omega) (ints .u8 R3)
          have hbel9 := bSetRow (hbel8.alloc hbel8.size (.cells (ints .u8 (zeros 32)) 38)) hbel8.size (ints .u8 R3)
          go_wp2_with (first | (refine wpList_alloc_ints rfl 38 rfl Try.z38 ?_; (try simp only [Act.put, List.setIfInBounds_toArray, List.set_cons_zero, List.set_cons_succ, World.size_alloc, setRow_size, Nat.add_assoc, Nat.reduceAdd])) | (refine wpList_store_ints rfl 38 _ _ rfl w6.heap.size (k := .u8) rfl rfl Z3 (zeros_size _ _) Try.ar38 hl3 ?_; (try simp only [Act.put, List.setIfInBounds_toArray, List.set_cons_zero, List.set_cons_succ, World.size_alloc, setRow_size, Nat.add_assoc, Nat.reduceAdd])))
          generalize ((w6.alloc (.cells (ints .u8 (zeros 32)) 38)).setRow w6.heap.size (ints .u8 R3)) = w7 at *
          generalize w4.heap.size = g1 at *
          generalize w5.heap.size = g2 at *
          generalize w6.heap.size = g3 at *
          clear HC1 HC2 HC3 Z1 Y1 Z2 X1 Y2 Z3 hbel2 hbel4 hbel5 hbel6 hbel7 hbel8 hb4 hb5 hb6
          go_loopw [13] (fun t wr => ∃ i : Nat, i ≤ 4 ∧ t = .int .i64 i ∧ Below w7.heap.size w7 wr) (fun t wr => 4 - (intOf t).toNat)
          case atStart => exact ⟨0, by omega, rfl, Below.refl _ _⟩
          case round =>
            rename_i hrel
            obtain ⟨i, hi, rfl, hbi⟩ := hrel
            have D1 := Y3.below' hbi
            have D2 := X2.below' hbi
            have D3 := T1.below' hbi
            have hbelr := bCall hbel9 hbi hbel9.size
            by_cases hlt : i < 4
            · have hsm := HS.out i hlt
              have v1 := numAt_lt b1 (8 * i) 8
              have v2 := numAt_lt b2 (8 * i) 8
              have v3 := numAt_lt b3 (8 * i) 8
              have z8 : ∀ W0, Below wr.heap.size wr W0 → Sl W0 (some ⟨g1, 0, none⟩) .u8 R1 := fun W0 h => (Sl.blk D1).below h
              have z9 : ∀ W0, Below wr.heap.size wr W0 → Sl W0 (some ⟨g2, 0, none⟩) .u8 R2 := fun W0 h => (Sl.blk D2).below h
              have z10 : ∀ W0, Below wr.heap.size wr W0 → Sl W0 (some ⟨g3, 0, none⟩) .u8 R3 := fun W0 h => (Sl.blk D3).below h
              have HZ8 := Lib.hid z8
              have HZ9 := Lib.hid z9
              have HZ10 := Lib.hid z10
              clear z8 z9 z10
              have hlt8 : 8 * i < 2 ^ 62 := by omega
              have hm8 : IntKind.i64.wrap (8 * (i : Int)) = ((8 * i : Nat) : Int) := by rw [IntWalk.i64_in _ (by omega)]; omega
              have Hm8 := Lib.hid hm8
              clear hm8
              have hR1 : R1.length ≤ maxLen := by rw [hl1]; unfold maxLen; omega
              have hR2 : R2.length ≤ maxLen := by rw [hl2]; unfold maxLen; omega
              have hR3 : R3.length ≤ maxLen := by rw [hl3]; unfold maxLen; omega
              have L1 := Lib.hid fun W0 h0 => long_at (some ⟨g1, 0, none⟩) 32 R1 b1 hR1 32 (8 * i) hl1.symm _ Hm8.out hlt8 W0 (HZ8.out W0 h0)
              have L2 := Lib.hid fun W0 h0 => long_at (some ⟨g2, 0, none⟩) 32 R2 b2 hR2 32 (8 * i) hl2.symm _ Hm8.out hlt8 W0 (HZ9.out W0 h0)
              have L3 := Lib.hid fun W0 h0 => long_at (some ⟨g3, 0, none⟩) 32 R3 b3 hR3 32 (8 * i) hl3.symm _ Hm8.out hlt8 W0 (HZ10.out W0 h0)
              generalize numAt R1 (8 * i) 8 = n1 at *
              generalize numAt R2 (8 * i) 8 = n2 at *
              generalize numAt R3 (8 * i) 8 = n3 at *
              have hne : ((n1 : Int) != IntKind.u64.wrap ((n2 : Int) + n3)) = false := by
                have e : IntKind.u64.wrap ((n2 : Int) + n3) = (((n2 + n3) % 18446744073709551616 : Nat) : Int) := by simp [IntKind.wrap, IntKind.bits, IntKind.signed]
                rw [e, hsm]; simp
              have HN := Lib.hid hne
              have Hsm := Lib.hid hsm
              clear hne hsm HS
              go_wp2
              refine wp_region_below (by kernel_rfl) (by kernel_rfl) ?_
              refine quiet_run (v := .slice (some ⟨g1, 0, none⟩) 32 32) rfl (fun W => by kernel_rfl) ?_
              (try simp only [Act.put, List.setIfInBounds_toArray, List.set_cons_zero, List.set_cons_succ, World.size_alloc, setRow_size, Nat.add_assoc, Nat.reduceAdd])
              refine quiet_move rfl rfl rfl ?_
              (try simp only [Act.put, List.setIfInBounds_toArray, List.set_cons_zero, List.set_cons_succ, World.size_alloc, setRow_size, Nat.add_assoc, Nat.reduceAdd])
              refine quiet_run (v := .int .i64 (IntKind.i64.wrap (8 * (i : Int)))) rfl (fun W => by kernel_rfl) ?_
              (try simp only [Act.put, List.setIfInBounds_toArray, List.set_cons_zero, List.set_cons_succ, World.size_alloc, setRow_size, Nat.add_assoc, Nat.reduceAdd])
              refine quiet_call 42 rfl rfl Try.func42 (by kernel_rfl) (by kernel_rfl) (fun W hQ => L1.out W hQ) ?_
              (try simp only [Act.put, List.setIfInBounds_toArray, List.set_cons_zero, List.set_cons_succ, World.size_alloc, setRow_size, Nat.add_assoc, Nat.reduceAdd])
              refine quiet_run (v := .slice (some ⟨g2, 0, none⟩) 32 32) rfl (fun W => by kernel_rfl) ?_
              (try simp only [Act.put, List.setIfInBounds_toArray, List.set_cons_zero, List.set_cons_succ, World.size_alloc, setRow_size, Nat.add_assoc, Nat.reduceAdd])
              refine quiet_move rfl rfl rfl ?_
              (try simp only [Act.put, List.setIfInBounds_toArray, List.set_cons_zero, List.set_cons_succ, World.size_alloc, setRow_size, Nat.add_assoc, Nat.reduceAdd])
              refine quiet_run (v := .int .i64 (IntKind.i64.wrap (8 * (i : Int)))) rfl (fun W => by kernel_rfl) ?_
              (try simp only [Act.put, List.setIfInBounds_toArray, List.set_cons_zero, List.set_cons_succ, World.size_alloc, setRow_size, Nat.add_assoc, Nat.reduceAdd])
              refine quiet_call 42 rfl rfl Try.func42 (by kernel_rfl) (by kernel_rfl) (fun W hQ => L2.out W hQ) ?_
              (try simp only [Act.put, List.setIfInBounds_toArray, List.set_cons_zero, List.set_cons_succ, World.size_alloc, setRow_size, Nat.add_assoc, Nat.reduceAdd])
              refine quiet_run (v := .slice (some ⟨g3, 0, none⟩) 32 32) rfl (fun W => by kernel_rfl) ?_
              (try simp only [Act.put, List.setIfInBounds_toArray, List.set_cons_zero, List.set_cons_succ, World.size_alloc, setRow_size, Nat.add_assoc, Nat.reduceAdd])
              refine quiet_move rfl rfl rfl ?_
              (try simp only [Act.put, List.setIfInBounds_toArray, List.set_cons_zero, List.set_cons_succ, World.size_alloc, setRow_size, Nat.add_assoc, Nat.reduceAdd])
              refine quiet_run (v := .int .i64 (IntKind.i64.wrap (8 * (i : Int)))) rfl (fun W => by kernel_rfl) ?_
              (try simp only [Act.put, List.setIfInBounds_toArray, List.set_cons_zero, List.set_cons_succ, World.size_alloc, setRow_size, Nat.add_assoc, Nat.reduceAdd])
              refine quiet_call 42 rfl rfl Try.func42 (by kernel_rfl) (by kernel_rfl) (fun W hQ => L3.out W hQ) ?_
              (try simp only [Act.put, List.setIfInBounds_toArray, List.set_cons_zero, List.set_cons_succ, World.size_alloc, setRow_size, Nat.add_assoc, Nat.reduceAdd])
              refine quiet_run (v := .int .u64 (IntKind.u64.wrap ((n2 : Int) + n3))) rfl (fun W => by kernel_rfl) ?_
              (try simp only [Act.put, List.setIfInBounds_toArray, List.set_cons_zero, List.set_cons_succ, World.size_alloc, setRow_size, Nat.add_assoc, Nat.reduceAdd])
              refine quiet_run (v := .bool ((n1 : Int) != IntKind.u64.wrap ((n2 : Int) + n3))) rfl (fun W => by kernel_rfl) ?_
              (try simp only [Act.put, List.setIfInBounds_toArray, List.set_cons_zero, List.set_cons_succ, World.size_alloc, setRow_size, Nat.add_assoc, Nat.reduceAdd])
              refine wpQuiet_nil ?_
              intro w' hw'
              rw [HN.out]
              go_wp2
              exact ⟨⟨i + 1, by omega, by go_num, bCall hbi hw' hbi.size⟩, by simp [intOf] <;> omega⟩
            · obtain rfl : i = 4 := by omega
              go_wp2_with (fail)
              refine (awake9_c _).mono ?_
              rintro e w8 ⟨rfl, hb8⟩
              go_wp2
              go_ret
              exact ⟨rfl, bCall hbelr hb8 hbelr.size⟩
        · have H4 := Lib.hid h4
          clear h4
          go_enter Try.func11, Try.ntmps11
          go_wp2_with (fail)
          refine (enough_no _ _ _ _ H4.out _).mono ?_
          rintro e w' ⟨rfl, rfl⟩
          go_wp2
          go_ret
          exact ⟨rfl, Below.refl _ _⟩
      · have q3 : ((xs.length : Int) % 16 != 0) = true := by simp; omega
        clear h3
        go_enter Try.func11, Try.ntmps11
        go_wp2
        go_ret
        exact ⟨rfl, Below.refl _ _⟩
end Go.Proofs.Ytoijnilbcmdmeaa
