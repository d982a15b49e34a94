/- The walk of NhPasses. No condition but that what came in is no longer than a slice may be. -/
import Derived.Test.YtoijnilbcmdmeaaL9
import Derived.Test.YtoijnilbcmdmeaaKit3
namespace Go.Proofs.Ytoijnilbcmdmeaa
set_option linter.unusedSimpArgs false
set_option linter.unusedVariables false
set_option linter.unusedSectionVars false
set_option linter.unusedVariables false
open Go.RowKit
theorem nhS_next (W bs : List Nat) (p : Nat) : ∀ u, nhS (W.drop 4) bs p u = nhS W bs (p + 1) u
  | 0 => rfl
  | u + 1 => by
    have hu : ∀ i, uv (W.drop 4) bs p u i = uv W bs (p + 1) u i := fun i => by
      unfold uv
      have e : ∀ j, (W.drop 4).getD j 0 = W.getD (4 + j) 0 := fun j => by
        rw [List.getD_eq_getElem?_getD, List.getD_eq_getElem?_getD, List.getElem?_drop]
      rw [e, e, show 4 + (4 * u + 4 * p + i) = 4 * u + 4 * (p + 1) + i by omega, show 4 + (4 * u + 4 * p + i + 2) = 4 * u + 4 * (p + 1) + i + 2 by omega]
    show (nhS (W.drop 4) bs p u + (0 + uv (W.drop 4) bs p u 0 + uv (W.drop 4) bs p u 1)) % _ = (nhS W bs (p + 1) u + (0 + uv W bs (p + 1) u 0 + uv W bs (p + 1) u 1)) % _
    rw [hu, hu, nhS_next W bs p u]
theorem nhB_next (W bs : List Nat) (p : Nat) : nhB (W.drop 4) bs p = nhB W bs (p + 1) := by unfold nhB; rw [nhS_next]
theorem nhH_next (W bs : List Nat) : (nhH W bs).drop 8 = (nhH (W.drop 4) bs).take 24 := by
  have l0 := nhB_len W bs 0
  have l1 := nhB_len W bs 1
  have l2 := nhB_len W bs 2
  have l3 := nhB_len W bs 3
  have m0 : nhB (W.drop 4) bs 0 = nhB W bs 1 := nhB_next W bs 0
  have m1 : nhB (W.drop 4) bs 1 = nhB W bs 2 := nhB_next W bs 1
  have m2 : nhB (W.drop 4) bs 2 = nhB W bs 3 := nhB_next W bs 2
  unfold nhH
  rw [m0, m1, m2]
  generalize nhB W bs 0 = b0 at *
  generalize nhB W bs 1 = b1 at *
  generalize nhB W bs 2 = b2 at *
  generalize nhB W bs 3 = b3 at *
  generalize nhB (W.drop 4) bs 3 = b4 at *
  have e1 : (b0 ++ (b1 ++ (b2 ++ b3))).drop 8 = b1 ++ (b2 ++ b3) := by rw [← l0, List.drop_left]
  have e2 : (b1 ++ (b2 ++ (b3 ++ b4))).take 24 = b1 ++ (b2 ++ b3) := by
    rw [← List.append_assoc b2, ← List.append_assoc b1]
    exact List.take_left' (by simp [l1, l2, l3])
  rw [e1, e2]
theorem nhOut_ok {W bs : List Nat} (h : Enough W.length bs.length) : nhOut W bs = nhH W bs ∧ nhErr W bs = 0 := by
  obtain ⟨h1, h2, h3, h4⟩ := h
  have e : nhErr W bs = 0 := by
    unfold nhErr
    rw [if_neg (by omega), if_neg (by omega), if_neg (by omega)]
  exact ⟨by unfold nhOut; rw [if_pos e], e⟩
theorem nhOut_lt (W bs : List Nat) : ∀ x ∈ nhOut W bs, x < 256 := by
  unfold nhOut
  split
  · unfold nhH nhB
    intro x hx
    simp only [List.mem_append] at hx
    rcases hx with h | h | h | h <;> exact dig_lt (by omega) _ _ x h
  · intro x hx
    rw [(List.mem_replicate.1 hx).2]; omega
set_option maxRecDepth 100000 in
set_option maxHeartbeats 2000000 in
theorem nhPasses_c (aw ab : Option Addr) (cw cb : Nat) (W bs : List Nat) (hW : ∀ x ∈ W, x < 2 ^ 32) (hb : ∀ x ∈ bs, x < 2 ^ 8) (hcw : W.length ≤ cw) (hmw : cw ≤ maxLen) (hcb : bs.length ≤ cb) (hmb : cb ≤ maxLen) (w : World) (hsw : Sl w aw .u32 W) (hsb : Sl w ab .u8 bs) :
    Calls Try.prog 9 #[.slice aw W.length cw, .slice ab bs.length cb] w fun e w' => e = .returned (.bool true) ∧ Below w.heap.size w w' := by
  have hmb' : cb ≤ 9223372036854775807 := hmb
  have hmw' : cw ≤ 9223372036854775807 := hmw
  by_cases h1 : 1024 < bs.length
  · have q1 : decide ((1024 : Int) < (bs.length : Int)) = true := by simp; omega
    go_enter Try.func9, Try.ntmps9
    go_wp2
    go_ret
    exact ⟨rfl, Below.refl _ _⟩
  · have q1 : decide ((1024 : Int) < (bs.length : Int)) = false := by simp; omega
    by_cases h2 : W.length < 4
    · have q2 : decide ((W.length : Int) < 4) = true := by simp; omega
      go_enter Try.func9, Try.ntmps9
      go_wp2
      go_ret
      exact ⟨rfl, Below.refl _ _⟩
    · have q2 : decide ((W.length : Int) < 4) = false := by simp; omega
      have q3 : (4 : Int) ≤ (W.length : Int) := by omega
      by_cases h3 : Enough (W.length - 4) bs.length
      · obtain ⟨e1, e2, e3, e4⟩ := id h3
        have h4 : Enough W.length bs.length ∨ 300 < W.length := by unfold Enough; omega
        have hc4 : ¬ cw = 4 := by omega
        have hlm : W.length < 2 ^ 40 := by omega
        obtain ⟨g, off, rfl, hg, -⟩ := hsw.at_ (i := 0) (by omega)
        have E1 : nhErr W bs = 0 := by unfold nhErr; rw [if_neg h1, if_neg (by omega), if_neg (by omega)]
        have E2 : nhErr (W.drop 4) bs = 0 := by unfold nhErr; rw [List.length_drop, if_neg h1, if_neg (by omega), if_neg (by omega)]
        have E3 : (nhOut W bs).drop 8 = (nhOut (W.drop 4) bs).take 24 := by
          unfold nhOut; rw [if_pos E1, if_pos E2]; exact nhH_next W bs
        have hl1 := nhOut_len W bs
        have hl2 := nhOut_len (W.drop 4) bs
        have hd : (W.drop 4).length = W.length - 4 := by simp
        have hC1 := fun W0 hs1 hs2 => hash_c (some ⟨g, off, none⟩) ab cw cb W bs hb hW (by omega) hlm hcw hmw W0 hs1 hs2
        have hC2 := fun W0 hs1 hs2 => hash_c (some ⟨g, off + 4, none⟩) ab (cw - 4) cb (W.drop 4) bs hb (fun x hx => hW x (List.mem_of_mem_drop hx)) (by omega) (by omega) (by omega) (by omega) W0 hs1 hs2
        rw [E1] at hC1
        rw [E2, hd] at hC2
        have HC1 := Lib.hid hC1
        have HC2 := Lib.hid hC2
        have HE3 := Lib.hid E3
        clear hC1 hC2 E3 E1 E2 hd h4 e3
        go_enter Try.func9, Try.ntmps9
        go_wp2_with (fail)
        refine (enough_yes _ _ _ _ h3 _).mono ?_
        rintro e w' ⟨rfl, rfl⟩
        go_wp2_with (fail)
        refine (HC1.out _ hsw hsb).mono ?_
        rintro e w1 ⟨rfl, hb1⟩
        have Z1 := Blk.new w1 38 (ints .u8 (zeros 32))
        have Y1 := Z1.row (ints .u8 (nhOut W bs))
        have hbel1 := bSetRow (hb1.alloc hb1.size (.cells (ints .u8 (zeros 32)) 38)) hb1.size (ints .u8 (nhOut W bs))
        go_wp2_with (first | (refine wpList_alloc_ints rfl 38 rfl Try.z38 ?_; (try simp only [Act.put, List.setIfInBounds_toArray, List.set_cons_zero, List.set_cons_succ, World.size_alloc, setRow_size, Nat.add_assoc, Nat.reduceAdd])) | (refine wpList_store_ints rfl 38 _ _ rfl w1.heap.size (k := .u8) rfl rfl Z1 (zeros_size _ _) Try.ar38 hl1 ?_; (try simp only [Act.put, List.setIfInBounds_toArray, List.set_cons_zero, List.set_cons_succ, World.size_alloc, setRow_size, Nat.add_assoc, Nat.reduceAdd])))
        refine (HC2.out _ ((hsw.drop 4).below hbel1) (hsb.below hbel1)).mono ?_
        rintro e w2 ⟨rfl, hb2⟩
        have Z2 := Blk.new w2 38 (ints .u8 (zeros 32))
        have Y2 := Z2.row (ints .u8 (nhOut (W.drop 4) bs))
        have Y1' := ((Y1.below' hb2).alloc (.cells (ints .u8 (zeros 32)) 38)).rowFar (show w1.heap.size ≠ w2.heap.size by have := (Y1.below' hb2).lt; omega) (ints .u8 (nhOut (W.drop 4) bs))
        have hbel2 := bCall hbel1 hb2 hbel1.size
        have hbel3 := bSetRow (hbel2.alloc hbel2.size (.cells (ints .u8 (zeros 32)) 38)) hbel2.size (ints .u8 (nhOut (W.drop 4) bs))
        go_wp2_with (first | (refine wpList_alloc_ints rfl 38 rfl Try.z38 ?_; (try simp only [Act.put, List.setIfInBounds_toArray, List.set_cons_zero, List.set_cons_succ, World.size_alloc, setRow_size, Nat.add_assoc, Nat.reduceAdd])) | (refine wpList_store_ints rfl 38 _ _ rfl w2.heap.size (k := .u8) rfl rfl Z2 (zeros_size _ _) Try.ar38 hl2 ?_; (try simp only [Act.put, List.setIfInBounds_toArray, List.set_cons_zero, List.set_cons_succ, World.size_alloc, setRow_size, Nat.add_assoc, Nat.reduceAdd])))
        clear Z1 Y1 Z2 hb1 hb2 hbel1 hbel2
        generalize ((w2.alloc (.cells (ints .u8 (zeros 32)) 38)).setRow w2.heap.size (ints .u8 (nhOut (W.drop 4) bs))) = w3 at *
        generalize w1.heap.size = g1 at *
        generalize w2.heap.size = g2 at *
        have S1 := (Sl.blk Y1').drop 8
        have S2 := (Sl.blk Y2).take 24
        have hn1 : 24 = ((nhOut W bs).drop 8).length := by rw [List.length_drop, hl1]
        have hn2 : 24 = ((nhOut (W.drop 4) bs).take 24).length := by rw [List.length_take, hl2]; rfl
        refine wp_region_below (by kernel_rfl) (by kernel_rfl) ?_
        refine quiet_move rfl rfl rfl ?_
        (try simp only [Act.put, List.setIfInBounds_toArray, List.set_cons_zero, List.set_cons_succ, World.size_alloc, setRow_size, Nat.add_assoc, Nat.reduceAdd])
        refine quiet_run (v := .bool true) rfl (fun W => by kernel_rfl) ?_
        (try simp only [Act.put, List.setIfInBounds_toArray, List.set_cons_zero, List.set_cons_succ, World.size_alloc, setRow_size, Nat.add_assoc, Nat.reduceAdd])
        refine quiet_move rfl rfl rfl ?_
        (try simp only [Act.put, List.setIfInBounds_toArray, List.set_cons_zero, List.set_cons_succ, World.size_alloc, setRow_size, Nat.add_assoc, Nat.reduceAdd])
        refine quiet_move rfl rfl rfl ?_
        (try simp only [Act.put, List.setIfInBounds_toArray, List.set_cons_zero, List.set_cons_succ, World.size_alloc, setRow_size, Nat.add_assoc, Nat.reduceAdd])
        refine quiet_run (v := .bool true) rfl (fun W => by kernel_rfl) ?_
        (try simp only [Act.put, List.setIfInBounds_toArray, List.set_cons_zero, List.set_cons_succ, World.size_alloc, setRow_size, Nat.add_assoc, Nat.reduceAdd])
        refine quiet_pickt (by rfl) (by rfl) (by rfl) (by rfl) (by rfl) ?_
        (try simp only [Act.put, List.setIfInBounds_toArray, List.set_cons_zero, List.set_cons_succ, World.size_alloc, setRow_size, Nat.add_assoc, Nat.reduceAdd])
        refine quiet_move rfl rfl rfl ?_
        (try simp only [Act.put, List.setIfInBounds_toArray, List.set_cons_zero, List.set_cons_succ, World.size_alloc, setRow_size, Nat.add_assoc, Nat.reduceAdd])
        refine quiet_run (v := .slice (some ⟨g1, 8, none⟩) 24 24) rfl (fun W => by kernel_rfl) ?_
        (try simp only [Act.put, List.setIfInBounds_toArray, List.set_cons_zero, List.set_cons_succ, World.size_alloc, setRow_size, Nat.add_assoc, Nat.reduceAdd])
        refine quiet_str rfl rfl rfl (hn1) Try.underlying37 Try.underlying5 Try.underlying9 S1 ?_
        (try simp only [Act.put, List.setIfInBounds_toArray, List.set_cons_zero, List.set_cons_succ, World.size_alloc, setRow_size, Nat.add_assoc, Nat.reduceAdd])
        refine quiet_run (v := .slice (some ⟨g2, 0, none⟩) 24 32) rfl (fun W => by kernel_rfl) ?_
        (try simp only [Act.put, List.setIfInBounds_toArray, List.set_cons_zero, List.set_cons_succ, World.size_alloc, setRow_size, Nat.add_assoc, Nat.reduceAdd])
        refine quiet_str rfl rfl rfl (hn2) Try.underlying37 Try.underlying5 Try.underlying9 S2 ?_
        (try simp only [Act.put, List.setIfInBounds_toArray, List.set_cons_zero, List.set_cons_succ, World.size_alloc, setRow_size, Nat.add_assoc, Nat.reduceAdd])
        refine quiet_eqs rfl rfl rfl rfl (strEq_same HE3.out) ?_
        (try simp only [Act.put, List.setIfInBounds_toArray, List.set_cons_zero, List.set_cons_succ, World.size_alloc, setRow_size, Nat.add_assoc, Nat.reduceAdd])
        refine quiet_pickt (by rfl) (by rfl) (by rfl) (by rfl) (by rfl) ?_
        (try simp only [Act.put, List.setIfInBounds_toArray, List.set_cons_zero, List.set_cons_succ, World.size_alloc, setRow_size, Nat.add_assoc, Nat.reduceAdd])
        refine quiet_move rfl rfl rfl ?_
        (try simp only [Act.put, List.setIfInBounds_toArray, List.set_cons_zero, List.set_cons_succ, World.size_alloc, setRow_size, Nat.add_assoc, Nat.reduceAdd])
        refine quiet_call 40 rfl rfl Try.func40 (by kernel_rfl) (by kernel_rfl) (fun W _ => awake9_c W) ?_
        (try simp only [Act.put, List.setIfInBounds_toArray, List.set_cons_zero, List.set_cons_succ, World.size_alloc, setRow_size, Nat.add_assoc, Nat.reduceAdd])
        refine quiet_pickt (by rfl) (by rfl) (by rfl) (by rfl) (by rfl) ?_
        (try simp only [Act.put, List.setIfInBounds_toArray, List.set_cons_zero, List.set_cons_succ, World.size_alloc, setRow_size, Nat.add_assoc, Nat.reduceAdd])
        refine quiet_assign rfl rfl rfl ?_
        (try simp only [Act.put, List.setIfInBounds_toArray, List.set_cons_zero, List.set_cons_succ, World.size_alloc, setRow_size, Nat.add_assoc, Nat.reduceAdd])
        refine wpQuiet_nil ?_
        intro w' hw'
        go_wp2
        go_ret
        exact ⟨rfl, bCall hbel3 hw' hbel3.size⟩
      · have hm2 : W.length - 4 < 2 ^ 40 ∨ 300 < W.length := by omega
        by_cases hc4 : cw = 4
        · subst hc4
          go_enter Try.func9, Try.ntmps9
          have h4 : ¬ Enough 0 bs.length := by
            have e : W.length - 4 = 0 := by omega
            rw [e] at h3; exact h3
          go_wp2_with (fail)
          refine (enough_no _ _ _ _ h4 _).mono ?_
          rintro e w' ⟨rfl, rfl⟩
          go_wp2
          go_ret
          exact ⟨rfl, Below.refl _ _⟩
        · go_enter Try.func9, Try.ntmps9
          go_wp2_with (fail)
          refine (enough_no _ _ _ _ h3 _).mono ?_
          rintro e w' ⟨rfl, rfl⟩
          go_wp2
          go_ret
          exact ⟨rfl, Below.refl _ _⟩
end Go.Proofs.Ytoijnilbcmdmeaa
