/- The walk of NhMore. No condition but that what came in is no longer than a slice may be. -/
import Derived.Test.YtoijnilbcmdmeaaL9c
import Derived.Test.YtoijnilbcmdmeaaKit4
import Derived.Test.YtoijnilbcmdmeaaW9d
namespace Go.Proofs.Ytoijnilbcmdmeaa
set_option linter.unusedSimpArgs false
set_option linter.unusedVariables false
set_option linter.unusedSectionVars false
set_option linter.unusedVariables false
open Go.RowKit
theorem uv_congr {W W' bs bs' : List Nat} {p p' u u' i : Nat} (h1 : ∀ j, j < 4 → W.getD (4 * u + 4 * p + j) 0 = W'.getD (4 * u' + 4 * p' + j) 0) (h2 : ∀ j, j < 16 → bs.getD (16 * u + j) 0 = bs'.getD (16 * u' + j) 0) (hi : i < 2) : uv W bs p u i = uv W' bs' p' u' i := by
  have e : ∀ q, q + 4 ≤ 16 → numAt bs (16 * u + q) 4 = numAt bs' (16 * u' + q) 4 := fun q hq => by
    unfold numAt
    congr 1
    apply List.map_congr_left
    intro k hk
    rw [List.mem_range] at hk
    have := h2 (q + k) (by omega)
    rw [Nat.add_assoc, Nat.add_assoc]; exact this
  unfold uv
  have f1 := h1 i (by omega)
  have f2 := h1 (i + 2) (by omega)
  rw [f1, show 4 * u + 4 * p + i + 2 = 4 * u + 4 * p + (i + 2) by omega, f2, show 4 * u' + 4 * p' + i + 2 = 4 * u' + 4 * p' + (i + 2) by omega, e (4 * i) (by omega), show 16 * u + 4 * i + 8 = 16 * u + (4 * i + 8) by omega, e (4 * i + 8) (by omega), show 16 * u' + 4 * i + 8 = 16 * u' + (4 * i + 8) by omega]
theorem nhS_congr {W W' bs : List Nat} {p : Nat} : ∀ U, (∀ j, j < 4 * U + 4 * p → W.getD j 0 = W'.getD j 0) → nhS W bs p U = nhS W' bs p U
  | 0, _ => rfl
  | u + 1, h => by
    have hu : ∀ i, i < 2 → uv W bs p u i = uv W' bs p u i := fun i hi => uv_congr (fun j hj => h _ (by omega)) (fun _ _ => rfl) hi
    show (nhS W bs p u + (0 + uv W bs p u 0 + uv W bs p u 1)) % _ = (nhS W' bs p u + (0 + uv W' bs p u 0 + uv W' bs p u 1)) % _
    rw [hu 0 (by omega), hu 1 (by omega), nhS_congr u fun j hj => h j (by omega)]
theorem nhH_congr {W W' bs : List Nat} (h : ∀ j, j < bs.length / 4 + 12 → W.getD j 0 = W'.getD j 0) : nhH W bs = nhH W' bs := by
  have key : ∀ p, p < 4 → nhB W bs p = nhB W' bs p := fun p hp => by
    unfold nhB
    rw [nhS_congr _ fun j hj => h j (by omega)]
  unfold nhH
  rw [key 0 (by omega), key 1 (by omega), key 2 (by omega), key 3 (by omega)]
theorem take_more {W : List Nat} {n m : Nat} (hn : n ≤ W.length) : ∀ j, j < n → W.getD j 0 = (W.take n ++ [m]).getD j 0 := fun j hj => by
  rw [List.getD_eq_getElem?_getD, List.getD_eq_getElem?_getD, List.getElem?_append_left (by simp; omega), List.getElem?_take, if_pos hj]
theorem nhOut_nil (W : List Nat) (h : 12 ≤ W.length) : nhOut W [] = zeros 32 ∧ nhErr W [] = 0 := by
  have e : nhErr W [] = 0 := by simp [nhErr]; omega
  refine ⟨?_, e⟩
  have hB : ∀ p, nhB W [] p = zeros 8 := fun p => by
    unfold nhB
    rw [show nhS W [] p (([] : List Nat).length / 16) = 0 from rfl]
    rfl
  unfold nhOut
  rw [if_pos e]
  unfold nhH
  rw [hB, hB, hB, hB]
  rfl
theorem zeros32 : (Value.agg (ints .u8 (zeros 32))) = .agg #[.int .u8 0, .int .u8 0, .int .u8 0, .int .u8 0, .int .u8 0, .int .u8 0, .int .u8 0, .int .u8 0, .int .u8 0, .int .u8 0, .int .u8 0, .int .u8 0, .int .u8 0, .int .u8 0, .int .u8 0, .int .u8 0, .int .u8 0, .int .u8 0, .int .u8 0, .int .u8 0, .int .u8 0, .int .u8 0, .int .u8 0, .int .u8 0, .int .u8 0, .int .u8 0, .int .u8 0, .int .u8 0, .int .u8 0, .int .u8 0, .int .u8 0, .int .u8 0] := by kernel_rfl
set_option maxRecDepth 100000 in
set_option maxHeartbeats 4000000 in
theorem nhMore_c (aw ab : Option Addr) (cw cb : Nat) (W bs : List Nat) (more : Nat) (hW : ∀ x ∈ W, x < 2 ^ 32) (hb : ∀ x ∈ bs, x < 2 ^ 8) (hmo : more < 2 ^ 32) (hcw : W.length ≤ cw) (hmw : cw ≤ maxLen) (hcb : bs.length ≤ cb) (hmb : cb ≤ maxLen) (hzw : aw = none → cw = 0) (w : World) (hsw : Sl w aw .u32 W) (hsb : Sl w ab .u8 bs) :
    Calls Try.prog 10 #[.slice aw W.length cw, .slice ab bs.length cb, .int .u32 more] w fun e w' => e = .returned (.bool true) ∧ Below w.heap.size w w' := by
  have hmb' : cb ≤ 9223372036854775807 := hmb
  have hmw' : cw ≤ 9223372036854775807 := hmw
  by_cases h1 : 1024 < bs.length
  · have q1 : decide ((1024 : Int) < (bs.length : Int)) = true := by simp; omega
    go_enter Try.func10, Try.ntmps10
    go_wp2
    go_ret
    exact ⟨rfl, Below.refl _ _⟩
  · have q1 : decide ((1024 : Int) < (bs.length : Int)) = false := by simp; omega
    by_cases h3 : Enough W.length bs.length
    · obtain ⟨e1, e2, e3, e4⟩ := id h3
      have hlm : W.length < 2 ^ 40 := by omega
      obtain ⟨g, off, rfl, hg, -⟩ := hsw.at_ (i := 0) (by omega)
      have hdn : (W.take (bs.length / 4 + 12) ++ [more]).length = bs.length / 4 + 13 := by simp; omega
      have hWt : ∀ x ∈ W.take (bs.length / 4 + 12) ++ [more], x < 4294967296 := fun x hx => by
        rcases List.mem_append.1 hx with h | h
        · exact hW x (List.mem_of_mem_take h)
        · simp only [List.mem_singleton] at h; subst h; exact hmo
      have E1 : nhErr W bs = 0 := (nhOut_ok h3).2
      have E2 : nhErr (W.take (bs.length / 4 + 12) ++ [more]) bs = 0 := by unfold nhErr; rw [hdn, if_neg h1, if_neg (by omega), if_neg (by omega)]
      have E3 : nhOut (W.take (bs.length / 4 + 12) ++ [more]) bs = nhOut W bs := by
        unfold nhOut; rw [if_pos E1, if_pos E2]; exact (nhH_congr (take_more (by omega))).symm
      obtain ⟨E4, E5⟩ := nhOut_nil W (by omega)
      have hl1 := nhOut_len W bs
      have hC1 := fun W0 hs1 hs2 => hash_c (some ⟨g, off, none⟩) ab cw cb W bs hb hW (by omega) hlm hcw hmw W0 hs1 hs2
      have hC2 := fun a' c' q1 q2 W0 hs1 hs2 => hash_c a' ab c' cb (W.take (bs.length / 4 + 12) ++ [more]) bs hb hWt (by omega) (by omega) q1 q2 W0 hs1 hs2
      have hC3 := fun W0 hs1 => hash_c (some ⟨g, off, none⟩) none cw 0 W [] (by simp) hW (by simp) hlm hcw hmw W0 hs1 (Sl.nil _ _ _)
      rw [E1] at hC1
      rw [E2, E3] at hC2
      rw [E4, E5] at hC3
      have HC1 := Lib.hid hC1
      have HC2 := Lib.hid hC2
      have HC3 := Lib.hid hC3
      have Hdn := Lib.hid hdn
      clear hC1 hC2 hC3 E1 E2 E3 E4 E5 e3 hdn hWt
      go_enter Try.func10, Try.ntmps10
      go_wp2_with (fail)
      refine (enough_yes _ _ _ _ h3 _).mono ?_
      rintro e w' ⟨rfl, rfl⟩
      go_wp2_with (fail)
      refine (HC1.out _ hsw hsb).mono ?_
      rintro e w1 ⟨rfl, hb1⟩
      have Z1 := Blk.new w1 38 (ints .u8 (zeros 32))
      have Y1 := Z1.row (ints .u8 (nhOut W bs))
      have hbel1 := bSetRow (hb1.alloc hb1.size (.cells (ints .u8 (zeros 32)) 38)) hb1.size (ints .u8 (nhOut W bs))
      obtain ⟨V, hV⟩ : ∃ V, W.take (bs.length / 4 + 12) ++ [more] = V := ⟨_, rfl⟩
      have HV := Lib.hid hV
      rw [hV] at HC2
      clear hV
      have Y2 := Y1.alloc (.cells #[] 22)
      have hbel2 := hbel1.alloc hbel1.size (.cells #[] 22)
      have hO := Own.made (B := w1.heap.size + 1) (k := .u32) (xs := []) (Blk.new' (w := (w1.alloc (.cells (ints .u8 (zeros 32)) 38)).setRow w1.heap.size (ints .u8 (nhOut W bs))) (t := 22) (cs := #[]) (n := w1.heap.size + 1) (by simp)) (Nat.le_refl _) (by simp [maxLen])
      have hsw2 := (hsw.below hbel2).take (bs.length / 4 + 12)
      have hn1 : bs.length / 4 + 12 = (W.take (bs.length / 4 + 12)).length := by rw [List.length_take]; omega
      have hsz0 : ([] : List Nat).length + (W.take (bs.length / 4 + 12)).length < 2 ^ 40 := by simp; omega
      have hsz1 : (W.take (bs.length / 4 + 12)).length < 2 ^ 40 := by simp; omega
      have Hn1 := Lib.hid hn1
      have hb1s := hb1.size
      clear hn1
      go_wp2_with (first | (refine wpList_alloc_ints rfl 38 rfl Try.z38 ?_; (try simp only [Act.put, List.setIfInBounds_toArray, List.set_cons_zero, List.set_cons_succ, World.size_alloc, setRow_size, Nat.add_assoc, Nat.reduceAdd])) | (refine wpList_store_ints rfl 38 _ _ rfl w1.heap.size (k := .u8) rfl rfl Z1 (zeros_size _ _) Try.ar38 hl1 ?_; (try simp only [Act.put, List.setIfInBounds_toArray, List.set_cons_zero, List.set_cons_succ, World.size_alloc, setRow_size, Nat.add_assoc, Nat.reduceAdd])) | (refine wpList_append_sl (s := .tmp 35) (x := .tmp 38) (xs := []) (zs := W.take (bs.length / 4 + 12)) rfl rfl Try.underlying36 u32_inf rfl (by omega) rfl hO rfl Hn1.out (by intro h; cases h) hsw2 hsz0 (by simp) ?_; intro v1 w2 hown1 hgr1; rw [List.nil_append] at hown1; have Y3 := Y2.grownOwn hgr1 hO (Nat.lt_succ_self _); have hbel3 := bGrown hbel2 hgr1 hbel2.size hO (by omega); have hs3 : w1.heap.size + 1 ≤ w2.heap.size := by have := hgr1.size; simp at this; omega) | (refine wpList_append_one (s := .tmp 39) (x := .tmp 41) (n := more) rfl rfl Try.underlying36 u32_inf rfl (by omega) rfl (hown1.alloc _) rfl (by simp) hsz1 (by simp; omega) ?_; intro v2 w3 hown2 hgr2; rw [HV.out] at hown2; have Y4 := (Y3.alloc _).grownOwn hgr2 (hown1.alloc _) (Nat.lt_succ_self _); have hbel4 := bGrown (hbel3.alloc hbel3.size _) hgr2 (by simp; omega) (hown1.alloc _) (by omega); obtain ⟨a2, c2, hv2, hsl2, hcc, hcm⟩ := hown2.sl; subst hv2))
      refine (HC2.out a2 c2 hcc hcm _ hsl2 (hsb.below hbel4)).mono ?_
      rintro e w4 ⟨rfl, hb4⟩
      have Y5 := Y4.below' hb4
      have hbel5 := bCall hbel4 hb4 hbel4.size
      have X1 := Blk.new w4 38 (ints .u8 (zeros 32))
      have Y6 := (Y5.alloc (.cells (ints .u8 (zeros 32)) 38)).rowFar (show w1.heap.size ≠ w4.heap.size by have := Y5.lt; omega) (ints .u8 (nhOut W bs))
      have X2 := X1.row (ints .u8 (nhOut W bs))
      have hbel6 := bSetRow (hbel5.alloc hbel5.size (.cells (ints .u8 (zeros 32)) 38)) hbel5.size (ints .u8 (nhOut W bs))
      go_wp2_with (first | (refine wpList_alloc_ints rfl 38 rfl Try.z38 ?_; (try simp only [Act.put, List.setIfInBounds_toArray, List.set_cons_zero, List.set_cons_succ, World.size_alloc, setRow_size, Nat.add_assoc, Nat.reduceAdd])) | (refine wpList_store_ints rfl 38 _ _ rfl w4.heap.size (k := .u8) rfl rfl X1 (zeros_size _ _) Try.ar38 hl1 ?_; (try simp only [Act.put, List.setIfInBounds_toArray, List.set_cons_zero, List.set_cons_succ, World.size_alloc, setRow_size, Nat.add_assoc, Nat.reduceAdd])))
      refine (HC3.out _ (hsw.below hbel6)).mono ?_
      rintro e w5 ⟨rfl, hb5⟩
      have Y7 := Y6.below' hb5
      have X3 := X2.below' hb5
      have hbel7 := bCall hbel6 hb5 hbel6.size
      have T1 := Blk.new w5 38 (ints .u8 (zeros 32))
      have Y8 := (Y7.alloc (.cells (ints .u8 (zeros 32)) 38)).rowFar (show w1.heap.size ≠ w5.heap.size by have := Y7.lt; omega) (ints .u8 (zeros 32))
      have X4 := (X3.alloc (.cells (ints .u8 (zeros 32)) 38)).rowFar (show w4.heap.size ≠ w5.heap.size by have := X3.lt; omega) (ints .u8 (zeros 32))
      have T2 := T1.row (ints .u8 (zeros 32))
      have hbel8 := bSetRow (hbel7.alloc hbel7.size (.cells (ints .u8 (zeros 32)) 38)) hbel7.size (ints .u8 (zeros 32))
      have heq := same32 _ _ hl1 rfl
      have heq2 := same32 (zeros 32) (zeros 32) rfl rfl
      have hz := zeros32
      have Hq2 : Hid (∀ W0 : World, (binOp .eql 38 (.agg (ints .u8 (zeros 32))) (.agg #[.int .u8 0, .int .u8 0, .int .u8 0, .int .u8 0, .int .u8 0, .int .u8 0, .int .u8 0, .int .u8 0, .int .u8 0, .int .u8 0, .int .u8 0, .int .u8 0, .int .u8 0, .int .u8 0, .int .u8 0, .int .u8 0, .int .u8 0, .int .u8 0, .int .u8 0, .int .u8 0, .int .u8 0, .int .u8 0, .int .u8 0, .int .u8 0, .int .u8 0, .int .u8 0, .int .u8 0, .int .u8 0, .int .u8 0, .int .u8 0, .int .u8 0, .int .u8 0])).run Try.prog W0 = .ok (.bool true) W0) := Lib.hid (fun W0 => by rw [← hz]; exact heq2 W0)
      have hq2 := Hq2.out
      clear heq2 hz Hq2 HC1 HC2 HC3 HV hO
      go_wp2_with (first | (refine wpList_alloc_ints rfl 38 rfl Try.z38 ?_; (try simp only [Act.put, List.setIfInBounds_toArray, List.set_cons_zero, List.set_cons_succ, World.size_alloc, setRow_size, Nat.add_assoc, Nat.reduceAdd])) | (refine wpList_store_ints rfl 38 _ _ rfl w5.heap.size (k := .u8) rfl rfl T1 (zeros_size _ _) Try.ar38 rfl ?_; (try simp only [Act.put, List.setIfInBounds_toArray, List.set_cons_zero, List.set_cons_succ, World.size_alloc, setRow_size, Nat.add_assoc, Nat.reduceAdd])) | (refine wpList_load_intsG rfl 38 _ rfl w1.heap.size rfl Y8 Try.ar38 hl1 ?_; (try simp only [Act.put, List.setIfInBounds_toArray, List.set_cons_zero, List.set_cons_succ, World.size_alloc, setRow_size, Nat.add_assoc, Nat.reduceAdd])) | (refine wpList_load_intsG rfl 38 _ rfl w4.heap.size rfl X4 Try.ar38 hl1 ?_; (try simp only [Act.put, List.setIfInBounds_toArray, List.set_cons_zero, List.set_cons_succ, World.size_alloc, setRow_size, Nat.add_assoc, Nat.reduceAdd])) | (refine wpList_load_intsG rfl 38 _ rfl w5.heap.size rfl T2 Try.ar38 rfl ?_; (try simp only [Act.put, List.setIfInBounds_toArray, List.set_cons_zero, List.set_cons_succ, World.size_alloc, setRow_size, Nat.add_assoc, Nat.reduceAdd])))
      refine (awake9_c _).mono ?_
      rintro e w6 ⟨rfl, hb6⟩
      go_wp2
      go_ret
      exact ⟨rfl, bCall hbel8 hb6 hbel8.size⟩
    · go_enter Try.func10, Try.ntmps10
      go_wp2_with (fail)
      refine (enough_no _ _ _ _ h3 _).mono ?_
      rintro e w' ⟨rfl, rfl⟩
      go_wp2
      go_ret
      exact ⟨rfl, Below.refl _ _⟩
end Go.Proofs.Ytoijnilbcmdmeaa
