/- The walk of NhHashes. No condition but that what came in is no longer than a slice may be. -/
import Derived.Test.YtoijnilbcmdmeaaL9
namespace Go.Proofs.Ytoijnilbcmdmeaa
set_option linter.unusedSimpArgs false
set_option linter.unusedVariables false
set_option linter.unusedSectionVars false
set_option linter.unusedVariables false
open Go.RowKit
set_option maxRecDepth 100000 in
set_option maxHeartbeats 2000000 in
theorem nhHashes_c (aw ab : Option Addr) (cw cb : Nat) (W bs : List Nat) (hW : ∀ x ∈ W, x < 2 ^ 32) (hb : ∀ x ∈ bs, x < 2 ^ 8) (hcw : W.length ≤ cw) (hmw : cw ≤ maxLen) (hcb : bs.length ≤ cb) (hmb : cb ≤ maxLen) (w : World) (hsw : Sl w aw .u32 W) (hsb : Sl w ab .u8 bs) :
    Calls Try.prog 8 #[.slice aw W.length cw, .slice ab bs.length cb] w fun e w' => e = .returned (.bool true) ∧ Below w.heap.size w w' := by
  have hmb' : cb ≤ 9223372036854775807 := hmb
  have hmw' : cw ≤ 9223372036854775807 := hmw
  by_cases h1 : 300 < W.length
  · have q1 : decide ((300 : Int) < (W.length : Int)) = true := by simp; omega
    go_enter Try.func8, Try.ntmps8
    go_wp2
    go_ret
    exact ⟨rfl, Below.refl _ _⟩
  · have q1 : decide ((300 : Int) < (W.length : Int)) = false := by simp; omega
    by_cases h2 : 1100 < bs.length
    · have q2 : decide ((1100 : Int) < (bs.length : Int)) = true := by simp; omega
      go_enter Try.func8, Try.ntmps8
      go_wp2
      go_ret
      exact ⟨rfl, Below.refl _ _⟩
    · have q2 : decide ((1100 : Int) < (bs.length : Int)) = false := by simp; omega
      have hl := nhOut_len W bs
      go_enter Try.func8, Try.ntmps8
      go_wp2_with (fail)
      refine (hash_c aw ab cw cb W bs hb hW (by omega) (by omega) hcw hmw _ hsw hsb).mono ?_
      rintro e w1 ⟨rfl, hb1⟩
      have Z1 := Blk.new w1 38 (ints .u8 (zeros 32))
      have Y1 := Z1.row (ints .u8 (nhOut W bs))
      have hbel1 := bSetRow (hb1.alloc hb1.size (.cells (ints .u8 (zeros 32)) 38)) hb1.size (ints .u8 (nhOut W bs))
      go_wp2_with (first | (refine wpList_alloc_ints rfl 38 rfl Try.z38 ?_; (try simp only [Act.put, List.setIfInBounds_toArray, List.set_cons_zero, List.set_cons_succ, World.size_alloc, setRow_size, Nat.add_assoc, Nat.reduceAdd])) | (refine wpList_store_ints rfl 38 _ _ rfl w1.heap.size (k := .u8) rfl rfl Z1 (zeros_size _ _) Try.ar38 hl ?_; (try simp only [Act.put, List.setIfInBounds_toArray, List.set_cons_zero, List.set_cons_succ, World.size_alloc, setRow_size, Nat.add_assoc, Nat.reduceAdd])))
      refine (rhash_c aw ab cw cb W bs hb hW (by omega) (by omega) _ (hsw.below hbel1) (hsb.below hbel1)).mono ?_
      rintro e w2 ⟨rfl, hb2⟩
      have Z2 := Blk.new w2 38 (ints .u8 (zeros 32))
      have Y2 := Z2.row (ints .u8 (nhOut W bs))
      have Y1' := ((Y1.below' hb2).alloc (.cells (ints .u8 (zeros 32)) 38)).rowFar (show w1.heap.size ≠ w2.heap.size by have := (Y1.below' hb2).lt; omega) (ints .u8 (nhOut W bs))
      have hbel2 := bCall hbel1 hb2 hbel1.size
      have hbel3 := bSetRow (hbel2.alloc hbel2.size (.cells (ints .u8 (zeros 32)) 38)) hbel2.size (ints .u8 (nhOut W bs))
      have heq := same32 _ _ hl rfl
      have Heq := Lib.hid heq
      have heqg := Heq.out
      clear heq
      go_wp2_with (first | (refine wpList_alloc_ints rfl 38 rfl Try.z38 ?_; (try simp only [Act.put, List.setIfInBounds_toArray, List.set_cons_zero, List.set_cons_succ, World.size_alloc, setRow_size, Nat.add_assoc, Nat.reduceAdd])) | (refine wpList_store_ints rfl 38 _ _ rfl w2.heap.size (k := .u8) rfl rfl Z2 (zeros_size _ _) Try.ar38 hl ?_; (try simp only [Act.put, List.setIfInBounds_toArray, List.set_cons_zero, List.set_cons_succ, World.size_alloc, setRow_size, Nat.add_assoc, Nat.reduceAdd])) | (refine wpList_load_ints rfl 38 _ rfl w1.heap.size rfl Y1' Try.ar38 hl ?_; (try simp only [Act.put, List.setIfInBounds_toArray, List.set_cons_zero, List.set_cons_succ, World.size_alloc, setRow_size, Nat.add_assoc, Nat.reduceAdd])) | (refine wpList_load_ints rfl 38 _ rfl w2.heap.size rfl Y2 Try.ar38 hl ?_; (try simp only [Act.put, List.setIfInBounds_toArray, List.set_cons_zero, List.set_cons_succ, World.size_alloc, setRow_size, Nat.add_assoc, Nat.reduceAdd])))
      refine (awake9_c _).mono ?_
      rintro e w4 ⟨rfl, hb4⟩
      go_wp2
      go_ret
      exact ⟨rfl, bCall hbel3 hb4 hbel3.size⟩
end Go.Proofs.Ytoijnilbcmdmeaa
