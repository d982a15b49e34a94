/- The example that chapter 11's statements end with; ValSums, ValLengths. No condition but that bytes are below 256. -/
import Derived.Test.YtckobbddjldflaaVA
namespace Go.Proofs.Ytckobbddjldflaa
set_option linter.unusedSimpArgs false
set_option linter.unusedVariables false
set_option linter.unusedSectionVars false
set_option linter.unusedVariables false
open Go.RowKit
open Gf (W2 up upN mulS mul R1 D1 dot downN)
theorem eq16d (xs ys : List Nat) (hx : xs.length = 16) (hy : ys.length = 16) (W : World) : (binOp .eql 22 (.agg (ints .u8 xs)) (.agg (ints .u8 ys))).run Try.prog W = .ok (.bool (xs == ys)) W :=
  run_eql_ints (n := 16) Try.underlying22 Try.underlying5 Try.is5 Try.sz5 xs ys hx hy W
theorem ne16d (xs ys : List Nat) (hx : xs.length = 16) (hy : ys.length = 16) (W : World) : (binOp .neq 22 (.agg (ints .u8 xs)) (.agg (ints .u8 ys))).run Try.prog W = .ok (.bool (!(xs == ys))) W :=
  run_neq_ints (n := 16) Try.underlying22 Try.underlying5 Try.is5 Try.sz5 xs ys hx hy W
theorem zeros16_c : ints .u8 (zeros 16) = #[.int .u8 0, .int .u8 0, .int .u8 0, .int .u8 0, .int .u8 0, .int .u8 0, .int .u8 0, .int .u8 0, .int .u8 0, .int .u8 0, .int .u8 0, .int .u8 0, .int .u8 0, .int .u8 0, .int .u8 0, .int .u8 0] := by kernel_rfl
def hk11 : List Nat := [37, 98, 147, 71, 88, 146, 66, 118, 29, 49, 248, 38, 186, 75, 117, 123]
theorem hk11_c : ints .u8 hk11 = #[.int .u8 37, .int .u8 98, .int .u8 147, .int .u8 71, .int .u8 88, .int .u8 146, .int .u8 66, .int .u8 118, .int .u8 29, .int .u8 49, .int .u8 248, .int .u8 38, .int .u8 186, .int .u8 75, .int .u8 117, .int .u8 123] := by kernel_rfl
theorem hk11_val : (valL hk11 [1] == zeros 16) = false := by
  have e1 : padL [1] = one16 := by decide
  have e2 : xorL (zeros 16) (blk one16 0) = one16 := by decide
  have e : valL hk11 [1] = elem (dot R1 D1 (num hk11) 1) := by
    unfold valL
    rw [e1, show one16.length / 16 = 0 + 1 by decide]
    show dotL hk11 (xorL (zeros 16) (blk one16 0)) = _
    rw [e2]
    unfold dotL
    rw [num_one]
  have e3 : dot R1 D1 (num hk11) 1 = downN D1 128 (num hk11) := by unfold dot; rw [Gf.mul_one]
  have e4 : (elem (downN D1 128 (num hk11)) == zeros 16) = false := by kernel_rfl
  rw [e, e3]
  exact e4
def en11 : List Nat := [3, 0, 0, 0, 0, 0, 0, 0, 0, 0, 0, 0, 0, 0, 0, 0, 7, 1, 0, 0, 0, 0, 0, 0, 0, 0, 0, 0, 0, 0, 0, 0]
theorem en11_c : encL [] [7] = en11 := by decide
theorem sl7 (w : World) : Sl (w.alloc (.cells #[.int .u8 7] 5)) (some ⟨w.heap.size, 0, none⟩) .u8 [7] := Sl.blk (Blk.new w 5 (ints .u8 [7]))
theorem sl1 (w : World) : Sl (w.alloc (.cells #[.int .u8 1] 5)) (some ⟨w.heap.size, 0, none⟩) .u8 [1] := Sl.blk (Blk.new w 5 (ints .u8 [1]))
set_option maxRecDepth 100000 in
set_option maxHeartbeats 8000000 in
theorem awake11_c (w : World) : Calls Try.prog 13 #[] w fun e w' => e = .returned (.bool true) ∧ Below w.heap.size w w' := by
  have HK := Lib.hid (show Value.agg #[.int .u8 37, .int .u8 98, .int .u8 147, .int .u8 71, .int .u8 88, .int .u8 146, .int .u8 66, .int .u8 118, .int .u8 29, .int .u8 49, .int .u8 248, .int .u8 38, .int .u8 186, .int .u8 75, .int .u8 117, .int .u8 123] = .agg (ints .u8 hk11) by rw [hk11_c])
  have B0 := Blk.new w 22 (ints .u8 (zeros 16))
  have B1 := (B0.row (ints .u8 hk11)).alloc (.cells #[.int .u8 7] 5)
  have hbel1 := (bSetRow ((Below.refl w.heap.size w).alloc (Nat.le_refl _) (.cells (ints .u8 (zeros 16)) 22)) (Nat.le_refl _) (ints .u8 hk11)).alloc (by rw [setRow_size, World.size_alloc]; omega) (.cells #[.int .u8 7] 5)
  have h7 := sl7 ((w.alloc (.cells (ints .u8 (zeros 16)) 22)).setRow w.heap.size (ints .u8 hk11))
  rw [setRow_size, World.size_alloc] at h7
  have hne := fun W => ne16d (valL hk11 [1]) (zeros 16) (onL_len (zeros_len _) _) (zeros_len _) W
  rw [hk11_val, zeros16_c] at hne
  have Hne := Lib.hid hne
  clear hne
  go_enter Try.func13, Try.ntmps13
  go_wp2_with (first | (refine wpList_alloc_ints rfl 22 rfl Try.z22 ?_; (try simp only [Act.put, List.setIfInBounds_toArray, List.set_cons_zero, List.set_cons_succ, World.size_alloc, setRow_size, Nat.add_assoc, Nat.reduceAdd])) | (refine wpList_store_ints (k := .u8) (xs := hk11) rfl 22 _ _ rfl w.heap.size rfl HK.out B0 (zeros_size _ _) Try.ar22 rfl ?_; (try simp only [Act.put, List.setIfInBounds_toArray, List.set_cons_zero, List.set_cons_succ, World.size_alloc, setRow_size, Nat.add_assoc, Nat.reduceAdd])))
  generalize (((w.alloc (.cells (ints .u8 (zeros 16)) 22)).setRow w.heap.size (ints .u8 hk11)).alloc (.cells #[.int .u8 7] 5)) = w1 at *
  clear B0
  have henc := enc11_c [] [7] (by decide) (by decide) none (some ⟨w.heap.size + 1, 0, none⟩) 0 1 (fun h => by cases h) w1 (Sl.nil _ _ _) h7
  rw [en11_c] at henc
  refine henc.mono ?_
  rintro e w2 ⟨v, rfl, hown, hb2⟩
  have C1 := B1.below' hb2
  have hbel2 := bCall hbel1 hb2 hbel1.size
  obtain ⟨a, c, rfl, hsl, -, -⟩ := hown.sl
  have hl32 : en11.length = 32 := rfl
  obtain ⟨g, off, rfl, hg, d0⟩ := hsl.at_ (i := 0) (by decide)
  have d16 := hsl.eq (i := 16) (by decide)
  have d17 := hsl.eq (i := 17) (by decide)
  have d31 := hsl.eq (i := 31) (by decide)
  have D1' := C1.alloc (.cells #[.int .u8 1] 5)
  have hbel3 := hbel2.alloc hbel2.size (.cells #[.int .u8 1] 5)
  have h1 := sl1 w2
  have hb3 := (Below.refl w2.heap.size w2).alloc (Nat.le_refl _) (.cells #[.int .u8 1] 5)
  have f0 := (hb3.cell (p := ⟨g, off + 0, none⟩) hg).trans d0
  have f16 := (hb3.cell (p := ⟨g, off + 16, none⟩) hg).trans d16
  have f17 := (hb3.cell (p := ⟨g, off + 17, none⟩) hg).trans d17
  have f31 := (hb3.cell (p := ⟨g, off + 31, none⟩) hg).trans d31
  have hg3 : g < (w2.alloc (.cells #[.int .u8 1] 5)).heap.size := Nat.lt_of_lt_of_le hg hb3.size
  have Hl32 := Lib.hid hl32
  have hk16 : hk11.length = 16 := rfl
  rw [hl32]
  clear hl32 hown hsl d0 d16 d17 d31 henc
  go_wp2_with (refine wpList_load_ints rfl 22 _ rfl w.heap.size rfl C1 Try.ar22 hk16 ?_; (try simp only [Act.put, List.setIfInBounds_toArray, List.set_cons_zero, List.set_cons_succ, World.size_alloc, setRow_size, Nat.add_assoc, Nat.reduceAdd]))
  refine (sum11_c hk11 [1] rfl (by decide) (by decide) (by decide) (some ⟨w2.heap.size, 0, none⟩) 1 _ h1).mono ?_
  rintro e w3 ⟨rfl, hb4⟩
  have g0 := (hb4.cell (p := ⟨g, off + 0, none⟩) hg3).trans f0
  have g16 := (hb4.cell (p := ⟨g, off + 16, none⟩) hg3).trans f16
  have g17 := (hb4.cell (p := ⟨g, off + 17, none⟩) hg3).trans f17
  have g31 := (hb4.cell (p := ⟨g, off + 31, none⟩) hg3).trans f31
  rw [show en11.getD 0 0 = 3 from rfl, Nat.add_zero] at g0
  rw [show en11.getD 16 0 = 7 from rfl] at g16
  rw [show en11.getD 17 0 = 1 from rfl] at g17
  rw [show en11.getD 31 0 = 0 from rfl] at g31
  have hbel4 := bCall hbel3 hb4 hbel3.size
  have hnev : ∀ W : World, (binOp .neq 22 (.agg (ints .u8 (valL hk11 [1]))) (.agg #[.int .u8 0, .int .u8 0, .int .u8 0, .int .u8 0, .int .u8 0, .int .u8 0, .int .u8 0, .int .u8 0, .int .u8 0, .int .u8 0, .int .u8 0, .int .u8 0, .int .u8 0, .int .u8 0, .int .u8 0, .int .u8 0])).run Try.prog W = .ok (.bool true) W := Hne.out
  clear f0 f16 f17 f31 hb3 h1 D1' hbel3 hb4 HK
  generalize valL hk11 [1] = vv at *
  go_wp2
  go_ret
  exact ⟨rfl, hbel4⟩
end Go.Proofs.Ytckobbddjldflaa
