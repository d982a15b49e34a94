/- ring.Multiple and what it calls. No condition but that bytes are below 256. -/
import Derived.Test.YtehhipanbjhffaaG10d
import Derived.StillTailTactics
namespace Go.Proofs.Ytehhipanbjhffaa
set_option linter.unusedSimpArgs false
set_option linter.unusedVariables false
set_option linter.unusedSectionVars false
set_option linter.unusedVariables false
open Go.RowKit
open Gf (up upN mulS mul)
def sumL (b : Bool) (xs ys : List Nat) : List Nat := if b then xorL xs ys else xs
theorem sumL_len {b : Bool} {xs ys : List Nat} (hl : xs.length = 16) : (sumL b xs ys).length = 16 := by
  cases b
  · exact hl
  · exact xorL_len xs ys
theorem sumL_lt {b : Bool} {xs ys : List Nat} (hx : ∀ x ∈ xs, x < 256) (hy : ∀ x ∈ ys, x < 256) : ∀ x ∈ sumL b xs ys, x < 256 := by
  cases b
  · exact hx
  · exact xorL_lt hx hy
set_option maxRecDepth 100000 in
set_option maxHeartbeats 4000000 in
theorem xorS_c (p q : Nat) (xs ys : List Nat) (hl : xs.length = 16) (hb : ∀ x ∈ xs, x < 256) (hl' : ys.length = 16) (hb' : ∀ x ∈ ys, x < 256) (w : World) (A0 : Blk w p 22 (ints .u8 xs)) (A1 : Blk w q 22 (ints .u8 ys)) :
    Calls Try.prog 43 #[.slice (some ⟨p, 0, none⟩) 16 16, .slice (some ⟨q, 0, none⟩) 16 16] w fun e w' => e = .returned (.slice (some ⟨w.heap.size, 0, none⟩) 16 16) ∧ Below w.heap.size w w' ∧ Blk w' w.heap.size 5 (ints .u8 (xorL xs ys)) := by
  have hmk : ∀ W : World, (Instr.makeSlice 40 (.int .i64 16) (.int .i64 16)).run Try.prog W = .ok (.slice (some ⟨W.heap.size, 0, none⟩) 16 16) (W.alloc (.cells (ints .u8 (zeros 16)) 5)) := fun _ => by kernel_rfl
  have hxl := xorL_len xs ys
  have hp := A0.lt
  have hq := A1.lt
  go_enter Try.func43, Try.ntmps43
  go_wp2
  go_loopw [15] (fun t wr => ∃ k : Nat, k ≤ 16 ∧ t = .int .i64 k ∧ Blk wr p 22 (ints .u8 xs) ∧ Blk wr q 22 (ints .u8 ys) ∧ Blk wr w.heap.size 5 (ints .u8 ((xorL xs ys).take k ++ zeros (16 - k))) ∧ Below w.heap.size w wr) (fun t wr => 16 - (intOf t).toNat)
  case atStart => exact ⟨0, by omega, rfl, A0.alloc _, A1.alloc _, Blk.new _ _ _, (Below.refl _ _).alloc (Nat.le_refl _) _⟩
  case round =>
    rename_i hrel
    obtain ⟨k, hk, rfl, C0, C1, C2, hbelr⟩ := hrel
    by_cases hlt : k < 16
    · have hll : ((xorL xs ys).take k ++ zeros (16 - k)).length = 16 := by simp [zeros, hxl]; omega
      have c0 := C0.int (i := k) (by omega)
      have c1 := C1.int (i := k) (by omega)
      have c2 := C2.int (i := k) (by omega)
      have z2 := C2.frozen k
      have vx := getD_bound hb (by omega) k
      have vy := getD_bound hb' (by omega) k
      have hv := xorL_getD xs ys hlt
      have C2' := C2.intSet k (xs.getD k 0 ^^^ ys.getD k 0)
      rw [take_set hxl hlt hv] at C2'
      have HC := Lib.hid C2'
      have HX := Lib.hid (u8xor vx vy)
      clear C2' hll hv
      generalize xs.getD k 0 = x at *
      generalize ys.getD k 0 = y at *
      go_wp2
      go_region
      all_goals
        rw [HX.out]
        go_wp2
        exact ⟨⟨k + 1, by omega, by go_num, (C0.far (by first | omega | (simp; done) | (simp; omega)) _).drew, (C1.far (by first | omega | (simp; done) | (simp; omega)) _).drew, HC.out.drew, (hbelr.setCell (by first | omega | (simp; done) | (simp; omega)) _).drew⟩, by simp [intOf] <;> omega⟩
    · obtain rfl : k = 16 := by omega
      have he : (xorL xs ys).take 16 ++ zeros (16 - 16) = xorL xs ys := by rw [List.take_of_length_le (by omega)]; simp [zeros]
      rw [he] at C2
      go_wp2
      go_ret
      exact ⟨rfl, hbelr, C2⟩
set_option maxRecDepth 100000 in
set_option maxHeartbeats 4000000 in
theorem sum_c (xs ys : List Nat) (b : Bool) (hl : xs.length = 16) (hb : ∀ x ∈ xs, x < 256) (hl' : ys.length = 16) (hb' : ∀ x ∈ ys, x < 256) (w : World) :
    Calls Try.prog 35 #[.agg (ints .u8 xs), .agg (ints .u8 ys), .bool b] w fun e w' => e = .returned (.agg (ints .u8 (sumL b xs ys))) ∧ Below w.heap.size w w' := by
  have B0 := ((Blk.new w 22 (ints .u8 xs)).alloc (.cells (ints .u8 ys) 22)).alloc (.cells (ints .u8 (zeros 16)) 22)
  have B1 := (Blk.new (w.alloc (.cells (ints .u8 xs) 22)) 22 (ints .u8 ys)).alloc (.cells (ints .u8 (zeros 16)) 22)
  have B2 := Blk.new ((w.alloc (.cells (ints .u8 xs) 22)).alloc (.cells (ints .u8 ys) 22)) 22 (ints .u8 (zeros 16))
  rw [World.size_alloc] at B1
  rw [World.size_alloc, World.size_alloc] at B2
  simp only [Nat.add_assoc, Nat.reduceAdd] at B2
  have hbel := (((Below.refl w.heap.size w).alloc (Nat.le_refl _) (.cells (ints .u8 xs) 22)).alloc (by simp) (.cells (ints .u8 ys) 22)).alloc (by simp; omega) (.cells (ints .u8 (zeros 16)) 22)
  have hxl := xorL_len xs ys
  cases b
  · have hbel2 := bSetRow hbel (show w.heap.size ≤ w.heap.size + 2 by omega) (ints .u8 xs)
    go_enter Try.func35, Try.ntmps35
    go_wp2_with (first | (refine wpList_alloc_ints rfl 22 rfl Try.z22 ?_; (try simp only [Act.put, List.setIfInBounds_toArray, List.set_cons_zero, List.set_cons_succ, World.size_alloc, setRow_size, Nat.add_assoc, Nat.reduceAdd])) | (refine wpList_load_ints rfl 22 _ rfl w.heap.size rfl B0 Try.ar22 hl ?_; (try simp only [Act.put, List.setIfInBounds_toArray, List.set_cons_zero, List.set_cons_succ, World.size_alloc, setRow_size, Nat.add_assoc, Nat.reduceAdd])) | (refine wpList_store_ints rfl 22 _ _ rfl (w.heap.size + 2) rfl rfl B2 (zeros_size _ _) Try.ar22 hl ?_; (try simp only [Act.put, List.setIfInBounds_toArray, List.set_cons_zero, List.set_cons_succ, World.size_alloc, setRow_size, Nat.add_assoc, Nat.reduceAdd])))
    exact ret_ints rfl rfl (B2.row _) Try.ar22 hl ⟨rfl, hbel2⟩
  · go_enter Try.func35, Try.ntmps35
    go_wp2_with (refine wpList_alloc_ints rfl 22 rfl Try.z22 ?_; (try simp only [Act.put, List.setIfInBounds_toArray, List.set_cons_zero, List.set_cons_succ, World.size_alloc, setRow_size, Nat.add_assoc, Nat.reduceAdd]))
    generalize (((w.alloc (.cells (ints .u8 xs) 22)).alloc (.cells (ints .u8 ys) 22)).alloc (.cells (ints .u8 (zeros 16)) 22)) = w1 at *
    go_still_tail 2, (by kernel_rfl)
    change wpList _ _ _ _ _ w1.drew
    replace B0 := B0.drew
    replace B1 := B1.drew
    replace B2 := B2.drew
    replace hbel := hbel.drew
    generalize w1.drew = w2 at *
    go_wp2_with (fail)
    refine (xorS_c _ _ xs ys hl hb hl' hb' _ B0 B1).mono ?_
    rintro e w3 ⟨rfl, hb3, D3⟩
    have D2 := B2.below' hb3
    have hbel3 := bCall hbel hb3 hbel.size
    have hs := Sl.blk D3
    go_wp2_with (fail)
    have hbk := block_c (some ⟨w2.heap.size, 0, none⟩) 16 (xorL xs ys) _ hs
    rw [hxl] at hbk
    refine hbk.mono ?_
    rintro e w4 ⟨rfl, hb4⟩
    have E2 := D2.below' hb4
    have hbel4 := bCall hbel3 hb4 hbel3.size
    have hbn : blockN (xorL xs ys) = xorL xs ys := by
      refine list_ext16 (blockN_len _) hxl fun i hi => ?_
      unfold blockN
      rw [List.getD_eq_getElem?_getD, List.getElem?_map, List.getElem?_range hi]; rfl
    rw [hbn]
    go_wp2_with (refine wpList_store_ints rfl 22 _ _ rfl (w.heap.size + 2) rfl rfl E2 (zeros_size _ _) Try.ar22 hxl ?_; (try simp only [Act.put, List.setIfInBounds_toArray, List.set_cons_zero, List.set_cons_succ, World.size_alloc, setRow_size, Nat.add_assoc, Nat.reduceAdd]))
    exact ret_ints rfl rfl (E2.row _) Try.ar22 hxl ⟨rfl, bSetRow hbel4 (by omega) _⟩
end Go.Proofs.Ytehhipanbjhffaa
