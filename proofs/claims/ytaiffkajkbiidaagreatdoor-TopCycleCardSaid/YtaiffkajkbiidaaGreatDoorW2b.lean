/- AES's boxes: box, put, To, Make. No condition but that bytes are below 256. -/
import Derived.Test.YtaiffkajkbiidaaGreatDoorW2a
import Derived.StillTailTactics
import Derived.BigRegion
namespace Go.Proofs.YtaiffkajkbiidaaGreatDoor
set_option linter.unusedSimpArgs false
set_option linter.unusedVariables false
set_option linter.unusedSectionVars false
set_option linter.unusedVariables false
open Go.RowKit
def boxK (i : Nat) : Nat → Nat
  | 0 => 99
  | k + 1 => boxK i k ^^^ rotN i k
def boxN (i : Nat) : Nat := boxK i 5
theorem boxK_lt {i : Nat} (hi : i < 256) : ∀ k, k ≤ 5 → boxK i k < 256
  | 0, _ => (by decide : 99 < 256)
  | k + 1, h => Nat.xor_lt_two_pow (n := 8) (boxK_lt hi k (by omega)) (rotN_lt hi (by omega))
theorem boxN_lt {i : Nat} (hi : i < 256) : boxN i < 256 := boxK_lt hi 5 (Nat.le_refl _)
set_option maxHeartbeats 4000000 in
theorem gfBox_c (i : Nat) (hi : i < 256) (w : World) : Calls Tryz.prog 27 #[.int .u8 (i : Int)] w fun e w' => e = .returned (.int .u8 (boxN i : Nat)) ∧ w = w' := by
  go_enter Tryz.func27, Tryz.ntmps27
  go_wp2_with fail
  go_loop [3, 5] (fun s t => ∃ k : Nat, k ≤ 5 ∧ t = .int .i64 (k : Int) ∧ s = .int .u8 ((boxK i k : Nat) : Int)) (fun s t => 5 - (intOf t).toNat)
  case atStart => exact ⟨0, by omega, rfl, rfl⟩
  case round =>
    obtain ⟨k, hk, rfl, rfl⟩ := hrel
    by_cases hlt : k < 5
    · have hd : decide ((k : Int) < 5) = true := by simp; omega
      have HX := Lib.hid (u8_xor_nat (boxK i k) (rotN i k) (boxK_lt hi k hk) (rotN_lt hi hlt))
      go_wp2_with fail
      refine (rot8_c i k hi hlt _).mono ?_
      rintro e w1 ⟨rfl, rfl⟩
      go_wp2_with fail
      rw [HX.out]
      exact ⟨⟨k + 1, by omega, by go_num, rfl⟩, by simp [intOf] <;> omega⟩
    · obtain rfl : k = 5 := by omega
      go_wp2_with fail
      go_ret
      exact ⟨rfl, rfl⟩
set_option maxHeartbeats 8000000 in
set_option maxRecDepth 100000 in
theorem gfPut_c (g a b : Nat) (L : List Nat) (ha : a < 256) (hb : b < 256) (hL : L.length = 512) (w : World) (B0 : Blk w g 69 (ints .u8 L)) :
    Calls Tryz.prog 26 #[.pointer (some ⟨g, 0, none⟩), .int .u8 (a : Int), .int .u8 (b : Int)] w fun e w' => e = .returned (.tuple #[]) ∧ Blk w' g 69 (ints .u8 ((L.set a b).set (256 + b) a)) ∧ Ch g w w' := by
  have hai : (a : Int) < 256 := by omega
  have hbi : (b : Int) < 256 := by omega
  have c0 := B0.int (i := a) (by omega)
  have c1 := B0.int (i := 256 + b) (by omega)
  have z0 := B0.frozen a
  have z1 := B0.frozen (256 + b)
  have hne : ¬ a = 256 + b := by omega
  have hne' : ¬ 256 + b = a := by omega
  go_enter Tryz.func26, Tryz.ntmps26
  go_wp2_with fail
  go_region
  have B2 := ((B0.intSet a b).intSet (256 + b) a).drew
  go_end0
  exact ⟨rfl, B2, ((Ch.of_far (Far.set w g a _)).trans (Ch.of_far (Far.set _ g (256 + b) _))).drew⟩
set_option maxHeartbeats 4000000 in
theorem gfTo_c (g a : Nat) (L : List Nat) (ha : a < 256) (hL : L.length = 512) (w : World) (B0 : Blk w g 69 (ints .u8 L)) :
    Calls Tryz.prog 21 #[.pointer (some ⟨g, 0, none⟩), .int .u8 (a : Int)] w fun e w' => e = .returned (.int .u8 (L.getD a 0 : Nat)) ∧ w = w' := by
  have hai : (a : Int) < 256 := by omega
  have c0 := B0.int (i := a) (by omega)
  generalize L.getD a 0 = v at *
  go_enter Tryz.func21, Tryz.ntmps21
  go_wp2
  go_ret
  exact ⟨rfl, rfl⟩
/-- The powers of the root; the boxes so far. -/
def pwN : Nat → Nat
  | 0 => 1
  | i + 1 => pwN i ^^^ gfD (pwN i)
theorem pwN_lt : ∀ i, pwN i < 256
  | 0 => (by decide : 1 < 256)
  | i + 1 => Nat.xor_lt_two_pow (n := 8) (pwN_lt i) (gfD_lt _ (pwN_lt i))
def powL (i : Nat) : List Nat := (List.range i).map pwN ++ zeros (255 - i)
theorem powL_len {i : Nat} (h : i ≤ 255) : (powL i).length = 255 := by unfold powL; rw [List.length_append, List.length_map, List.length_range, zeros_len]; omega
theorem powL_set {i : Nat} (h : i < 255) : (powL i).set i (pwN i) = powL (i + 1) := by
  unfold powL
  rw [List.set_append_right _ _ (by simp), List.length_map, List.length_range, Nat.sub_self, List.range_succ, List.map_append, List.append_assoc]
  congr 1
  rw [show 255 - i = (255 - (i + 1)) + 1 by omega]
  rfl
theorem powL_get {i : Nat} (h : i < 255) : (powL 255).getD i 0 = pwN i := by
  unfold powL
  rw [List.getD_eq_getElem?_getD, List.getElem?_append_left (by simp; exact h), List.getElem?_map, List.getElem?_range h]; rfl
def bxS : Nat → List Nat
  | 0 => ((zeros 512).set 0 (boxN 0)).set (256 + boxN 0) 0
  | i + 1 => ((bxS i).set (pwN i) (boxN (pwN ((255 - i) % 255)))).set (256 + boxN (pwN ((255 - i) % 255))) (pwN i)
theorem bxS_len : ∀ i, (bxS i).length = 512
  | 0 => by unfold bxS; rw [List.length_set, List.length_set, zeros_len]
  | i + 1 => by unfold bxS; rw [List.length_set, List.length_set, bxS_len i]
theorem set_lt {L : List Nat} {i v : Nat} (h : ∀ x ∈ L, x < 256) (hv : v < 256) : ∀ x ∈ L.set i v, x < 256 := fun x hx => (List.mem_or_eq_of_mem_set hx).elim (h x) fun e => by rw [e]; exact hv
theorem bxS_lt : ∀ i, ∀ x ∈ bxS i, x < 256
  | 0 => by
    unfold bxS
    exact set_lt (set_lt (fun x hx => by unfold zeros at hx; rw [List.mem_replicate] at hx; omega) (boxN_lt (by decide))) (by decide)
  | i + 1 => by
    unfold bxS
    exact set_lt (set_lt (bxS_lt i) (boxN_lt (pwN_lt _))) (pwN_lt _)
theorem Tryz.z66 : IsZero Tryz.prog 66 255 .u8 := isZero (by kernel_rfl)
theorem bldBoxes (W : World) : (Instr.build 69 #[]).run Tryz.prog W = .ok (.agg (ints .u8 (zeros 512))) W := by kernel_rfl
set_option maxHeartbeats 8000000 in
set_option maxRecDepth 100000 in
theorem gfMake_c (w : World) : Calls Tryz.prog 20 #[] w fun e w' => ∃ g, e = .returned (.pointer (some ⟨g, 0, none⟩)) ∧ w.heap.size ≤ g ∧ Blk w' g 69 (ints .u8 (bxS 255)) ∧ Below w.heap.size w w' := by
  have P0 := Blk.new w 66 (ints .u8 (zeros 255))
  have hbel0 := (Below.refl w.heap.size w).alloc (Nat.le_refl _) (.cells (ints .u8 (zeros 255)) 66)
  go_enter Tryz.func20, Tryz.ntmps20
  go_wp2_with (refine wpList_alloc_ints rfl 66 rfl Tryz.z66 ?_; (try simp only [Act.put, List.setIfInBounds_toArray, List.set_cons_zero, List.set_cons_succ, World.size_alloc, setRow_size, Nat.add_assoc, Nat.reduceAdd]))
  go_loopw [2, 6] (fun s t wr => ∃ i : Nat, i ≤ 255 ∧ t = .int .i64 (i : Int) ∧ s = .int .u8 ((pwN i : Nat) : Int) ∧ Blk wr w.heap.size 66 (ints .u8 (powL i)) ∧ Below w.heap.size w wr) (fun s t wr => 255 - (intOf t).toNat)
  case atStart => exact ⟨0, by omega, rfl, rfl, P0, hbel0⟩
  case round =>
    obtain ⟨i, hi, rfl, rfl, P1, hbel⟩ := hrel
    by_cases hlt : i < 255
    · have hd : decide ((i : Int) < 255) = true := by simp; omega
      have c0 := P1.int (i := i) (by rw [powL_len hi]; exact hlt)
      have z0 := P1.frozen i
      have P2 := P1.intSet i (pwN i)
      rw [powL_set hlt] at P2
      have hbel2 := hbel.setCell (p := ⟨w.heap.size, i, none⟩) (Nat.le_refl _) (.int .u8 (pwN i : Nat))
      have HX := Lib.hid (u8_xor_nat (pwN i) (gfD (pwN i)) (pwN_lt i) (gfD_lt _ (pwN_lt i)))
      have hdb := gfDouble_c (pwN i) (pwN_lt i)
      clear P1 hbel
      go_wp2_with fail
      refine (hdb _).mono ?_
      clear hdb
      rintro e w1 ⟨rfl, rfl⟩
      go_wp2_with fail
      rw [HX.out]
      exact ⟨⟨i + 1, by omega, by go_num, rfl, P2, hbel2⟩, by simp [intOf] <;> omega⟩
    · obtain rfl : i = 255 := by omega
      have hbd := bldBoxes
      have G1 := Blk.new wr 69 (ints .u8 (zeros 512))
      have hb1 := (Below.refl wr.heap.size wr).alloc (Nat.le_refl _) (.cells (ints .u8 (zeros 512)) 69)
      have P2 := P1.below' hb1
      have hbel2 := bCall hbel hb1 hbel.size
      have hg := hbel.size
      have hgs : w.heap.size < wr.heap.size := P1.lt
      go_wp2_with fail
      refine (gfBox_c 0 (by decide) _).mono ?_
      rintro e w1 ⟨rfl, rfl⟩
      go_wp2_with fail
      refine (gfPut_c wr.heap.size 0 (boxN 0) (zeros 512) (by decide) (boxN_lt (by decide)) (zeros_len _) _ G1).mono ?_
      rintro e w2 ⟨rfl, G2, hch⟩
      have P3 := hch.blk P2 (by have := P1.lt; omega)
      have hbel3 := hch.below hbel2 hg hbel2.size
      clear G1 hb1 P2 hbel2 P1 hbel hbd hch
      go_wp2_with fail
      generalize wr.heap.size = gb at *
      go_loopw [22] (fun t wr' => ∃ i : Nat, i ≤ 255 ∧ t = .int .i64 (i : Int) ∧ Blk wr' w.heap.size 66 (ints .u8 (powL 255)) ∧ Blk wr' gb 69 (ints .u8 (bxS i)) ∧ Below w.heap.size w wr') (fun t wr' => 255 - (intOf t).toNat)
      case atStart => exact ⟨0, by omega, rfl, P3, G2, hbel3⟩
      case round =>
        clear P3 G2 hbel3
        obtain ⟨i, hi, rfl, P3, G2, hbel3⟩ := hrel
        by_cases hlt : i < 255
        · have hd : decide ((i : Int) < 255) = true := by simp; omega
          obtain ⟨j, Hj⟩ : ∃ j, Hid ((255 - i) % 255 = j) := ⟨_, Lib.hid rfl⟩
          have hj : j < 255 := by rw [← Hj.out]; omega
          have hrt : (IntKind.i64.wrap ((255 : Int) - (i : Int))).tmod 255 = (j : Int) := by
            rw [IntWalk.i64_in _ (by omega), Int.tmod_eq_emod_of_nonneg (by omega), ← Hj.out]; omega
          have c0 := (P3.drew).int (i := i) (by rw [powL_len (Nat.le_refl _)]; exact hlt)
          have c1 := (P3.drew).int (i := j) (by rw [powL_len (Nat.le_refl _)]; exact hj)
          rw [powL_get hlt] at c0
          rw [powL_get hj] at c1
          have hi1 : (i : Int) < 255 := by omega
          have hj1 : (j : Int) < 255 := by omega
          go_wp2_with fail
          refine wp_region_still_tail 10 (by kernel_rfl) (by kernel_rfl) ?_
          simp only [List.take_succ_cons, List.take_zero, List.drop_succ_cons, List.drop_zero]
          still_step
          still_step
          still_step
          still_step
          still_step
          still_step
          still_step
          still_step
          still_step
          still_call (gfBox_c (pwN j) (pwN_lt j) _).mono fun e w' h => ⟨h.1, h.2.symm⟩
          refine wpStill_nil ?_
          have hjl := boxN_lt (pwN_lt j)
          have G3 := G2.drew
          have P4 := P3.drew
          have hbel4 := hbel3.drew
          have hgl := P3.lt
          have HJ2 := Lib.hid (show bxS (i + 1) = ((bxS i).set (pwN i) (boxN (pwN j))).set (256 + boxN (pwN j)) (pwN i) by rw [← Hj.out]; rfl)
          change wpList _ _ _ _ _ wr.drew
          clear P3 G2 hbel3 c0 c1 hrt hi1 hj1
          generalize wr.drew = w5 at *
          go_wp2_with fail
          refine (gfPut_c gb (pwN i) (boxN (pwN j)) (bxS i) (pwN_lt i) hjl (bxS_len i) _ G3).mono ?_
          rintro e w6 ⟨rfl, G4, hch⟩
          have P5 := hch.blk P4 (by omega)
          have hbel5 := hch.below hbel4 hg hbel4.size
          rw [← HJ2.out] at G4
          clear P4 G3 hbel4 hch
          go_wp2_with fail
          exact ⟨⟨i + 1, by omega, by go_num, P5, G4, hbel5⟩, by simp [intOf] <;> omega⟩
        · obtain rfl : i = 255 := by omega
          go_wp2
          go_ret
          exact ⟨gb, rfl, hg, G2, hbel3⟩
end Go.Proofs.YtaiffkajkbiidaaGreatDoor
