/- What the reference's long division answers: the rest of a number in bytes modulo 2^130 - 5. Bytes are below 256, the slice is no longer than a slice may be. -/
import Derived.Test.YtolfngmpoafaaaaW7r
namespace Go.Proofs.Ytolfngmpoafaaaa
set_option linter.unusedSimpArgs false
set_option linter.unusedVariables false
set_option linter.unusedSectionVars false
set_option linter.unusedVariables false
open Go.RowKit
set_option maxRecDepth 100000 in
set_option maxHeartbeats 4000000 in
theorem divide_c (a : Option Addr) (c : Nat) (bs : List Nat) (hb : ∀ x ∈ bs, x < 256) (hlen : bs.length < 2 ^ 40) (w : World) (hs : Sl w a .u8 bs) :
    Calls Try.prog 67 #[.slice a bs.length c] w fun e w' => e = .returned (.agg (ints .u8 (restOf (le bs % pp)))) ∧ Below w.heap.size w w' := by
  go_enter Try.func67, Try.ntmps67
  have R0 := Blk.new w 91 (ints .u8 (zeros 17))
  have hbel := (Below.refl w.heap.size w).alloc (Nat.le_refl _) (.cells (ints .u8 (zeros 17)) 91)
  go_wp2_with (first | (refine wpList_alloc_ints rfl 91 rfl Try.z91 ?_; (try simp only [Act.put, List.setIfInBounds_toArray, List.set_cons_zero, List.set_cons_succ, World.size_alloc, setRow_size, Nat.add_assoc, Nat.reduceAdd])))
  refine (prime_c _).mono ?_
  rintro e w1 ⟨rfl, hb1⟩
  have R0' := R0.below' hb1
  have hlt0 := R0'.lt
  have P0 := Blk.new w1 91 (ints .u8 (zeros 17))
  have hbel1 := bSetRow ((bCall hbel hb1 (by simp)).alloc (by omega) (.cells (ints .u8 (zeros 17)) 91)) (g := w1.heap.size) (by omega) (ints .u8 (restOf pp))
  go_wp2_with (first | (refine wpList_alloc_ints rfl 91 rfl Try.z91 ?_; (try simp only [Act.put, List.setIfInBounds_toArray, List.set_cons_zero, List.set_cons_succ, World.size_alloc, setRow_size, Nat.add_assoc, Nat.reduceAdd])) | (refine wpList_store_ints rfl 91 _ _ rfl _ rfl rfl P0 (zeros_size _ _) Try.ar91 (restOf_len _) ?_; (try simp only [Act.put, List.setIfInBounds_toArray, List.set_cons_zero, List.set_cons_succ, World.size_alloc, setRow_size, Nat.add_assoc, Nat.reduceAdd])))
  go_loopw [5] (fun t wr => ∃ m : Nat, m ≤ bs.length ∧ t = .int .i64 ((m : Int) - 1) ∧ Blk wr w.heap.size 91 (ints .u8 (zeros 17)) ∧ Blk wr w1.heap.size 91 (ints .u8 (restOf pp)) ∧ Blk wr (w1.heap.size + 1) 91 (ints .u8 (restOf (le bs / 2 ^ (8 * m) % pp))) ∧ Below w.heap.size w wr) (fun t wr => (intOf t + 1).toNat)
  case atStart =>
    refine ⟨bs.length, by omega, rfl, (((R0').alloc _).rowFar (by omega) _).alloc _, (P0.row _).alloc _, ?_, hbel1.alloc (by simp; omega) _⟩
    have e : le bs / 2 ^ (8 * bs.length) % pp = 0 := by
      have h1 := le_lt rfl hb
      rw [Nat.div_eq_of_lt (by rw [Nat.pow_mul]; exact h1), Nat.zero_mod]
    rw [e, show restOf 0 = zeros 17 from dig_zero 256 17]
    exact Blk.new' (by simp)
  case round =>
    rename_i hrel
    obtain ⟨m, hm, rfl, C0, C1, C2, hbelr⟩ := hrel
    rcases m with _ | i
    · have e0 : ((0 : Nat) : Int) - 1 = -1 := rfl
      rw [e0]
      rw [show 8 * 0 = 0 from rfl, Nat.pow_zero, Nat.div_one] at C2
      go_wp2_with (first | (refine wpList_load_ints rfl 91 _ rfl (w1.heap.size + 1) rfl C2 Try.ar91 (restOf_len _) ?_; (try simp only [Act.put, List.setIfInBounds_toArray, List.set_cons_zero, List.set_cons_succ, World.size_alloc, setRow_size, Nat.add_assoc, Nat.reduceAdd])) | (refine wpList_store_ints rfl 91 _ _ rfl _ rfl rfl C0 (zeros_size _ _) Try.ar91 (restOf_len _) ?_; (try simp only [Act.put, List.setIfInBounds_toArray, List.set_cons_zero, List.set_cons_succ, World.size_alloc, setRow_size, Nat.add_assoc, Nat.reduceAdd])))
      refine ret_ints rfl rfl (C0.row _) Try.ar91 (restOf_len _) ⟨rfl, ?_⟩
      exact bSetRow hbelr (by simp) _
    · have e1 : ((i + 1 : Nat) : Int) - 1 = (i : Int) := by omega
      rw [e1]
      clear e1
      have hge : (0 : Int) ≤ i := by omega
      go_wp2
      go_loopw [6] (fun t wr => ∃ k : Nat, k ≤ 8 ∧ t = .int .i64 ((k : Int) - 1) ∧ Blk wr w.heap.size 91 (ints .u8 (zeros 17)) ∧ Blk wr w1.heap.size 91 (ints .u8 (restOf pp)) ∧ Blk wr (w1.heap.size + 1) 91 (ints .u8 (restOf (le bs / 2 ^ (8 * i + k) % pp))) ∧ Below w.heap.size w wr) (fun t wr => (intOf t + 1).toNat)
      case atStart => exact ⟨8, by omega, rfl, C0, C1, by rw [show 8 * i + 8 = 8 * (i + 1) by omega]; exact C2, hbelr⟩
      case round =>
        rename_i hrel
        obtain ⟨k, hk, rfl, D0, D1, D2, hbel2⟩ := hrel
        rcases k with _ | k
        · have e0 : ((0 : Nat) : Int) - 1 = -1 := rfl
          rw [e0]
          go_wp2
          exact ⟨⟨i, by omega, rfl, D0, D1, D2, hbel2⟩, by simp [intOf]⟩
        · have e1 : ((k + 1 : Nat) : Int) - 1 = (k : Int) := by omega
          rw [e1]
          clear e1
          obtain ⟨g, off, rfl, hgl, hcell⟩ := hs.at_ (i := i) (by omega)
          have hc0 := (hbel2.cell (p := ⟨g, off + i, none⟩) hgl).trans hcell
          have hx := getD_bound hb (by omega) i
          have hbit := byte_bit bs hb i k (by omega) (by omega)
          generalize bs.getD i 0 = x at *
          have hE : Hid (((x : Int) / 2 ^ k).tmod 2 = ((x / 2 ^ k % 2 : Nat) : Int)) := by
            have e : (x : Int) / 2 ^ k = ((x / 2 ^ k : Nat) : Int) := by simp
            have e2 : ((x : Int) / 2 ^ k).tmod 2 = ((x / 2 ^ k : Nat) : Int).tmod 2 := by rw [e]
            exact e2.trans (by rw [Int.tmod_eq_emod_of_nonneg (Int.natCast_nonneg _)]; simp)
          have Hbit := Lib.hid hbit
          have Hc0 := Lib.hid hcell
          clear hbit hcell
          go_wp2
          rw [hE.out, ← Hbit.out]
          have hV : le bs / 2 ^ (8 * i + (k + 1)) % pp < pp := Nat.mod_lt _ pp_pos
          have hcb : le bs / 2 ^ (8 * i + k) % 2 ≤ 1 := by omega
          have hnext : le bs / 2 ^ (8 * i + k) % pp = (2 * (le bs / 2 ^ (8 * i + (k + 1)) % pp) + le bs / 2 ^ (8 * i + k) % 2) % pp := by
            rw [← mod_step]
            exact congrArg (· % pp) (bit_step (le bs) (8 * i + k))
          have Hnext := Lib.hid hnext
          clear hnext Hbit hE Hc0 hc0 hx
          generalize le bs / 2 ^ (8 * i + (k + 1)) % pp = V at *
          generalize le bs / 2 ^ (8 * i + k) % 2 = cb at *
          have hvl := restOf_lt V
          have hdr := dblN_rest hV hcb
          go_loopw [7, 8] (fun cy t wr => ∃ j : Nat, j ≤ 17 ∧ t = .int .i64 j ∧ cy = .int .i64 (dblN (restOf V) cb j).1 ∧ Blk wr w.heap.size 91 (ints .u8 (zeros 17)) ∧ Blk wr w1.heap.size 91 (ints .u8 (restOf pp)) ∧ Blk wr (w1.heap.size + 1) 91 (ints .u8 (dblN (restOf V) cb j).2) ∧ Below w.heap.size w wr) (fun cy t wr => 17 - (intOf t).toNat)
          case atStart => exact ⟨0, by omega, rfl, rfl, D0, D1, D2, hbel2⟩
          case round =>
            rename_i hrel
            obtain ⟨j, hj, rfl, rfl, E0, E1, E2, hbel3⟩ := hrel
            obtain ⟨s1, s2, s3, s4, -⟩ := dblN_spec hvl hcb j (by rw [restOf_len]; omega)
            rw [restOf_len] at s1
            by_cases hlt : j < 17
            · have c2 := E2.int (i := j) (by omega)
              rw [s3 j (Nat.le_refl _)] at c2
              have z2 := E2.frozen j
              have vx := getD_bound hvl (by omega) j
              have E2' := E2.intSet j ((2 * (restOf V).getD j 0 + (dblN (restOf V) cb j).1) % 256)
              have HS : Hid (dblN (restOf V) cb (j + 1) = ((2 * (restOf V).getD j 0 + (dblN (restOf V) cb j).1) / 256, (dblN (restOf V) cb j).2.set j ((2 * (restOf V).getD j 0 + (dblN (restOf V) cb j).1) % 256))) := rfl
              have Hdr := Lib.hid hdr
              clear s1 s3 s4 hdr hvl
              generalize (restOf V).getD j 0 = y at *
              generalize (dblN (restOf V) cb j).1 = b at *
              generalize (dblN (restOf V) cb j).2 = s at *
              go_wp2
              refine ⟨⟨j + 1, by omega, by go_num, ?_, E0.far (by simp; omega) _, E1.far (by simp) _, ?_, hbel3.setCell (by simp; omega) _⟩, by simp [intOf] <;> omega⟩
              · rw [HS.out]; simp
              · rw [HS.out]
                simp only [Int.natCast_add, Int.natCast_mul, Int.natCast_emod] at E2'
                exact E2'
            · obtain rfl : j = 17 := by omega
              rw [hdr] at E2
              clear s1 s2 s3 s4 hvl
              go_wp2_with (first | (refine wpList_load_ints rfl 91 _ rfl (w1.heap.size + 1) rfl E2 Try.ar91 (restOf_len _) ?_; (try simp only [Act.put, List.setIfInBounds_toArray, List.set_cons_zero, List.set_cons_succ, World.size_alloc, setRow_size, Nat.add_assoc, Nat.reduceAdd])) | (refine wpList_load_ints rfl 91 _ rfl w1.heap.size rfl E1 Try.ar91 (restOf_len _) ?_; (try simp only [Act.put, List.setIfInBounds_toArray, List.set_cons_zero, List.set_cons_succ, World.size_alloc, setRow_size, Nat.add_assoc, Nat.reduceAdd])))
              refine (less_c _ _ (restOf_len _) (restOf_lt _) (restOf_len _) (restOf_lt _) _).mono ?_
              rintro e w2 ⟨rfl, hb2⟩
              have hl1 : le (restOf (2 * V + cb)) = 2 * V + cb := le_restOf (by unfold pp at hV; omega)
              have hl2 : le (restOf pp) = pp := le_restOf pp_lt17
              rw [hl1, hl2]
              have F0 := E0.below' hb2
              have F1 := E1.below' hb2
              have F2 := E2.below' hb2
              have hl3 := E2.lt
              have hbel4 := bCall hbel3 hb2 (by omega)
              by_cases hlt2 : 2 * V + cb < pp
              · have hd : decide (2 * V + cb < pp) = true := decide_eq_true hlt2
                rw [hd]
                rw [Nat.mod_eq_of_lt hlt2] at Hnext
                clear hd hl1 hl2
                go_wp2
                exact ⟨⟨k, by omega, rfl, F0, F1, by rw [Hnext.out]; exact F2, hbel4⟩, by simp [intOf] <;> omega⟩
              · have hd : decide (2 * V + cb < pp) = false := decide_eq_false hlt2
                rw [hd]
                rw [sub_step hV hcb (by omega)] at Hnext
                have hmin := minus_c (restOf (2 * V + cb)) (restOf pp) (restOf_len _) (restOf_lt _) (restOf_len _) (restOf_lt _) (by rw [hl1, hl2]; omega)
                rw [hl1, hl2] at hmin
                have Hmin := Lib.hid hmin
                clear hd hl1 hl2 hmin
                go_wp2_with (first | (refine wpList_load_ints rfl 91 _ rfl (w1.heap.size + 1) rfl F2 Try.ar91 (restOf_len _) ?_; (try simp only [Act.put, List.setIfInBounds_toArray, List.set_cons_zero, List.set_cons_succ, World.size_alloc, setRow_size, Nat.add_assoc, Nat.reduceAdd])) | (refine wpList_load_ints rfl 91 _ rfl w1.heap.size rfl F1 Try.ar91 (restOf_len _) ?_; (try simp only [Act.put, List.setIfInBounds_toArray, List.set_cons_zero, List.set_cons_succ, World.size_alloc, setRow_size, Nat.add_assoc, Nat.reduceAdd])))
                refine (Hmin.out _).mono ?_
                rintro e w3 ⟨rfl, hb3⟩
                have G0 := F0.below' hb3
                have G1 := F1.below' hb3
                have G2 := F2.below' hb3
                have hl4 := F2.lt
                have hbel5 := bCall hbel4 hb3 (by omega)
                go_wp2_with (first | (refine wpList_store_ints rfl 91 _ _ rfl _ rfl rfl G2 (by rw [ints_size, restOf_len]) Try.ar91 (restOf_len _) ?_; (try simp only [Act.put, List.setIfInBounds_toArray, List.set_cons_zero, List.set_cons_succ, World.size_alloc, setRow_size, Nat.add_assoc, Nat.reduceAdd])))
                exact ⟨⟨k, by omega, rfl, G0.rowFar (by omega) _, G1.rowFar (by omega) _, by rw [Hnext.out]; exact G2.row _, bSetRow hbel5 (by omega) _⟩, by simp [intOf] <;> omega⟩

end Go.Proofs.Ytolfngmpoafaaaa
