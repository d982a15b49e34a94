/- What prime's functions answer: carrying, the loose parts, putting in form. No condition but that parts handed to carrying are below 2^60. -/
import Derived.Test.YtolfngmpoafaaaaRows
import Derived.Test.YtolfngmpoafaaaaKA
import Derived.Test.YtolfngmpoafaaaaOA
import Derived.Test.YtolfngmpoafaaaaP7
namespace Go.Proofs.Ytolfngmpoafaaaa
set_option linter.unusedSimpArgs false
set_option linter.unusedVariables false
set_option linter.unusedSectionVars false
set_option linter.unusedVariables false
open Go.RowKit

theorem and26 (a : Nat) (h : a < 2^64) : bits BinOp.and IntKind.u64 (a : Int) 67108863 = ((a % 67108864 : Nat) : Int) := by
  rw [← Nat.and_two_pow_sub_one_eq_mod a 26]
  exact u64_and_nat a 67108863 (by omega) (by omega)

set_option maxHeartbeats 400000 in
theorem carried_c (xs : List Nat) (hl : xs.length = 5) (hb : ∀ x ∈ xs, x < 2^60) (w : World) :
    Calls Try.prog 72 #[.agg (ints .u64 xs)] w fun e w' => e = .returned (.agg (ints .u64 (carriedL xs))) ∧ Below w.heap.size w w' := by
  go_enter Try.func72, Try.ntmps72
  go_wp2
  go_loopw [3, 5] (fun c t wr => ∃ k : Nat, k ≤ 5 ∧ t = .int .i64 k ∧ c = .int .u64 (carryN xs k).1 ∧ Blk wr w.heap.size 101 (ints .u64 (carryN xs k).2) ∧ Blk wr (w.heap.size+1) 101 (ints .u64 [0,0,0,0,0]) ∧ Below w.heap.size w wr) (fun c t wr => 5 - (intOf t).toNat)
  case atStart =>
    exact ⟨0, by omega, rfl, rfl, heap_alloc2_old _ _ _, heap_alloc2_new _ _ _, ((Below.refl _ _).alloc (Nat.le_refl _) _).alloc (by simp) _⟩
  case round =>
    rename_i hrel
    obtain ⟨k, hk, rfl, rfl, B1, B2, hbel⟩ := hrel
    have hcl := carryN_len xs k
    obtain ⟨hc, hx⟩ := carryN_bound xs (2^60) (by omega) (by omega) hb k
    by_cases hlt : k < 5
    · have hS : carryN xs (k+1) = cstep (carryN xs k) k := rfl
      unfold cstep at hS
      generalize hcs : carryN xs k = cs at *
      obtain ⟨c, ys⟩ := cs
      dsimp only at *
      have hv := getD_bound hx (by omega) k
      have hcell := B1.int (i := k) (by omega)
      generalize hvv : ys.getD k 0 = v at *
      have hfz := B1.frozen k
      have hand := and26 (v+c) (by omega)
      have HS := Lib.hid hS
      clear hS hvv hcs hx hcl
      go_wp2
      go_roundw
      case rel =>
        refine ⟨k+1, by omega, by go_num, ?_, ?_, ?_, ?_⟩
        · rw [HS.out]; simp
        · rw [HS.out]
          simp only [Int.natCast_add] at hand
          rw [hand]
          have := (B1.set_ k (.int .u64 ((v : Int) + c))).set_ k (.int .u64 (((v + c) % 67108864 : Nat) : Int))
          rwa [Array.setIfInBounds_setIfInBounds, ints_set] at this
        · exact (B2.far (by simp) _).far (by simp) _
        · exact (hbel.setCell (Nat.le_refl _) _).setCell (Nat.le_refl _) _
      case measure => simp [intOf]; omega
    · obtain rfl : k = 5 := by omega
      have hfin : carriedL xs = (carryN xs 5).2.set 0 ((carryN xs 5).2.getD 0 0 + 5 * (carryN xs 5).1) := rfl
      generalize hcs : carryN xs 5 = cs at *
      obtain ⟨c, ys⟩ := cs
      dsimp only at *
      have hv := getD_bound hx (by omega) 0
      have hcell := B1.int (i := 0) (by omega)
      generalize hvv : ys.getD 0 0 = v at *
      have hfz := B1.frozen 0
      have B1' := B1.intSet 0 (v + 5 * c)
      have B2' := B2.far (p := ⟨w.heap.size, 0, none⟩) (by simp) (.int .u64 ((v + 5 * c : Nat) : Int))
      have Hfin := Lib.hid hfin
      have hy : (ys.set 0 (v + 5 * c)).length = 5 := by simp [hcl, hl]
      clear hvv hcs hx hfin
      have E5 : Hid (((v : Int) + 5 * c) = ((v + 5 * c : Nat) : Int)) := Lib.hid (by simp)
      go_wp2_with (first | (rw [E5.out]; refine wpList_load_row rfl 101 _ rfl _ rfl _ _ _ _ B1' Try.underlying101 rfl (by rw [ints_size, hy]; kernel_rfl) ?_) | (refine wpList_store_row rfl 101 _ _ rfl _ _ rfl rfl _ _ B2' (by rw [ints_size, hy]; kernel_rfl) (by rw [ints_size, ints_size, hy]; rfl) (ints_one _ _) ?_))
      refine bodyPost_ret (results_cell_row rfl _ _ _ _ _ _ _ rfl (B2'.row _) Try.underlying101 rfl (by rw [ints_size, hy]; kernel_rfl)) rfl ⟨by rw [Hfin.out], ?_⟩
      exact bSetRow (hbel.setCell (Nat.le_refl _) _) (by simp) _


set_option maxHeartbeats 400000 in
theorem loose_c (xs : List Nat) (hl : xs.length = 5) (hb : ∀ x ∈ xs, x < 2^32) (w : World) :
    Calls Try.prog 71 #[.agg (ints .u32 xs)] w fun e w' => e = .returned (.agg (ints .u64 xs)) ∧ Below w.heap.size w w' := by
  go_enter Try.func71, Try.ntmps71
  go_wp2
  go_loopw [5] (fun t wr => ∃ k : Nat, k ≤ 5 ∧ t = .int .i64 k ∧ Blk wr w.heap.size 83 (ints .u32 xs) ∧ Blk wr (w.heap.size+1) 101 (ints .u64 [0,0,0,0,0]) ∧ Blk wr (w.heap.size+2) 101 (ints .u64 (xs.take k ++ List.replicate (5-k) 0)) ∧ Below w.heap.size w wr) (fun t wr => 5 - (intOf t).toNat)
  case atStart =>
    exact ⟨0, by omega, rfl, ((Blk.new _ _ _).alloc _).alloc _, (Blk.new' (by simp)).alloc _, Blk.new' (by simp), (((Below.refl _ _).alloc (Nat.le_refl _) _).alloc (by simp) _).alloc (by simp; omega) _⟩
  case round =>
    rename_i hrel
    obtain ⟨k, hk, rfl, B1, B2, B3, hbel⟩ := hrel
    by_cases hlt : k < 5
    · have hcell := B1.int (i := k) (by omega)
      have hv := getD_bound hb (by omega) k
      generalize hvv : xs.getD k 0 = v at *
      have hcell3 := B3.int (i := k) (by simp; omega)
      have hfz := B3.frozen k
      have B3' := B3.intSet k v
      have he : (xs.take k ++ List.replicate (5-k) 0).set k v = xs.take (k+1) ++ List.replicate (5-(k+1)) 0 := by
        have e1 : 5 - k = (5 - (k+1)) + 1 := by omega
        rw [List.set_append_right _ _ (by simp; omega), List.length_take, Nat.min_eq_left (by omega), Nat.sub_self, e1, List.replicate_succ, List.set_cons_zero, List.take_add_one, getD_lt (by omega), hvv]
        simp
      have He := Lib.hid he
      clear hvv he
      go_wp2
      go_roundw
      case rel =>
        refine ⟨k+1, by omega, by go_num, B1.far (by simp; omega) _, B2.far (by simp) _, ?_, hbel.setCell (by simp <;> omega) _⟩
        rw [← He.out]; exact B3'
      case measure => simp [intOf]; omega
    · obtain rfl : k = 5 := by omega
      have he : xs.take 5 ++ List.replicate (5-5) 0 = xs := by simp [← hl]
      rw [he] at B3
      clear he
      go_wp2_with (first | (refine wpList_load_row rfl 101 _ rfl _ rfl _ _ _ _ B3 Try.underlying101 rfl (by rw [ints_size, hl]; kernel_rfl) ?_) | (refine wpList_store_row rfl 101 _ _ rfl _ _ rfl rfl _ _ B2 (by rw [ints_size, hl]; kernel_rfl) (by rw [ints_size, ints_size, hl]; rfl) (ints_one _ _) ?_))
      refine bodyPost_ret (results_cell_row rfl _ _ _ _ _ _ _ rfl (B2.row _) Try.underlying101 rfl (by rw [ints_size, hl]; kernel_rfl)) rfl ⟨rfl, ?_⟩
      exact bSetRow hbel (by simp) _
set_option maxRecDepth 100000 in
set_option maxHeartbeats 2000000 in
theorem tidy_c (xs : List Nat) (hl : xs.length = 5) (hb : ∀ x ∈ xs, x < 2^60) (w : World) :
    Calls Try.prog 60 #[.agg (ints .u64 xs)] w fun e w' => e = .returned (.agg (ints .u32 (numOf (val xs)))) ∧ Below w.heap.size w w' := by
  go_enter Try.func60, Try.ntmps60
  go_wp2_with (refine wpList_alloc_ints rfl 83 rfl Try.z83 ?_; (try simp only [Act.put, List.setIfInBounds_toArray, List.set_cons_zero, List.set_cons_succ, World.size_alloc, setRow_size, Nat.add_assoc, Nat.reduceAdd]))
  refine wp_scope_top 0 (fun a w' => ∃ u3 u4 u5 u6 u7 u8 u9 u10 u11 u12 u13 u14 u15 u16 u17 u18 u19 u20 u21 u22 u23 u24 u25 u26 u27 u28 u29 u30 u31 u32 u33 u34 u35 u36 : Value, ∃ ys : List Nat, a = { tmps := #[.agg (ints .u64 xs), .pointer (some ⟨w.heap.size, 0, none⟩), .pointer (some ⟨w.heap.size + 1, 0, none⟩), u3, u4, u5, u6, u7, u8, u9, u10, u11, u12, u13, u14, u15, u16, u17, u18, u19, u20, u21, u22, u23, u24, u25, u26, u27, u28, u29, u30, u31, u32, u33, u34, u35, u36], defers := [] }
      ∧ ys.length = 5 ∧ (∀ x ∈ ys, x < 2^60) ∧ val ys % pp = val xs % pp ∧ Blk w' w.heap.size 101 (ints .u64 ys) ∧ Blk w' (w.heap.size + 1) 83 (ints .u32 (zeros 5)) ∧ Below w.heap.size w w')
    (fun _ w' => left (rowNat w' w.heap.size)) ?_ ?_
  · refine ⟨_, _, _, _, _, _, _, _, _, _, _, _, _, _, _, _, _, _, _, _, _, _, _, _, _, _, _, _, _, _, _, _, _, _, xs, rfl, hl, hb, rfl, heap_alloc2_old _ _ _, heap_alloc2_new _ _ _, ((Below.refl _ _).alloc (Nat.le_refl _) _).alloc (by simp) _⟩
  · rintro a wr ⟨u3, u4, u5, u6, u7, u8, u9, u10, u11, u12, u13, u14, u15, u16, u17, u18, u19, u20, u21, u22, u23, u24, u25, u26, u27, u28, u29, u30, u31, u32, u33, u34, u35, u36, ys, rfl, hyl, hyb, hval, B1, B2, hbel⟩
    have hcl : (carriedL ys).length = 5 := (carriedL_len ys).trans hyl
    have hcb := carriedL_bound hyl hyb
    have heq := run_neq_ints (P := Try.prog) (n := 5) Try.underlying101 Try.underlying28 Try.is28 Try.sz28 (carriedL ys) ys hcl hyl
    by_cases hcar : carriedL ys = ys
    · have hb1 : (carriedL ys == ys) = true := by simpa using hcar
      rw [hb1] at heq
      have hys : ∀ x ∈ ys, x < 67108864 := fixed_small hyl hcar
      have hx0 := hys (ys.getD 0 0) (getD_mem (by omega))
      have hat : ∀ W : World, (Instr.arrayAt 74 (.slice (some ⟨w.heap.size, 1, none⟩) 4 4)).run Try.prog W = .ok (.pointer (some ⟨w.heap.size, 1, none⟩)) W := fun W => run_arrayAt W _ _ 4 _ 4 4 Try.underlying74 (by omega)
      have hd4 : ((ys.drop 1).take 4) = ys.tail := by rw [List.drop_one]; exact List.take_of_length_le (by simp [hyl])
      have heq2 := run_eql_ints (P := Try.prog) (n := 4) Try.underlying74 Try.underlying28 Try.is28 Try.sz28 ys.tail [67108863, 67108863, 67108863, 67108863] (by simp [hyl]) rfl
      change ∀ W : World, (binOp .eql 74 (.agg (ints .u64 ys.tail)) (.agg #[.int .u64 67108863, .int .u64 67108863, .int .u64 67108863, .int .u64 67108863])).run Try.prog W = _ at heq2
      have Hd4 := Lib.hid hd4
      have Hnum := Lib.hid (show numOf (val xs) = numOf (val ys) from numOf_congr hval.symm)
      have Hys := Lib.hid hys
      clear hd4 hb1 hcar hys
      have h3 : (Hid (ys.tail = [67108863, 67108863, 67108863, 67108863]) ∧ 67108858 < ys.getD 0 0) ∨ (Hid (ys.tail = [67108863, 67108863, 67108863, 67108863]) ∧ ¬ 67108858 < ys.getD 0 0) ∨ (Hid (ys.tail ≠ [67108863, 67108863, 67108863, 67108863]) ∧ True) := by
        by_cases h : ys.tail = [67108863, 67108863, 67108863, 67108863]
        · by_cases h' : 67108858 < ys.getD 0 0
          · exact .inl ⟨h, h'⟩
          · exact .inr (.inl ⟨h, h'⟩)
        · exact .inr (.inr ⟨h, trivial⟩)
      rcases h3 with ⟨Hd, hbig⟩ | ⟨Hd, hbig⟩ | ⟨Hd, hbig⟩
      all_goals
        first
          | (have hb2 : (ys.tail == [67108863, 67108863, 67108863, 67108863]) = false := by simpa using Hd.out)
          | (have hb2 : (ys.tail == [67108863, 67108863, 67108863, 67108863]) = true := by simpa using Hd.out)
        rw [hb2] at heq2
        clear hb2
        go_wp2_with (refine wpList_load_ints rfl 101 _ rfl _ rfl B1 Try.ar101 hyl ?_)
        refine (carried_c ys hyl hyb _).mono ?_
        rintro e w1 ⟨rfl, hb1⟩
        have B1' := (B1.below' hb1).alloc (.cells (ints .u64 (zeros 5)) 101)
        have B2' := (B2.below' hb1).alloc (.cells (ints .u64 (zeros 5)) 101)
        have B3' := Blk.new w1 101 (ints .u64 (zeros 5))
        have hlt1 := (B2.below' hb1).lt
        have B1'' := B1'.rowFar (k := w1.heap.size) (by omega) (ints .u64 (carriedL ys))
        have B2'' := B2'.rowFar (k := w1.heap.size) (by omega) (ints .u64 (carriedL ys))
        have B3'' := B3'.row (ints .u64 (carriedL ys))
        have hbel2 := bSetRow ((bCall hbel hb1 (by have := B1.lt; omega)).alloc (by omega) (.cells (ints .u64 (zeros 5)) 101)) (g := w1.heap.size) (by omega) (ints .u64 (carriedL ys))
        have hc0 := B1''.int (i := 0) (by omega)
        generalize hx0e : ys.getD 0 0 = x0 at *
        have Hx0e := Lib.hid hx0e
        clear hx0e
        have B1z := B1''.row (ints .u64 [x0 - 67108859, 0, 0, 0, 0])
        have B2z := B2''.rowFar (k := w.heap.size) (by omega) (ints .u64 [x0 - 67108859, 0, 0, 0, 0])
        have hbelz := bSetRow hbel2 (Nat.le_refl w.heap.size) (ints .u64 [x0 - 67108859, 0, 0, 0, 0])
        have Es : Hid (67108858 < x0 → (x0 : Int) - 67108859 = ((x0 - 67108859 : Nat) : Int)) := Lib.hid (by omega)
        go_wp2_with (first | (refine wpList_alloc_ints rfl 101 rfl Try.z101 ?_; (try simp only [Act.put, List.setIfInBounds_toArray, List.set_cons_zero, List.set_cons_succ, World.size_alloc, setRow_size, Nat.add_assoc, Nat.reduceAdd])) | (refine wpList_alloc_ints rfl 83 rfl Try.z83 ?_; (try simp only [Act.put, List.setIfInBounds_toArray, List.set_cons_zero, List.set_cons_succ, World.size_alloc, setRow_size, Nat.add_assoc, Nat.reduceAdd])) | (refine wpList_store_ints rfl 101 _ _ rfl w1.heap.size rfl rfl B3' (zeros_size _ _) Try.ar101 hcl ?_; (try simp only [Act.put, List.setIfInBounds_toArray, List.set_cons_zero, List.set_cons_succ, World.size_alloc, setRow_size, Nat.add_assoc, Nat.reduceAdd])) | (refine wpList_load_ints rfl 101 _ rfl w1.heap.size rfl B3'' Try.ar101 hcl ?_; (try simp only [Act.put, List.setIfInBounds_toArray, List.set_cons_zero, List.set_cons_succ, World.size_alloc, setRow_size, Nat.add_assoc, Nat.reduceAdd])) | (refine wpList_load_ints rfl 101 _ rfl w.heap.size rfl B1'' Try.ar101 hyl ?_; (try simp only [Act.put, List.setIfInBounds_toArray, List.set_cons_zero, List.set_cons_succ, World.size_alloc, setRow_size, Nat.add_assoc, Nat.reduceAdd])) | (refine wpList_load_sub rfl 74 _ rfl w.heap.size 1 rfl B1'' Try.ar74 (by omega) ?_; rw [Hd4.out]; (try simp only [Act.put, List.setIfInBounds_toArray, List.set_cons_zero, List.set_cons_succ, World.size_alloc, setRow_size, Nat.add_assoc, Nat.reduceAdd])) | (rw [Es.out hbig]; refine wpList_store_ints rfl 101 _ _ rfl w.heap.size (xs := [x0 - 67108859, 0, 0, 0, 0]) rfl rfl B1'' (by rw [ints_size, hyl]) Try.ar101 rfl ?_; (try simp only [Act.put, List.setIfInBounds_toArray, List.set_cons_zero, List.set_cons_succ, World.size_alloc, setRow_size, Nat.add_assoc, Nat.reduceAdd])))
        obtain ⟨zs, Hres, Bz, Bz2, hz⟩ : ∃ zs, Hid (numOf (val xs) = zs) ∧ Blk _ w.heap.size 101 (ints .u64 zs) ∧ Blk _ (w.heap.size + 1) 83 (ints .u32 (zeros 5)) ∧ Below w.heap.size w _ := by
          first
            | refine ⟨_, ?_, B1z, B2z, hbelz⟩
              obtain ⟨a, b, c, d, e, rfl⟩ := list5 hyl
              have h1 := Hd.out
              have h2 := Hx0e.out
              have h3 := Hys.out
              simp only [List.tail_cons, List.cons.injEq, and_true] at h1
              obtain ⟨rfl, rfl, rfl, rfl⟩ := h1
              obtain rfl : a = x0 := h2
              exact Hnum.out.trans (numOf_big h3 hbig)
            | refine ⟨_, ?_, B1'', B2'', hbel2⟩
              refine Hnum.out.trans (numOf_small hyl Hys.out fun h => ?_)
              rw [List.drop_one, Hx0e.out] at h
              first | exact hbig h.2 | exact Hd.out h.1
        have hzl : zs.length = 5 := by rw [← Hres.out]; exact numOf_len _
        have hzs : ∀ x ∈ zs, x < 67108864 := by rw [← Hres.out]; exact numOf_lt _
        have hsz : w.heap.size + 1 < w1.heap.size := hlt1
        clear B1z B2z hbelz B1'' B2'' hbel2 B1' B2' B3' B3'' hb1 hc0 Es heq heq2 hbig
        go_loopw [26] (fun t wr' => ∃ k : Nat, k ≤ 5 ∧ t = .int .i64 k ∧ Blk wr' w.heap.size 101 (ints .u64 zs) ∧ Blk wr' (w.heap.size + 1) 83 (ints .u32 (zeros 5)) ∧ Blk wr' (w1.heap.size + 1) 83 (ints .u32 (zs.take k ++ zeros (5 - k))) ∧ Below w.heap.size w wr') (fun t wr => 5 - (intOf t).toNat)
        case atStart =>
          exact ⟨0, by omega, rfl, Bz.alloc _, Bz2.alloc _, Blk.new' (by simp), hz.alloc (by simp; omega) _⟩
        case round =>
          rename_i hrel
          obtain ⟨k, hk, rfl, C1, C2, C3, hbel'⟩ := hrel
          by_cases hlt : k < 5
          · have hcell := C1.int (i := k) (by omega)
            have hv := getD_bound hzs (by omega) k
            generalize hvv : zs.getD k 0 = v at *
            have hlen : (zs.take k ++ zeros (5 - k)).length = 5 := by simp [zeros_len]; omega
            have hcell3 := C3.int (i := k) (by omega)
            have hfz := C3.frozen k
            have C3' := C3.intSet k v
            have He := Lib.hid (take_set (n := 5) hzl hlt hvv)
            clear hvv hlen
            go_wp2
            go_roundw
            case rel =>
              refine ⟨k+1, by omega, by go_num, C1.far (by simp; omega) _, C2.far (by simp; omega) _, ?_, hbel'.setCell (by simp <;> omega) _⟩
              rw [← He.out]; exact C3'
            case measure => simp [intOf]; omega
          · obtain rfl : k = 5 := by omega
            have he : zs.take 5 ++ zeros (5-5) = zs := by simp [← hzl, zeros]
            rw [he] at C3
            clear he
            go_wp2_with (first | (refine wpList_load_ints rfl 83 _ rfl _ rfl C3 Try.ar83 hzl ?_; (try simp only [Act.put, List.setIfInBounds_toArray, List.set_cons_zero, List.set_cons_succ, World.size_alloc, setRow_size, Nat.add_assoc, Nat.reduceAdd])) | (refine wpList_store_ints rfl 83 _ _ rfl _ rfl rfl C2 (zeros_size _ _) Try.ar83 hzl ?_; (try simp only [Act.put, List.setIfInBounds_toArray, List.set_cons_zero, List.set_cons_succ, World.size_alloc, setRow_size, Nat.add_assoc, Nat.reduceAdd])))
            simp only [Exit.jump]
            refine ret_ints rfl rfl (C2.row _) Try.ar83 hzl ⟨by rw [Hres.out], ?_⟩
            exact bSetRow hbel' (by simp) _
    · have hb1 : (carriedL ys == ys) = false := by simpa using hcar
      rw [hb1] at heq
      have Hcar := Lib.hid hcar
      clear hb1 hcar
      go_wp2_with (refine wpList_load_ints rfl 101 _ rfl _ rfl B1 Try.ar101 hyl ?_)
      refine (carried_c ys hyl hyb _).mono ?_
      rintro e w1 ⟨rfl, hb1⟩
      have B1' := (B1.below' hb1).alloc (.cells (ints .u64 (zeros 5)) 101)
      have B2' := (B2.below' hb1).alloc (.cells (ints .u64 (zeros 5)) 101)
      have B3' := Blk.new w1 101 (ints .u64 (zeros 5))
      have hlt1 := (B2.below' hb1).lt
      have B1'' := B1'.rowFar (k := w1.heap.size) (by omega) (ints .u64 (carriedL ys))
      have B2'' := B2'.rowFar (k := w1.heap.size) (by omega) (ints .u64 (carriedL ys))
      have B3'' := B3'.row (ints .u64 (carriedL ys))
      have hbel2 := bSetRow ((bCall hbel hb1 (by have := B1.lt; omega)).alloc (by omega) (.cells (ints .u64 (zeros 5)) 101)) (g := w1.heap.size) (by omega) (ints .u64 (carriedL ys))
      go_wp2_with (first | (refine wpList_alloc_ints rfl 101 rfl Try.z101 ?_) | (refine wpList_store_ints rfl 101 _ _ rfl w1.heap.size rfl rfl B3' (zeros_size _ _) Try.ar101 hcl ?_) | (refine wpList_load_ints rfl 101 _ rfl w1.heap.size rfl B3'' Try.ar101 hcl ?_) | (refine wpList_load_ints rfl 101 _ rfl w.heap.size rfl B1'' Try.ar101 hyl ?_) | (refine wpList_store_ints rfl 101 _ _ rfl w.heap.size rfl rfl B1'' (by rw [ints_size, hyl]) Try.ar101 hcl ?_))
      go_step3
      have B1f := B1''.row (ints .u64 (carriedL ys))
      refine ⟨rfl, ⟨_, _, _, _, _, _, _, _, _, _, _, _, _, _, _, _, _, _, _, _, _, _, _, _, _, _, _, _, _, _, _, _, _, _, carriedL ys, rfl, hcl, hcb, (carriedL_mod hyl).trans hval, B1f, B2''.rowFar (by omega) _, bSetRow hbel2 (Nat.le_refl _) _⟩, ?_⟩
      exact Nat.lt_of_le_of_lt (Nat.le_of_eq (congrArg left (rowNat_ints B1f))) (Nat.lt_of_lt_of_eq (left_lt hyl Hcar.out) (congrArg left (rowNat_ints B1)).symm)
end Go.Proofs.Ytolfngmpoafaaaa
