/- ring.product. No condition but that bytes are below 256. -/
import Derived.Test.YtehhipanbjhffaaW10e
namespace Go
section
variable {P : Program} {ops : Array Oper} {w : World} {Q : Act → Prop} {rest : List Oper} {o : Oper} {a : Act}
theorem still_run {v : Value} (hw : Region.wanted o (yielded ops a.tmps) = true) (hr : (execOp a.eval o).run P w = .ok (.value v) w) (h : wpStill P ops w Q rest (a.put o.dst v)) : wpStill P ops w Q (o :: rest) a := by
  unfold wpStill
  rw [if_pos hw]
  unfold Oper.still
  rw [hr, Oper.stillUpon_value]
  exact h
end
end Go
namespace Go.Proofs.Ytehhipanbjhffaa
set_option linter.unusedSimpArgs false
set_option linter.unusedVariables false
set_option linter.unusedSectionVars false
set_option linter.unusedVariables false
open Go.RowKit
open Gf (up upN mulS mul)
section
variable {P : Program} {ops : Array Oper} {w : World} {Q : Act → Prop} {rest : List Oper} {o : Oper} {a : Act}
theorem still_load {T g n t : Nat} {k : IntKind} {xs : List Nat} {x : Operand} (hw : Region.wanted o (yielded ops a.tmps) = true) (ho : o.op = .load T x) (hx : a.eval x = .pointer (some ⟨g, 0, none⟩)) (hb : Blk w g t (ints k xs)) (ha : IsArr P T n) (hl : xs.length = n)
    (h : wpStill P ops w Q rest (a.put o.dst (.agg (ints k xs)))) : wpStill P ops w Q (o :: rest) a := by
  obtain ⟨⟨d, h1, hd⟩, h2⟩ := ha
  refine still_run hw ?_ h
  unfold execOp
  simp only [ho, hx, Instr.loadAt, Instr.sureAddr, Sem.run_bind, Sem.run_pure, Result.andThen_ok, run_loadVar_row w g t T _ _ _ hb h1 (by cases d <;> first | rfl | cases hd) (by rw [ints_size, hl]; exact h2)]
end
theorem byte_bit (m r : Nat) (hr : r < 8) : m % 256 / 2 ^ r % 2 = m / 2 ^ r % 2 := by
  have : r = 0 ∨ r = 1 ∨ r = 2 ∨ r = 3 ∨ r = 4 ∨ r = 5 ∨ r = 6 ∨ r = 7 := by omega
  rcases this with h | h | h | h | h | h | h | h <;> subst h <;> omega
theorem bnum_bit {xs : List Nat} (hl : xs.length = 16) (hb : ∀ x ∈ xs, x < 256) (i : Nat) (hi : i < 128) : xs.getD (15 - i / 8) 0 / 2 ^ (i % 8) % 2 = bnum xs / 2 ^ i % 2 := by
  rw [bnum_digit hl hb (i := 15 - i / 8) (by omega), byte_bit _ _ (by omega), show 15 - (15 - i / 8) = i / 8 by omega, Nat.div_div_eq_div_mul, show (256 : Nat) = 2 ^ 8 by decide, ← Nat.pow_mul, ← Nat.pow_add, show 8 * (i / 8) + i % 8 = i by omega]
theorem and1b (a : Nat) (ha : a < 256) : bits BinOp.and IntKind.u8 (a : Int) 1 = ((a % 2 : Nat) : Int) := by
  have h := u8_and_nat a 1 ha (by omega)
  rw [Nat.and_one_is_mod] at h
  exact h
theorem dec1 (v : Nat) : (((v : Nat) : Int) == 1) = decide (v = 1) := by
  rw [Bool.eq_iff_iff, beq_iff_eq, decide_eq_true_eq]
  omega
theorem sum_bit {S X v : Nat} (hS : S < 2 ^ 128) (hX : X < 2 ^ 128) (hv : v < 2) : sumL (decide (v = 1)) (belem S) (belem X) = belem (S ^^^ v * X) := by
  have : v = 0 ∨ v = 1 := by omega
  rcases this with rfl | rfl
  · exact sum_false hS hX
  · exact sum_true hS hX
set_option maxRecDepth 100000 in
set_option maxHeartbeats 4000000 in
theorem product_c (xs ys : List Nat) (hl : xs.length = 16) (hb : ∀ x ∈ xs, x < 256) (hl' : ys.length = 16) (hb' : ∀ x ∈ ys, x < 256) (w : World) :
    Calls Try.prog 36 #[.agg (ints .u8 xs), .agg (ints .u8 ys)] w fun e w' => e = .returned (.agg (ints .u8 (belem (mul R2 (bnum xs) (bnum ys))))) ∧ Below w.heap.size w w' := by
  have hx := bnum_lt hl hb
  have hy := bnum_lt hl' hb'
  have hxe := belem_bnum hl hb
  have B0 := (((Blk.new w 22 (ints .u8 xs)).alloc (.cells (ints .u8 ys) 22)).alloc (.cells (ints .u8 (zeros 16)) 22)).alloc (.cells (ints .u8 (zeros 16)) 22)
  have B1 := ((Blk.new (w.alloc (.cells (ints .u8 xs) 22)) 22 (ints .u8 ys)).alloc (.cells (ints .u8 (zeros 16)) 22)).alloc (.cells (ints .u8 (zeros 16)) 22)
  have B2 := (Blk.new ((w.alloc (.cells (ints .u8 xs) 22)).alloc (.cells (ints .u8 ys) 22)) 22 (ints .u8 (zeros 16))).alloc (.cells (ints .u8 (zeros 16)) 22)
  have B3 := Blk.new (((w.alloc (.cells (ints .u8 xs) 22)).alloc (.cells (ints .u8 ys) 22)).alloc (.cells (ints .u8 (zeros 16)) 22)) 22 (ints .u8 (zeros 16))
  rw [World.size_alloc] at B1
  rw [World.size_alloc, World.size_alloc] at B2
  rw [World.size_alloc, World.size_alloc, World.size_alloc] at B3
  simp only [Nat.add_assoc, Nat.reduceAdd] at B2 B3
  have hbel := ((((Below.refl w.heap.size w).alloc (Nat.le_refl _) (.cells (ints .u8 xs) 22)).alloc (by simp) (.cells (ints .u8 ys) 22)).alloc (by simp; omega) (.cells (ints .u8 (zeros 16)) 22)).alloc (by simp; omega) (.cells (ints .u8 (zeros 16)) 22)
  go_enter Try.func36, Try.ntmps36
  go_wp2_with (refine wpList_alloc_ints rfl 22 rfl Try.z22 ?_; (try simp only [Act.put, List.setIfInBounds_toArray, List.set_cons_zero, List.set_cons_succ, World.size_alloc, setRow_size, Nat.add_assoc, Nat.reduceAdd]))
  generalize ((((w.alloc (.cells (ints .u8 xs) 22)).alloc (.cells (ints .u8 ys) 22)).alloc (.cells (ints .u8 (zeros 16)) 22)).alloc (.cells (ints .u8 (zeros 16)) 22)) = w1 at *
  have hbit := fun i hi => bnum_bit hl' hb' i hi
  rw [← hxe] at B0
  generalize hxd : bnum xs = x at *
  have Hxd := Lib.hid hxd
  generalize hyd : bnum ys = y at *
  have Hyd := Lib.hid hyd
  clear hxe hxd hyd
  go_loopw [7] (fun t wr => ∃ i : Nat, i ≤ 128 ∧ t = .int .i64 i ∧ Blk wr w.heap.size 22 (ints .u8 (belem (upN R2 i x))) ∧ Blk wr (w.heap.size + 1) 22 (ints .u8 ys) ∧ Blk wr (w.heap.size + 2) 22 (ints .u8 (zeros 16)) ∧ Blk wr (w.heap.size + 3) 22 (ints .u8 (belem (mulS R2 x y i))) ∧ Below w.heap.size w wr) (fun t wr => 128 - (intOf t).toNat)
  case atStart => exact ⟨0, by omega, rfl, B0, B1, B2, by rw [show belem (mulS R2 x y 0) = zeros 16 from belem_zero]; exact B3, hbel⟩
  case round =>
    rename_i hrel
    obtain ⟨i, hi, rfl, C0, C1, C2, C3, hbelr⟩ := hrel
    have hX := Gf.upN_lt R2_lt hx i
    have hS := Gf.mulS_lt R2_lt hx y i
    by_cases hlt : i < 128
    · have hnx : mulS R2 x y (i + 1) = mulS R2 x y i ^^^ y / 2 ^ i % 2 * upN R2 i x := by
        show mulS R2 x y i ^^^ _ = _
        rw [Gf.if_bit]
      have hux : upN R2 (i + 1) x = up R2 (upN R2 i x) := rfl
      have hbi := hbit i hlt
      rw [← hbi] at hnx
      have c1 := C1.int (i := 15 - i / 8) (by omega)
      have hv8 := getD_bound hb' (by omega) (15 - i / 8)
      have hs8 : ys.getD (15 - i / 8) 0 / 2 ^ (i % 8) < 256 := Nat.lt_of_le_of_lt (Nat.div_le_self _ _) hv8
      have hand := and1b (ys.getD (15 - i / 8) 0 / 2 ^ (i % 8)) hs8
      clear hbi hbit
      generalize ys.getD (15 - i / 8) 0 = b at *
      generalize hqd : i / 8 = q at *
      generalize hrd : i % 8 = r at *
      have hq1 : (i : Int).tdiv 8 = (q : Int) := by rw [Int.tdiv_eq_ediv_of_nonneg (by omega)]; omega
      have hr1 : (i : Int).tmod 8 = (r : Int) := by rw [Int.tmod_eq_emod_of_nonneg (by omega)]; omega
      have hpd : ((15 : Int) - (q : Int)) = ((15 - q : Nat) : Int) := by omega
      have hp : 15 - q < 16 := by omega
      have hr0 : r < 8 := by omega
      have wq : IntKind.i64.wrap (q : Int) = (q : Int) := IntWalk.i64_in _ (by omega)
      have wp : IntKind.i64.wrap ((15 - q : Nat) : Int) = ((15 - q : Nat) : Int) := IntWalk.i64_in _ (by omega)
      have wrr : IntKind.i64.wrap (r : Int) = (r : Int) := IntWalk.i64_in _ (by omega)
      generalize 15 - q = p at *
      have hp1 : (p : Int) < 16 := by omega
      go_wp2
      refine wp_region_still_tail 12 (by kernel_rfl) (by kernel_rfl) ?_
      simp only [List.take_succ_cons, List.take_zero, List.drop_succ_cons, List.drop_zero]
      refine still_load rfl rfl rfl C3.drew Try.ar22 (belem_len _) ?_; (try simp only [Act.put, List.setIfInBounds_toArray, List.set_cons_zero, List.set_cons_succ, World.size_alloc, setRow_size, Nat.add_assoc, Nat.reduceAdd])
      refine still_load rfl rfl rfl C0.drew Try.ar22 (belem_len _) ?_; (try simp only [Act.put, List.setIfInBounds_toArray, List.set_cons_zero, List.set_cons_succ, World.size_alloc, setRow_size, Nat.add_assoc, Nat.reduceAdd])
      still_step
      still_step
      still_step

      still_step
      still_step
      still_step
      still_step
      repeat still_step
      refine wpStill_nil ?_
      rw [show ((b : Int) / 2 ^ r) = ((b / 2 ^ r : Nat) : Int) by simp, hand, dec1 (b / 2 ^ r % 2)]
      have hv2 : b / 2 ^ r % 2 < 2 := Nat.mod_lt _ (by omega)
      change wpList _ _ _ _ _ wr.drew
      have D0 := C0.drew
      have D1 := C1.drew
      have D2 := C2.drew
      have D3 := C3.drew
      have hbel1 := hbelr.drew
      have HX := Lib.hid hnx
      have HU := Lib.hid hux
      clear hnx hux C0 C1 C2 C3 hbelr hand c1 wq wp wrr hq1 hr1
      generalize wr.drew = w2 at *
      generalize b / 2 ^ r % 2 = v at *
      generalize mulS R2 x y i = S at *
      generalize upN R2 i x = X at *
      have hlS := belem_len S
      have hlX := belem_len X
      go_wp2_with (fail)
      refine (sum_c (belem S) (belem X) (decide (v = 1)) hlS (belem_lt S) hlX (belem_lt X) _).mono ?_
      rintro e w3 ⟨rfl, hb2⟩
      rw [sum_bit hS hX hv2, ← HX.out]
      have hln := belem_len (mulS R2 x y (i + 1))
      have E0 := (D0.below' hb2).rowFar (show w.heap.size ≠ w.heap.size + 3 by omega) (ints .u8 (belem (mulS R2 x y (i + 1))))
      have E1 := (D1.below' hb2).rowFar (show w.heap.size + 1 ≠ w.heap.size + 3 by omega) (ints .u8 (belem (mulS R2 x y (i + 1))))
      have E2 := (D2.below' hb2).rowFar (show w.heap.size + 2 ≠ w.heap.size + 3 by omega) (ints .u8 (belem (mulS R2 x y (i + 1))))
      have D3' := D3.below' hb2
      have E3 := D3'.row (ints .u8 (belem (mulS R2 x y (i + 1))))
      have hbel2 := bSetRow (bCall hbel1 hb2 hbel1.size) (show w.heap.size ≤ w.heap.size + 3 by omega) (ints .u8 (belem (mulS R2 x y (i + 1))))
      go_wp2_with (first | (refine wpList_store_ints rfl 22 _ _ rfl (w.heap.size + 3) rfl rfl D3' (by rw [ints_size, hlS]) Try.ar22 hln ?_; (try simp only [Act.put, List.setIfInBounds_toArray, List.set_cons_zero, List.set_cons_succ, World.size_alloc, setRow_size, Nat.add_assoc, Nat.reduceAdd])) | (refine wpList_load_ints rfl 22 _ rfl w.heap.size rfl E0 Try.ar22 hlX ?_; (try simp only [Act.put, List.setIfInBounds_toArray, List.set_cons_zero, List.set_cons_succ, World.size_alloc, setRow_size, Nat.add_assoc, Nat.reduceAdd])))
      refine (double_c (belem X) hlX (belem_lt X) _).mono ?_
      rintro e w4 ⟨rfl, hb4⟩
      rw [dblB_belem hX, ← HU.out]
      have hlu := belem_len (upN R2 (i + 1) x)
      have E0' := E0.below' hb4
      have G0 := E0'.row (ints .u8 (belem (upN R2 (i + 1) x)))
      have G1 := (E1.below' hb4).rowFar (show w.heap.size + 1 ≠ w.heap.size by omega) (ints .u8 (belem (upN R2 (i + 1) x)))
      have G2 := (E2.below' hb4).rowFar (show w.heap.size + 2 ≠ w.heap.size by omega) (ints .u8 (belem (upN R2 (i + 1) x)))
      have G3 := (E3.below' hb4).rowFar (show w.heap.size + 3 ≠ w.heap.size by omega) (ints .u8 (belem (upN R2 (i + 1) x)))
      have hbel3 := bSetRow (bCall hbel2 hb4 hbel2.size) (Nat.le_refl w.heap.size) (ints .u8 (belem (upN R2 (i + 1) x)))
      go_wp2_with (refine wpList_store_ints rfl 22 _ _ rfl w.heap.size rfl rfl E0' (by rw [ints_size, hlX]) Try.ar22 hlu ?_; (try simp only [Act.put, List.setIfInBounds_toArray, List.set_cons_zero, List.set_cons_succ, World.size_alloc, setRow_size, Nat.add_assoc, Nat.reduceAdd]))
      exact ⟨⟨i + 1, by omega, by go_num, G0, G1, G2, G3, hbel3⟩, by simp [intOf] <;> omega⟩
    · obtain rfl : i = 128 := by omega
      have he : mulS R2 x y 128 = mul R2 x y := rfl
      rw [he] at C3
      have hel := belem_len (mul R2 x y)
      go_wp2_with (first | (refine wpList_load_ints rfl 22 _ rfl (w.heap.size + 3) rfl C3 Try.ar22 hel ?_; (try simp only [Act.put, List.setIfInBounds_toArray, List.set_cons_zero, List.set_cons_succ, World.size_alloc, setRow_size, Nat.add_assoc, Nat.reduceAdd])) | (refine wpList_store_ints rfl 22 _ _ rfl (w.heap.size + 2) rfl rfl C2 (zeros_size _ _) Try.ar22 hel ?_; (try simp only [Act.put, List.setIfInBounds_toArray, List.set_cons_zero, List.set_cons_succ, World.size_alloc, setRow_size, Nat.add_assoc, Nat.reduceAdd])))
      exact ret_ints rfl rfl (C2.row _) Try.ar22 hel ⟨by rw [Hxd.out, Hyd.out], bSetRow hbelr (by omega) _⟩
end Go.Proofs.Ytehhipanbjhffaa
