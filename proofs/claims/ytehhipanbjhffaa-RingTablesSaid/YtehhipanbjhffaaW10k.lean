/- (*ring.Table).Dot. No condition but that bytes are below 256. -/
import Derived.Test.YtehhipanbjhffaaW10j
namespace Go.Proofs.Ytehhipanbjhffaa
set_option linter.unusedSimpArgs false
set_option linter.unusedVariables false
set_option linter.unusedSectionVars false
set_option linter.unusedVariables false
open Go.RowKit
open Gf (W2 up down upN downN mulS mul dot dotS R1 D1)
theorem and15 (b : Nat) (hb : b < 256) : bits BinOp.and IntKind.u8 (b : Int) 15 = ((b % 16 : Nat) : Int) := by
  have h := u8_and_nat b 15 hb (by omega)
  rw [show b &&& 15 = b % 16 from Nat.and_two_pow_sub_one_eq_mod b 4] at h
  exact h
theorem run_wideT {a : Act} {o : Oper} {W : World} {x : Operand} {g off v : Nat} (ho : o.op = .load 38 x) (hx : a.eval x = .pointer (some ⟨g, off, none⟩))
    (c0 : W.cell? ⟨g, off, none⟩ = some (.int .u64 ((v % 18446744073709551616 : Nat) : Int))) (c1 : W.cell? ⟨g, off + 1, none⟩ = some (.int .u64 ((v / 18446744073709551616 : Nat) : Int))) :
    (execOp a.eval o).run Try.prog W = .ok (.value (.agg (ints .u64 (W2 v)))) W := by
  obtain ⟨⟨d, h1, hd⟩, h2⟩ := Try.ar38
  have hr : W.rangeAt g off [Value.int .u64 ((v % 18446744073709551616 : Nat) : Int), Value.int .u64 ((v / 18446744073709551616 : Nat) : Int)] := fun j u hj => by
    rcases j with _ | _ | j
    · simp only [List.getElem?_cons_zero, Option.some.injEq] at hj; subst hj; exact c0
    · simp only [List.getElem?_cons_succ, List.getElem?_cons_zero, Option.some.injEq, Nat.zero_add] at hj; subst hj; exact c1
    · simp at hj
  unfold execOp
  simp only [ho, hx, Instr.loadAt, Instr.sureAddr, Sem.run_bind, Sem.run_pure, Result.andThen_ok, run_loadVar_mid W g off _ _ d hr h1 (by cases d <;> first | rfl | cases hd) h2]
  rfl
theorem run_idx {a : Act} {o : Oper} {W : World} {x y : Operand} {g n : Nat} (ho : o.op = .indexAddr 53 x y) (hx : a.eval x = .pointer (some ⟨g, 0, none⟩)) (hy : a.eval y = .int .u8 (n : Int)) (hn : n < 16) :
    (execOp a.eval o).run Try.prog W = .ok (.value (.pointer (some ⟨g, 2 * n, none⟩))) W := by
  have h16 : n = 0 ∨ n = 1 ∨ n = 2 ∨ n = 3 ∨ n = 4 ∨ n = 5 ∨ n = 6 ∨ n = 7 ∨ n = 8 ∨ n = 9 ∨ n = 10 ∨ n = 11 ∨ n = 12 ∨ n = 13 ∨ n = 14 ∨ n = 15 := by omega
  unfold execOp
  simp only [ho, hx, hy]
  rcases h16 with rfl | rfl | rfl | rfl | rfl | rfl | rfl | rfl | rfl | rfl | rfl | rfl | rfl | rfl | rfl | rfl <;> first | rfl | (show _ = _; kernel_rfl)
theorem wpList_run {P : Program} {ops : Array Oper} {rest : List Oper} {o : Oper} {a : Act} {w : World} {Q : Exit → Act → World → Prop} {v : Value} {T : TypeId} {x y : Operand} (hgd : o.guard = none) (ho : o.op = .index T x y) (hr : (execOp a.eval o).run P w = .ok (.value v) w)
    (h : wpList P ops Q rest (a.put o.dst v) w) : wpList P ops Q (o :: rest) a w :=
  wpList_plain hgd fun _ hK => by
    unfold Oper.wp
    rw [hr]
    simp only [Oper.upon]
    exact hK _ _ h
def nibQ (q j : Nat) : Nat := if j = 0 then q / 256 else if j = 1 then q / 16 else q
set_option maxRecDepth 100000 in
set_option maxHeartbeats 20000000 in
theorem dotT_c (g X : Nat) (as_ : List Nat) (hX : X < 2 ^ 128) (hl : as_.length = 16) (hb : ∀ x ∈ as_, x < 256) (w : World) (hT : Blk w g 55 (ints .u64 (tabL X 16))) :
    Calls Try.prog 21 #[.pointer (some ⟨g, 0, none⟩), .agg (ints .u8 as_)] w fun e w' => e = .returned (.agg (ints .u8 (elem (mul R1 X (num as_))))) ∧ Below w.heap.size w w' := by
  have hA := num_lt hl hb
  have hg := hT.lt
  have B0 := ((Blk.new w 22 (ints .u8 as_)).alloc (.cells (ints .u8 (zeros 16)) 22)).alloc (.cells (ints .u64 (zeros 2)) 38)
  have B1 := (Blk.new (w.alloc (.cells (ints .u8 as_) 22)) 22 (ints .u8 (zeros 16))).alloc (.cells (ints .u64 (zeros 2)) 38)
  have B2 := Blk.new ((w.alloc (.cells (ints .u8 as_) 22)).alloc (.cells (ints .u8 (zeros 16)) 22)) 38 (ints .u64 (zeros 2))
  rw [World.size_alloc] at B1
  rw [World.size_alloc, World.size_alloc] at B2
  simp only [Nat.add_assoc, Nat.reduceAdd] at B2
  have hbel := (((Below.refl w.heap.size w).alloc (Nat.le_refl _) (.cells (ints .u8 as_) 22)).alloc (by simp) (.cells (ints .u8 (zeros 16)) 22)).alloc (by simp; omega) (.cells (ints .u64 (zeros 2)) 38)
  have hz0 : W2 (mul R1 X (num as_ / 256 ^ 16)) = zeros 2 := by
    rw [Nat.div_eq_of_lt (show num as_ < 256 ^ 16 from hA), show mul R1 X 0 = 0 from (Gf.mul_lin_r R1 X).zero]; decide
  go_enter Try.func21, Try.ntmps21
  go_wp2_with (first | (refine wpList_alloc_ints rfl 22 rfl Try.z22 ?_; (try simp only [Act.put, List.setIfInBounds_toArray, List.set_cons_zero, List.set_cons_succ, World.size_alloc, setRow_size, Nat.add_assoc, Nat.reduceAdd])) | (refine wpList_alloc_ints rfl 38 rfl Try.z38 ?_; (try simp only [Act.put, List.setIfInBounds_toArray, List.set_cons_zero, List.set_cons_succ, World.size_alloc, setRow_size, Nat.add_assoc, Nat.reduceAdd])))
  generalize (((w.alloc (.cells (ints .u8 as_) 22)).alloc (.cells (ints .u8 (zeros 16)) 22)).alloc (.cells (ints .u64 (zeros 2)) 38)) = w1 at *
  go_loopw [13] (fun t wr => ∃ i : Nat, i ≤ 16 ∧ t = .int .i64 i ∧ Blk wr w.heap.size 22 (ints .u8 as_) ∧ Blk wr (w.heap.size + 1) 22 (ints .u8 (zeros 16)) ∧ Blk wr (w.heap.size + 2) 38 (ints .u64 (W2 (mul R1 X (num as_ / 256 ^ (16 - i))))) ∧ Below w.heap.size w wr) (fun t wr => 16 - (intOf t).toNat)
  case atStart => exact ⟨0, by omega, rfl, B0, B1, by rw [hz0]; exact B2, hbel⟩
  case round =>
    rename_i hrel
    obtain ⟨i, hi, rfl, C0, C1, C2, hbelr⟩ := hrel
    by_cases hlt : i < 16
    · have hi1 := nib_hi hl hb hlt
      have lo1 := nib_lo hl hb hlt
      have hq0 : num as_ / 256 ^ (16 - i) = num as_ / 256 ^ (15 - i) / 256 := by
        rw [Nat.div_div_eq_div_mul, ← Nat.pow_succ, show (15 - i).succ = 16 - i by omega]
      have hq2 : num as_ / 256 ^ (15 - i) < 2 ^ 128 := Nat.lt_of_le_of_lt (Nat.div_le_self _ _) hA
      have hnext : 16 - (i + 1) = 15 - i := by omega
      rw [hq0] at C2
      have cb := C0.int (i := 15 - i) (by omega)
      have hv := getD_bound hb (by omega) (15 - i)
      have hand := and15 _ hv
      clear hz0 hq0
      generalize as_.getD (15 - i) 0 = b at *
      generalize hQ : num as_ / 256 ^ (15 - i) = q at *
      have HQ := Lib.hid hQ
      clear hQ
      have hpd : ((15 : Int) - (i : Int)) = ((15 - i : Nat) : Int) := by omega
      have hp : 15 - i < 16 := by omega
      have Hnext := Lib.hid hnext
      clear hnext
      have Hpi := Lib.hid (show 15 - i = 15 - i from rfl)
      generalize hpp : 15 - i = p at *
      have hp1 : (p : Int) < 16 := by omega
      have hn1 : b / 16 < 16 := by omega
      have hn2 : b % 16 < 16 := by omega
      have hd1 : ((b : Int) / 16) = ((b / 16 : Nat) : Int) := by omega
      generalize b / 16 = n1 at *
      generalize b % 16 = n2 at *
      have hk1 := horner X (q / 256) n1 hX (by omega) hn1
      have hk2 := horner X (q / 16) n2 hX (by omega) hn2
      rw [← hi1] at hk1
      rw [← lo1] at hk2
      have Hk1 := Lib.hid hk1
      have Hk2 := Lib.hid hk2
      clear hk1 hk2 hi1 lo1
      clear hpp Hpi
      have hd0 : decide ((i : Int) < 16) = true := by simp; omega
      go_wp2
      go_loopw [25] (fun t wr => ∃ j : Nat, j ≤ 2 ∧ t = .int .i64 j ∧ Blk wr w.heap.size 22 (ints .u8 as_) ∧ Blk wr (w.heap.size + 1) 22 (ints .u8 (zeros 16)) ∧ Blk wr (w.heap.size + 2) 38 (ints .u64 (W2 (mul R1 X (nibQ q j)))) ∧ Below w.heap.size w wr) (fun t wr => 2 - (intOf t).toNat)
      case atStart => exact ⟨0, by omega, rfl, C0, C1, C2, hbelr⟩
      case round =>
        clear C0 C1 C2 hbelr
        obtain ⟨j, hj, rfl, D0, D1', D2, hbel4⟩ := hrel
        have hj3 : j = 0 ∨ j = 1 ∨ j = 2 := by omega
        rcases hj3 with rfl | rfl | rfl
        · rw [show nibQ q 0 = q / 256 from rfl] at D2
          have hS := Gf.mul_lt Gf.R1_lt hX (q / 256)
          have HK := Hk1
          generalize mul R1 X (q / 256) = S at *
          go_wp2_with (refine wpList_run (v := .int .u8 n1) rfl rfl ?h1 ?_; (case h1 => kernel_rfl); (try simp only [Act.put, List.setIfInBounds_toArray, List.set_cons_zero, List.set_cons_succ, World.size_alloc, setRow_size, Nat.add_assoc, Nat.reduceAdd]))
          go_loopw [28] (fun t wr => ∃ m : Nat, m ≤ 4 ∧ t = .int .i64 m ∧ Blk wr w.heap.size 22 (ints .u8 as_) ∧ Blk wr (w.heap.size + 1) 22 (ints .u8 (zeros 16)) ∧ Blk wr (w.heap.size + 2) 38 (ints .u64 (W2 (upN R1 m S))) ∧ Below w.heap.size w wr) (fun t wr => 4 - (intOf t).toNat)
          case atStart => exact ⟨0, by omega, rfl, D0, D1', D2, hbel4⟩
          case round =>
            obtain ⟨m, hm, rfl, E0, E1, E2, hbel5⟩ := hrel
            have hY := Gf.upN_lt Gf.R1_lt hS m
            by_cases hm4 : m < 4
            · have hux : upN R1 (m + 1) S = up R1 (upN R1 m S) := rfl
              have HU := Lib.hid hux
              clear hux HK
              generalize upN R1 m S = Y at *
              go_wp2_with (refine wpList_load_ints rfl 38 _ rfl (w.heap.size + 2) rfl E2 Try.ar38 rfl ?_; (try simp only [Act.put, List.setIfInBounds_toArray, List.set_cons_zero, List.set_cons_succ, World.size_alloc, setRow_size, Nat.add_assoc, Nat.reduceAdd]))
              refine (up_c Y hY _).mono ?_
              rintro e w4 ⟨rfl, hb4⟩
              rw [← HU.out]
              have F0 := (E0.below' hb4).rowFar (show w.heap.size ≠ w.heap.size + 2 by omega) (ints .u64 (W2 (upN R1 (m + 1) S)))
              have F1 := (E1.below' hb4).rowFar (show w.heap.size + 1 ≠ w.heap.size + 2 by omega) (ints .u64 (W2 (upN R1 (m + 1) S)))
              have F2' := E2.below' hb4
              have F2 := F2'.row (ints .u64 (W2 (upN R1 (m + 1) S)))
              have hbel7 := bSetRow (bCall hbel5 hb4 hbel5.size) (show w.heap.size ≤ w.heap.size + 2 by omega) (ints .u64 (W2 (upN R1 (m + 1) S)))
              clear E0 E1 E2 hbel5 hb4
              go_wp2_with (refine wpList_store_ints rfl 38 _ _ rfl (w.heap.size + 2) rfl rfl F2' rfl Try.ar38 rfl ?_; (try simp only [Act.put, List.setIfInBounds_toArray, List.set_cons_zero, List.set_cons_succ, World.size_alloc, setRow_size, Nat.add_assoc, Nat.reduceAdd]))
              refine ⟨⟨_, _, _, _, _, ⟨m + 1, by omega, by go_num, F0, F1, F2, hbel7⟩, rfl⟩, by simp [intOf] <;> omega⟩
            · obtain rfl : m = 4 := by omega
              have T := hT.below hbel5 hg
              have lD := tabL_len X 16
              have hV : tabV X 16 n1 = mul R1 X n1 := by unfold tabV; rw [if_pos (by omega)]
              have hVl := Gf.mul_lt Gf.R1_lt hX n1
              have c0 : wr.cell? ⟨g, 2 * n1, none⟩ = some (.int .u64 ((mul R1 X n1 % 18446744073709551616 : Nat) : Int)) := by
                have := T.int (i := 2 * n1) (by rw [lD]; omega)
                rw [tabL_lo X 16 (by omega), hV] at this
                exact this
              have c1 : wr.cell? ⟨g, 2 * n1 + 1, none⟩ = some (.int .u64 ((mul R1 X n1 / 18446744073709551616 : Nat) : Int)) := by
                have := T.int (i := 2 * n1 + 1) (by rw [lD]; omega)
                rw [tabL_hi X 16 (by omega), hV] at this
                exact this
              have lt1 := T.lt
              clear hV T
              generalize mul R1 X n1 = V at *
              generalize upN R1 4 S = Y at *
              go_wp2_with (fail)
              refine wp_region_last2 8 (by kernel_rfl) (by kernel_rfl) (by kernel_rfl) (by kernel_rfl) (fun D a W => ∃ u30 u31 u32 u33 u34 u35 u36 u37 u38 u39 u40 u41 : Value, a = { tmps := #[.pointer (some ⟨g, 0, none⟩), .agg (ints .u8 as_), undef, .pointer (some ⟨w.heap.size, 0, none⟩), .pointer (some ⟨w.heap.size + 1, 0, none⟩), .pointer (some ⟨w.heap.size + 2, 0, none⟩), .int .i64 i, .int .u8 b, undef, .int .u8 n1, .pointer (some ⟨g, 0, none⟩), .bool false, undef, .int .i64 i, .bool true, .int .i64 i, .int .i64 i, .int .i64 p, .pointer (some ⟨w.heap.size, p, none⟩), .int .u8 b, .int .u8 b, .int .u8 n1, .int .u8 b, .int .u8 n2, .agg #[.int .u8 n1, .int .u8 n2], .int .i64 ((0 : Nat) : Int), .bool true, .int .u8 n1, .int .i64 ((4 : Nat) : Int), .bool false, u30, u31, u32, u33, u34, u35, u36, u37, u38, u39, u40, u41, u42, undef, undef], defers := [] } ∧ Below wr.heap.size wr W ∧ (D 0 → u33 = .agg (ints .u64 (W2 Y))) ∧ (D 1 → u34 = .pointer (some ⟨g, 0, none⟩)) ∧ (D 2 → u35 = .int .u8 n1) ∧ (D 3 → u36 = .pointer (some ⟨g, 0, none⟩)) ∧ (D 4 → u37 = .pointer (some ⟨g, 0, none⟩)) ∧ (D 5 → u38 = .pointer (some ⟨g, 2 * n1, none⟩)) ∧ (D 6 → u39 = .agg (ints .u64 (W2 V))) ∧ (D 7 → u40 = .agg (ints .u64 (W2 (Y ^^^ 1 * V))))) ?_ ?_ ?_
              · exact ⟨_, _, _, _, _, _, _, _, _, _, _, _, rfl, ⟨rfl, rfl, rfl, Nat.le_refl _, fun _ _ => rfl⟩, (fun h => h.elim), (fun h => h.elim), (fun h => h.elim), (fun h => h.elim), (fun h => h.elim), (fun h => h.elim), (fun h => h.elim), (fun h => h.elim)⟩
              · intro i o hilt hi D a W hI hnD hall
                obtain ⟨u30, u31, u32, u33, u34, u35, u36, u37, u38, u39, u40, u41, rfl, hW, f0, f1, f2, f3, f4, f5, f6, f7⟩ := hI
                rcases i with _ | _ | _ | _ | _ | _ | _ | _ | i
                · simp only [Nat.zero_add, Nat.reduceAdd, List.getElem?_toArray, List.getElem?_cons_succ, List.getElem?_cons_zero, Option.some.injEq] at hi
                  subst hi
                  refine wpOp_load rfl rfl rfl rfl (E2.below' hW) Try.ar38 rfl ?_
                  exact ⟨_, _, _, _, _, _, _, _, _, _, _, _, rfl, hW, (fun _ => rfl), (fun h => f1 (rl h)), (fun h => f2 (rl h)), (fun h => f3 (rl h)), (fun h => f4 (rl h)), (fun h => f5 (rl h)), (fun h => f6 (rl h)), (fun h => f7 (rl h))⟩
                · simp only [Nat.zero_add, Nat.reduceAdd, List.getElem?_toArray, List.getElem?_cons_succ, List.getElem?_cons_zero, Option.some.injEq] at hi
                  subst hi
                  refine wpOp_value (v := .pointer (some ⟨g, 0, none⟩)) rfl rfl rfl ?_
                  exact ⟨_, _, _, _, _, _, _, _, _, _, _, _, rfl, hW, (fun h => f0 (rl h)), (fun _ => rfl), (fun h => f2 (rl h)), (fun h => f3 (rl h)), (fun h => f4 (rl h)), (fun h => f5 (rl h)), (fun h => f6 (rl h)), (fun h => f7 (rl h))⟩
                · simp only [Nat.zero_add, Nat.reduceAdd, List.getElem?_toArray, List.getElem?_cons_succ, List.getElem?_cons_zero, Option.some.injEq] at hi
                  subst hi
                  refine wpOp_value (v := .int .u8 n1) rfl rfl rfl ?_
                  exact ⟨_, _, _, _, _, _, _, _, _, _, _, _, rfl, hW, (fun h => f0 (rl h)), (fun h => f1 (rl h)), (fun _ => rfl), (fun h => f3 (rl h)), (fun h => f4 (rl h)), (fun h => f5 (rl h)), (fun h => f6 (rl h)), (fun h => f7 (rl h))⟩
                · simp only [Nat.zero_add, Nat.reduceAdd, List.getElem?_toArray, List.getElem?_cons_succ, List.getElem?_cons_zero, Option.some.injEq] at hi
                  subst hi
                  obtain rfl := f1 (pre_of hall 1 rfl)
                  refine wpOp_value (v := .pointer (some ⟨g, 0, none⟩)) rfl rfl (by kernel_rfl) ?_
                  exact ⟨_, _, _, _, _, _, _, _, _, _, _, _, rfl, hW, (fun h => f0 (rl h)), (fun h => f1 (rl h)), (fun h => f2 (rl h)), (fun _ => rfl), (fun h => f4 (rl h)), (fun h => f5 (rl h)), (fun h => f6 (rl h)), (fun h => f7 (rl h))⟩
                · simp only [Nat.zero_add, Nat.reduceAdd, List.getElem?_toArray, List.getElem?_cons_succ, List.getElem?_cons_zero, Option.some.injEq] at hi
                  subst hi
                  obtain rfl := f3 (pre_of hall 3 rfl)
                  refine wpOp_value (v := .pointer (some ⟨g, 0, none⟩)) rfl rfl (by kernel_rfl) ?_
                  exact ⟨_, _, _, _, _, _, _, _, _, _, _, _, rfl, hW, (fun h => f0 (rl h)), (fun h => f1 (rl h)), (fun h => f2 (rl h)), (fun h => f3 (rl h)), (fun _ => rfl), (fun h => f5 (rl h)), (fun h => f6 (rl h)), (fun h => f7 (rl h))⟩
                · simp only [Nat.zero_add, Nat.reduceAdd, List.getElem?_toArray, List.getElem?_cons_succ, List.getElem?_cons_zero, Option.some.injEq] at hi
                  subst hi
                  obtain rfl := f4 (pre_of hall 4 rfl)
                  obtain rfl := f2 (pre_of hall 2 rfl)
                  refine wpOp_value (v := .pointer (some ⟨g, 2 * n1, none⟩)) rfl rfl (run_idx rfl rfl rfl hn1) ?_
                  exact ⟨_, _, _, _, _, _, _, _, _, _, _, _, rfl, hW, (fun h => f0 (rl h)), (fun h => f1 (rl h)), (fun h => f2 (rl h)), (fun h => f3 (rl h)), (fun h => f4 (rl h)), (fun _ => rfl), (fun h => f6 (rl h)), (fun h => f7 (rl h))⟩
                · simp only [Nat.zero_add, Nat.reduceAdd, List.getElem?_toArray, List.getElem?_cons_succ, List.getElem?_cons_zero, Option.some.injEq] at hi
                  subst hi
                  obtain rfl := f5 (pre_of hall 5 rfl)
                  refine wpOp_value (v := .agg (ints .u64 (W2 V))) rfl rfl (run_wideT rfl rfl ((hW.cell (p := ⟨_, _, none⟩) lt1).trans c0) ((hW.cell (p := ⟨_, _, none⟩) lt1).trans c1)) ?_
                  exact ⟨_, _, _, _, _, _, _, _, _, _, _, _, rfl, hW, (fun h => f0 (rl h)), (fun h => f1 (rl h)), (fun h => f2 (rl h)), (fun h => f3 (rl h)), (fun h => f4 (rl h)), (fun h => f5 (rl h)), (fun _ => rfl), (fun h => f7 (rl h))⟩
                · simp only [Nat.zero_add, Nat.reduceAdd, List.getElem?_toArray, List.getElem?_cons_succ, List.getElem?_cons_zero, Option.some.injEq] at hi
                  subst hi
                  obtain rfl := f0 (pre_of hall 0 rfl)
                  obtain rfl := f6 (pre_of hall 6 rfl)
                  refine wpOp_call 27 rfl rfl rfl Try.func27 (by kernel_rfl) (by kernel_rfl) (plus10_c Y V 1 hY hVl (Nat.le_refl 1) W) ?_
                  intro W' hW'
                  exact ⟨_, _, _, _, _, _, _, _, _, _, _, _, rfl, bCall hW hW' hW.size, (fun h => f0 (rl h)), (fun h => f1 (rl h)), (fun h => f2 (rl h)), (fun h => f3 (rl h)), (fun h => f4 (rl h)), (fun h => f5 (rl h)), (fun h => f6 (rl h)), (fun _ => rfl)⟩
                · exfalso; omega
              · rintro D a W ⟨u30, u31, u32, u33, u34, u35, u36, u37, u38, u39, u40, u41, rfl, hW, f0, f1, f2, f3, f4, f5, f6, f7⟩ hall
                obtain rfl := f0 (hall 0 (by decide))
                obtain rfl := f1 (hall 1 (by decide))
                obtain rfl := f2 (hall 2 (by decide))
                obtain rfl := f3 (hall 3 (by decide))
                obtain rfl := f4 (hall 4 (by decide))
                obtain rfl := f5 (hall 5 (by decide))
                obtain rfl := f6 (hall 6 (by decide))
                obtain rfl := f7 (hall 7 (by decide))
                clear f0 f1 f2 f3 f4 f5 f6 f7 hall
                rw [HK.out]
                have F0 := (E0.below' hW).rowFar (show w.heap.size ≠ w.heap.size + 2 by omega) (ints .u64 (W2 (mul R1 X (q / 16))))
                have F1 := (E1.below' hW).rowFar (show w.heap.size + 1 ≠ w.heap.size + 2 by omega) (ints .u64 (W2 (mul R1 X (q / 16))))
                have F2' := E2.below' hW
                have F2 := F2'.row (ints .u64 (W2 (mul R1 X (q / 16))))
                have hbel7 := bSetRow (bCall hbel5 hW hbel5.size) (show w.heap.size ≤ w.heap.size + 2 by omega) (ints .u64 (W2 (mul R1 X (q / 16))))
                refine wpOp_store rfl rfl rfl rfl rfl F2' rfl Try.ar38 rfl ?_
                clear E0 E1 E2 hbel5 hW c0 c1
                generalize W.setRow (w.heap.size + 2) (ints .u64 (W2 (mul R1 X (q / 16)))) = w9 at *
                go_wp2_with (fail)
                exact ⟨⟨1, by omega, rfl, F0, F1, F2, hbel7⟩, by simp [intOf]⟩
        · rw [show nibQ q 1 = q / 16 from rfl] at D2
          have hS := Gf.mul_lt Gf.R1_lt hX (q / 16)
          have HK := Hk2
          generalize mul R1 X (q / 16) = S at *
          go_wp2_with (refine wpList_run (v := .int .u8 n2) rfl rfl ?h1 ?_; (case h1 => kernel_rfl); (try simp only [Act.put, List.setIfInBounds_toArray, List.set_cons_zero, List.set_cons_succ, World.size_alloc, setRow_size, Nat.add_assoc, Nat.reduceAdd]))
          go_loopw [28] (fun t wr => ∃ m : Nat, m ≤ 4 ∧ t = .int .i64 m ∧ Blk wr w.heap.size 22 (ints .u8 as_) ∧ Blk wr (w.heap.size + 1) 22 (ints .u8 (zeros 16)) ∧ Blk wr (w.heap.size + 2) 38 (ints .u64 (W2 (upN R1 m S))) ∧ Below w.heap.size w wr) (fun t wr => 4 - (intOf t).toNat)
          case atStart => exact ⟨0, by omega, rfl, D0, D1', D2, hbel4⟩
          case round =>
            obtain ⟨m, hm, rfl, E0, E1, E2, hbel5⟩ := hrel
            have hY := Gf.upN_lt Gf.R1_lt hS m
            by_cases hm4 : m < 4
            · have hux : upN R1 (m + 1) S = up R1 (upN R1 m S) := rfl
              have HU := Lib.hid hux
              clear hux HK
              generalize upN R1 m S = Y at *
              go_wp2_with (refine wpList_load_ints rfl 38 _ rfl (w.heap.size + 2) rfl E2 Try.ar38 rfl ?_; (try simp only [Act.put, List.setIfInBounds_toArray, List.set_cons_zero, List.set_cons_succ, World.size_alloc, setRow_size, Nat.add_assoc, Nat.reduceAdd]))
              refine (up_c Y hY _).mono ?_
              rintro e w4 ⟨rfl, hb4⟩
              rw [← HU.out]
              have F0 := (E0.below' hb4).rowFar (show w.heap.size ≠ w.heap.size + 2 by omega) (ints .u64 (W2 (upN R1 (m + 1) S)))
              have F1 := (E1.below' hb4).rowFar (show w.heap.size + 1 ≠ w.heap.size + 2 by omega) (ints .u64 (W2 (upN R1 (m + 1) S)))
              have F2' := E2.below' hb4
              have F2 := F2'.row (ints .u64 (W2 (upN R1 (m + 1) S)))
              have hbel7 := bSetRow (bCall hbel5 hb4 hbel5.size) (show w.heap.size ≤ w.heap.size + 2 by omega) (ints .u64 (W2 (upN R1 (m + 1) S)))
              clear E0 E1 E2 hbel5 hb4
              go_wp2_with (refine wpList_store_ints rfl 38 _ _ rfl (w.heap.size + 2) rfl rfl F2' rfl Try.ar38 rfl ?_; (try simp only [Act.put, List.setIfInBounds_toArray, List.set_cons_zero, List.set_cons_succ, World.size_alloc, setRow_size, Nat.add_assoc, Nat.reduceAdd]))
              refine ⟨⟨_, _, _, _, _, ⟨m + 1, by omega, by go_num, F0, F1, F2, hbel7⟩, rfl⟩, by simp [intOf] <;> omega⟩
            · obtain rfl : m = 4 := by omega
              have T := hT.below hbel5 hg
              have lD := tabL_len X 16
              have hV : tabV X 16 n2 = mul R1 X n2 := by unfold tabV; rw [if_pos (by omega)]
              have hVl := Gf.mul_lt Gf.R1_lt hX n2
              have c0 : wr.cell? ⟨g, 2 * n2, none⟩ = some (.int .u64 ((mul R1 X n2 % 18446744073709551616 : Nat) : Int)) := by
                have := T.int (i := 2 * n2) (by rw [lD]; omega)
                rw [tabL_lo X 16 (by omega), hV] at this
                exact this
              have c1 : wr.cell? ⟨g, 2 * n2 + 1, none⟩ = some (.int .u64 ((mul R1 X n2 / 18446744073709551616 : Nat) : Int)) := by
                have := T.int (i := 2 * n2 + 1) (by rw [lD]; omega)
                rw [tabL_hi X 16 (by omega), hV] at this
                exact this
              have lt1 := T.lt
              clear hV T
              generalize mul R1 X n2 = V at *
              generalize upN R1 4 S = Y at *
              go_wp2_with (fail)
              refine wp_region_last2 8 (by kernel_rfl) (by kernel_rfl) (by kernel_rfl) (by kernel_rfl) (fun D a W => ∃ u30 u31 u32 u33 u34 u35 u36 u37 u38 u39 u40 u41 : Value, a = { tmps := #[.pointer (some ⟨g, 0, none⟩), .agg (ints .u8 as_), undef, .pointer (some ⟨w.heap.size, 0, none⟩), .pointer (some ⟨w.heap.size + 1, 0, none⟩), .pointer (some ⟨w.heap.size + 2, 0, none⟩), .int .i64 i, .int .u8 b, undef, .int .u8 n2, .pointer (some ⟨g, 0, none⟩), .bool false, undef, .int .i64 i, .bool true, .int .i64 i, .int .i64 i, .int .i64 p, .pointer (some ⟨w.heap.size, p, none⟩), .int .u8 b, .int .u8 b, .int .u8 n1, .int .u8 b, .int .u8 n2, .agg #[.int .u8 n1, .int .u8 n2], .int .i64 ((1 : Nat) : Int), .bool true, .int .u8 n2, .int .i64 ((4 : Nat) : Int), .bool false, u30, u31, u32, u33, u34, u35, u36, u37, u38, u39, u40, u41, u42, undef, undef], defers := [] } ∧ Below wr.heap.size wr W ∧ (D 0 → u33 = .agg (ints .u64 (W2 Y))) ∧ (D 1 → u34 = .pointer (some ⟨g, 0, none⟩)) ∧ (D 2 → u35 = .int .u8 n2) ∧ (D 3 → u36 = .pointer (some ⟨g, 0, none⟩)) ∧ (D 4 → u37 = .pointer (some ⟨g, 0, none⟩)) ∧ (D 5 → u38 = .pointer (some ⟨g, 2 * n2, none⟩)) ∧ (D 6 → u39 = .agg (ints .u64 (W2 V))) ∧ (D 7 → u40 = .agg (ints .u64 (W2 (Y ^^^ 1 * V))))) ?_ ?_ ?_
              · exact ⟨_, _, _, _, _, _, _, _, _, _, _, _, rfl, ⟨rfl, rfl, rfl, Nat.le_refl _, fun _ _ => rfl⟩, (fun h => h.elim), (fun h => h.elim), (fun h => h.elim), (fun h => h.elim), (fun h => h.elim), (fun h => h.elim), (fun h => h.elim), (fun h => h.elim)⟩
              · intro i o hilt hi D a W hI hnD hall
                obtain ⟨u30, u31, u32, u33, u34, u35, u36, u37, u38, u39, u40, u41, rfl, hW, f0, f1, f2, f3, f4, f5, f6, f7⟩ := hI
                rcases i with _ | _ | _ | _ | _ | _ | _ | _ | i
                · simp only [Nat.zero_add, Nat.reduceAdd, List.getElem?_toArray, List.getElem?_cons_succ, List.getElem?_cons_zero, Option.some.injEq] at hi
                  subst hi
                  refine wpOp_load rfl rfl rfl rfl (E2.below' hW) Try.ar38 rfl ?_
                  exact ⟨_, _, _, _, _, _, _, _, _, _, _, _, rfl, hW, (fun _ => rfl), (fun h => f1 (rl h)), (fun h => f2 (rl h)), (fun h => f3 (rl h)), (fun h => f4 (rl h)), (fun h => f5 (rl h)), (fun h => f6 (rl h)), (fun h => f7 (rl h))⟩
                · simp only [Nat.zero_add, Nat.reduceAdd, List.getElem?_toArray, List.getElem?_cons_succ, List.getElem?_cons_zero, Option.some.injEq] at hi
                  subst hi
                  refine wpOp_value (v := .pointer (some ⟨g, 0, none⟩)) rfl rfl rfl ?_
                  exact ⟨_, _, _, _, _, _, _, _, _, _, _, _, rfl, hW, (fun h => f0 (rl h)), (fun _ => rfl), (fun h => f2 (rl h)), (fun h => f3 (rl h)), (fun h => f4 (rl h)), (fun h => f5 (rl h)), (fun h => f6 (rl h)), (fun h => f7 (rl h))⟩
                · simp only [Nat.zero_add, Nat.reduceAdd, List.getElem?_toArray, List.getElem?_cons_succ, List.getElem?_cons_zero, Option.some.injEq] at hi
                  subst hi
                  refine wpOp_value (v := .int .u8 n2) rfl rfl rfl ?_
                  exact ⟨_, _, _, _, _, _, _, _, _, _, _, _, rfl, hW, (fun h => f0 (rl h)), (fun h => f1 (rl h)), (fun _ => rfl), (fun h => f3 (rl h)), (fun h => f4 (rl h)), (fun h => f5 (rl h)), (fun h => f6 (rl h)), (fun h => f7 (rl h))⟩
                · simp only [Nat.zero_add, Nat.reduceAdd, List.getElem?_toArray, List.getElem?_cons_succ, List.getElem?_cons_zero, Option.some.injEq] at hi
                  subst hi
                  obtain rfl := f1 (pre_of hall 1 rfl)
                  refine wpOp_value (v := .pointer (some ⟨g, 0, none⟩)) rfl rfl (by kernel_rfl) ?_
                  exact ⟨_, _, _, _, _, _, _, _, _, _, _, _, rfl, hW, (fun h => f0 (rl h)), (fun h => f1 (rl h)), (fun h => f2 (rl h)), (fun _ => rfl), (fun h => f4 (rl h)), (fun h => f5 (rl h)), (fun h => f6 (rl h)), (fun h => f7 (rl h))⟩
                · simp only [Nat.zero_add, Nat.reduceAdd, List.getElem?_toArray, List.getElem?_cons_succ, List.getElem?_cons_zero, Option.some.injEq] at hi
                  subst hi
                  obtain rfl := f3 (pre_of hall 3 rfl)
                  refine wpOp_value (v := .pointer (some ⟨g, 0, none⟩)) rfl rfl (by kernel_rfl) ?_
                  exact ⟨_, _, _, _, _, _, _, _, _, _, _, _, rfl, hW, (fun h => f0 (rl h)), (fun h => f1 (rl h)), (fun h => f2 (rl h)), (fun h => f3 (rl h)), (fun _ => rfl), (fun h => f5 (rl h)), (fun h => f6 (rl h)), (fun h => f7 (rl h))⟩
                · simp only [Nat.zero_add, Nat.reduceAdd, List.getElem?_toArray, List.getElem?_cons_succ, List.getElem?_cons_zero, Option.some.injEq] at hi
                  subst hi
                  obtain rfl := f4 (pre_of hall 4 rfl)
                  obtain rfl := f2 (pre_of hall 2 rfl)
                  refine wpOp_value (v := .pointer (some ⟨g, 2 * n2, none⟩)) rfl rfl (run_idx rfl rfl rfl hn2) ?_
                  exact ⟨_, _, _, _, _, _, _, _, _, _, _, _, rfl, hW, (fun h => f0 (rl h)), (fun h => f1 (rl h)), (fun h => f2 (rl h)), (fun h => f3 (rl h)), (fun h => f4 (rl h)), (fun _ => rfl), (fun h => f6 (rl h)), (fun h => f7 (rl h))⟩
                · simp only [Nat.zero_add, Nat.reduceAdd, List.getElem?_toArray, List.getElem?_cons_succ, List.getElem?_cons_zero, Option.some.injEq] at hi
                  subst hi
                  obtain rfl := f5 (pre_of hall 5 rfl)
                  refine wpOp_value (v := .agg (ints .u64 (W2 V))) rfl rfl (run_wideT rfl rfl ((hW.cell (p := ⟨_, _, none⟩) lt1).trans c0) ((hW.cell (p := ⟨_, _, none⟩) lt1).trans c1)) ?_
                  exact ⟨_, _, _, _, _, _, _, _, _, _, _, _, rfl, hW, (fun h => f0 (rl h)), (fun h => f1 (rl h)), (fun h => f2 (rl h)), (fun h => f3 (rl h)), (fun h => f4 (rl h)), (fun h => f5 (rl h)), (fun _ => rfl), (fun h => f7 (rl h))⟩
                · simp only [Nat.zero_add, Nat.reduceAdd, List.getElem?_toArray, List.getElem?_cons_succ, List.getElem?_cons_zero, Option.some.injEq] at hi
                  subst hi
                  obtain rfl := f0 (pre_of hall 0 rfl)
                  obtain rfl := f6 (pre_of hall 6 rfl)
                  refine wpOp_call 27 rfl rfl rfl Try.func27 (by kernel_rfl) (by kernel_rfl) (plus10_c Y V 1 hY hVl (Nat.le_refl 1) W) ?_
                  intro W' hW'
                  exact ⟨_, _, _, _, _, _, _, _, _, _, _, _, rfl, bCall hW hW' hW.size, (fun h => f0 (rl h)), (fun h => f1 (rl h)), (fun h => f2 (rl h)), (fun h => f3 (rl h)), (fun h => f4 (rl h)), (fun h => f5 (rl h)), (fun h => f6 (rl h)), (fun _ => rfl)⟩
                · exfalso; omega
              · rintro D a W ⟨u30, u31, u32, u33, u34, u35, u36, u37, u38, u39, u40, u41, rfl, hW, f0, f1, f2, f3, f4, f5, f6, f7⟩ hall
                obtain rfl := f0 (hall 0 (by decide))
                obtain rfl := f1 (hall 1 (by decide))
                obtain rfl := f2 (hall 2 (by decide))
                obtain rfl := f3 (hall 3 (by decide))
                obtain rfl := f4 (hall 4 (by decide))
                obtain rfl := f5 (hall 5 (by decide))
                obtain rfl := f6 (hall 6 (by decide))
                obtain rfl := f7 (hall 7 (by decide))
                clear f0 f1 f2 f3 f4 f5 f6 f7 hall
                rw [HK.out]
                have F0 := (E0.below' hW).rowFar (show w.heap.size ≠ w.heap.size + 2 by omega) (ints .u64 (W2 (mul R1 X (q))))
                have F1 := (E1.below' hW).rowFar (show w.heap.size + 1 ≠ w.heap.size + 2 by omega) (ints .u64 (W2 (mul R1 X (q))))
                have F2' := E2.below' hW
                have F2 := F2'.row (ints .u64 (W2 (mul R1 X (q))))
                have hbel7 := bSetRow (bCall hbel5 hW hbel5.size) (show w.heap.size ≤ w.heap.size + 2 by omega) (ints .u64 (W2 (mul R1 X (q))))
                refine wpOp_store rfl rfl rfl rfl rfl F2' rfl Try.ar38 rfl ?_
                clear E0 E1 E2 hbel5 hW c0 c1
                generalize W.setRow (w.heap.size + 2) (ints .u64 (W2 (mul R1 X (q)))) = w9 at *
                go_wp2_with (fail)
                exact ⟨⟨2, by omega, rfl, F0, F1, F2, hbel7⟩, by simp [intOf]⟩
        · rw [show nibQ q 2 = q from rfl] at D2
          go_wp2_with (fail)
          exact ⟨⟨i + 1, by omega, by go_num, D0, D1', by rw [Hnext.out, HQ.out]; exact D2, hbel4⟩, by simp [intOf] <;> omega⟩
    · obtain rfl : i = 16 := by omega
      rw [show num as_ / 256 ^ (16 - 16) = num as_ by rw [Nat.sub_self, Nat.pow_zero, Nat.div_one]] at C2
      have hM := Gf.mul_lt Gf.R1_lt hX (num as_)
      have hel := elem_len (mul R1 X (num as_))
      go_wp2_with (refine wpList_load_ints rfl 38 _ rfl (w.heap.size + 2) rfl C2 Try.ar38 rfl ?_; (try simp only [Act.put, List.setIfInBounds_toArray, List.set_cons_zero, List.set_cons_succ, World.size_alloc, setRow_size, Nat.add_assoc, Nat.reduceAdd]))
      refine (bytesN_c _ hM _).mono ?_
      rintro e w4 ⟨rfl, hb4⟩
      have E1 := C1.below' hb4
      have hbel5 := bCall hbelr hb4 hbelr.size
      go_wp2_with (refine wpList_store_ints rfl 22 _ _ rfl (w.heap.size + 1) rfl rfl E1 (zeros_size _ _) Try.ar22 hel ?_; (try simp only [Act.put, List.setIfInBounds_toArray, List.set_cons_zero, List.set_cons_succ, World.size_alloc, setRow_size, Nat.add_assoc, Nat.reduceAdd]))
      exact ret_ints rfl rfl (E1.row _) Try.ar22 hel ⟨rfl, bSetRow hbel5 (by omega) _⟩
end Go.Proofs.Ytehhipanbjhffaa
