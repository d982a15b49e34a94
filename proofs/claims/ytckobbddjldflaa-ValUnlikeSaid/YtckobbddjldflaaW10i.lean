/- ring.Make. No condition but that bytes are below 256. Printed by wip/mk10i.py. -/
import Derived.Test.YtckobbddjldflaaWA
import Derived.Test.YtckobbddjldflaaKA
namespace Go.Proofs.Ytckobbddjldflaa
set_option linter.unusedSimpArgs false
set_option linter.unusedVariables false
set_option linter.unusedSectionVars false
set_option linter.unusedVariables false
open Go.RowKit
open Gf (W2 up down upN downN mulS mul dot dotS R1 D1)
theorem wide_agg (v : Nat) : #[Value.int .u64 ((v % 18446744073709551616 : Nat) : Int), Value.int .u64 ((v / 18446744073709551616 : Nat) : Int)] = ints .u64 (W2 v) := rfl
theorem W2_one : ints .u64 (W2 1) = #[.int .u64 1, .int .u64 0] := by kernel_rfl
theorem zeros32_c : ints .u64 (zeros 32) = #[.int .u64 0, .int .u64 0, .int .u64 0, .int .u64 0, .int .u64 0, .int .u64 0, .int .u64 0, .int .u64 0, .int .u64 0, .int .u64 0, .int .u64 0, .int .u64 0, .int .u64 0, .int .u64 0, .int .u64 0, .int .u64 0, .int .u64 0, .int .u64 0, .int .u64 0, .int .u64 0, .int .u64 0, .int .u64 0, .int .u64 0, .int .u64 0, .int .u64 0, .int .u64 0, .int .u64 0, .int .u64 0, .int .u64 0, .int .u64 0, .int .u64 0, .int .u64 0] := by kernel_rfl
/-- A number of two words out of the middle of a row. -/
theorem run_wide {a : Act} {o : Oper} {W : World} {x : Operand} {g off v : Nat} (ho : o.op = .load 54 x) (hx : a.eval x = .pointer (some ⟨g, off, none⟩))
    (c0 : W.cell? ⟨g, off, none⟩ = some (.int .u64 ((v % 18446744073709551616 : Nat) : Int))) (c1 : W.cell? ⟨g, off + 1, none⟩ = some (.int .u64 ((v / 18446744073709551616 : Nat) : Int))) :
    (execOp a.eval o).run Try.prog W = .ok (.value (.agg (ints .u64 (W2 v)))) W := by
  obtain ⟨⟨d, h1, hd⟩, h2⟩ := Try.ar54
  have hr : W.rangeAt g off [Value.int .u64 ((v % 18446744073709551616 : Nat) : Int), Value.int .u64 ((v / 18446744073709551616 : Nat) : Int)] := fun j u hj => by
    rcases j with _ | _ | j
    · simp only [List.getElem?_cons_zero, Option.some.injEq] at hj; subst hj; exact c0
    · simp only [List.getElem?_cons_succ, List.getElem?_cons_zero, Option.some.injEq, Nat.zero_add] at hj; subst hj; exact c1
    · simp at hj
  unfold execOp
  simp only [ho, hx, Instr.loadAt, Instr.sureAddr, Sem.run_bind, Sem.run_pure, Result.andThen_ok, run_loadVar_mid W g off _ _ d hr h1 (by cases d <;> first | rfl | cases hd) h2]
  rfl
theorem wpOp_store_wide {Q : Exit → Act → World → Prop} {K : Act → World → Prop} {ops : Array Oper} {i : Nat} {o : Oper} {a : Act} {W : World} {x y : Operand} {g off v t : Nat} {xs : List Nat} (hi : ops[i]? = some o) (hw : Region.wanted o (yielded ops a.tmps) = true) (ho : o.op = .store 54 x y)
    (hx : a.eval x = .pointer (some ⟨g, off, none⟩)) (hy : a.eval y = .agg (ints .u64 (W2 v))) (hb : Blk W g t (ints .u64 xs)) (hoff : off + 1 < xs.length)
    (h : K (a.put o.dst undef) ((W.setCell ⟨g, off, none⟩ (.int .u64 ((v % 18446744073709551616 : Nat) : Int))).setCell ⟨g, off + 1, none⟩ (.int .u64 ((v / 18446744073709551616 : Nat) : Int)))) : wpOp Try.prog ops Q i K a W := by
  unfold wpOp
  simp only [hi, hw, if_true]
  refine .inl (wp_store_mid 54 x y ho g off (ints .u64 (W2 v)) hx hy (fun j hj => ?_) Try.ar54.2 (ints_one _ _) h)
  have hj2 : j < 2 := hj
  exact ⟨by rw [hb.int (i := off + j) (by omega)]; rfl, hb.frozen _⟩
set_option maxRecDepth 100000 in
set_option maxHeartbeats 40000000 in
theorem make_c (hs : List Nat) (hl : hs.length = 16) (hb : ∀ x ∈ hs, x < 256) (w : World) :
    Calls Try.prog 31 #[.agg (ints .u8 hs)] w fun e w' => e = .returned (.pointer (some ⟨w.heap.size + 1, 0, none⟩)) ∧ Below w.heap.size w w' ∧ Blk w' (w.heap.size + 1) 70 (ints .u64 (tabL (dot R1 D1 (num hs) 1) 16)) := by
  have hx := num_lt hl hb
  have hX := Gf.dot_lt Gf.pair1 hx 1
  have B0 := (Blk.new w 22 (ints .u8 hs)).alloc (.cells (ints .u64 (zeros 32)) 70)
  have B1 := Blk.new (w.alloc (.cells (ints .u8 hs) 22)) 70 (ints .u64 (zeros 32))
  rw [World.size_alloc] at B1
  have hbel := ((Below.refl w.heap.size w).alloc (Nat.le_refl _) (.cells (ints .u8 hs) 22)).alloc (by simp) (.cells (ints .u64 (zeros 32)) 70)
  have HZ := Lib.hid zeros32_c
  go_enter Try.func31, Try.ntmps31
  go_wp2_with (fail)
  rw [← HZ.out]
  generalize ((w.alloc (.cells (ints .u8 hs) 22)).alloc (.cells (ints .u64 (zeros 32)) 70)) = w0 at *
  refine (loadN_c (some ⟨w.heap.size, 0, none⟩) 16 16 hs hb hl rfl _ (Sl.blk B0)).mono ?_
  rintro e w1 ⟨rfl, hb1⟩
  have C1 := B1.below' hb1
  have hbel1 := bCall hbel hb1 hbel.size
  clear B0 B1 hbel hb1
  go_wp2_with (fail)
  rw [← W2_one]
  refine (dotw_c (num hs) 1 hx (by decide) _).mono ?_
  rintro e w2 ⟨rfl, hb2⟩
  have D1' := C1.below' hb2
  have hbel2 := bCall hbel1 hb2 hbel1.size
  clear C1 hbel1 hb2
  generalize hXd : dot R1 D1 (num hs) 1 = X at *
  have HX := Lib.hid hXd
  clear hXd
  generalize hxd : num hs = x at *
  have Hxd := Lib.hid hxd
  clear hxd
  have l1 := D1'.lt
  have E1 := (D1'.alloc (.cells (ints .u64 (zeros 2)) 54)).rowFar (show w.heap.size + 1 ≠ w2.heap.size by omega) (ints .u64 (W2 X))
  have Z4 := Blk.new w2 54 (ints .u64 (zeros 2))
  have E4 := Z4.row (ints .u64 (W2 X))
  have hbel3 := bSetRow (hbel2.alloc hbel2.size (.cells (ints .u64 (zeros 2)) 54)) hbel2.size (ints .u64 (W2 X))
  go_wp2_with (first | (refine wpList_alloc_ints rfl 54 rfl Try.z54 ?_; (try simp only [Act.put, List.setIfInBounds_toArray, List.set_cons_zero, List.set_cons_succ, World.size_alloc, setRow_size, Nat.add_assoc, Nat.reduceAdd])) | (refine wpList_store_ints rfl 54 _ _ rfl w2.heap.size rfl rfl Z4 rfl Try.ar54 rfl ?_; (try simp only [Act.put, List.setIfInBounds_toArray, List.set_cons_zero, List.set_cons_succ, World.size_alloc, setRow_size, Nat.add_assoc, Nat.reduceAdd])))
  clear D1' Z4 hbel2
  generalize hgd : w2.heap.size = g4 at *
  have hg4 : w.heap.size + 1 ≠ g4 := by omega
  have hg4b : w.heap.size ≤ g4 := by omega
  clear hgd l1
  generalize (w2.alloc (.cells (ints .u64 (zeros 2)) 54)).setRow g4 (ints .u64 (W2 X)) = w3 at *
  go_loopw [13] (fun t wr => ∃ k : Nat, k ≤ 4 ∧ t = .int .i64 k ∧ Blk wr (w.heap.size + 1) 70 (ints .u64 (tabL X (2 ^ k))) ∧ Blk wr g4 54 (ints .u64 (W2 (upN R1 k X))) ∧ Below w.heap.size w wr) (fun t wr => 4 - (intOf t).toNat)
  case atStart => exact ⟨0, by omega, rfl, by rw [show tabL X (2 ^ 0) = zeros 32 from tab_start X]; exact E1, E4, hbel3⟩
  case round =>
    rename_i hrel
    obtain ⟨k, hk, rfl, C1, C4, hbelr⟩ := hrel
    clear E1 E4 hbel3
    have hk5 : k = 0 ∨ k = 1 ∨ k = 2 ∨ k = 3 ∨ k = 4 := by omega
    rcases hk5 with rfl | rfl | rfl | rfl | rfl
    · have hY := Gf.upN_lt Gf.R1_lt hX 0
      have hup : upN R1 (0 + 1) X = up R1 (upN R1 0 X) := rfl
      have HU := Lib.hid hup
      clear hup
      have hnx := fun i (hi : i < 1) => tab_next X 0 i (by omega) hi
      generalize hYd : upN R1 0 X = Y at *
      clear hYd
      simp only [Nat.reducePow] at C1 hnx
      go_wp2_with (fail)
      go_loopw [18] (fun t wr => ∃ i : Nat, i ≤ 1 ∧ t = .int .i64 i ∧ Blk wr (w.heap.size + 1) 70 (ints .u64 (tabL X (1 + i))) ∧ Blk wr g4 54 (ints .u64 (W2 Y)) ∧ Below w.heap.size w wr) (fun t wr => 1 - (intOf t).toNat)
      case atStart => exact ⟨0, by omega, rfl, C1, C4, hbelr⟩
      case round =>
        obtain ⟨i, hi, rfl, D1, D4, hbel4⟩ := hrel
        clear C1 C4 hbelr
        have hi5 : i = 0 ∨ i = 1 := by omega
        rcases hi5 with rfl | rfl
        · have hv := tabV_lt X 1 0 hX
          have hn := hnx 0 (by omega)
          simp only [Nat.reduceAdd] at D1 hn
          have lD := tabL_len X 1
          have c0 : wr.cell? ⟨w.heap.size + 1, 0, none⟩ = some (.int .u64 ((tabV X 1 0 % 18446744073709551616 : Nat) : Int)) := by
            have := D1.int (i := 0) (by rw [lD]; omega)
            rw [show (tabL X 1).getD 0 0 = _ from tabL_lo X 1 (n := 0) (by omega)] at this
            exact this
          have c1 : wr.cell? ⟨w.heap.size + 1, 0 + 1, none⟩ = some (.int .u64 ((tabV X 1 0 / 18446744073709551616 : Nat) : Int)) := by
            have := D1.int (i := 0 + 1) (by rw [lD]; omega)
            rw [show (tabL X 1).getD (0 + 1) 0 = _ from tabL_hi X 1 (n := 0) (by omega)] at this
            exact this
          have lt1 := D1.lt
          generalize tabV X 1 0 = V at *
          go_wp2_with (fail)
          refine wp_region_last2 16 (by kernel_rfl) (by kernel_rfl) (by kernel_rfl) (by kernel_rfl) (fun D a W => ∃ u21 u22 u23 u24 u25 u26 u27 u28 u29 u30 u31 u32 u33 u34 u35 u36 u37 : Value, a = { tmps := #[.agg (ints .u8 hs), .pointer (some ⟨w.heap.size, 0, none⟩), .pointer none, .pointer (some ⟨w.heap.size + 1, 0, none⟩), .pointer (some ⟨g4, 0, none⟩), .int .i64 ((0 : Nat) : Int), .int .i64 ((0 : Nat) : Int), .agg (ints .u64 (zeros 32)), .pointer (some ⟨w.heap.size + 1, 0, none⟩), .slice (some ⟨w.heap.size, 0, none⟩) 16 16, .agg (ints .u64 (W2 x)), .agg (ints .u64 (W2 1)), .agg (ints .u64 (W2 X)), .int .i64 ((0 : Nat) : Int), .bool true, .int .i64 ((0 : Nat) : Int), .int .i64 ((0 : Nat) : Int), .int .i64 1, .int .i64 ((0 : Nat) : Int), .bool true, .int .i64 ((0 : Nat) : Int), u21, u22, u23, u24, u25, u26, u27, u28, u29, u30, u31, u32, u33, u34, u35, u36, u37, u38, u39, u40, undef], defers := [] } ∧ Below wr.heap.size wr W ∧ (D 0 → u21 = .pointer (some ⟨w.heap.size + 1, 0, none⟩)) ∧ (D 1 → u22 = .int .i64 ((0 : Nat) : Int)) ∧ (D 2 → u23 = .int .i64 1) ∧ (D 3 → u24 = .int .i64 ((0 : Nat) : Int)) ∧ (D 4 → u25 = .int .i64 1) ∧ (D 5 → u26 = .pointer (some ⟨w.heap.size + 1, 0, none⟩)) ∧ (D 6 → u27 = .int .i64 ((0 : Nat) : Int)) ∧ (D 7 → u28 = .pointer (some ⟨w.heap.size + 1, 0, none⟩)) ∧ (D 8 → u29 = .pointer (some ⟨w.heap.size + 1, 0, none⟩)) ∧ (D 9 → u30 = .pointer (some ⟨w.heap.size + 1, 0, none⟩)) ∧ (D 10 → u31 = .agg (ints .u64 (W2 V))) ∧ (D 11 → u32 = .agg (ints .u64 (W2 Y))) ∧ (D 12 → u33 = .agg (ints .u64 (W2 (V ^^^ 1 * Y)))) ∧ (D 13 → u34 = .pointer (some ⟨w.heap.size + 1, 0, none⟩)) ∧ (D 14 → u35 = .pointer (some ⟨w.heap.size + 1, 0, none⟩)) ∧ (D 15 → u36 = .pointer (some ⟨w.heap.size + 1, 2, none⟩))) ?_ ?_ ?_
          · exact ⟨_, _, _, _, _, _, _, _, _, _, _, _, _, _, _, _, _, rfl, ⟨rfl, rfl, rfl, Nat.le_refl _, fun _ _ => rfl⟩, (fun h => h.elim), (fun h => h.elim), (fun h => h.elim), (fun h => h.elim), (fun h => h.elim), (fun h => h.elim), (fun h => h.elim), (fun h => h.elim), (fun h => h.elim), (fun h => h.elim), (fun h => h.elim), (fun h => h.elim), (fun h => h.elim), (fun h => h.elim), (fun h => h.elim), (fun h => h.elim)⟩
          · intro i o hilt hi D a W hI hnD hall
            obtain ⟨u21, u22, u23, u24, u25, u26, u27, u28, u29, u30, u31, u32, u33, u34, u35, u36, u37, rfl, hW, f0, f1, f2, f3, f4, f5, f6, f7, f8, f9, f10, f11, f12, f13, f14, f15⟩ := hI
            rcases i with _ | _ | _ | _ | _ | _ | _ | _ | _ | _ | _ | _ | _ | _ | _ | _ | i
            · simp only [Nat.zero_add, Nat.reduceAdd, List.getElem?_toArray, List.getElem?_cons_succ, List.getElem?_cons_zero, Option.some.injEq] at hi
              subst hi
              refine wpOp_value (v := .pointer (some ⟨w.heap.size + 1, 0, none⟩)) rfl rfl rfl ?_
              exact ⟨_, _, _, _, _, _, _, _, _, _, _, _, _, _, _, _, _, rfl, hW, (fun _ => rfl), (fun h => f1 (rl h)), (fun h => f2 (rl h)), (fun h => f3 (rl h)), (fun h => f4 (rl h)), (fun h => f5 (rl h)), (fun h => f6 (rl h)), (fun h => f7 (rl h)), (fun h => f8 (rl h)), (fun h => f9 (rl h)), (fun h => f10 (rl h)), (fun h => f11 (rl h)), (fun h => f12 (rl h)), (fun h => f13 (rl h)), (fun h => f14 (rl h)), (fun h => f15 (rl h))⟩
            · simp only [Nat.zero_add, Nat.reduceAdd, List.getElem?_toArray, List.getElem?_cons_succ, List.getElem?_cons_zero, Option.some.injEq] at hi
              subst hi
              refine wpOp_value (v := .int .i64 ((0 : Nat) : Int)) rfl rfl rfl ?_
              exact ⟨_, _, _, _, _, _, _, _, _, _, _, _, _, _, _, _, _, rfl, hW, (fun h => f0 (rl h)), (fun _ => rfl), (fun h => f2 (rl h)), (fun h => f3 (rl h)), (fun h => f4 (rl h)), (fun h => f5 (rl h)), (fun h => f6 (rl h)), (fun h => f7 (rl h)), (fun h => f8 (rl h)), (fun h => f9 (rl h)), (fun h => f10 (rl h)), (fun h => f11 (rl h)), (fun h => f12 (rl h)), (fun h => f13 (rl h)), (fun h => f14 (rl h)), (fun h => f15 (rl h))⟩
            · simp only [Nat.zero_add, Nat.reduceAdd, List.getElem?_toArray, List.getElem?_cons_succ, List.getElem?_cons_zero, Option.some.injEq] at hi
              subst hi
              obtain rfl := f1 (pre_of hall 1 rfl)
              refine wpOp_value (v := .int .i64 1) rfl rfl (by kernel_rfl) ?_
              exact ⟨_, _, _, _, _, _, _, _, _, _, _, _, _, _, _, _, _, rfl, hW, (fun h => f0 (rl h)), (fun h => f1 (rl h)), (fun _ => rfl), (fun h => f3 (rl h)), (fun h => f4 (rl h)), (fun h => f5 (rl h)), (fun h => f6 (rl h)), (fun h => f7 (rl h)), (fun h => f8 (rl h)), (fun h => f9 (rl h)), (fun h => f10 (rl h)), (fun h => f11 (rl h)), (fun h => f12 (rl h)), (fun h => f13 (rl h)), (fun h => f14 (rl h)), (fun h => f15 (rl h))⟩
            · simp only [Nat.zero_add, Nat.reduceAdd, List.getElem?_toArray, List.getElem?_cons_succ, List.getElem?_cons_zero, Option.some.injEq] at hi
              subst hi
              refine wpOp_value (v := .int .i64 ((0 : Nat) : Int)) rfl rfl rfl ?_
              exact ⟨_, _, _, _, _, _, _, _, _, _, _, _, _, _, _, _, _, rfl, hW, (fun h => f0 (rl h)), (fun h => f1 (rl h)), (fun h => f2 (rl h)), (fun _ => rfl), (fun h => f4 (rl h)), (fun h => f5 (rl h)), (fun h => f6 (rl h)), (fun h => f7 (rl h)), (fun h => f8 (rl h)), (fun h => f9 (rl h)), (fun h => f10 (rl h)), (fun h => f11 (rl h)), (fun h => f12 (rl h)), (fun h => f13 (rl h)), (fun h => f14 (rl h)), (fun h => f15 (rl h))⟩
            · simp only [Nat.zero_add, Nat.reduceAdd, List.getElem?_toArray, List.getElem?_cons_succ, List.getElem?_cons_zero, Option.some.injEq] at hi
              subst hi
              obtain rfl := f2 (pre_of hall 2 rfl)
              obtain rfl := f3 (pre_of hall 3 rfl)
              refine wpOp_value (v := .int .i64 1) rfl rfl (by kernel_rfl) ?_
              exact ⟨_, _, _, _, _, _, _, _, _, _, _, _, _, _, _, _, _, rfl, hW, (fun h => f0 (rl h)), (fun h => f1 (rl h)), (fun h => f2 (rl h)), (fun h => f3 (rl h)), (fun _ => rfl), (fun h => f5 (rl h)), (fun h => f6 (rl h)), (fun h => f7 (rl h)), (fun h => f8 (rl h)), (fun h => f9 (rl h)), (fun h => f10 (rl h)), (fun h => f11 (rl h)), (fun h => f12 (rl h)), (fun h => f13 (rl h)), (fun h => f14 (rl h)), (fun h => f15 (rl h))⟩
            · simp only [Nat.zero_add, Nat.reduceAdd, List.getElem?_toArray, List.getElem?_cons_succ, List.getElem?_cons_zero, Option.some.injEq] at hi
              subst hi
              refine wpOp_value (v := .pointer (some ⟨w.heap.size + 1, 0, none⟩)) rfl rfl rfl ?_
              exact ⟨_, _, _, _, _, _, _, _, _, _, _, _, _, _, _, _, _, rfl, hW, (fun h => f0 (rl h)), (fun h => f1 (rl h)), (fun h => f2 (rl h)), (fun h => f3 (rl h)), (fun h => f4 (rl h)), (fun _ => rfl), (fun h => f6 (rl h)), (fun h => f7 (rl h)), (fun h => f8 (rl h)), (fun h => f9 (rl h)), (fun h => f10 (rl h)), (fun h => f11 (rl h)), (fun h => f12 (rl h)), (fun h => f13 (rl h)), (fun h => f14 (rl h)), (fun h => f15 (rl h))⟩
            · simp only [Nat.zero_add, Nat.reduceAdd, List.getElem?_toArray, List.getElem?_cons_succ, List.getElem?_cons_zero, Option.some.injEq] at hi
              subst hi
              refine wpOp_value (v := .int .i64 ((0 : Nat) : Int)) rfl rfl rfl ?_
              exact ⟨_, _, _, _, _, _, _, _, _, _, _, _, _, _, _, _, _, rfl, hW, (fun h => f0 (rl h)), (fun h => f1 (rl h)), (fun h => f2 (rl h)), (fun h => f3 (rl h)), (fun h => f4 (rl h)), (fun h => f5 (rl h)), (fun _ => rfl), (fun h => f7 (rl h)), (fun h => f8 (rl h)), (fun h => f9 (rl h)), (fun h => f10 (rl h)), (fun h => f11 (rl h)), (fun h => f12 (rl h)), (fun h => f13 (rl h)), (fun h => f14 (rl h)), (fun h => f15 (rl h))⟩
            · simp only [Nat.zero_add, Nat.reduceAdd, List.getElem?_toArray, List.getElem?_cons_succ, List.getElem?_cons_zero, Option.some.injEq] at hi
              subst hi
              obtain rfl := f5 (pre_of hall 5 rfl)
              refine wpOp_value (v := .pointer (some ⟨w.heap.size + 1, 0, none⟩)) rfl rfl (by kernel_rfl) ?_
              exact ⟨_, _, _, _, _, _, _, _, _, _, _, _, _, _, _, _, _, rfl, hW, (fun h => f0 (rl h)), (fun h => f1 (rl h)), (fun h => f2 (rl h)), (fun h => f3 (rl h)), (fun h => f4 (rl h)), (fun h => f5 (rl h)), (fun h => f6 (rl h)), (fun _ => rfl), (fun h => f8 (rl h)), (fun h => f9 (rl h)), (fun h => f10 (rl h)), (fun h => f11 (rl h)), (fun h => f12 (rl h)), (fun h => f13 (rl h)), (fun h => f14 (rl h)), (fun h => f15 (rl h))⟩
            · simp only [Nat.zero_add, Nat.reduceAdd, List.getElem?_toArray, List.getElem?_cons_succ, List.getElem?_cons_zero, Option.some.injEq] at hi
              subst hi
              obtain rfl := f7 (pre_of hall 7 rfl)
              refine wpOp_value (v := .pointer (some ⟨w.heap.size + 1, 0, none⟩)) rfl rfl (by kernel_rfl) ?_
              exact ⟨_, _, _, _, _, _, _, _, _, _, _, _, _, _, _, _, _, rfl, hW, (fun h => f0 (rl h)), (fun h => f1 (rl h)), (fun h => f2 (rl h)), (fun h => f3 (rl h)), (fun h => f4 (rl h)), (fun h => f5 (rl h)), (fun h => f6 (rl h)), (fun h => f7 (rl h)), (fun _ => rfl), (fun h => f9 (rl h)), (fun h => f10 (rl h)), (fun h => f11 (rl h)), (fun h => f12 (rl h)), (fun h => f13 (rl h)), (fun h => f14 (rl h)), (fun h => f15 (rl h))⟩
            · simp only [Nat.zero_add, Nat.reduceAdd, List.getElem?_toArray, List.getElem?_cons_succ, List.getElem?_cons_zero, Option.some.injEq] at hi
              subst hi
              obtain rfl := f8 (pre_of hall 8 rfl)
              obtain rfl := f6 (pre_of hall 6 rfl)
              refine wpOp_value (v := .pointer (some ⟨w.heap.size + 1, 0, none⟩)) rfl rfl (by kernel_rfl) ?_
              exact ⟨_, _, _, _, _, _, _, _, _, _, _, _, _, _, _, _, _, rfl, hW, (fun h => f0 (rl h)), (fun h => f1 (rl h)), (fun h => f2 (rl h)), (fun h => f3 (rl h)), (fun h => f4 (rl h)), (fun h => f5 (rl h)), (fun h => f6 (rl h)), (fun h => f7 (rl h)), (fun h => f8 (rl h)), (fun _ => rfl), (fun h => f10 (rl h)), (fun h => f11 (rl h)), (fun h => f12 (rl h)), (fun h => f13 (rl h)), (fun h => f14 (rl h)), (fun h => f15 (rl h))⟩
            · simp only [Nat.zero_add, Nat.reduceAdd, List.getElem?_toArray, List.getElem?_cons_succ, List.getElem?_cons_zero, Option.some.injEq] at hi
              subst hi
              obtain rfl := f9 (pre_of hall 9 rfl)
              refine wpOp_value (v := .agg (ints .u64 (W2 V))) rfl rfl (run_wide rfl rfl ((hW.cell (p := ⟨_, _, none⟩) lt1).trans c0) ((hW.cell (p := ⟨_, _, none⟩) lt1).trans c1)) ?_
              exact ⟨_, _, _, _, _, _, _, _, _, _, _, _, _, _, _, _, _, rfl, hW, (fun h => f0 (rl h)), (fun h => f1 (rl h)), (fun h => f2 (rl h)), (fun h => f3 (rl h)), (fun h => f4 (rl h)), (fun h => f5 (rl h)), (fun h => f6 (rl h)), (fun h => f7 (rl h)), (fun h => f8 (rl h)), (fun h => f9 (rl h)), (fun _ => rfl), (fun h => f11 (rl h)), (fun h => f12 (rl h)), (fun h => f13 (rl h)), (fun h => f14 (rl h)), (fun h => f15 (rl h))⟩
            · simp only [Nat.zero_add, Nat.reduceAdd, List.getElem?_toArray, List.getElem?_cons_succ, List.getElem?_cons_zero, Option.some.injEq] at hi
              subst hi
              refine wpOp_load rfl rfl rfl rfl (D4.below' hW) Try.ar54 rfl ?_
              exact ⟨_, _, _, _, _, _, _, _, _, _, _, _, _, _, _, _, _, rfl, hW, (fun h => f0 (rl h)), (fun h => f1 (rl h)), (fun h => f2 (rl h)), (fun h => f3 (rl h)), (fun h => f4 (rl h)), (fun h => f5 (rl h)), (fun h => f6 (rl h)), (fun h => f7 (rl h)), (fun h => f8 (rl h)), (fun h => f9 (rl h)), (fun h => f10 (rl h)), (fun _ => rfl), (fun h => f12 (rl h)), (fun h => f13 (rl h)), (fun h => f14 (rl h)), (fun h => f15 (rl h))⟩
            · simp only [Nat.zero_add, Nat.reduceAdd, List.getElem?_toArray, List.getElem?_cons_succ, List.getElem?_cons_zero, Option.some.injEq] at hi
              subst hi
              obtain rfl := f10 (pre_of hall 10 rfl)
              obtain rfl := f11 (pre_of hall 11 rfl)
              refine wpOp_call 44 rfl rfl rfl Try.func44 (by kernel_rfl) (by kernel_rfl) (plus10_c V Y 1 hv hY (Nat.le_refl 1) W) ?_
              intro W' hW'
              exact ⟨_, _, _, _, _, _, _, _, _, _, _, _, _, _, _, _, _, rfl, bCall hW hW' hW.size, (fun h => f0 (rl h)), (fun h => f1 (rl h)), (fun h => f2 (rl h)), (fun h => f3 (rl h)), (fun h => f4 (rl h)), (fun h => f5 (rl h)), (fun h => f6 (rl h)), (fun h => f7 (rl h)), (fun h => f8 (rl h)), (fun h => f9 (rl h)), (fun h => f10 (rl h)), (fun h => f11 (rl h)), (fun _ => rfl), (fun h => f13 (rl h)), (fun h => f14 (rl h)), (fun h => f15 (rl h))⟩
            · simp only [Nat.zero_add, Nat.reduceAdd, List.getElem?_toArray, List.getElem?_cons_succ, List.getElem?_cons_zero, Option.some.injEq] at hi
              subst hi
              obtain rfl := f0 (pre_of hall 0 rfl)
              refine wpOp_value (v := .pointer (some ⟨w.heap.size + 1, 0, none⟩)) rfl rfl (by kernel_rfl) ?_
              exact ⟨_, _, _, _, _, _, _, _, _, _, _, _, _, _, _, _, _, rfl, hW, (fun h => f0 (rl h)), (fun h => f1 (rl h)), (fun h => f2 (rl h)), (fun h => f3 (rl h)), (fun h => f4 (rl h)), (fun h => f5 (rl h)), (fun h => f6 (rl h)), (fun h => f7 (rl h)), (fun h => f8 (rl h)), (fun h => f9 (rl h)), (fun h => f10 (rl h)), (fun h => f11 (rl h)), (fun h => f12 (rl h)), (fun _ => rfl), (fun h => f14 (rl h)), (fun h => f15 (rl h))⟩
            · simp only [Nat.zero_add, Nat.reduceAdd, List.getElem?_toArray, List.getElem?_cons_succ, List.getElem?_cons_zero, Option.some.injEq] at hi
              subst hi
              obtain rfl := f13 (pre_of hall 13 rfl)
              refine wpOp_value (v := .pointer (some ⟨w.heap.size + 1, 0, none⟩)) rfl rfl (by kernel_rfl) ?_
              exact ⟨_, _, _, _, _, _, _, _, _, _, _, _, _, _, _, _, _, rfl, hW, (fun h => f0 (rl h)), (fun h => f1 (rl h)), (fun h => f2 (rl h)), (fun h => f3 (rl h)), (fun h => f4 (rl h)), (fun h => f5 (rl h)), (fun h => f6 (rl h)), (fun h => f7 (rl h)), (fun h => f8 (rl h)), (fun h => f9 (rl h)), (fun h => f10 (rl h)), (fun h => f11 (rl h)), (fun h => f12 (rl h)), (fun h => f13 (rl h)), (fun _ => rfl), (fun h => f15 (rl h))⟩
            · simp only [Nat.zero_add, Nat.reduceAdd, List.getElem?_toArray, List.getElem?_cons_succ, List.getElem?_cons_zero, Option.some.injEq] at hi
              subst hi
              obtain rfl := f14 (pre_of hall 14 rfl)
              obtain rfl := f4 (pre_of hall 4 rfl)
              refine wpOp_value (v := .pointer (some ⟨w.heap.size + 1, 2, none⟩)) rfl rfl (by kernel_rfl) ?_
              exact ⟨_, _, _, _, _, _, _, _, _, _, _, _, _, _, _, _, _, rfl, hW, (fun h => f0 (rl h)), (fun h => f1 (rl h)), (fun h => f2 (rl h)), (fun h => f3 (rl h)), (fun h => f4 (rl h)), (fun h => f5 (rl h)), (fun h => f6 (rl h)), (fun h => f7 (rl h)), (fun h => f8 (rl h)), (fun h => f9 (rl h)), (fun h => f10 (rl h)), (fun h => f11 (rl h)), (fun h => f12 (rl h)), (fun h => f13 (rl h)), (fun h => f14 (rl h)), (fun _ => rfl)⟩
            · exfalso; omega
          · rintro D a W ⟨u21, u22, u23, u24, u25, u26, u27, u28, u29, u30, u31, u32, u33, u34, u35, u36, u37, rfl, hW, f0, f1, f2, f3, f4, f5, f6, f7, f8, f9, f10, f11, f12, f13, f14, f15⟩ hall
            obtain rfl := f0 (hall 0 (by decide))
            obtain rfl := f1 (hall 1 (by decide))
            obtain rfl := f2 (hall 2 (by decide))
            obtain rfl := f3 (hall 3 (by decide))
            obtain rfl := f4 (hall 4 (by decide))
            obtain rfl := f5 (hall 5 (by decide))
            obtain rfl := f6 (hall 6 (by decide))
            obtain rfl := f7 (hall 7 (by decide))
            obtain rfl := f8 (hall 8 (by decide))
            obtain rfl := f9 (hall 9 (by decide))
            obtain rfl := f10 (hall 10 (by decide))
            obtain rfl := f11 (hall 11 (by decide))
            obtain rfl := f12 (hall 12 (by decide))
            obtain rfl := f13 (hall 13 (by decide))
            obtain rfl := f14 (hall 14 (by decide))
            obtain rfl := f15 (hall 15 (by decide))
            clear f0 f1 f2 f3 f4 f5 f6 f7 f8 f9 f10 f11 f12 f13 f14 f15 hall
            have E1 := D1.below' hW
            have E4 := D4.below' hW
            have hbel5 := bCall hbel4 hW hbel4.size
            rw [← hn]
            refine wpOp_store_wide rfl rfl rfl rfl rfl E1 (by rw [lD]; omega) ?_
            have F1 := (E1.intSet 2 (mul R1 X 1 % 18446744073709551616)).intSet (2 + 1) (mul R1 X 1 / 18446744073709551616)
            rw [show ((tabL X 1).set 2 (mul R1 X 1 % 18446744073709551616)).set (2 + 1) (mul R1 X 1 / 18446744073709551616) = tabL X 2 from tab_set X 1 (by omega)] at F1
            have F4 := (E4.far (p := ⟨w.heap.size + 1, 2, none⟩) (Ne.symm hg4) (.int .u64 ((mul R1 X 1 % 18446744073709551616 : Nat) : Int))).far (p := ⟨w.heap.size + 1, 2 + 1, none⟩) (Ne.symm hg4) (.int .u64 ((mul R1 X 1 / 18446744073709551616 : Nat) : Int))
            have hbel6 := (hbel5.setCell (p := ⟨w.heap.size + 1, 2, none⟩) (Nat.le_succ _) (.int .u64 ((mul R1 X 1 % 18446744073709551616 : Nat) : Int))).setCell (p := ⟨w.heap.size + 1, 2 + 1, none⟩) (Nat.le_succ _) (.int .u64 ((mul R1 X 1 / 18446744073709551616 : Nat) : Int))
            clear E1 E4 hbel5 c0 c1 D1 D4 hbel4 hW hn
            generalize (W.setCell ⟨w.heap.size + 1, 2, none⟩ (.int .u64 ((mul R1 X 1 % 18446744073709551616 : Nat) : Int))).setCell ⟨w.heap.size + 1, 2 + 1, none⟩ (.int .u64 ((mul R1 X 1 / 18446744073709551616 : Nat) : Int)) = w9 at *
            go_wp2_with (fail)
            refine ⟨⟨_, _, _, _, _, _, _, _, _, _, _, _, _, _, _, _, _, _, _, _, _, ⟨1, by omega, rfl, F1, F4, hbel6⟩, rfl⟩, by simp [intOf]⟩
        · simp only [Nat.reduceAdd] at D1
          clear hnx
          go_wp2_with (refine wpList_load_ints rfl 54 _ rfl g4 rfl D4 Try.ar54 rfl ?_; (try simp only [Act.put, List.setIfInBounds_toArray, List.set_cons_zero, List.set_cons_succ, World.size_alloc, setRow_size, Nat.add_assoc, Nat.reduceAdd]))
          refine (up_c Y hY _).mono ?_
          rintro e w4 ⟨rfl, hb4⟩
          have F4' := D4.below' hb4
          have F4 := F4'.row (ints .u64 (W2 (up R1 Y)))
          have F1 := (D1.below' hb4).rowFar hg4 (ints .u64 (W2 (up R1 Y)))
          have hbel7 := bSetRow (bCall hbel4 hb4 hbel4.size) hg4b (ints .u64 (W2 (up R1 Y)))
          clear D1 D4 hbel4 hb4
          go_wp2_with (refine wpList_store_ints rfl 54 _ _ rfl g4 rfl rfl F4' rfl Try.ar54 rfl ?_; (try simp only [Act.put, List.setIfInBounds_toArray, List.set_cons_zero, List.set_cons_succ, World.size_alloc, setRow_size, Nat.add_assoc, Nat.reduceAdd]))
          rw [← HU.out] at F1 F4 hbel7 ⊢
          refine ⟨⟨1, by omega, rfl, F1, F4, hbel7⟩, by simp [intOf]⟩
    · have hY := Gf.upN_lt Gf.R1_lt hX 1
      have hup : upN R1 (1 + 1) X = up R1 (upN R1 1 X) := rfl
      have HU := Lib.hid hup
      clear hup
      have hnx := fun i (hi : i < 2) => tab_next X 1 i (by omega) hi
      generalize hYd : upN R1 1 X = Y at *
      clear hYd
      simp only [Nat.reducePow] at C1 hnx
      go_wp2_with (fail)
      go_loopw [18] (fun t wr => ∃ i : Nat, i ≤ 2 ∧ t = .int .i64 i ∧ Blk wr (w.heap.size + 1) 70 (ints .u64 (tabL X (2 + i))) ∧ Blk wr g4 54 (ints .u64 (W2 Y)) ∧ Below w.heap.size w wr) (fun t wr => 2 - (intOf t).toNat)
      case atStart => exact ⟨0, by omega, rfl, C1, C4, hbelr⟩
      case round =>
        obtain ⟨i, hi, rfl, D1, D4, hbel4⟩ := hrel
        clear C1 C4 hbelr
        have hi5 : i = 0 ∨ i = 1 ∨ i = 2 := by omega
        rcases hi5 with rfl | rfl | rfl
        · have hv := tabV_lt X 2 0 hX
          have hn := hnx 0 (by omega)
          simp only [Nat.reduceAdd] at D1 hn
          have lD := tabL_len X 2
          have c0 : wr.cell? ⟨w.heap.size + 1, 0, none⟩ = some (.int .u64 ((tabV X 2 0 % 18446744073709551616 : Nat) : Int)) := by
            have := D1.int (i := 0) (by rw [lD]; omega)
            rw [show (tabL X 2).getD 0 0 = _ from tabL_lo X 2 (n := 0) (by omega)] at this
            exact this
          have c1 : wr.cell? ⟨w.heap.size + 1, 0 + 1, none⟩ = some (.int .u64 ((tabV X 2 0 / 18446744073709551616 : Nat) : Int)) := by
            have := D1.int (i := 0 + 1) (by rw [lD]; omega)
            rw [show (tabL X 2).getD (0 + 1) 0 = _ from tabL_hi X 2 (n := 0) (by omega)] at this
            exact this
          have lt1 := D1.lt
          generalize tabV X 2 0 = V at *
          go_wp2_with (fail)
          refine wp_region_last2 16 (by kernel_rfl) (by kernel_rfl) (by kernel_rfl) (by kernel_rfl) (fun D a W => ∃ u21 u22 u23 u24 u25 u26 u27 u28 u29 u30 u31 u32 u33 u34 u35 u36 u37 : Value, a = { tmps := #[.agg (ints .u8 hs), .pointer (some ⟨w.heap.size, 0, none⟩), .pointer none, .pointer (some ⟨w.heap.size + 1, 0, none⟩), .pointer (some ⟨g4, 0, none⟩), .int .i64 ((1 : Nat) : Int), .int .i64 ((0 : Nat) : Int), .agg (ints .u64 (zeros 32)), .pointer (some ⟨w.heap.size + 1, 0, none⟩), .slice (some ⟨w.heap.size, 0, none⟩) 16 16, .agg (ints .u64 (W2 x)), .agg (ints .u64 (W2 1)), .agg (ints .u64 (W2 X)), .int .i64 ((1 : Nat) : Int), .bool true, .int .i64 ((1 : Nat) : Int), .int .i64 ((1 : Nat) : Int), .int .i64 2, .int .i64 ((0 : Nat) : Int), .bool true, .int .i64 ((0 : Nat) : Int), u21, u22, u23, u24, u25, u26, u27, u28, u29, u30, u31, u32, u33, u34, u35, u36, u37, u38, u39, u40, undef], defers := [] } ∧ Below wr.heap.size wr W ∧ (D 0 → u21 = .pointer (some ⟨w.heap.size + 1, 0, none⟩)) ∧ (D 1 → u22 = .int .i64 ((1 : Nat) : Int)) ∧ (D 2 → u23 = .int .i64 2) ∧ (D 3 → u24 = .int .i64 ((0 : Nat) : Int)) ∧ (D 4 → u25 = .int .i64 2) ∧ (D 5 → u26 = .pointer (some ⟨w.heap.size + 1, 0, none⟩)) ∧ (D 6 → u27 = .int .i64 ((0 : Nat) : Int)) ∧ (D 7 → u28 = .pointer (some ⟨w.heap.size + 1, 0, none⟩)) ∧ (D 8 → u29 = .pointer (some ⟨w.heap.size + 1, 0, none⟩)) ∧ (D 9 → u30 = .pointer (some ⟨w.heap.size + 1, 0, none⟩)) ∧ (D 10 → u31 = .agg (ints .u64 (W2 V))) ∧ (D 11 → u32 = .agg (ints .u64 (W2 Y))) ∧ (D 12 → u33 = .agg (ints .u64 (W2 (V ^^^ 1 * Y)))) ∧ (D 13 → u34 = .pointer (some ⟨w.heap.size + 1, 0, none⟩)) ∧ (D 14 → u35 = .pointer (some ⟨w.heap.size + 1, 0, none⟩)) ∧ (D 15 → u36 = .pointer (some ⟨w.heap.size + 1, 4, none⟩))) ?_ ?_ ?_
          · exact ⟨_, _, _, _, _, _, _, _, _, _, _, _, _, _, _, _, _, rfl, ⟨rfl, rfl, rfl, Nat.le_refl _, fun _ _ => rfl⟩, (fun h => h.elim), (fun h => h.elim), (fun h => h.elim), (fun h => h.elim), (fun h => h.elim), (fun h => h.elim), (fun h => h.elim), (fun h => h.elim), (fun h => h.elim), (fun h => h.elim), (fun h => h.elim), (fun h => h.elim), (fun h => h.elim), (fun h => h.elim), (fun h => h.elim), (fun h => h.elim)⟩
          · intro i o hilt hi D a W hI hnD hall
            obtain ⟨u21, u22, u23, u24, u25, u26, u27, u28, u29, u30, u31, u32, u33, u34, u35, u36, u37, rfl, hW, f0, f1, f2, f3, f4, f5, f6, f7, f8, f9, f10, f11, f12, f13, f14, f15⟩ := hI
            rcases i with _ | _ | _ | _ | _ | _ | _ | _ | _ | _ | _ | _ | _ | _ | _ | _ | i
            · simp only [Nat.zero_add, Nat.reduceAdd, List.getElem?_toArray, List.getElem?_cons_succ, List.getElem?_cons_zero, Option.some.injEq] at hi
              subst hi
              refine wpOp_value (v := .pointer (some ⟨w.heap.size + 1, 0, none⟩)) rfl rfl rfl ?_
              exact ⟨_, _, _, _, _, _, _, _, _, _, _, _, _, _, _, _, _, rfl, hW, (fun _ => rfl), (fun h => f1 (rl h)), (fun h => f2 (rl h)), (fun h => f3 (rl h)), (fun h => f4 (rl h)), (fun h => f5 (rl h)), (fun h => f6 (rl h)), (fun h => f7 (rl h)), (fun h => f8 (rl h)), (fun h => f9 (rl h)), (fun h => f10 (rl h)), (fun h => f11 (rl h)), (fun h => f12 (rl h)), (fun h => f13 (rl h)), (fun h => f14 (rl h)), (fun h => f15 (rl h))⟩
            · simp only [Nat.zero_add, Nat.reduceAdd, List.getElem?_toArray, List.getElem?_cons_succ, List.getElem?_cons_zero, Option.some.injEq] at hi
              subst hi
              refine wpOp_value (v := .int .i64 ((1 : Nat) : Int)) rfl rfl rfl ?_
              exact ⟨_, _, _, _, _, _, _, _, _, _, _, _, _, _, _, _, _, rfl, hW, (fun h => f0 (rl h)), (fun _ => rfl), (fun h => f2 (rl h)), (fun h => f3 (rl h)), (fun h => f4 (rl h)), (fun h => f5 (rl h)), (fun h => f6 (rl h)), (fun h => f7 (rl h)), (fun h => f8 (rl h)), (fun h => f9 (rl h)), (fun h => f10 (rl h)), (fun h => f11 (rl h)), (fun h => f12 (rl h)), (fun h => f13 (rl h)), (fun h => f14 (rl h)), (fun h => f15 (rl h))⟩
            · simp only [Nat.zero_add, Nat.reduceAdd, List.getElem?_toArray, List.getElem?_cons_succ, List.getElem?_cons_zero, Option.some.injEq] at hi
              subst hi
              obtain rfl := f1 (pre_of hall 1 rfl)
              refine wpOp_value (v := .int .i64 2) rfl rfl (by kernel_rfl) ?_
              exact ⟨_, _, _, _, _, _, _, _, _, _, _, _, _, _, _, _, _, rfl, hW, (fun h => f0 (rl h)), (fun h => f1 (rl h)), (fun _ => rfl), (fun h => f3 (rl h)), (fun h => f4 (rl h)), (fun h => f5 (rl h)), (fun h => f6 (rl h)), (fun h => f7 (rl h)), (fun h => f8 (rl h)), (fun h => f9 (rl h)), (fun h => f10 (rl h)), (fun h => f11 (rl h)), (fun h => f12 (rl h)), (fun h => f13 (rl h)), (fun h => f14 (rl h)), (fun h => f15 (rl h))⟩
            · simp only [Nat.zero_add, Nat.reduceAdd, List.getElem?_toArray, List.getElem?_cons_succ, List.getElem?_cons_zero, Option.some.injEq] at hi
              subst hi
              refine wpOp_value (v := .int .i64 ((0 : Nat) : Int)) rfl rfl rfl ?_
              exact ⟨_, _, _, _, _, _, _, _, _, _, _, _, _, _, _, _, _, rfl, hW, (fun h => f0 (rl h)), (fun h => f1 (rl h)), (fun h => f2 (rl h)), (fun _ => rfl), (fun h => f4 (rl h)), (fun h => f5 (rl h)), (fun h => f6 (rl h)), (fun h => f7 (rl h)), (fun h => f8 (rl h)), (fun h => f9 (rl h)), (fun h => f10 (rl h)), (fun h => f11 (rl h)), (fun h => f12 (rl h)), (fun h => f13 (rl h)), (fun h => f14 (rl h)), (fun h => f15 (rl h))⟩
            · simp only [Nat.zero_add, Nat.reduceAdd, List.getElem?_toArray, List.getElem?_cons_succ, List.getElem?_cons_zero, Option.some.injEq] at hi
              subst hi
              obtain rfl := f2 (pre_of hall 2 rfl)
              obtain rfl := f3 (pre_of hall 3 rfl)
              refine wpOp_value (v := .int .i64 2) rfl rfl (by kernel_rfl) ?_
              exact ⟨_, _, _, _, _, _, _, _, _, _, _, _, _, _, _, _, _, rfl, hW, (fun h => f0 (rl h)), (fun h => f1 (rl h)), (fun h => f2 (rl h)), (fun h => f3 (rl h)), (fun _ => rfl), (fun h => f5 (rl h)), (fun h => f6 (rl h)), (fun h => f7 (rl h)), (fun h => f8 (rl h)), (fun h => f9 (rl h)), (fun h => f10 (rl h)), (fun h => f11 (rl h)), (fun h => f12 (rl h)), (fun h => f13 (rl h)), (fun h => f14 (rl h)), (fun h => f15 (rl h))⟩
            · simp only [Nat.zero_add, Nat.reduceAdd, List.getElem?_toArray, List.getElem?_cons_succ, List.getElem?_cons_zero, Option.some.injEq] at hi
              subst hi
              refine wpOp_value (v := .pointer (some ⟨w.heap.size + 1, 0, none⟩)) rfl rfl rfl ?_
              exact ⟨_, _, _, _, _, _, _, _, _, _, _, _, _, _, _, _, _, rfl, hW, (fun h => f0 (rl h)), (fun h => f1 (rl h)), (fun h => f2 (rl h)), (fun h => f3 (rl h)), (fun h => f4 (rl h)), (fun _ => rfl), (fun h => f6 (rl h)), (fun h => f7 (rl h)), (fun h => f8 (rl h)), (fun h => f9 (rl h)), (fun h => f10 (rl h)), (fun h => f11 (rl h)), (fun h => f12 (rl h)), (fun h => f13 (rl h)), (fun h => f14 (rl h)), (fun h => f15 (rl h))⟩
            · simp only [Nat.zero_add, Nat.reduceAdd, List.getElem?_toArray, List.getElem?_cons_succ, List.getElem?_cons_zero, Option.some.injEq] at hi
              subst hi
              refine wpOp_value (v := .int .i64 ((0 : Nat) : Int)) rfl rfl rfl ?_
              exact ⟨_, _, _, _, _, _, _, _, _, _, _, _, _, _, _, _, _, rfl, hW, (fun h => f0 (rl h)), (fun h => f1 (rl h)), (fun h => f2 (rl h)), (fun h => f3 (rl h)), (fun h => f4 (rl h)), (fun h => f5 (rl h)), (fun _ => rfl), (fun h => f7 (rl h)), (fun h => f8 (rl h)), (fun h => f9 (rl h)), (fun h => f10 (rl h)), (fun h => f11 (rl h)), (fun h => f12 (rl h)), (fun h => f13 (rl h)), (fun h => f14 (rl h)), (fun h => f15 (rl h))⟩
            · simp only [Nat.zero_add, Nat.reduceAdd, List.getElem?_toArray, List.getElem?_cons_succ, List.getElem?_cons_zero, Option.some.injEq] at hi
              subst hi
              obtain rfl := f5 (pre_of hall 5 rfl)
              refine wpOp_value (v := .pointer (some ⟨w.heap.size + 1, 0, none⟩)) rfl rfl (by kernel_rfl) ?_
              exact ⟨_, _, _, _, _, _, _, _, _, _, _, _, _, _, _, _, _, rfl, hW, (fun h => f0 (rl h)), (fun h => f1 (rl h)), (fun h => f2 (rl h)), (fun h => f3 (rl h)), (fun h => f4 (rl h)), (fun h => f5 (rl h)), (fun h => f6 (rl h)), (fun _ => rfl), (fun h => f8 (rl h)), (fun h => f9 (rl h)), (fun h => f10 (rl h)), (fun h => f11 (rl h)), (fun h => f12 (rl h)), (fun h => f13 (rl h)), (fun h => f14 (rl h)), (fun h => f15 (rl h))⟩
            · simp only [Nat.zero_add, Nat.reduceAdd, List.getElem?_toArray, List.getElem?_cons_succ, List.getElem?_cons_zero, Option.some.injEq] at hi
              subst hi
              obtain rfl := f7 (pre_of hall 7 rfl)
              refine wpOp_value (v := .pointer (some ⟨w.heap.size + 1, 0, none⟩)) rfl rfl (by kernel_rfl) ?_
              exact ⟨_, _, _, _, _, _, _, _, _, _, _, _, _, _, _, _, _, rfl, hW, (fun h => f0 (rl h)), (fun h => f1 (rl h)), (fun h => f2 (rl h)), (fun h => f3 (rl h)), (fun h => f4 (rl h)), (fun h => f5 (rl h)), (fun h => f6 (rl h)), (fun h => f7 (rl h)), (fun _ => rfl), (fun h => f9 (rl h)), (fun h => f10 (rl h)), (fun h => f11 (rl h)), (fun h => f12 (rl h)), (fun h => f13 (rl h)), (fun h => f14 (rl h)), (fun h => f15 (rl h))⟩
            · simp only [Nat.zero_add, Nat.reduceAdd, List.getElem?_toArray, List.getElem?_cons_succ, List.getElem?_cons_zero, Option.some.injEq] at hi
              subst hi
              obtain rfl := f8 (pre_of hall 8 rfl)
              obtain rfl := f6 (pre_of hall 6 rfl)
              refine wpOp_value (v := .pointer (some ⟨w.heap.size + 1, 0, none⟩)) rfl rfl (by kernel_rfl) ?_
              exact ⟨_, _, _, _, _, _, _, _, _, _, _, _, _, _, _, _, _, rfl, hW, (fun h => f0 (rl h)), (fun h => f1 (rl h)), (fun h => f2 (rl h)), (fun h => f3 (rl h)), (fun h => f4 (rl h)), (fun h => f5 (rl h)), (fun h => f6 (rl h)), (fun h => f7 (rl h)), (fun h => f8 (rl h)), (fun _ => rfl), (fun h => f10 (rl h)), (fun h => f11 (rl h)), (fun h => f12 (rl h)), (fun h => f13 (rl h)), (fun h => f14 (rl h)), (fun h => f15 (rl h))⟩
            · simp only [Nat.zero_add, Nat.reduceAdd, List.getElem?_toArray, List.getElem?_cons_succ, List.getElem?_cons_zero, Option.some.injEq] at hi
              subst hi
              obtain rfl := f9 (pre_of hall 9 rfl)
              refine wpOp_value (v := .agg (ints .u64 (W2 V))) rfl rfl (run_wide rfl rfl ((hW.cell (p := ⟨_, _, none⟩) lt1).trans c0) ((hW.cell (p := ⟨_, _, none⟩) lt1).trans c1)) ?_
              exact ⟨_, _, _, _, _, _, _, _, _, _, _, _, _, _, _, _, _, rfl, hW, (fun h => f0 (rl h)), (fun h => f1 (rl h)), (fun h => f2 (rl h)), (fun h => f3 (rl h)), (fun h => f4 (rl h)), (fun h => f5 (rl h)), (fun h => f6 (rl h)), (fun h => f7 (rl h)), (fun h => f8 (rl h)), (fun h => f9 (rl h)), (fun _ => rfl), (fun h => f11 (rl h)), (fun h => f12 (rl h)), (fun h => f13 (rl h)), (fun h => f14 (rl h)), (fun h => f15 (rl h))⟩
            · simp only [Nat.zero_add, Nat.reduceAdd, List.getElem?_toArray, List.getElem?_cons_succ, List.getElem?_cons_zero, Option.some.injEq] at hi
              subst hi
              refine wpOp_load rfl rfl rfl rfl (D4.below' hW) Try.ar54 rfl ?_
              exact ⟨_, _, _, _, _, _, _, _, _, _, _, _, _, _, _, _, _, rfl, hW, (fun h => f0 (rl h)), (fun h => f1 (rl h)), (fun h => f2 (rl h)), (fun h => f3 (rl h)), (fun h => f4 (rl h)), (fun h => f5 (rl h)), (fun h => f6 (rl h)), (fun h => f7 (rl h)), (fun h => f8 (rl h)), (fun h => f9 (rl h)), (fun h => f10 (rl h)), (fun _ => rfl), (fun h => f12 (rl h)), (fun h => f13 (rl h)), (fun h => f14 (rl h)), (fun h => f15 (rl h))⟩
            · simp only [Nat.zero_add, Nat.reduceAdd, List.getElem?_toArray, List.getElem?_cons_succ, List.getElem?_cons_zero, Option.some.injEq] at hi
              subst hi
              obtain rfl := f10 (pre_of hall 10 rfl)
              obtain rfl := f11 (pre_of hall 11 rfl)
              refine wpOp_call 44 rfl rfl rfl Try.func44 (by kernel_rfl) (by kernel_rfl) (plus10_c V Y 1 hv hY (Nat.le_refl 1) W) ?_
              intro W' hW'
              exact ⟨_, _, _, _, _, _, _, _, _, _, _, _, _, _, _, _, _, rfl, bCall hW hW' hW.size, (fun h => f0 (rl h)), (fun h => f1 (rl h)), (fun h => f2 (rl h)), (fun h => f3 (rl h)), (fun h => f4 (rl h)), (fun h => f5 (rl h)), (fun h => f6 (rl h)), (fun h => f7 (rl h)), (fun h => f8 (rl h)), (fun h => f9 (rl h)), (fun h => f10 (rl h)), (fun h => f11 (rl h)), (fun _ => rfl), (fun h => f13 (rl h)), (fun h => f14 (rl h)), (fun h => f15 (rl h))⟩
            · simp only [Nat.zero_add, Nat.reduceAdd, List.getElem?_toArray, List.getElem?_cons_succ, List.getElem?_cons_zero, Option.some.injEq] at hi
              subst hi
              obtain rfl := f0 (pre_of hall 0 rfl)
              refine wpOp_value (v := .pointer (some ⟨w.heap.size + 1, 0, none⟩)) rfl rfl (by kernel_rfl) ?_
              exact ⟨_, _, _, _, _, _, _, _, _, _, _, _, _, _, _, _, _, rfl, hW, (fun h => f0 (rl h)), (fun h => f1 (rl h)), (fun h => f2 (rl h)), (fun h => f3 (rl h)), (fun h => f4 (rl h)), (fun h => f5 (rl h)), (fun h => f6 (rl h)), (fun h => f7 (rl h)), (fun h => f8 (rl h)), (fun h => f9 (rl h)), (fun h => f10 (rl h)), (fun h => f11 (rl h)), (fun h => f12 (rl h)), (fun _ => rfl), (fun h => f14 (rl h)), (fun h => f15 (rl h))⟩
            · simp only [Nat.zero_add, Nat.reduceAdd, List.getElem?_toArray, List.getElem?_cons_succ, List.getElem?_cons_zero, Option.some.injEq] at hi
              subst hi
              obtain rfl := f13 (pre_of hall 13 rfl)
              refine wpOp_value (v := .pointer (some ⟨w.heap.size + 1, 0, none⟩)) rfl rfl (by kernel_rfl) ?_
              exact ⟨_, _, _, _, _, _, _, _, _, _, _, _, _, _, _, _, _, rfl, hW, (fun h => f0 (rl h)), (fun h => f1 (rl h)), (fun h => f2 (rl h)), (fun h => f3 (rl h)), (fun h => f4 (rl h)), (fun h => f5 (rl h)), (fun h => f6 (rl h)), (fun h => f7 (rl h)), (fun h => f8 (rl h)), (fun h => f9 (rl h)), (fun h => f10 (rl h)), (fun h => f11 (rl h)), (fun h => f12 (rl h)), (fun h => f13 (rl h)), (fun _ => rfl), (fun h => f15 (rl h))⟩
            · simp only [Nat.zero_add, Nat.reduceAdd, List.getElem?_toArray, List.getElem?_cons_succ, List.getElem?_cons_zero, Option.some.injEq] at hi
              subst hi
              obtain rfl := f14 (pre_of hall 14 rfl)
              obtain rfl := f4 (pre_of hall 4 rfl)
              refine wpOp_value (v := .pointer (some ⟨w.heap.size + 1, 4, none⟩)) rfl rfl (by kernel_rfl) ?_
              exact ⟨_, _, _, _, _, _, _, _, _, _, _, _, _, _, _, _, _, rfl, hW, (fun h => f0 (rl h)), (fun h => f1 (rl h)), (fun h => f2 (rl h)), (fun h => f3 (rl h)), (fun h => f4 (rl h)), (fun h => f5 (rl h)), (fun h => f6 (rl h)), (fun h => f7 (rl h)), (fun h => f8 (rl h)), (fun h => f9 (rl h)), (fun h => f10 (rl h)), (fun h => f11 (rl h)), (fun h => f12 (rl h)), (fun h => f13 (rl h)), (fun h => f14 (rl h)), (fun _ => rfl)⟩
            · exfalso; omega
          · rintro D a W ⟨u21, u22, u23, u24, u25, u26, u27, u28, u29, u30, u31, u32, u33, u34, u35, u36, u37, rfl, hW, f0, f1, f2, f3, f4, f5, f6, f7, f8, f9, f10, f11, f12, f13, f14, f15⟩ hall
            obtain rfl := f0 (hall 0 (by decide))
            obtain rfl := f1 (hall 1 (by decide))
            obtain rfl := f2 (hall 2 (by decide))
            obtain rfl := f3 (hall 3 (by decide))
            obtain rfl := f4 (hall 4 (by decide))
            obtain rfl := f5 (hall 5 (by decide))
            obtain rfl := f6 (hall 6 (by decide))
            obtain rfl := f7 (hall 7 (by decide))
            obtain rfl := f8 (hall 8 (by decide))
            obtain rfl := f9 (hall 9 (by decide))
            obtain rfl := f10 (hall 10 (by decide))
            obtain rfl := f11 (hall 11 (by decide))
            obtain rfl := f12 (hall 12 (by decide))
            obtain rfl := f13 (hall 13 (by decide))
            obtain rfl := f14 (hall 14 (by decide))
            obtain rfl := f15 (hall 15 (by decide))
            clear f0 f1 f2 f3 f4 f5 f6 f7 f8 f9 f10 f11 f12 f13 f14 f15 hall
            have E1 := D1.below' hW
            have E4 := D4.below' hW
            have hbel5 := bCall hbel4 hW hbel4.size
            rw [← hn]
            refine wpOp_store_wide rfl rfl rfl rfl rfl E1 (by rw [lD]; omega) ?_
            have F1 := (E1.intSet 4 (mul R1 X 2 % 18446744073709551616)).intSet (4 + 1) (mul R1 X 2 / 18446744073709551616)
            rw [show ((tabL X 2).set 4 (mul R1 X 2 % 18446744073709551616)).set (4 + 1) (mul R1 X 2 / 18446744073709551616) = tabL X 3 from tab_set X 2 (by omega)] at F1
            have F4 := (E4.far (p := ⟨w.heap.size + 1, 4, none⟩) (Ne.symm hg4) (.int .u64 ((mul R1 X 2 % 18446744073709551616 : Nat) : Int))).far (p := ⟨w.heap.size + 1, 4 + 1, none⟩) (Ne.symm hg4) (.int .u64 ((mul R1 X 2 / 18446744073709551616 : Nat) : Int))
            have hbel6 := (hbel5.setCell (p := ⟨w.heap.size + 1, 4, none⟩) (Nat.le_succ _) (.int .u64 ((mul R1 X 2 % 18446744073709551616 : Nat) : Int))).setCell (p := ⟨w.heap.size + 1, 4 + 1, none⟩) (Nat.le_succ _) (.int .u64 ((mul R1 X 2 / 18446744073709551616 : Nat) : Int))
            clear E1 E4 hbel5 c0 c1 D1 D4 hbel4 hW hn
            generalize (W.setCell ⟨w.heap.size + 1, 4, none⟩ (.int .u64 ((mul R1 X 2 % 18446744073709551616 : Nat) : Int))).setCell ⟨w.heap.size + 1, 4 + 1, none⟩ (.int .u64 ((mul R1 X 2 / 18446744073709551616 : Nat) : Int)) = w9 at *
            go_wp2_with (fail)
            refine ⟨⟨_, _, _, _, _, _, _, _, _, _, _, _, _, _, _, _, _, _, _, _, _, ⟨1, by omega, rfl, F1, F4, hbel6⟩, rfl⟩, by simp [intOf]⟩
        · have hv := tabV_lt X 3 1 hX
          have hn := hnx 1 (by omega)
          simp only [Nat.reduceAdd] at D1 hn
          have lD := tabL_len X 3
          have c0 : wr.cell? ⟨w.heap.size + 1, 2, none⟩ = some (.int .u64 ((tabV X 3 1 % 18446744073709551616 : Nat) : Int)) := by
            have := D1.int (i := 2) (by rw [lD]; omega)
            rw [show (tabL X 3).getD 2 0 = _ from tabL_lo X 3 (n := 1) (by omega)] at this
            exact this
          have c1 : wr.cell? ⟨w.heap.size + 1, 2 + 1, none⟩ = some (.int .u64 ((tabV X 3 1 / 18446744073709551616 : Nat) : Int)) := by
            have := D1.int (i := 2 + 1) (by rw [lD]; omega)
            rw [show (tabL X 3).getD (2 + 1) 0 = _ from tabL_hi X 3 (n := 1) (by omega)] at this
            exact this
          have lt1 := D1.lt
          generalize tabV X 3 1 = V at *
          go_wp2_with (fail)
          refine wp_region_last2 16 (by kernel_rfl) (by kernel_rfl) (by kernel_rfl) (by kernel_rfl) (fun D a W => ∃ u21 u22 u23 u24 u25 u26 u27 u28 u29 u30 u31 u32 u33 u34 u35 u36 u37 : Value, a = { tmps := #[.agg (ints .u8 hs), .pointer (some ⟨w.heap.size, 0, none⟩), .pointer none, .pointer (some ⟨w.heap.size + 1, 0, none⟩), .pointer (some ⟨g4, 0, none⟩), .int .i64 ((1 : Nat) : Int), .int .i64 ((1 : Nat) : Int), .agg (ints .u64 (zeros 32)), .pointer (some ⟨w.heap.size + 1, 0, none⟩), .slice (some ⟨w.heap.size, 0, none⟩) 16 16, .agg (ints .u64 (W2 x)), .agg (ints .u64 (W2 1)), .agg (ints .u64 (W2 X)), .int .i64 ((1 : Nat) : Int), .bool true, .int .i64 ((1 : Nat) : Int), .int .i64 ((1 : Nat) : Int), .int .i64 2, .int .i64 ((1 : Nat) : Int), .bool true, .int .i64 ((1 : Nat) : Int), u21, u22, u23, u24, u25, u26, u27, u28, u29, u30, u31, u32, u33, u34, u35, u36, u37, u38, u39, u40, undef], defers := [] } ∧ Below wr.heap.size wr W ∧ (D 0 → u21 = .pointer (some ⟨w.heap.size + 1, 0, none⟩)) ∧ (D 1 → u22 = .int .i64 ((1 : Nat) : Int)) ∧ (D 2 → u23 = .int .i64 2) ∧ (D 3 → u24 = .int .i64 ((1 : Nat) : Int)) ∧ (D 4 → u25 = .int .i64 3) ∧ (D 5 → u26 = .pointer (some ⟨w.heap.size + 1, 0, none⟩)) ∧ (D 6 → u27 = .int .i64 ((1 : Nat) : Int)) ∧ (D 7 → u28 = .pointer (some ⟨w.heap.size + 1, 0, none⟩)) ∧ (D 8 → u29 = .pointer (some ⟨w.heap.size + 1, 0, none⟩)) ∧ (D 9 → u30 = .pointer (some ⟨w.heap.size + 1, 2, none⟩)) ∧ (D 10 → u31 = .agg (ints .u64 (W2 V))) ∧ (D 11 → u32 = .agg (ints .u64 (W2 Y))) ∧ (D 12 → u33 = .agg (ints .u64 (W2 (V ^^^ 1 * Y)))) ∧ (D 13 → u34 = .pointer (some ⟨w.heap.size + 1, 0, none⟩)) ∧ (D 14 → u35 = .pointer (some ⟨w.heap.size + 1, 0, none⟩)) ∧ (D 15 → u36 = .pointer (some ⟨w.heap.size + 1, 6, none⟩))) ?_ ?_ ?_
          · exact ⟨_, _, _, _, _, _, _, _, _, _, _, _, _, _, _, _, _, rfl, ⟨rfl, rfl, rfl, Nat.le_refl _, fun _ _ => rfl⟩, (fun h => h.elim), (fun h => h.elim), (fun h => h.elim), (fun h => h.elim), (fun h => h.elim), (fun h => h.elim), (fun h => h.elim), (fun h => h.elim), (fun h => h.elim), (fun h => h.elim), (fun h => h.elim), (fun h => h.elim), (fun h => h.elim), (fun h => h.elim), (fun h => h.elim), (fun h => h.elim)⟩
          · intro i o hilt hi D a W hI hnD hall
            obtain ⟨u21, u22, u23, u24, u25, u26, u27, u28, u29, u30, u31, u32, u33, u34, u35, u36, u37, rfl, hW, f0, f1, f2, f3, f4, f5, f6, f7, f8, f9, f10, f11, f12, f13, f14, f15⟩ := hI
            rcases i with _ | _ | _ | _ | _ | _ | _ | _ | _ | _ | _ | _ | _ | _ | _ | _ | i
            · simp only [Nat.zero_add, Nat.reduceAdd, List.getElem?_toArray, List.getElem?_cons_succ, List.getElem?_cons_zero, Option.some.injEq] at hi
              subst hi
              refine wpOp_value (v := .pointer (some ⟨w.heap.size + 1, 0, none⟩)) rfl rfl rfl ?_
              exact ⟨_, _, _, _, _, _, _, _, _, _, _, _, _, _, _, _, _, rfl, hW, (fun _ => rfl), (fun h => f1 (rl h)), (fun h => f2 (rl h)), (fun h => f3 (rl h)), (fun h => f4 (rl h)), (fun h => f5 (rl h)), (fun h => f6 (rl h)), (fun h => f7 (rl h)), (fun h => f8 (rl h)), (fun h => f9 (rl h)), (fun h => f10 (rl h)), (fun h => f11 (rl h)), (fun h => f12 (rl h)), (fun h => f13 (rl h)), (fun h => f14 (rl h)), (fun h => f15 (rl h))⟩
            · simp only [Nat.zero_add, Nat.reduceAdd, List.getElem?_toArray, List.getElem?_cons_succ, List.getElem?_cons_zero, Option.some.injEq] at hi
              subst hi
              refine wpOp_value (v := .int .i64 ((1 : Nat) : Int)) rfl rfl rfl ?_
              exact ⟨_, _, _, _, _, _, _, _, _, _, _, _, _, _, _, _, _, rfl, hW, (fun h => f0 (rl h)), (fun _ => rfl), (fun h => f2 (rl h)), (fun h => f3 (rl h)), (fun h => f4 (rl h)), (fun h => f5 (rl h)), (fun h => f6 (rl h)), (fun h => f7 (rl h)), (fun h => f8 (rl h)), (fun h => f9 (rl h)), (fun h => f10 (rl h)), (fun h => f11 (rl h)), (fun h => f12 (rl h)), (fun h => f13 (rl h)), (fun h => f14 (rl h)), (fun h => f15 (rl h))⟩
            · simp only [Nat.zero_add, Nat.reduceAdd, List.getElem?_toArray, List.getElem?_cons_succ, List.getElem?_cons_zero, Option.some.injEq] at hi
              subst hi
              obtain rfl := f1 (pre_of hall 1 rfl)
              refine wpOp_value (v := .int .i64 2) rfl rfl (by kernel_rfl) ?_
              exact ⟨_, _, _, _, _, _, _, _, _, _, _, _, _, _, _, _, _, rfl, hW, (fun h => f0 (rl h)), (fun h => f1 (rl h)), (fun _ => rfl), (fun h => f3 (rl h)), (fun h => f4 (rl h)), (fun h => f5 (rl h)), (fun h => f6 (rl h)), (fun h => f7 (rl h)), (fun h => f8 (rl h)), (fun h => f9 (rl h)), (fun h => f10 (rl h)), (fun h => f11 (rl h)), (fun h => f12 (rl h)), (fun h => f13 (rl h)), (fun h => f14 (rl h)), (fun h => f15 (rl h))⟩
            · simp only [Nat.zero_add, Nat.reduceAdd, List.getElem?_toArray, List.getElem?_cons_succ, List.getElem?_cons_zero, Option.some.injEq] at hi
              subst hi
              refine wpOp_value (v := .int .i64 ((1 : Nat) : Int)) rfl rfl rfl ?_
              exact ⟨_, _, _, _, _, _, _, _, _, _, _, _, _, _, _, _, _, rfl, hW, (fun h => f0 (rl h)), (fun h => f1 (rl h)), (fun h => f2 (rl h)), (fun _ => rfl), (fun h => f4 (rl h)), (fun h => f5 (rl h)), (fun h => f6 (rl h)), (fun h => f7 (rl h)), (fun h => f8 (rl h)), (fun h => f9 (rl h)), (fun h => f10 (rl h)), (fun h => f11 (rl h)), (fun h => f12 (rl h)), (fun h => f13 (rl h)), (fun h => f14 (rl h)), (fun h => f15 (rl h))⟩
            · simp only [Nat.zero_add, Nat.reduceAdd, List.getElem?_toArray, List.getElem?_cons_succ, List.getElem?_cons_zero, Option.some.injEq] at hi
              subst hi
              obtain rfl := f2 (pre_of hall 2 rfl)
              obtain rfl := f3 (pre_of hall 3 rfl)
              refine wpOp_value (v := .int .i64 3) rfl rfl (by kernel_rfl) ?_
              exact ⟨_, _, _, _, _, _, _, _, _, _, _, _, _, _, _, _, _, rfl, hW, (fun h => f0 (rl h)), (fun h => f1 (rl h)), (fun h => f2 (rl h)), (fun h => f3 (rl h)), (fun _ => rfl), (fun h => f5 (rl h)), (fun h => f6 (rl h)), (fun h => f7 (rl h)), (fun h => f8 (rl h)), (fun h => f9 (rl h)), (fun h => f10 (rl h)), (fun h => f11 (rl h)), (fun h => f12 (rl h)), (fun h => f13 (rl h)), (fun h => f14 (rl h)), (fun h => f15 (rl h))⟩
            · simp only [Nat.zero_add, Nat.reduceAdd, List.getElem?_toArray, List.getElem?_cons_succ, List.getElem?_cons_zero, Option.some.injEq] at hi
              subst hi
              refine wpOp_value (v := .pointer (some ⟨w.heap.size + 1, 0, none⟩)) rfl rfl rfl ?_
              exact ⟨_, _, _, _, _, _, _, _, _, _, _, _, _, _, _, _, _, rfl, hW, (fun h => f0 (rl h)), (fun h => f1 (rl h)), (fun h => f2 (rl h)), (fun h => f3 (rl h)), (fun h => f4 (rl h)), (fun _ => rfl), (fun h => f6 (rl h)), (fun h => f7 (rl h)), (fun h => f8 (rl h)), (fun h => f9 (rl h)), (fun h => f10 (rl h)), (fun h => f11 (rl h)), (fun h => f12 (rl h)), (fun h => f13 (rl h)), (fun h => f14 (rl h)), (fun h => f15 (rl h))⟩
            · simp only [Nat.zero_add, Nat.reduceAdd, List.getElem?_toArray, List.getElem?_cons_succ, List.getElem?_cons_zero, Option.some.injEq] at hi
              subst hi
              refine wpOp_value (v := .int .i64 ((1 : Nat) : Int)) rfl rfl rfl ?_
              exact ⟨_, _, _, _, _, _, _, _, _, _, _, _, _, _, _, _, _, rfl, hW, (fun h => f0 (rl h)), (fun h => f1 (rl h)), (fun h => f2 (rl h)), (fun h => f3 (rl h)), (fun h => f4 (rl h)), (fun h => f5 (rl h)), (fun _ => rfl), (fun h => f7 (rl h)), (fun h => f8 (rl h)), (fun h => f9 (rl h)), (fun h => f10 (rl h)), (fun h => f11 (rl h)), (fun h => f12 (rl h)), (fun h => f13 (rl h)), (fun h => f14 (rl h)), (fun h => f15 (rl h))⟩
            · simp only [Nat.zero_add, Nat.reduceAdd, List.getElem?_toArray, List.getElem?_cons_succ, List.getElem?_cons_zero, Option.some.injEq] at hi
              subst hi
              obtain rfl := f5 (pre_of hall 5 rfl)
              refine wpOp_value (v := .pointer (some ⟨w.heap.size + 1, 0, none⟩)) rfl rfl (by kernel_rfl) ?_
              exact ⟨_, _, _, _, _, _, _, _, _, _, _, _, _, _, _, _, _, rfl, hW, (fun h => f0 (rl h)), (fun h => f1 (rl h)), (fun h => f2 (rl h)), (fun h => f3 (rl h)), (fun h => f4 (rl h)), (fun h => f5 (rl h)), (fun h => f6 (rl h)), (fun _ => rfl), (fun h => f8 (rl h)), (fun h => f9 (rl h)), (fun h => f10 (rl h)), (fun h => f11 (rl h)), (fun h => f12 (rl h)), (fun h => f13 (rl h)), (fun h => f14 (rl h)), (fun h => f15 (rl h))⟩
            · simp only [Nat.zero_add, Nat.reduceAdd, List.getElem?_toArray, List.getElem?_cons_succ, List.getElem?_cons_zero, Option.some.injEq] at hi
              subst hi
              obtain rfl := f7 (pre_of hall 7 rfl)
              refine wpOp_value (v := .pointer (some ⟨w.heap.size + 1, 0, none⟩)) rfl rfl (by kernel_rfl) ?_
              exact ⟨_, _, _, _, _, _, _, _, _, _, _, _, _, _, _, _, _, rfl, hW, (fun h => f0 (rl h)), (fun h => f1 (rl h)), (fun h => f2 (rl h)), (fun h => f3 (rl h)), (fun h => f4 (rl h)), (fun h => f5 (rl h)), (fun h => f6 (rl h)), (fun h => f7 (rl h)), (fun _ => rfl), (fun h => f9 (rl h)), (fun h => f10 (rl h)), (fun h => f11 (rl h)), (fun h => f12 (rl h)), (fun h => f13 (rl h)), (fun h => f14 (rl h)), (fun h => f15 (rl h))⟩
            · simp only [Nat.zero_add, Nat.reduceAdd, List.getElem?_toArray, List.getElem?_cons_succ, List.getElem?_cons_zero, Option.some.injEq] at hi
              subst hi
              obtain rfl := f8 (pre_of hall 8 rfl)
              obtain rfl := f6 (pre_of hall 6 rfl)
              refine wpOp_value (v := .pointer (some ⟨w.heap.size + 1, 2, none⟩)) rfl rfl (by kernel_rfl) ?_
              exact ⟨_, _, _, _, _, _, _, _, _, _, _, _, _, _, _, _, _, rfl, hW, (fun h => f0 (rl h)), (fun h => f1 (rl h)), (fun h => f2 (rl h)), (fun h => f3 (rl h)), (fun h => f4 (rl h)), (fun h => f5 (rl h)), (fun h => f6 (rl h)), (fun h => f7 (rl h)), (fun h => f8 (rl h)), (fun _ => rfl), (fun h => f10 (rl h)), (fun h => f11 (rl h)), (fun h => f12 (rl h)), (fun h => f13 (rl h)), (fun h => f14 (rl h)), (fun h => f15 (rl h))⟩
            · simp only [Nat.zero_add, Nat.reduceAdd, List.getElem?_toArray, List.getElem?_cons_succ, List.getElem?_cons_zero, Option.some.injEq] at hi
              subst hi
              obtain rfl := f9 (pre_of hall 9 rfl)
              refine wpOp_value (v := .agg (ints .u64 (W2 V))) rfl rfl (run_wide rfl rfl ((hW.cell (p := ⟨_, _, none⟩) lt1).trans c0) ((hW.cell (p := ⟨_, _, none⟩) lt1).trans c1)) ?_
              exact ⟨_, _, _, _, _, _, _, _, _, _, _, _, _, _, _, _, _, rfl, hW, (fun h => f0 (rl h)), (fun h => f1 (rl h)), (fun h => f2 (rl h)), (fun h => f3 (rl h)), (fun h => f4 (rl h)), (fun h => f5 (rl h)), (fun h => f6 (rl h)), (fun h => f7 (rl h)), (fun h => f8 (rl h)), (fun h => f9 (rl h)), (fun _ => rfl), (fun h => f11 (rl h)), (fun h => f12 (rl h)), (fun h => f13 (rl h)), (fun h => f14 (rl h)), (fun h => f15 (rl h))⟩
            · simp only [Nat.zero_add, Nat.reduceAdd, List.getElem?_toArray, List.getElem?_cons_succ, List.getElem?_cons_zero, Option.some.injEq] at hi
              subst hi
              refine wpOp_load rfl rfl rfl rfl (D4.below' hW) Try.ar54 rfl ?_
              exact ⟨_, _, _, _, _, _, _, _, _, _, _, _, _, _, _, _, _, rfl, hW, (fun h => f0 (rl h)), (fun h => f1 (rl h)), (fun h => f2 (rl h)), (fun h => f3 (rl h)), (fun h => f4 (rl h)), (fun h => f5 (rl h)), (fun h => f6 (rl h)), (fun h => f7 (rl h)), (fun h => f8 (rl h)), (fun h => f9 (rl h)), (fun h => f10 (rl h)), (fun _ => rfl), (fun h => f12 (rl h)), (fun h => f13 (rl h)), (fun h => f14 (rl h)), (fun h => f15 (rl h))⟩
            · simp only [Nat.zero_add, Nat.reduceAdd, List.getElem?_toArray, List.getElem?_cons_succ, List.getElem?_cons_zero, Option.some.injEq] at hi
              subst hi
              obtain rfl := f10 (pre_of hall 10 rfl)
              obtain rfl := f11 (pre_of hall 11 rfl)
              refine wpOp_call 44 rfl rfl rfl Try.func44 (by kernel_rfl) (by kernel_rfl) (plus10_c V Y 1 hv hY (Nat.le_refl 1) W) ?_
              intro W' hW'
              exact ⟨_, _, _, _, _, _, _, _, _, _, _, _, _, _, _, _, _, rfl, bCall hW hW' hW.size, (fun h => f0 (rl h)), (fun h => f1 (rl h)), (fun h => f2 (rl h)), (fun h => f3 (rl h)), (fun h => f4 (rl h)), (fun h => f5 (rl h)), (fun h => f6 (rl h)), (fun h => f7 (rl h)), (fun h => f8 (rl h)), (fun h => f9 (rl h)), (fun h => f10 (rl h)), (fun h => f11 (rl h)), (fun _ => rfl), (fun h => f13 (rl h)), (fun h => f14 (rl h)), (fun h => f15 (rl h))⟩
            · simp only [Nat.zero_add, Nat.reduceAdd, List.getElem?_toArray, List.getElem?_cons_succ, List.getElem?_cons_zero, Option.some.injEq] at hi
              subst hi
              obtain rfl := f0 (pre_of hall 0 rfl)
              refine wpOp_value (v := .pointer (some ⟨w.heap.size + 1, 0, none⟩)) rfl rfl (by kernel_rfl) ?_
              exact ⟨_, _, _, _, _, _, _, _, _, _, _, _, _, _, _, _, _, rfl, hW, (fun h => f0 (rl h)), (fun h => f1 (rl h)), (fun h => f2 (rl h)), (fun h => f3 (rl h)), (fun h => f4 (rl h)), (fun h => f5 (rl h)), (fun h => f6 (rl h)), (fun h => f7 (rl h)), (fun h => f8 (rl h)), (fun h => f9 (rl h)), (fun h => f10 (rl h)), (fun h => f11 (rl h)), (fun h => f12 (rl h)), (fun _ => rfl), (fun h => f14 (rl h)), (fun h => f15 (rl h))⟩
            · simp only [Nat.zero_add, Nat.reduceAdd, List.getElem?_toArray, List.getElem?_cons_succ, List.getElem?_cons_zero, Option.some.injEq] at hi
              subst hi
              obtain rfl := f13 (pre_of hall 13 rfl)
              refine wpOp_value (v := .pointer (some ⟨w.heap.size + 1, 0, none⟩)) rfl rfl (by kernel_rfl) ?_
              exact ⟨_, _, _, _, _, _, _, _, _, _, _, _, _, _, _, _, _, rfl, hW, (fun h => f0 (rl h)), (fun h => f1 (rl h)), (fun h => f2 (rl h)), (fun h => f3 (rl h)), (fun h => f4 (rl h)), (fun h => f5 (rl h)), (fun h => f6 (rl h)), (fun h => f7 (rl h)), (fun h => f8 (rl h)), (fun h => f9 (rl h)), (fun h => f10 (rl h)), (fun h => f11 (rl h)), (fun h => f12 (rl h)), (fun h => f13 (rl h)), (fun _ => rfl), (fun h => f15 (rl h))⟩
            · simp only [Nat.zero_add, Nat.reduceAdd, List.getElem?_toArray, List.getElem?_cons_succ, List.getElem?_cons_zero, Option.some.injEq] at hi
              subst hi
              obtain rfl := f14 (pre_of hall 14 rfl)
              obtain rfl := f4 (pre_of hall 4 rfl)
              refine wpOp_value (v := .pointer (some ⟨w.heap.size + 1, 6, none⟩)) rfl rfl (by kernel_rfl) ?_
              exact ⟨_, _, _, _, _, _, _, _, _, _, _, _, _, _, _, _, _, rfl, hW, (fun h => f0 (rl h)), (fun h => f1 (rl h)), (fun h => f2 (rl h)), (fun h => f3 (rl h)), (fun h => f4 (rl h)), (fun h => f5 (rl h)), (fun h => f6 (rl h)), (fun h => f7 (rl h)), (fun h => f8 (rl h)), (fun h => f9 (rl h)), (fun h => f10 (rl h)), (fun h => f11 (rl h)), (fun h => f12 (rl h)), (fun h => f13 (rl h)), (fun h => f14 (rl h)), (fun _ => rfl)⟩
            · exfalso; omega
          · rintro D a W ⟨u21, u22, u23, u24, u25, u26, u27, u28, u29, u30, u31, u32, u33, u34, u35, u36, u37, rfl, hW, f0, f1, f2, f3, f4, f5, f6, f7, f8, f9, f10, f11, f12, f13, f14, f15⟩ hall
            obtain rfl := f0 (hall 0 (by decide))
            obtain rfl := f1 (hall 1 (by decide))
            obtain rfl := f2 (hall 2 (by decide))
            obtain rfl := f3 (hall 3 (by decide))
            obtain rfl := f4 (hall 4 (by decide))
            obtain rfl := f5 (hall 5 (by decide))
            obtain rfl := f6 (hall 6 (by decide))
            obtain rfl := f7 (hall 7 (by decide))
            obtain rfl := f8 (hall 8 (by decide))
            obtain rfl := f9 (hall 9 (by decide))
            obtain rfl := f10 (hall 10 (by decide))
            obtain rfl := f11 (hall 11 (by decide))
            obtain rfl := f12 (hall 12 (by decide))
            obtain rfl := f13 (hall 13 (by decide))
            obtain rfl := f14 (hall 14 (by decide))
            obtain rfl := f15 (hall 15 (by decide))
            clear f0 f1 f2 f3 f4 f5 f6 f7 f8 f9 f10 f11 f12 f13 f14 f15 hall
            have E1 := D1.below' hW
            have E4 := D4.below' hW
            have hbel5 := bCall hbel4 hW hbel4.size
            rw [← hn]
            refine wpOp_store_wide rfl rfl rfl rfl rfl E1 (by rw [lD]; omega) ?_
            have F1 := (E1.intSet 6 (mul R1 X 3 % 18446744073709551616)).intSet (6 + 1) (mul R1 X 3 / 18446744073709551616)
            rw [show ((tabL X 3).set 6 (mul R1 X 3 % 18446744073709551616)).set (6 + 1) (mul R1 X 3 / 18446744073709551616) = tabL X 4 from tab_set X 3 (by omega)] at F1
            have F4 := (E4.far (p := ⟨w.heap.size + 1, 6, none⟩) (Ne.symm hg4) (.int .u64 ((mul R1 X 3 % 18446744073709551616 : Nat) : Int))).far (p := ⟨w.heap.size + 1, 6 + 1, none⟩) (Ne.symm hg4) (.int .u64 ((mul R1 X 3 / 18446744073709551616 : Nat) : Int))
            have hbel6 := (hbel5.setCell (p := ⟨w.heap.size + 1, 6, none⟩) (Nat.le_succ _) (.int .u64 ((mul R1 X 3 % 18446744073709551616 : Nat) : Int))).setCell (p := ⟨w.heap.size + 1, 6 + 1, none⟩) (Nat.le_succ _) (.int .u64 ((mul R1 X 3 / 18446744073709551616 : Nat) : Int))
            clear E1 E4 hbel5 c0 c1 D1 D4 hbel4 hW hn
            generalize (W.setCell ⟨w.heap.size + 1, 6, none⟩ (.int .u64 ((mul R1 X 3 % 18446744073709551616 : Nat) : Int))).setCell ⟨w.heap.size + 1, 6 + 1, none⟩ (.int .u64 ((mul R1 X 3 / 18446744073709551616 : Nat) : Int)) = w9 at *
            go_wp2_with (fail)
            refine ⟨⟨_, _, _, _, _, _, _, _, _, _, _, _, _, _, _, _, _, _, _, _, _, ⟨2, by omega, rfl, F1, F4, hbel6⟩, rfl⟩, by simp [intOf]⟩
        · simp only [Nat.reduceAdd] at D1
          clear hnx
          go_wp2_with (refine wpList_load_ints rfl 54 _ rfl g4 rfl D4 Try.ar54 rfl ?_; (try simp only [Act.put, List.setIfInBounds_toArray, List.set_cons_zero, List.set_cons_succ, World.size_alloc, setRow_size, Nat.add_assoc, Nat.reduceAdd]))
          refine (up_c Y hY _).mono ?_
          rintro e w4 ⟨rfl, hb4⟩
          have F4' := D4.below' hb4
          have F4 := F4'.row (ints .u64 (W2 (up R1 Y)))
          have F1 := (D1.below' hb4).rowFar hg4 (ints .u64 (W2 (up R1 Y)))
          have hbel7 := bSetRow (bCall hbel4 hb4 hbel4.size) hg4b (ints .u64 (W2 (up R1 Y)))
          clear D1 D4 hbel4 hb4
          go_wp2_with (refine wpList_store_ints rfl 54 _ _ rfl g4 rfl rfl F4' rfl Try.ar54 rfl ?_; (try simp only [Act.put, List.setIfInBounds_toArray, List.set_cons_zero, List.set_cons_succ, World.size_alloc, setRow_size, Nat.add_assoc, Nat.reduceAdd]))
          rw [← HU.out] at F1 F4 hbel7 ⊢
          refine ⟨⟨2, by omega, rfl, F1, F4, hbel7⟩, by simp [intOf]⟩
    · have hY := Gf.upN_lt Gf.R1_lt hX 2
      have hup : upN R1 (2 + 1) X = up R1 (upN R1 2 X) := rfl
      have HU := Lib.hid hup
      clear hup
      have hnx := fun i (hi : i < 4) => tab_next X 2 i (by omega) hi
      generalize hYd : upN R1 2 X = Y at *
      clear hYd
      simp only [Nat.reducePow] at C1 hnx
      go_wp2_with (fail)
      go_loopw [18] (fun t wr => ∃ i : Nat, i ≤ 4 ∧ t = .int .i64 i ∧ Blk wr (w.heap.size + 1) 70 (ints .u64 (tabL X (4 + i))) ∧ Blk wr g4 54 (ints .u64 (W2 Y)) ∧ Below w.heap.size w wr) (fun t wr => 4 - (intOf t).toNat)
      case atStart => exact ⟨0, by omega, rfl, C1, C4, hbelr⟩
      case round =>
        obtain ⟨i, hi, rfl, D1, D4, hbel4⟩ := hrel
        clear C1 C4 hbelr
        have hi5 : i = 0 ∨ i = 1 ∨ i = 2 ∨ i = 3 ∨ i = 4 := by omega
        rcases hi5 with rfl | rfl | rfl | rfl | rfl
        · have hv := tabV_lt X 4 0 hX
          have hn := hnx 0 (by omega)
          simp only [Nat.reduceAdd] at D1 hn
          have lD := tabL_len X 4
          have c0 : wr.cell? ⟨w.heap.size + 1, 0, none⟩ = some (.int .u64 ((tabV X 4 0 % 18446744073709551616 : Nat) : Int)) := by
            have := D1.int (i := 0) (by rw [lD]; omega)
            rw [show (tabL X 4).getD 0 0 = _ from tabL_lo X 4 (n := 0) (by omega)] at this
            exact this
          have c1 : wr.cell? ⟨w.heap.size + 1, 0 + 1, none⟩ = some (.int .u64 ((tabV X 4 0 / 18446744073709551616 : Nat) : Int)) := by
            have := D1.int (i := 0 + 1) (by rw [lD]; omega)
            rw [show (tabL X 4).getD (0 + 1) 0 = _ from tabL_hi X 4 (n := 0) (by omega)] at this
            exact this
          have lt1 := D1.lt
          generalize tabV X 4 0 = V at *
          go_wp2_with (fail)
          refine wp_region_last2 16 (by kernel_rfl) (by kernel_rfl) (by kernel_rfl) (by kernel_rfl) (fun D a W => ∃ u21 u22 u23 u24 u25 u26 u27 u28 u29 u30 u31 u32 u33 u34 u35 u36 u37 : Value, a = { tmps := #[.agg (ints .u8 hs), .pointer (some ⟨w.heap.size, 0, none⟩), .pointer none, .pointer (some ⟨w.heap.size + 1, 0, none⟩), .pointer (some ⟨g4, 0, none⟩), .int .i64 ((2 : Nat) : Int), .int .i64 ((0 : Nat) : Int), .agg (ints .u64 (zeros 32)), .pointer (some ⟨w.heap.size + 1, 0, none⟩), .slice (some ⟨w.heap.size, 0, none⟩) 16 16, .agg (ints .u64 (W2 x)), .agg (ints .u64 (W2 1)), .agg (ints .u64 (W2 X)), .int .i64 ((2 : Nat) : Int), .bool true, .int .i64 ((2 : Nat) : Int), .int .i64 ((2 : Nat) : Int), .int .i64 4, .int .i64 ((0 : Nat) : Int), .bool true, .int .i64 ((0 : Nat) : Int), u21, u22, u23, u24, u25, u26, u27, u28, u29, u30, u31, u32, u33, u34, u35, u36, u37, u38, u39, u40, undef], defers := [] } ∧ Below wr.heap.size wr W ∧ (D 0 → u21 = .pointer (some ⟨w.heap.size + 1, 0, none⟩)) ∧ (D 1 → u22 = .int .i64 ((2 : Nat) : Int)) ∧ (D 2 → u23 = .int .i64 4) ∧ (D 3 → u24 = .int .i64 ((0 : Nat) : Int)) ∧ (D 4 → u25 = .int .i64 4) ∧ (D 5 → u26 = .pointer (some ⟨w.heap.size + 1, 0, none⟩)) ∧ (D 6 → u27 = .int .i64 ((0 : Nat) : Int)) ∧ (D 7 → u28 = .pointer (some ⟨w.heap.size + 1, 0, none⟩)) ∧ (D 8 → u29 = .pointer (some ⟨w.heap.size + 1, 0, none⟩)) ∧ (D 9 → u30 = .pointer (some ⟨w.heap.size + 1, 0, none⟩)) ∧ (D 10 → u31 = .agg (ints .u64 (W2 V))) ∧ (D 11 → u32 = .agg (ints .u64 (W2 Y))) ∧ (D 12 → u33 = .agg (ints .u64 (W2 (V ^^^ 1 * Y)))) ∧ (D 13 → u34 = .pointer (some ⟨w.heap.size + 1, 0, none⟩)) ∧ (D 14 → u35 = .pointer (some ⟨w.heap.size + 1, 0, none⟩)) ∧ (D 15 → u36 = .pointer (some ⟨w.heap.size + 1, 8, none⟩))) ?_ ?_ ?_
          · exact ⟨_, _, _, _, _, _, _, _, _, _, _, _, _, _, _, _, _, rfl, ⟨rfl, rfl, rfl, Nat.le_refl _, fun _ _ => rfl⟩, (fun h => h.elim), (fun h => h.elim), (fun h => h.elim), (fun h => h.elim), (fun h => h.elim), (fun h => h.elim), (fun h => h.elim), (fun h => h.elim), (fun h => h.elim), (fun h => h.elim), (fun h => h.elim), (fun h => h.elim), (fun h => h.elim), (fun h => h.elim), (fun h => h.elim), (fun h => h.elim)⟩
          · intro i o hilt hi D a W hI hnD hall
            obtain ⟨u21, u22, u23, u24, u25, u26, u27, u28, u29, u30, u31, u32, u33, u34, u35, u36, u37, rfl, hW, f0, f1, f2, f3, f4, f5, f6, f7, f8, f9, f10, f11, f12, f13, f14, f15⟩ := hI
            rcases i with _ | _ | _ | _ | _ | _ | _ | _ | _ | _ | _ | _ | _ | _ | _ | _ | i
            · simp only [Nat.zero_add, Nat.reduceAdd, List.getElem?_toArray, List.getElem?_cons_succ, List.getElem?_cons_zero, Option.some.injEq] at hi
              subst hi
              refine wpOp_value (v := .pointer (some ⟨w.heap.size + 1, 0, none⟩)) rfl rfl rfl ?_
              exact ⟨_, _, _, _, _, _, _, _, _, _, _, _, _, _, _, _, _, rfl, hW, (fun _ => rfl), (fun h => f1 (rl h)), (fun h => f2 (rl h)), (fun h => f3 (rl h)), (fun h => f4 (rl h)), (fun h => f5 (rl h)), (fun h => f6 (rl h)), (fun h => f7 (rl h)), (fun h => f8 (rl h)), (fun h => f9 (rl h)), (fun h => f10 (rl h)), (fun h => f11 (rl h)), (fun h => f12 (rl h)), (fun h => f13 (rl h)), (fun h => f14 (rl h)), (fun h => f15 (rl h))⟩
            · simp only [Nat.zero_add, Nat.reduceAdd, List.getElem?_toArray, List.getElem?_cons_succ, List.getElem?_cons_zero, Option.some.injEq] at hi
              subst hi
              refine wpOp_value (v := .int .i64 ((2 : Nat) : Int)) rfl rfl rfl ?_
              exact ⟨_, _, _, _, _, _, _, _, _, _, _, _, _, _, _, _, _, rfl, hW, (fun h => f0 (rl h)), (fun _ => rfl), (fun h => f2 (rl h)), (fun h => f3 (rl h)), (fun h => f4 (rl h)), (fun h => f5 (rl h)), (fun h => f6 (rl h)), (fun h => f7 (rl h)), (fun h => f8 (rl h)), (fun h => f9 (rl h)), (fun h => f10 (rl h)), (fun h => f11 (rl h)), (fun h => f12 (rl h)), (fun h => f13 (rl h)), (fun h => f14 (rl h)), (fun h => f15 (rl h))⟩
            · simp only [Nat.zero_add, Nat.reduceAdd, List.getElem?_toArray, List.getElem?_cons_succ, List.getElem?_cons_zero, Option.some.injEq] at hi
              subst hi
              obtain rfl := f1 (pre_of hall 1 rfl)
              refine wpOp_value (v := .int .i64 4) rfl rfl (by kernel_rfl) ?_
              exact ⟨_, _, _, _, _, _, _, _, _, _, _, _, _, _, _, _, _, rfl, hW, (fun h => f0 (rl h)), (fun h => f1 (rl h)), (fun _ => rfl), (fun h => f3 (rl h)), (fun h => f4 (rl h)), (fun h => f5 (rl h)), (fun h => f6 (rl h)), (fun h => f7 (rl h)), (fun h => f8 (rl h)), (fun h => f9 (rl h)), (fun h => f10 (rl h)), (fun h => f11 (rl h)), (fun h => f12 (rl h)), (fun h => f13 (rl h)), (fun h => f14 (rl h)), (fun h => f15 (rl h))⟩
            · simp only [Nat.zero_add, Nat.reduceAdd, List.getElem?_toArray, List.getElem?_cons_succ, List.getElem?_cons_zero, Option.some.injEq] at hi
              subst hi
              refine wpOp_value (v := .int .i64 ((0 : Nat) : Int)) rfl rfl rfl ?_
              exact ⟨_, _, _, _, _, _, _, _, _, _, _, _, _, _, _, _, _, rfl, hW, (fun h => f0 (rl h)), (fun h => f1 (rl h)), (fun h => f2 (rl h)), (fun _ => rfl), (fun h => f4 (rl h)), (fun h => f5 (rl h)), (fun h => f6 (rl h)), (fun h => f7 (rl h)), (fun h => f8 (rl h)), (fun h => f9 (rl h)), (fun h => f10 (rl h)), (fun h => f11 (rl h)), (fun h => f12 (rl h)), (fun h => f13 (rl h)), (fun h => f14 (rl h)), (fun h => f15 (rl h))⟩
            · simp only [Nat.zero_add, Nat.reduceAdd, List.getElem?_toArray, List.getElem?_cons_succ, List.getElem?_cons_zero, Option.some.injEq] at hi
              subst hi
              obtain rfl := f2 (pre_of hall 2 rfl)
              obtain rfl := f3 (pre_of hall 3 rfl)
              refine wpOp_value (v := .int .i64 4) rfl rfl (by kernel_rfl) ?_
              exact ⟨_, _, _, _, _, _, _, _, _, _, _, _, _, _, _, _, _, rfl, hW, (fun h => f0 (rl h)), (fun h => f1 (rl h)), (fun h => f2 (rl h)), (fun h => f3 (rl h)), (fun _ => rfl), (fun h => f5 (rl h)), (fun h => f6 (rl h)), (fun h => f7 (rl h)), (fun h => f8 (rl h)), (fun h => f9 (rl h)), (fun h => f10 (rl h)), (fun h => f11 (rl h)), (fun h => f12 (rl h)), (fun h => f13 (rl h)), (fun h => f14 (rl h)), (fun h => f15 (rl h))⟩
            · simp only [Nat.zero_add, Nat.reduceAdd, List.getElem?_toArray, List.getElem?_cons_succ, List.getElem?_cons_zero, Option.some.injEq] at hi
              subst hi
              refine wpOp_value (v := .pointer (some ⟨w.heap.size + 1, 0, none⟩)) rfl rfl rfl ?_
              exact ⟨_, _, _, _, _, _, _, _, _, _, _, _, _, _, _, _, _, rfl, hW, (fun h => f0 (rl h)), (fun h => f1 (rl h)), (fun h => f2 (rl h)), (fun h => f3 (rl h)), (fun h => f4 (rl h)), (fun _ => rfl), (fun h => f6 (rl h)), (fun h => f7 (rl h)), (fun h => f8 (rl h)), (fun h => f9 (rl h)), (fun h => f10 (rl h)), (fun h => f11 (rl h)), (fun h => f12 (rl h)), (fun h => f13 (rl h)), (fun h => f14 (rl h)), (fun h => f15 (rl h))⟩
            · simp only [Nat.zero_add, Nat.reduceAdd, List.getElem?_toArray, List.getElem?_cons_succ, List.getElem?_cons_zero, Option.some.injEq] at hi
              subst hi
              refine wpOp_value (v := .int .i64 ((0 : Nat) : Int)) rfl rfl rfl ?_
              exact ⟨_, _, _, _, _, _, _, _, _, _, _, _, _, _, _, _, _, rfl, hW, (fun h => f0 (rl h)), (fun h => f1 (rl h)), (fun h => f2 (rl h)), (fun h => f3 (rl h)), (fun h => f4 (rl h)), (fun h => f5 (rl h)), (fun _ => rfl), (fun h => f7 (rl h)), (fun h => f8 (rl h)), (fun h => f9 (rl h)), (fun h => f10 (rl h)), (fun h => f11 (rl h)), (fun h => f12 (rl h)), (fun h => f13 (rl h)), (fun h => f14 (rl h)), (fun h => f15 (rl h))⟩
            · simp only [Nat.zero_add, Nat.reduceAdd, List.getElem?_toArray, List.getElem?_cons_succ, List.getElem?_cons_zero, Option.some.injEq] at hi
              subst hi
              obtain rfl := f5 (pre_of hall 5 rfl)
              refine wpOp_value (v := .pointer (some ⟨w.heap.size + 1, 0, none⟩)) rfl rfl (by kernel_rfl) ?_
              exact ⟨_, _, _, _, _, _, _, _, _, _, _, _, _, _, _, _, _, rfl, hW, (fun h => f0 (rl h)), (fun h => f1 (rl h)), (fun h => f2 (rl h)), (fun h => f3 (rl h)), (fun h => f4 (rl h)), (fun h => f5 (rl h)), (fun h => f6 (rl h)), (fun _ => rfl), (fun h => f8 (rl h)), (fun h => f9 (rl h)), (fun h => f10 (rl h)), (fun h => f11 (rl h)), (fun h => f12 (rl h)), (fun h => f13 (rl h)), (fun h => f14 (rl h)), (fun h => f15 (rl h))⟩
            · simp only [Nat.zero_add, Nat.reduceAdd, List.getElem?_toArray, List.getElem?_cons_succ, List.getElem?_cons_zero, Option.some.injEq] at hi
              subst hi
              obtain rfl := f7 (pre_of hall 7 rfl)
              refine wpOp_value (v := .pointer (some ⟨w.heap.size + 1, 0, none⟩)) rfl rfl (by kernel_rfl) ?_
              exact ⟨_, _, _, _, _, _, _, _, _, _, _, _, _, _, _, _, _, rfl, hW, (fun h => f0 (rl h)), (fun h => f1 (rl h)), (fun h => f2 (rl h)), (fun h => f3 (rl h)), (fun h => f4 (rl h)), (fun h => f5 (rl h)), (fun h => f6 (rl h)), (fun h => f7 (rl h)), (fun _ => rfl), (fun h => f9 (rl h)), (fun h => f10 (rl h)), (fun h => f11 (rl h)), (fun h => f12 (rl h)), (fun h => f13 (rl h)), (fun h => f14 (rl h)), (fun h => f15 (rl h))⟩
            · simp only [Nat.zero_add, Nat.reduceAdd, List.getElem?_toArray, List.getElem?_cons_succ, List.getElem?_cons_zero, Option.some.injEq] at hi
              subst hi
              obtain rfl := f8 (pre_of hall 8 rfl)
              obtain rfl := f6 (pre_of hall 6 rfl)
              refine wpOp_value (v := .pointer (some ⟨w.heap.size + 1, 0, none⟩)) rfl rfl (by kernel_rfl) ?_
              exact ⟨_, _, _, _, _, _, _, _, _, _, _, _, _, _, _, _, _, rfl, hW, (fun h => f0 (rl h)), (fun h => f1 (rl h)), (fun h => f2 (rl h)), (fun h => f3 (rl h)), (fun h => f4 (rl h)), (fun h => f5 (rl h)), (fun h => f6 (rl h)), (fun h => f7 (rl h)), (fun h => f8 (rl h)), (fun _ => rfl), (fun h => f10 (rl h)), (fun h => f11 (rl h)), (fun h => f12 (rl h)), (fun h => f13 (rl h)), (fun h => f14 (rl h)), (fun h => f15 (rl h))⟩
            · simp only [Nat.zero_add, Nat.reduceAdd, List.getElem?_toArray, List.getElem?_cons_succ, List.getElem?_cons_zero, Option.some.injEq] at hi
              subst hi
              obtain rfl := f9 (pre_of hall 9 rfl)
              refine wpOp_value (v := .agg (ints .u64 (W2 V))) rfl rfl (run_wide rfl rfl ((hW.cell (p := ⟨_, _, none⟩) lt1).trans c0) ((hW.cell (p := ⟨_, _, none⟩) lt1).trans c1)) ?_
              exact ⟨_, _, _, _, _, _, _, _, _, _, _, _, _, _, _, _, _, rfl, hW, (fun h => f0 (rl h)), (fun h => f1 (rl h)), (fun h => f2 (rl h)), (fun h => f3 (rl h)), (fun h => f4 (rl h)), (fun h => f5 (rl h)), (fun h => f6 (rl h)), (fun h => f7 (rl h)), (fun h => f8 (rl h)), (fun h => f9 (rl h)), (fun _ => rfl), (fun h => f11 (rl h)), (fun h => f12 (rl h)), (fun h => f13 (rl h)), (fun h => f14 (rl h)), (fun h => f15 (rl h))⟩
            · simp only [Nat.zero_add, Nat.reduceAdd, List.getElem?_toArray, List.getElem?_cons_succ, List.getElem?_cons_zero, Option.some.injEq] at hi
              subst hi
              refine wpOp_load rfl rfl rfl rfl (D4.below' hW) Try.ar54 rfl ?_
              exact ⟨_, _, _, _, _, _, _, _, _, _, _, _, _, _, _, _, _, rfl, hW, (fun h => f0 (rl h)), (fun h => f1 (rl h)), (fun h => f2 (rl h)), (fun h => f3 (rl h)), (fun h => f4 (rl h)), (fun h => f5 (rl h)), (fun h => f6 (rl h)), (fun h => f7 (rl h)), (fun h => f8 (rl h)), (fun h => f9 (rl h)), (fun h => f10 (rl h)), (fun _ => rfl), (fun h => f12 (rl h)), (fun h => f13 (rl h)), (fun h => f14 (rl h)), (fun h => f15 (rl h))⟩
            · simp only [Nat.zero_add, Nat.reduceAdd, List.getElem?_toArray, List.getElem?_cons_succ, List.getElem?_cons_zero, Option.some.injEq] at hi
              subst hi
              obtain rfl := f10 (pre_of hall 10 rfl)
              obtain rfl := f11 (pre_of hall 11 rfl)
              refine wpOp_call 44 rfl rfl rfl Try.func44 (by kernel_rfl) (by kernel_rfl) (plus10_c V Y 1 hv hY (Nat.le_refl 1) W) ?_
              intro W' hW'
              exact ⟨_, _, _, _, _, _, _, _, _, _, _, _, _, _, _, _, _, rfl, bCall hW hW' hW.size, (fun h => f0 (rl h)), (fun h => f1 (rl h)), (fun h => f2 (rl h)), (fun h => f3 (rl h)), (fun h => f4 (rl h)), (fun h => f5 (rl h)), (fun h => f6 (rl h)), (fun h => f7 (rl h)), (fun h => f8 (rl h)), (fun h => f9 (rl h)), (fun h => f10 (rl h)), (fun h => f11 (rl h)), (fun _ => rfl), (fun h => f13 (rl h)), (fun h => f14 (rl h)), (fun h => f15 (rl h))⟩
            · simp only [Nat.zero_add, Nat.reduceAdd, List.getElem?_toArray, List.getElem?_cons_succ, List.getElem?_cons_zero, Option.some.injEq] at hi
              subst hi
              obtain rfl := f0 (pre_of hall 0 rfl)
              refine wpOp_value (v := .pointer (some ⟨w.heap.size + 1, 0, none⟩)) rfl rfl (by kernel_rfl) ?_
              exact ⟨_, _, _, _, _, _, _, _, _, _, _, _, _, _, _, _, _, rfl, hW, (fun h => f0 (rl h)), (fun h => f1 (rl h)), (fun h => f2 (rl h)), (fun h => f3 (rl h)), (fun h => f4 (rl h)), (fun h => f5 (rl h)), (fun h => f6 (rl h)), (fun h => f7 (rl h)), (fun h => f8 (rl h)), (fun h => f9 (rl h)), (fun h => f10 (rl h)), (fun h => f11 (rl h)), (fun h => f12 (rl h)), (fun _ => rfl), (fun h => f14 (rl h)), (fun h => f15 (rl h))⟩
            · simp only [Nat.zero_add, Nat.reduceAdd, List.getElem?_toArray, List.getElem?_cons_succ, List.getElem?_cons_zero, Option.some.injEq] at hi
              subst hi
              obtain rfl := f13 (pre_of hall 13 rfl)
              refine wpOp_value (v := .pointer (some ⟨w.heap.size + 1, 0, none⟩)) rfl rfl (by kernel_rfl) ?_
              exact ⟨_, _, _, _, _, _, _, _, _, _, _, _, _, _, _, _, _, rfl, hW, (fun h => f0 (rl h)), (fun h => f1 (rl h)), (fun h => f2 (rl h)), (fun h => f3 (rl h)), (fun h => f4 (rl h)), (fun h => f5 (rl h)), (fun h => f6 (rl h)), (fun h => f7 (rl h)), (fun h => f8 (rl h)), (fun h => f9 (rl h)), (fun h => f10 (rl h)), (fun h => f11 (rl h)), (fun h => f12 (rl h)), (fun h => f13 (rl h)), (fun _ => rfl), (fun h => f15 (rl h))⟩
            · simp only [Nat.zero_add, Nat.reduceAdd, List.getElem?_toArray, List.getElem?_cons_succ, List.getElem?_cons_zero, Option.some.injEq] at hi
              subst hi
              obtain rfl := f14 (pre_of hall 14 rfl)
              obtain rfl := f4 (pre_of hall 4 rfl)
              refine wpOp_value (v := .pointer (some ⟨w.heap.size + 1, 8, none⟩)) rfl rfl (by kernel_rfl) ?_
              exact ⟨_, _, _, _, _, _, _, _, _, _, _, _, _, _, _, _, _, rfl, hW, (fun h => f0 (rl h)), (fun h => f1 (rl h)), (fun h => f2 (rl h)), (fun h => f3 (rl h)), (fun h => f4 (rl h)), (fun h => f5 (rl h)), (fun h => f6 (rl h)), (fun h => f7 (rl h)), (fun h => f8 (rl h)), (fun h => f9 (rl h)), (fun h => f10 (rl h)), (fun h => f11 (rl h)), (fun h => f12 (rl h)), (fun h => f13 (rl h)), (fun h => f14 (rl h)), (fun _ => rfl)⟩
            · exfalso; omega
          · rintro D a W ⟨u21, u22, u23, u24, u25, u26, u27, u28, u29, u30, u31, u32, u33, u34, u35, u36, u37, rfl, hW, f0, f1, f2, f3, f4, f5, f6, f7, f8, f9, f10, f11, f12, f13, f14, f15⟩ hall
            obtain rfl := f0 (hall 0 (by decide))
            obtain rfl := f1 (hall 1 (by decide))
            obtain rfl := f2 (hall 2 (by decide))
            obtain rfl := f3 (hall 3 (by decide))
            obtain rfl := f4 (hall 4 (by decide))
            obtain rfl := f5 (hall 5 (by decide))
            obtain rfl := f6 (hall 6 (by decide))
            obtain rfl := f7 (hall 7 (by decide))
            obtain rfl := f8 (hall 8 (by decide))
            obtain rfl := f9 (hall 9 (by decide))
            obtain rfl := f10 (hall 10 (by decide))
            obtain rfl := f11 (hall 11 (by decide))
            obtain rfl := f12 (hall 12 (by decide))
            obtain rfl := f13 (hall 13 (by decide))
            obtain rfl := f14 (hall 14 (by decide))
            obtain rfl := f15 (hall 15 (by decide))
            clear f0 f1 f2 f3 f4 f5 f6 f7 f8 f9 f10 f11 f12 f13 f14 f15 hall
            have E1 := D1.below' hW
            have E4 := D4.below' hW
            have hbel5 := bCall hbel4 hW hbel4.size
            rw [← hn]
            refine wpOp_store_wide rfl rfl rfl rfl rfl E1 (by rw [lD]; omega) ?_
            have F1 := (E1.intSet 8 (mul R1 X 4 % 18446744073709551616)).intSet (8 + 1) (mul R1 X 4 / 18446744073709551616)
            rw [show ((tabL X 4).set 8 (mul R1 X 4 % 18446744073709551616)).set (8 + 1) (mul R1 X 4 / 18446744073709551616) = tabL X 5 from tab_set X 4 (by omega)] at F1
            have F4 := (E4.far (p := ⟨w.heap.size + 1, 8, none⟩) (Ne.symm hg4) (.int .u64 ((mul R1 X 4 % 18446744073709551616 : Nat) : Int))).far (p := ⟨w.heap.size + 1, 8 + 1, none⟩) (Ne.symm hg4) (.int .u64 ((mul R1 X 4 / 18446744073709551616 : Nat) : Int))
            have hbel6 := (hbel5.setCell (p := ⟨w.heap.size + 1, 8, none⟩) (Nat.le_succ _) (.int .u64 ((mul R1 X 4 % 18446744073709551616 : Nat) : Int))).setCell (p := ⟨w.heap.size + 1, 8 + 1, none⟩) (Nat.le_succ _) (.int .u64 ((mul R1 X 4 / 18446744073709551616 : Nat) : Int))
            clear E1 E4 hbel5 c0 c1 D1 D4 hbel4 hW hn
            generalize (W.setCell ⟨w.heap.size + 1, 8, none⟩ (.int .u64 ((mul R1 X 4 % 18446744073709551616 : Nat) : Int))).setCell ⟨w.heap.size + 1, 8 + 1, none⟩ (.int .u64 ((mul R1 X 4 / 18446744073709551616 : Nat) : Int)) = w9 at *
            go_wp2_with (fail)
            refine ⟨⟨_, _, _, _, _, _, _, _, _, _, _, _, _, _, _, _, _, _, _, _, _, ⟨1, by omega, rfl, F1, F4, hbel6⟩, rfl⟩, by simp [intOf]⟩
        · have hv := tabV_lt X 5 1 hX
          have hn := hnx 1 (by omega)
          simp only [Nat.reduceAdd] at D1 hn
          have lD := tabL_len X 5
          have c0 : wr.cell? ⟨w.heap.size + 1, 2, none⟩ = some (.int .u64 ((tabV X 5 1 % 18446744073709551616 : Nat) : Int)) := by
            have := D1.int (i := 2) (by rw [lD]; omega)
            rw [show (tabL X 5).getD 2 0 = _ from tabL_lo X 5 (n := 1) (by omega)] at this
            exact this
          have c1 : wr.cell? ⟨w.heap.size + 1, 2 + 1, none⟩ = some (.int .u64 ((tabV X 5 1 / 18446744073709551616 : Nat) : Int)) := by
            have := D1.int (i := 2 + 1) (by rw [lD]; omega)
            rw [show (tabL X 5).getD (2 + 1) 0 = _ from tabL_hi X 5 (n := 1) (by omega)] at this
            exact this
          have lt1 := D1.lt
          generalize tabV X 5 1 = V at *
          go_wp2_with (fail)
          refine wp_region_last2 16 (by kernel_rfl) (by kernel_rfl) (by kernel_rfl) (by kernel_rfl) (fun D a W => ∃ u21 u22 u23 u24 u25 u26 u27 u28 u29 u30 u31 u32 u33 u34 u35 u36 u37 : Value, a = { tmps := #[.agg (ints .u8 hs), .pointer (some ⟨w.heap.size, 0, none⟩), .pointer none, .pointer (some ⟨w.heap.size + 1, 0, none⟩), .pointer (some ⟨g4, 0, none⟩), .int .i64 ((2 : Nat) : Int), .int .i64 ((1 : Nat) : Int), .agg (ints .u64 (zeros 32)), .pointer (some ⟨w.heap.size + 1, 0, none⟩), .slice (some ⟨w.heap.size, 0, none⟩) 16 16, .agg (ints .u64 (W2 x)), .agg (ints .u64 (W2 1)), .agg (ints .u64 (W2 X)), .int .i64 ((2 : Nat) : Int), .bool true, .int .i64 ((2 : Nat) : Int), .int .i64 ((2 : Nat) : Int), .int .i64 4, .int .i64 ((1 : Nat) : Int), .bool true, .int .i64 ((1 : Nat) : Int), u21, u22, u23, u24, u25, u26, u27, u28, u29, u30, u31, u32, u33, u34, u35, u36, u37, u38, u39, u40, undef], defers := [] } ∧ Below wr.heap.size wr W ∧ (D 0 → u21 = .pointer (some ⟨w.heap.size + 1, 0, none⟩)) ∧ (D 1 → u22 = .int .i64 ((2 : Nat) : Int)) ∧ (D 2 → u23 = .int .i64 4) ∧ (D 3 → u24 = .int .i64 ((1 : Nat) : Int)) ∧ (D 4 → u25 = .int .i64 5) ∧ (D 5 → u26 = .pointer (some ⟨w.heap.size + 1, 0, none⟩)) ∧ (D 6 → u27 = .int .i64 ((1 : Nat) : Int)) ∧ (D 7 → u28 = .pointer (some ⟨w.heap.size + 1, 0, none⟩)) ∧ (D 8 → u29 = .pointer (some ⟨w.heap.size + 1, 0, none⟩)) ∧ (D 9 → u30 = .pointer (some ⟨w.heap.size + 1, 2, none⟩)) ∧ (D 10 → u31 = .agg (ints .u64 (W2 V))) ∧ (D 11 → u32 = .agg (ints .u64 (W2 Y))) ∧ (D 12 → u33 = .agg (ints .u64 (W2 (V ^^^ 1 * Y)))) ∧ (D 13 → u34 = .pointer (some ⟨w.heap.size + 1, 0, none⟩)) ∧ (D 14 → u35 = .pointer (some ⟨w.heap.size + 1, 0, none⟩)) ∧ (D 15 → u36 = .pointer (some ⟨w.heap.size + 1, 10, none⟩))) ?_ ?_ ?_
          · exact ⟨_, _, _, _, _, _, _, _, _, _, _, _, _, _, _, _, _, rfl, ⟨rfl, rfl, rfl, Nat.le_refl _, fun _ _ => rfl⟩, (fun h => h.elim), (fun h => h.elim), (fun h => h.elim), (fun h => h.elim), (fun h => h.elim), (fun h => h.elim), (fun h => h.elim), (fun h => h.elim), (fun h => h.elim), (fun h => h.elim), (fun h => h.elim), (fun h => h.elim), (fun h => h.elim), (fun h => h.elim), (fun h => h.elim), (fun h => h.elim)⟩
          · intro i o hilt hi D a W hI hnD hall
            obtain ⟨u21, u22, u23, u24, u25, u26, u27, u28, u29, u30, u31, u32, u33, u34, u35, u36, u37, rfl, hW, f0, f1, f2, f3, f4, f5, f6, f7, f8, f9, f10, f11, f12, f13, f14, f15⟩ := hI
            rcases i with _ | _ | _ | _ | _ | _ | _ | _ | _ | _ | _ | _ | _ | _ | _ | _ | i
            · simp only [Nat.zero_add, Nat.reduceAdd, List.getElem?_toArray, List.getElem?_cons_succ, List.getElem?_cons_zero, Option.some.injEq] at hi
              subst hi
              refine wpOp_value (v := .pointer (some ⟨w.heap.size + 1, 0, none⟩)) rfl rfl rfl ?_
              exact ⟨_, _, _, _, _, _, _, _, _, _, _, _, _, _, _, _, _, rfl, hW, (fun _ => rfl), (fun h => f1 (rl h)), (fun h => f2 (rl h)), (fun h => f3 (rl h)), (fun h => f4 (rl h)), (fun h => f5 (rl h)), (fun h => f6 (rl h)), (fun h => f7 (rl h)), (fun h => f8 (rl h)), (fun h => f9 (rl h)), (fun h => f10 (rl h)), (fun h => f11 (rl h)), (fun h => f12 (rl h)), (fun h => f13 (rl h)), (fun h => f14 (rl h)), (fun h => f15 (rl h))⟩
            · simp only [Nat.zero_add, Nat.reduceAdd, List.getElem?_toArray, List.getElem?_cons_succ, List.getElem?_cons_zero, Option.some.injEq] at hi
              subst hi
              refine wpOp_value (v := .int .i64 ((2 : Nat) : Int)) rfl rfl rfl ?_
              exact ⟨_, _, _, _, _, _, _, _, _, _, _, _, _, _, _, _, _, rfl, hW, (fun h => f0 (rl h)), (fun _ => rfl), (fun h => f2 (rl h)), (fun h => f3 (rl h)), (fun h => f4 (rl h)), (fun h => f5 (rl h)), (fun h => f6 (rl h)), (fun h => f7 (rl h)), (fun h => f8 (rl h)), (fun h => f9 (rl h)), (fun h => f10 (rl h)), (fun h => f11 (rl h)), (fun h => f12 (rl h)), (fun h => f13 (rl h)), (fun h => f14 (rl h)), (fun h => f15 (rl h))⟩
            · simp only [Nat.zero_add, Nat.reduceAdd, List.getElem?_toArray, List.getElem?_cons_succ, List.getElem?_cons_zero, Option.some.injEq] at hi
              subst hi
              obtain rfl := f1 (pre_of hall 1 rfl)
              refine wpOp_value (v := .int .i64 4) rfl rfl (by kernel_rfl) ?_
              exact ⟨_, _, _, _, _, _, _, _, _, _, _, _, _, _, _, _, _, rfl, hW, (fun h => f0 (rl h)), (fun h => f1 (rl h)), (fun _ => rfl), (fun h => f3 (rl h)), (fun h => f4 (rl h)), (fun h => f5 (rl h)), (fun h => f6 (rl h)), (fun h => f7 (rl h)), (fun h => f8 (rl h)), (fun h => f9 (rl h)), (fun h => f10 (rl h)), (fun h => f11 (rl h)), (fun h => f12 (rl h)), (fun h => f13 (rl h)), (fun h => f14 (rl h)), (fun h => f15 (rl h))⟩
            · simp only [Nat.zero_add, Nat.reduceAdd, List.getElem?_toArray, List.getElem?_cons_succ, List.getElem?_cons_zero, Option.some.injEq] at hi
              subst hi
              refine wpOp_value (v := .int .i64 ((1 : Nat) : Int)) rfl rfl rfl ?_
              exact ⟨_, _, _, _, _, _, _, _, _, _, _, _, _, _, _, _, _, rfl, hW, (fun h => f0 (rl h)), (fun h => f1 (rl h)), (fun h => f2 (rl h)), (fun _ => rfl), (fun h => f4 (rl h)), (fun h => f5 (rl h)), (fun h => f6 (rl h)), (fun h => f7 (rl h)), (fun h => f8 (rl h)), (fun h => f9 (rl h)), (fun h => f10 (rl h)), (fun h => f11 (rl h)), (fun h => f12 (rl h)), (fun h => f13 (rl h)), (fun h => f14 (rl h)), (fun h => f15 (rl h))⟩
            · simp only [Nat.zero_add, Nat.reduceAdd, List.getElem?_toArray, List.getElem?_cons_succ, List.getElem?_cons_zero, Option.some.injEq] at hi
              subst hi
              obtain rfl := f2 (pre_of hall 2 rfl)
              obtain rfl := f3 (pre_of hall 3 rfl)
              refine wpOp_value (v := .int .i64 5) rfl rfl (by kernel_rfl) ?_
              exact ⟨_, _, _, _, _, _, _, _, _, _, _, _, _, _, _, _, _, rfl, hW, (fun h => f0 (rl h)), (fun h => f1 (rl h)), (fun h => f2 (rl h)), (fun h => f3 (rl h)), (fun _ => rfl), (fun h => f5 (rl h)), (fun h => f6 (rl h)), (fun h => f7 (rl h)), (fun h => f8 (rl h)), (fun h => f9 (rl h)), (fun h => f10 (rl h)), (fun h => f11 (rl h)), (fun h => f12 (rl h)), (fun h => f13 (rl h)), (fun h => f14 (rl h)), (fun h => f15 (rl h))⟩
            · simp only [Nat.zero_add, Nat.reduceAdd, List.getElem?_toArray, List.getElem?_cons_succ, List.getElem?_cons_zero, Option.some.injEq] at hi
              subst hi
              refine wpOp_value (v := .pointer (some ⟨w.heap.size + 1, 0, none⟩)) rfl rfl rfl ?_
              exact ⟨_, _, _, _, _, _, _, _, _, _, _, _, _, _, _, _, _, rfl, hW, (fun h => f0 (rl h)), (fun h => f1 (rl h)), (fun h => f2 (rl h)), (fun h => f3 (rl h)), (fun h => f4 (rl h)), (fun _ => rfl), (fun h => f6 (rl h)), (fun h => f7 (rl h)), (fun h => f8 (rl h)), (fun h => f9 (rl h)), (fun h => f10 (rl h)), (fun h => f11 (rl h)), (fun h => f12 (rl h)), (fun h => f13 (rl h)), (fun h => f14 (rl h)), (fun h => f15 (rl h))⟩
            · simp only [Nat.zero_add, Nat.reduceAdd, List.getElem?_toArray, List.getElem?_cons_succ, List.getElem?_cons_zero, Option.some.injEq] at hi
              subst hi
              refine wpOp_value (v := .int .i64 ((1 : Nat) : Int)) rfl rfl rfl ?_
              exact ⟨_, _, _, _, _, _, _, _, _, _, _, _, _, _, _, _, _, rfl, hW, (fun h => f0 (rl h)), (fun h => f1 (rl h)), (fun h => f2 (rl h)), (fun h => f3 (rl h)), (fun h => f4 (rl h)), (fun h => f5 (rl h)), (fun _ => rfl), (fun h => f7 (rl h)), (fun h => f8 (rl h)), (fun h => f9 (rl h)), (fun h => f10 (rl h)), (fun h => f11 (rl h)), (fun h => f12 (rl h)), (fun h => f13 (rl h)), (fun h => f14 (rl h)), (fun h => f15 (rl h))⟩
            · simp only [Nat.zero_add, Nat.reduceAdd, List.getElem?_toArray, List.getElem?_cons_succ, List.getElem?_cons_zero, Option.some.injEq] at hi
              subst hi
              obtain rfl := f5 (pre_of hall 5 rfl)
              refine wpOp_value (v := .pointer (some ⟨w.heap.size + 1, 0, none⟩)) rfl rfl (by kernel_rfl) ?_
              exact ⟨_, _, _, _, _, _, _, _, _, _, _, _, _, _, _, _, _, rfl, hW, (fun h => f0 (rl h)), (fun h => f1 (rl h)), (fun h => f2 (rl h)), (fun h => f3 (rl h)), (fun h => f4 (rl h)), (fun h => f5 (rl h)), (fun h => f6 (rl h)), (fun _ => rfl), (fun h => f8 (rl h)), (fun h => f9 (rl h)), (fun h => f10 (rl h)), (fun h => f11 (rl h)), (fun h => f12 (rl h)), (fun h => f13 (rl h)), (fun h => f14 (rl h)), (fun h => f15 (rl h))⟩
            · simp only [Nat.zero_add, Nat.reduceAdd, List.getElem?_toArray, List.getElem?_cons_succ, List.getElem?_cons_zero, Option.some.injEq] at hi
              subst hi
              obtain rfl := f7 (pre_of hall 7 rfl)
              refine wpOp_value (v := .pointer (some ⟨w.heap.size + 1, 0, none⟩)) rfl rfl (by kernel_rfl) ?_
              exact ⟨_, _, _, _, _, _, _, _, _, _, _, _, _, _, _, _, _, rfl, hW, (fun h => f0 (rl h)), (fun h => f1 (rl h)), (fun h => f2 (rl h)), (fun h => f3 (rl h)), (fun h => f4 (rl h)), (fun h => f5 (rl h)), (fun h => f6 (rl h)), (fun h => f7 (rl h)), (fun _ => rfl), (fun h => f9 (rl h)), (fun h => f10 (rl h)), (fun h => f11 (rl h)), (fun h => f12 (rl h)), (fun h => f13 (rl h)), (fun h => f14 (rl h)), (fun h => f15 (rl h))⟩
            · simp only [Nat.zero_add, Nat.reduceAdd, List.getElem?_toArray, List.getElem?_cons_succ, List.getElem?_cons_zero, Option.some.injEq] at hi
              subst hi
              obtain rfl := f8 (pre_of hall 8 rfl)
              obtain rfl := f6 (pre_of hall 6 rfl)
              refine wpOp_value (v := .pointer (some ⟨w.heap.size + 1, 2, none⟩)) rfl rfl (by kernel_rfl) ?_
              exact ⟨_, _, _, _, _, _, _, _, _, _, _, _, _, _, _, _, _, rfl, hW, (fun h => f0 (rl h)), (fun h => f1 (rl h)), (fun h => f2 (rl h)), (fun h => f3 (rl h)), (fun h => f4 (rl h)), (fun h => f5 (rl h)), (fun h => f6 (rl h)), (fun h => f7 (rl h)), (fun h => f8 (rl h)), (fun _ => rfl), (fun h => f10 (rl h)), (fun h => f11 (rl h)), (fun h => f12 (rl h)), (fun h => f13 (rl h)), (fun h => f14 (rl h)), (fun h => f15 (rl h))⟩
            · simp only [Nat.zero_add, Nat.reduceAdd, List.getElem?_toArray, List.getElem?_cons_succ, List.getElem?_cons_zero, Option.some.injEq] at hi
              subst hi
              obtain rfl := f9 (pre_of hall 9 rfl)
              refine wpOp_value (v := .agg (ints .u64 (W2 V))) rfl rfl (run_wide rfl rfl ((hW.cell (p := ⟨_, _, none⟩) lt1).trans c0) ((hW.cell (p := ⟨_, _, none⟩) lt1).trans c1)) ?_
              exact ⟨_, _, _, _, _, _, _, _, _, _, _, _, _, _, _, _, _, rfl, hW, (fun h => f0 (rl h)), (fun h => f1 (rl h)), (fun h => f2 (rl h)), (fun h => f3 (rl h)), (fun h => f4 (rl h)), (fun h => f5 (rl h)), (fun h => f6 (rl h)), (fun h => f7 (rl h)), (fun h => f8 (rl h)), (fun h => f9 (rl h)), (fun _ => rfl), (fun h => f11 (rl h)), (fun h => f12 (rl h)), (fun h => f13 (rl h)), (fun h => f14 (rl h)), (fun h => f15 (rl h))⟩
            · simp only [Nat.zero_add, Nat.reduceAdd, List.getElem?_toArray, List.getElem?_cons_succ, List.getElem?_cons_zero, Option.some.injEq] at hi
              subst hi
              refine wpOp_load rfl rfl rfl rfl (D4.below' hW) Try.ar54 rfl ?_
              exact ⟨_, _, _, _, _, _, _, _, _, _, _, _, _, _, _, _, _, rfl, hW, (fun h => f0 (rl h)), (fun h => f1 (rl h)), (fun h => f2 (rl h)), (fun h => f3 (rl h)), (fun h => f4 (rl h)), (fun h => f5 (rl h)), (fun h => f6 (rl h)), (fun h => f7 (rl h)), (fun h => f8 (rl h)), (fun h => f9 (rl h)), (fun h => f10 (rl h)), (fun _ => rfl), (fun h => f12 (rl h)), (fun h => f13 (rl h)), (fun h => f14 (rl h)), (fun h => f15 (rl h))⟩
            · simp only [Nat.zero_add, Nat.reduceAdd, List.getElem?_toArray, List.getElem?_cons_succ, List.getElem?_cons_zero, Option.some.injEq] at hi
              subst hi
              obtain rfl := f10 (pre_of hall 10 rfl)
              obtain rfl := f11 (pre_of hall 11 rfl)
              refine wpOp_call 44 rfl rfl rfl Try.func44 (by kernel_rfl) (by kernel_rfl) (plus10_c V Y 1 hv hY (Nat.le_refl 1) W) ?_
              intro W' hW'
              exact ⟨_, _, _, _, _, _, _, _, _, _, _, _, _, _, _, _, _, rfl, bCall hW hW' hW.size, (fun h => f0 (rl h)), (fun h => f1 (rl h)), (fun h => f2 (rl h)), (fun h => f3 (rl h)), (fun h => f4 (rl h)), (fun h => f5 (rl h)), (fun h => f6 (rl h)), (fun h => f7 (rl h)), (fun h => f8 (rl h)), (fun h => f9 (rl h)), (fun h => f10 (rl h)), (fun h => f11 (rl h)), (fun _ => rfl), (fun h => f13 (rl h)), (fun h => f14 (rl h)), (fun h => f15 (rl h))⟩
            · simp only [Nat.zero_add, Nat.reduceAdd, List.getElem?_toArray, List.getElem?_cons_succ, List.getElem?_cons_zero, Option.some.injEq] at hi
              subst hi
              obtain rfl := f0 (pre_of hall 0 rfl)
              refine wpOp_value (v := .pointer (some ⟨w.heap.size + 1, 0, none⟩)) rfl rfl (by kernel_rfl) ?_
              exact ⟨_, _, _, _, _, _, _, _, _, _, _, _, _, _, _, _, _, rfl, hW, (fun h => f0 (rl h)), (fun h => f1 (rl h)), (fun h => f2 (rl h)), (fun h => f3 (rl h)), (fun h => f4 (rl h)), (fun h => f5 (rl h)), (fun h => f6 (rl h)), (fun h => f7 (rl h)), (fun h => f8 (rl h)), (fun h => f9 (rl h)), (fun h => f10 (rl h)), (fun h => f11 (rl h)), (fun h => f12 (rl h)), (fun _ => rfl), (fun h => f14 (rl h)), (fun h => f15 (rl h))⟩
            · simp only [Nat.zero_add, Nat.reduceAdd, List.getElem?_toArray, List.getElem?_cons_succ, List.getElem?_cons_zero, Option.some.injEq] at hi
              subst hi
              obtain rfl := f13 (pre_of hall 13 rfl)
              refine wpOp_value (v := .pointer (some ⟨w.heap.size + 1, 0, none⟩)) rfl rfl (by kernel_rfl) ?_
              exact ⟨_, _, _, _, _, _, _, _, _, _, _, _, _, _, _, _, _, rfl, hW, (fun h => f0 (rl h)), (fun h => f1 (rl h)), (fun h => f2 (rl h)), (fun h => f3 (rl h)), (fun h => f4 (rl h)), (fun h => f5 (rl h)), (fun h => f6 (rl h)), (fun h => f7 (rl h)), (fun h => f8 (rl h)), (fun h => f9 (rl h)), (fun h => f10 (rl h)), (fun h => f11 (rl h)), (fun h => f12 (rl h)), (fun h => f13 (rl h)), (fun _ => rfl), (fun h => f15 (rl h))⟩
            · simp only [Nat.zero_add, Nat.reduceAdd, List.getElem?_toArray, List.getElem?_cons_succ, List.getElem?_cons_zero, Option.some.injEq] at hi
              subst hi
              obtain rfl := f14 (pre_of hall 14 rfl)
              obtain rfl := f4 (pre_of hall 4 rfl)
              refine wpOp_value (v := .pointer (some ⟨w.heap.size + 1, 10, none⟩)) rfl rfl (by kernel_rfl) ?_
              exact ⟨_, _, _, _, _, _, _, _, _, _, _, _, _, _, _, _, _, rfl, hW, (fun h => f0 (rl h)), (fun h => f1 (rl h)), (fun h => f2 (rl h)), (fun h => f3 (rl h)), (fun h => f4 (rl h)), (fun h => f5 (rl h)), (fun h => f6 (rl h)), (fun h => f7 (rl h)), (fun h => f8 (rl h)), (fun h => f9 (rl h)), (fun h => f10 (rl h)), (fun h => f11 (rl h)), (fun h => f12 (rl h)), (fun h => f13 (rl h)), (fun h => f14 (rl h)), (fun _ => rfl)⟩
            · exfalso; omega
          · rintro D a W ⟨u21, u22, u23, u24, u25, u26, u27, u28, u29, u30, u31, u32, u33, u34, u35, u36, u37, rfl, hW, f0, f1, f2, f3, f4, f5, f6, f7, f8, f9, f10, f11, f12, f13, f14, f15⟩ hall
            obtain rfl := f0 (hall 0 (by decide))
            obtain rfl := f1 (hall 1 (by decide))
            obtain rfl := f2 (hall 2 (by decide))
            obtain rfl := f3 (hall 3 (by decide))
            obtain rfl := f4 (hall 4 (by decide))
            obtain rfl := f5 (hall 5 (by decide))
            obtain rfl := f6 (hall 6 (by decide))
            obtain rfl := f7 (hall 7 (by decide))
            obtain rfl := f8 (hall 8 (by decide))
            obtain rfl := f9 (hall 9 (by decide))
            obtain rfl := f10 (hall 10 (by decide))
            obtain rfl := f11 (hall 11 (by decide))
            obtain rfl := f12 (hall 12 (by decide))
            obtain rfl := f13 (hall 13 (by decide))
            obtain rfl := f14 (hall 14 (by decide))
            obtain rfl := f15 (hall 15 (by decide))
            clear f0 f1 f2 f3 f4 f5 f6 f7 f8 f9 f10 f11 f12 f13 f14 f15 hall
            have E1 := D1.below' hW
            have E4 := D4.below' hW
            have hbel5 := bCall hbel4 hW hbel4.size
            rw [← hn]
            refine wpOp_store_wide rfl rfl rfl rfl rfl E1 (by rw [lD]; omega) ?_
            have F1 := (E1.intSet 10 (mul R1 X 5 % 18446744073709551616)).intSet (10 + 1) (mul R1 X 5 / 18446744073709551616)
            rw [show ((tabL X 5).set 10 (mul R1 X 5 % 18446744073709551616)).set (10 + 1) (mul R1 X 5 / 18446744073709551616) = tabL X 6 from tab_set X 5 (by omega)] at F1
            have F4 := (E4.far (p := ⟨w.heap.size + 1, 10, none⟩) (Ne.symm hg4) (.int .u64 ((mul R1 X 5 % 18446744073709551616 : Nat) : Int))).far (p := ⟨w.heap.size + 1, 10 + 1, none⟩) (Ne.symm hg4) (.int .u64 ((mul R1 X 5 / 18446744073709551616 : Nat) : Int))
            have hbel6 := (hbel5.setCell (p := ⟨w.heap.size + 1, 10, none⟩) (Nat.le_succ _) (.int .u64 ((mul R1 X 5 % 18446744073709551616 : Nat) : Int))).setCell (p := ⟨w.heap.size + 1, 10 + 1, none⟩) (Nat.le_succ _) (.int .u64 ((mul R1 X 5 / 18446744073709551616 : Nat) : Int))
            clear E1 E4 hbel5 c0 c1 D1 D4 hbel4 hW hn
            generalize (W.setCell ⟨w.heap.size + 1, 10, none⟩ (.int .u64 ((mul R1 X 5 % 18446744073709551616 : Nat) : Int))).setCell ⟨w.heap.size + 1, 10 + 1, none⟩ (.int .u64 ((mul R1 X 5 / 18446744073709551616 : Nat) : Int)) = w9 at *
            go_wp2_with (fail)
            refine ⟨⟨_, _, _, _, _, _, _, _, _, _, _, _, _, _, _, _, _, _, _, _, _, ⟨2, by omega, rfl, F1, F4, hbel6⟩, rfl⟩, by simp [intOf]⟩
        · have hv := tabV_lt X 6 2 hX
          have hn := hnx 2 (by omega)
          simp only [Nat.reduceAdd] at D1 hn
          have lD := tabL_len X 6
          have c0 : wr.cell? ⟨w.heap.size + 1, 4, none⟩ = some (.int .u64 ((tabV X 6 2 % 18446744073709551616 : Nat) : Int)) := by
            have := D1.int (i := 4) (by rw [lD]; omega)
            rw [show (tabL X 6).getD 4 0 = _ from tabL_lo X 6 (n := 2) (by omega)] at this
            exact this
          have c1 : wr.cell? ⟨w.heap.size + 1, 4 + 1, none⟩ = some (.int .u64 ((tabV X 6 2 / 18446744073709551616 : Nat) : Int)) := by
            have := D1.int (i := 4 + 1) (by rw [lD]; omega)
            rw [show (tabL X 6).getD (4 + 1) 0 = _ from tabL_hi X 6 (n := 2) (by omega)] at this
            exact this
          have lt1 := D1.lt
          generalize tabV X 6 2 = V at *
          go_wp2_with (fail)
          refine wp_region_last2 16 (by kernel_rfl) (by kernel_rfl) (by kernel_rfl) (by kernel_rfl) (fun D a W => ∃ u21 u22 u23 u24 u25 u26 u27 u28 u29 u30 u31 u32 u33 u34 u35 u36 u37 : Value, a = { tmps := #[.agg (ints .u8 hs), .pointer (some ⟨w.heap.size, 0, none⟩), .pointer none, .pointer (some ⟨w.heap.size + 1, 0, none⟩), .pointer (some ⟨g4, 0, none⟩), .int .i64 ((2 : Nat) : Int), .int .i64 ((2 : Nat) : Int), .agg (ints .u64 (zeros 32)), .pointer (some ⟨w.heap.size + 1, 0, none⟩), .slice (some ⟨w.heap.size, 0, none⟩) 16 16, .agg (ints .u64 (W2 x)), .agg (ints .u64 (W2 1)), .agg (ints .u64 (W2 X)), .int .i64 ((2 : Nat) : Int), .bool true, .int .i64 ((2 : Nat) : Int), .int .i64 ((2 : Nat) : Int), .int .i64 4, .int .i64 ((2 : Nat) : Int), .bool true, .int .i64 ((2 : Nat) : Int), u21, u22, u23, u24, u25, u26, u27, u28, u29, u30, u31, u32, u33, u34, u35, u36, u37, u38, u39, u40, undef], defers := [] } ∧ Below wr.heap.size wr W ∧ (D 0 → u21 = .pointer (some ⟨w.heap.size + 1, 0, none⟩)) ∧ (D 1 → u22 = .int .i64 ((2 : Nat) : Int)) ∧ (D 2 → u23 = .int .i64 4) ∧ (D 3 → u24 = .int .i64 ((2 : Nat) : Int)) ∧ (D 4 → u25 = .int .i64 6) ∧ (D 5 → u26 = .pointer (some ⟨w.heap.size + 1, 0, none⟩)) ∧ (D 6 → u27 = .int .i64 ((2 : Nat) : Int)) ∧ (D 7 → u28 = .pointer (some ⟨w.heap.size + 1, 0, none⟩)) ∧ (D 8 → u29 = .pointer (some ⟨w.heap.size + 1, 0, none⟩)) ∧ (D 9 → u30 = .pointer (some ⟨w.heap.size + 1, 4, none⟩)) ∧ (D 10 → u31 = .agg (ints .u64 (W2 V))) ∧ (D 11 → u32 = .agg (ints .u64 (W2 Y))) ∧ (D 12 → u33 = .agg (ints .u64 (W2 (V ^^^ 1 * Y)))) ∧ (D 13 → u34 = .pointer (some ⟨w.heap.size + 1, 0, none⟩)) ∧ (D 14 → u35 = .pointer (some ⟨w.heap.size + 1, 0, none⟩)) ∧ (D 15 → u36 = .pointer (some ⟨w.heap.size + 1, 12, none⟩))) ?_ ?_ ?_
          · exact ⟨_, _, _, _, _, _, _, _, _, _, _, _, _, _, _, _, _, rfl, ⟨rfl, rfl, rfl, Nat.le_refl _, fun _ _ => rfl⟩, (fun h => h.elim), (fun h => h.elim), (fun h => h.elim), (fun h => h.elim), (fun h => h.elim), (fun h => h.elim), (fun h => h.elim), (fun h => h.elim), (fun h => h.elim), (fun h => h.elim), (fun h => h.elim), (fun h => h.elim), (fun h => h.elim), (fun h => h.elim), (fun h => h.elim), (fun h => h.elim)⟩
          · intro i o hilt hi D a W hI hnD hall
            obtain ⟨u21, u22, u23, u24, u25, u26, u27, u28, u29, u30, u31, u32, u33, u34, u35, u36, u37, rfl, hW, f0, f1, f2, f3, f4, f5, f6, f7, f8, f9, f10, f11, f12, f13, f14, f15⟩ := hI
            rcases i with _ | _ | _ | _ | _ | _ | _ | _ | _ | _ | _ | _ | _ | _ | _ | _ | i
            · simp only [Nat.zero_add, Nat.reduceAdd, List.getElem?_toArray, List.getElem?_cons_succ, List.getElem?_cons_zero, Option.some.injEq] at hi
              subst hi
              refine wpOp_value (v := .pointer (some ⟨w.heap.size + 1, 0, none⟩)) rfl rfl rfl ?_
              exact ⟨_, _, _, _, _, _, _, _, _, _, _, _, _, _, _, _, _, rfl, hW, (fun _ => rfl), (fun h => f1 (rl h)), (fun h => f2 (rl h)), (fun h => f3 (rl h)), (fun h => f4 (rl h)), (fun h => f5 (rl h)), (fun h => f6 (rl h)), (fun h => f7 (rl h)), (fun h => f8 (rl h)), (fun h => f9 (rl h)), (fun h => f10 (rl h)), (fun h => f11 (rl h)), (fun h => f12 (rl h)), (fun h => f13 (rl h)), (fun h => f14 (rl h)), (fun h => f15 (rl h))⟩
            · simp only [Nat.zero_add, Nat.reduceAdd, List.getElem?_toArray, List.getElem?_cons_succ, List.getElem?_cons_zero, Option.some.injEq] at hi
              subst hi
              refine wpOp_value (v := .int .i64 ((2 : Nat) : Int)) rfl rfl rfl ?_
              exact ⟨_, _, _, _, _, _, _, _, _, _, _, _, _, _, _, _, _, rfl, hW, (fun h => f0 (rl h)), (fun _ => rfl), (fun h => f2 (rl h)), (fun h => f3 (rl h)), (fun h => f4 (rl h)), (fun h => f5 (rl h)), (fun h => f6 (rl h)), (fun h => f7 (rl h)), (fun h => f8 (rl h)), (fun h => f9 (rl h)), (fun h => f10 (rl h)), (fun h => f11 (rl h)), (fun h => f12 (rl h)), (fun h => f13 (rl h)), (fun h => f14 (rl h)), (fun h => f15 (rl h))⟩
            · simp only [Nat.zero_add, Nat.reduceAdd, List.getElem?_toArray, List.getElem?_cons_succ, List.getElem?_cons_zero, Option.some.injEq] at hi
              subst hi
              obtain rfl := f1 (pre_of hall 1 rfl)
              refine wpOp_value (v := .int .i64 4) rfl rfl (by kernel_rfl) ?_
              exact ⟨_, _, _, _, _, _, _, _, _, _, _, _, _, _, _, _, _, rfl, hW, (fun h => f0 (rl h)), (fun h => f1 (rl h)), (fun _ => rfl), (fun h => f3 (rl h)), (fun h => f4 (rl h)), (fun h => f5 (rl h)), (fun h => f6 (rl h)), (fun h => f7 (rl h)), (fun h => f8 (rl h)), (fun h => f9 (rl h)), (fun h => f10 (rl h)), (fun h => f11 (rl h)), (fun h => f12 (rl h)), (fun h => f13 (rl h)), (fun h => f14 (rl h)), (fun h => f15 (rl h))⟩
            · simp only [Nat.zero_add, Nat.reduceAdd, List.getElem?_toArray, List.getElem?_cons_succ, List.getElem?_cons_zero, Option.some.injEq] at hi
              subst hi
              refine wpOp_value (v := .int .i64 ((2 : Nat) : Int)) rfl rfl rfl ?_
              exact ⟨_, _, _, _, _, _, _, _, _, _, _, _, _, _, _, _, _, rfl, hW, (fun h => f0 (rl h)), (fun h => f1 (rl h)), (fun h => f2 (rl h)), (fun _ => rfl), (fun h => f4 (rl h)), (fun h => f5 (rl h)), (fun h => f6 (rl h)), (fun h => f7 (rl h)), (fun h => f8 (rl h)), (fun h => f9 (rl h)), (fun h => f10 (rl h)), (fun h => f11 (rl h)), (fun h => f12 (rl h)), (fun h => f13 (rl h)), (fun h => f14 (rl h)), (fun h => f15 (rl h))⟩
            · simp only [Nat.zero_add, Nat.reduceAdd, List.getElem?_toArray, List.getElem?_cons_succ, List.getElem?_cons_zero, Option.some.injEq] at hi
              subst hi
              obtain rfl := f2 (pre_of hall 2 rfl)
              obtain rfl := f3 (pre_of hall 3 rfl)
              refine wpOp_value (v := .int .i64 6) rfl rfl (by kernel_rfl) ?_
              exact ⟨_, _, _, _, _, _, _, _, _, _, _, _, _, _, _, _, _, rfl, hW, (fun h => f0 (rl h)), (fun h => f1 (rl h)), (fun h => f2 (rl h)), (fun h => f3 (rl h)), (fun _ => rfl), (fun h => f5 (rl h)), (fun h => f6 (rl h)), (fun h => f7 (rl h)), (fun h => f8 (rl h)), (fun h => f9 (rl h)), (fun h => f10 (rl h)), (fun h => f11 (rl h)), (fun h => f12 (rl h)), (fun h => f13 (rl h)), (fun h => f14 (rl h)), (fun h => f15 (rl h))⟩
            · simp only [Nat.zero_add, Nat.reduceAdd, List.getElem?_toArray, List.getElem?_cons_succ, List.getElem?_cons_zero, Option.some.injEq] at hi
              subst hi
              refine wpOp_value (v := .pointer (some ⟨w.heap.size + 1, 0, none⟩)) rfl rfl rfl ?_
              exact ⟨_, _, _, _, _, _, _, _, _, _, _, _, _, _, _, _, _, rfl, hW, (fun h => f0 (rl h)), (fun h => f1 (rl h)), (fun h => f2 (rl h)), (fun h => f3 (rl h)), (fun h => f4 (rl h)), (fun _ => rfl), (fun h => f6 (rl h)), (fun h => f7 (rl h)), (fun h => f8 (rl h)), (fun h => f9 (rl h)), (fun h => f10 (rl h)), (fun h => f11 (rl h)), (fun h => f12 (rl h)), (fun h => f13 (rl h)), (fun h => f14 (rl h)), (fun h => f15 (rl h))⟩
            · simp only [Nat.zero_add, Nat.reduceAdd, List.getElem?_toArray, List.getElem?_cons_succ, List.getElem?_cons_zero, Option.some.injEq] at hi
              subst hi
              refine wpOp_value (v := .int .i64 ((2 : Nat) : Int)) rfl rfl rfl ?_
              exact ⟨_, _, _, _, _, _, _, _, _, _, _, _, _, _, _, _, _, rfl, hW, (fun h => f0 (rl h)), (fun h => f1 (rl h)), (fun h => f2 (rl h)), (fun h => f3 (rl h)), (fun h => f4 (rl h)), (fun h => f5 (rl h)), (fun _ => rfl), (fun h => f7 (rl h)), (fun h => f8 (rl h)), (fun h => f9 (rl h)), (fun h => f10 (rl h)), (fun h => f11 (rl h)), (fun h => f12 (rl h)), (fun h => f13 (rl h)), (fun h => f14 (rl h)), (fun h => f15 (rl h))⟩
            · simp only [Nat.zero_add, Nat.reduceAdd, List.getElem?_toArray, List.getElem?_cons_succ, List.getElem?_cons_zero, Option.some.injEq] at hi
              subst hi
              obtain rfl := f5 (pre_of hall 5 rfl)
              refine wpOp_value (v := .pointer (some ⟨w.heap.size + 1, 0, none⟩)) rfl rfl (by kernel_rfl) ?_
              exact ⟨_, _, _, _, _, _, _, _, _, _, _, _, _, _, _, _, _, rfl, hW, (fun h => f0 (rl h)), (fun h => f1 (rl h)), (fun h => f2 (rl h)), (fun h => f3 (rl h)), (fun h => f4 (rl h)), (fun h => f5 (rl h)), (fun h => f6 (rl h)), (fun _ => rfl), (fun h => f8 (rl h)), (fun h => f9 (rl h)), (fun h => f10 (rl h)), (fun h => f11 (rl h)), (fun h => f12 (rl h)), (fun h => f13 (rl h)), (fun h => f14 (rl h)), (fun h => f15 (rl h))⟩
            · simp only [Nat.zero_add, Nat.reduceAdd, List.getElem?_toArray, List.getElem?_cons_succ, List.getElem?_cons_zero, Option.some.injEq] at hi
              subst hi
              obtain rfl := f7 (pre_of hall 7 rfl)
              refine wpOp_value (v := .pointer (some ⟨w.heap.size + 1, 0, none⟩)) rfl rfl (by kernel_rfl) ?_
              exact ⟨_, _, _, _, _, _, _, _, _, _, _, _, _, _, _, _, _, rfl, hW, (fun h => f0 (rl h)), (fun h => f1 (rl h)), (fun h => f2 (rl h)), (fun h => f3 (rl h)), (fun h => f4 (rl h)), (fun h => f5 (rl h)), (fun h => f6 (rl h)), (fun h => f7 (rl h)), (fun _ => rfl), (fun h => f9 (rl h)), (fun h => f10 (rl h)), (fun h => f11 (rl h)), (fun h => f12 (rl h)), (fun h => f13 (rl h)), (fun h => f14 (rl h)), (fun h => f15 (rl h))⟩
            · simp only [Nat.zero_add, Nat.reduceAdd, List.getElem?_toArray, List.getElem?_cons_succ, List.getElem?_cons_zero, Option.some.injEq] at hi
              subst hi
              obtain rfl := f8 (pre_of hall 8 rfl)
              obtain rfl := f6 (pre_of hall 6 rfl)
              refine wpOp_value (v := .pointer (some ⟨w.heap.size + 1, 4, none⟩)) rfl rfl (by kernel_rfl) ?_
              exact ⟨_, _, _, _, _, _, _, _, _, _, _, _, _, _, _, _, _, rfl, hW, (fun h => f0 (rl h)), (fun h => f1 (rl h)), (fun h => f2 (rl h)), (fun h => f3 (rl h)), (fun h => f4 (rl h)), (fun h => f5 (rl h)), (fun h => f6 (rl h)), (fun h => f7 (rl h)), (fun h => f8 (rl h)), (fun _ => rfl), (fun h => f10 (rl h)), (fun h => f11 (rl h)), (fun h => f12 (rl h)), (fun h => f13 (rl h)), (fun h => f14 (rl h)), (fun h => f15 (rl h))⟩
            · simp only [Nat.zero_add, Nat.reduceAdd, List.getElem?_toArray, List.getElem?_cons_succ, List.getElem?_cons_zero, Option.some.injEq] at hi
              subst hi
              obtain rfl := f9 (pre_of hall 9 rfl)
              refine wpOp_value (v := .agg (ints .u64 (W2 V))) rfl rfl (run_wide rfl rfl ((hW.cell (p := ⟨_, _, none⟩) lt1).trans c0) ((hW.cell (p := ⟨_, _, none⟩) lt1).trans c1)) ?_
              exact ⟨_, _, _, _, _, _, _, _, _, _, _, _, _, _, _, _, _, rfl, hW, (fun h => f0 (rl h)), (fun h => f1 (rl h)), (fun h => f2 (rl h)), (fun h => f3 (rl h)), (fun h => f4 (rl h)), (fun h => f5 (rl h)), (fun h => f6 (rl h)), (fun h => f7 (rl h)), (fun h => f8 (rl h)), (fun h => f9 (rl h)), (fun _ => rfl), (fun h => f11 (rl h)), (fun h => f12 (rl h)), (fun h => f13 (rl h)), (fun h => f14 (rl h)), (fun h => f15 (rl h))⟩
            · simp only [Nat.zero_add, Nat.reduceAdd, List.getElem?_toArray, List.getElem?_cons_succ, List.getElem?_cons_zero, Option.some.injEq] at hi
              subst hi
              refine wpOp_load rfl rfl rfl rfl (D4.below' hW) Try.ar54 rfl ?_
              exact ⟨_, _, _, _, _, _, _, _, _, _, _, _, _, _, _, _, _, rfl, hW, (fun h => f0 (rl h)), (fun h => f1 (rl h)), (fun h => f2 (rl h)), (fun h => f3 (rl h)), (fun h => f4 (rl h)), (fun h => f5 (rl h)), (fun h => f6 (rl h)), (fun h => f7 (rl h)), (fun h => f8 (rl h)), (fun h => f9 (rl h)), (fun h => f10 (rl h)), (fun _ => rfl), (fun h => f12 (rl h)), (fun h => f13 (rl h)), (fun h => f14 (rl h)), (fun h => f15 (rl h))⟩
            · simp only [Nat.zero_add, Nat.reduceAdd, List.getElem?_toArray, List.getElem?_cons_succ, List.getElem?_cons_zero, Option.some.injEq] at hi
              subst hi
              obtain rfl := f10 (pre_of hall 10 rfl)
              obtain rfl := f11 (pre_of hall 11 rfl)
              refine wpOp_call 44 rfl rfl rfl Try.func44 (by kernel_rfl) (by kernel_rfl) (plus10_c V Y 1 hv hY (Nat.le_refl 1) W) ?_
              intro W' hW'
              exact ⟨_, _, _, _, _, _, _, _, _, _, _, _, _, _, _, _, _, rfl, bCall hW hW' hW.size, (fun h => f0 (rl h)), (fun h => f1 (rl h)), (fun h => f2 (rl h)), (fun h => f3 (rl h)), (fun h => f4 (rl h)), (fun h => f5 (rl h)), (fun h => f6 (rl h)), (fun h => f7 (rl h)), (fun h => f8 (rl h)), (fun h => f9 (rl h)), (fun h => f10 (rl h)), (fun h => f11 (rl h)), (fun _ => rfl), (fun h => f13 (rl h)), (fun h => f14 (rl h)), (fun h => f15 (rl h))⟩
            · simp only [Nat.zero_add, Nat.reduceAdd, List.getElem?_toArray, List.getElem?_cons_succ, List.getElem?_cons_zero, Option.some.injEq] at hi
              subst hi
              obtain rfl := f0 (pre_of hall 0 rfl)
              refine wpOp_value (v := .pointer (some ⟨w.heap.size + 1, 0, none⟩)) rfl rfl (by kernel_rfl) ?_
              exact ⟨_, _, _, _, _, _, _, _, _, _, _, _, _, _, _, _, _, rfl, hW, (fun h => f0 (rl h)), (fun h => f1 (rl h)), (fun h => f2 (rl h)), (fun h => f3 (rl h)), (fun h => f4 (rl h)), (fun h => f5 (rl h)), (fun h => f6 (rl h)), (fun h => f7 (rl h)), (fun h => f8 (rl h)), (fun h => f9 (rl h)), (fun h => f10 (rl h)), (fun h => f11 (rl h)), (fun h => f12 (rl h)), (fun _ => rfl), (fun h => f14 (rl h)), (fun h => f15 (rl h))⟩
            · simp only [Nat.zero_add, Nat.reduceAdd, List.getElem?_toArray, List.getElem?_cons_succ, List.getElem?_cons_zero, Option.some.injEq] at hi
              subst hi
              obtain rfl := f13 (pre_of hall 13 rfl)
              refine wpOp_value (v := .pointer (some ⟨w.heap.size + 1, 0, none⟩)) rfl rfl (by kernel_rfl) ?_
              exact ⟨_, _, _, _, _, _, _, _, _, _, _, _, _, _, _, _, _, rfl, hW, (fun h => f0 (rl h)), (fun h => f1 (rl h)), (fun h => f2 (rl h)), (fun h => f3 (rl h)), (fun h => f4 (rl h)), (fun h => f5 (rl h)), (fun h => f6 (rl h)), (fun h => f7 (rl h)), (fun h => f8 (rl h)), (fun h => f9 (rl h)), (fun h => f10 (rl h)), (fun h => f11 (rl h)), (fun h => f12 (rl h)), (fun h => f13 (rl h)), (fun _ => rfl), (fun h => f15 (rl h))⟩
            · simp only [Nat.zero_add, Nat.reduceAdd, List.getElem?_toArray, List.getElem?_cons_succ, List.getElem?_cons_zero, Option.some.injEq] at hi
              subst hi
              obtain rfl := f14 (pre_of hall 14 rfl)
              obtain rfl := f4 (pre_of hall 4 rfl)
              refine wpOp_value (v := .pointer (some ⟨w.heap.size + 1, 12, none⟩)) rfl rfl (by kernel_rfl) ?_
              exact ⟨_, _, _, _, _, _, _, _, _, _, _, _, _, _, _, _, _, rfl, hW, (fun h => f0 (rl h)), (fun h => f1 (rl h)), (fun h => f2 (rl h)), (fun h => f3 (rl h)), (fun h => f4 (rl h)), (fun h => f5 (rl h)), (fun h => f6 (rl h)), (fun h => f7 (rl h)), (fun h => f8 (rl h)), (fun h => f9 (rl h)), (fun h => f10 (rl h)), (fun h => f11 (rl h)), (fun h => f12 (rl h)), (fun h => f13 (rl h)), (fun h => f14 (rl h)), (fun _ => rfl)⟩
            · exfalso; omega
          · rintro D a W ⟨u21, u22, u23, u24, u25, u26, u27, u28, u29, u30, u31, u32, u33, u34, u35, u36, u37, rfl, hW, f0, f1, f2, f3, f4, f5, f6, f7, f8, f9, f10, f11, f12, f13, f14, f15⟩ hall
            obtain rfl := f0 (hall 0 (by decide))
            obtain rfl := f1 (hall 1 (by decide))
            obtain rfl := f2 (hall 2 (by decide))
            obtain rfl := f3 (hall 3 (by decide))
            obtain rfl := f4 (hall 4 (by decide))
            obtain rfl := f5 (hall 5 (by decide))
            obtain rfl := f6 (hall 6 (by decide))
            obtain rfl := f7 (hall 7 (by decide))
            obtain rfl := f8 (hall 8 (by decide))
            obtain rfl := f9 (hall 9 (by decide))
            obtain rfl := f10 (hall 10 (by decide))
            obtain rfl := f11 (hall 11 (by decide))
            obtain rfl := f12 (hall 12 (by decide))
            obtain rfl := f13 (hall 13 (by decide))
            obtain rfl := f14 (hall 14 (by decide))
            obtain rfl := f15 (hall 15 (by decide))
            clear f0 f1 f2 f3 f4 f5 f6 f7 f8 f9 f10 f11 f12 f13 f14 f15 hall
            have E1 := D1.below' hW
            have E4 := D4.below' hW
            have hbel5 := bCall hbel4 hW hbel4.size
            rw [← hn]
            refine wpOp_store_wide rfl rfl rfl rfl rfl E1 (by rw [lD]; omega) ?_
            have F1 := (E1.intSet 12 (mul R1 X 6 % 18446744073709551616)).intSet (12 + 1) (mul R1 X 6 / 18446744073709551616)
            rw [show ((tabL X 6).set 12 (mul R1 X 6 % 18446744073709551616)).set (12 + 1) (mul R1 X 6 / 18446744073709551616) = tabL X 7 from tab_set X 6 (by omega)] at F1
            have F4 := (E4.far (p := ⟨w.heap.size + 1, 12, none⟩) (Ne.symm hg4) (.int .u64 ((mul R1 X 6 % 18446744073709551616 : Nat) : Int))).far (p := ⟨w.heap.size + 1, 12 + 1, none⟩) (Ne.symm hg4) (.int .u64 ((mul R1 X 6 / 18446744073709551616 : Nat) : Int))
            have hbel6 := (hbel5.setCell (p := ⟨w.heap.size + 1, 12, none⟩) (Nat.le_succ _) (.int .u64 ((mul R1 X 6 % 18446744073709551616 : Nat) : Int))).setCell (p := ⟨w.heap.size + 1, 12 + 1, none⟩) (Nat.le_succ _) (.int .u64 ((mul R1 X 6 / 18446744073709551616 : Nat) : Int))
            clear E1 E4 hbel5 c0 c1 D1 D4 hbel4 hW hn
            generalize (W.setCell ⟨w.heap.size + 1, 12, none⟩ (.int .u64 ((mul R1 X 6 % 18446744073709551616 : Nat) : Int))).setCell ⟨w.heap.size + 1, 12 + 1, none⟩ (.int .u64 ((mul R1 X 6 / 18446744073709551616 : Nat) : Int)) = w9 at *
            go_wp2_with (fail)
            refine ⟨⟨_, _, _, _, _, _, _, _, _, _, _, _, _, _, _, _, _, _, _, _, _, ⟨3, by omega, rfl, F1, F4, hbel6⟩, rfl⟩, by simp [intOf]⟩
        · have hv := tabV_lt X 7 3 hX
          have hn := hnx 3 (by omega)
          simp only [Nat.reduceAdd] at D1 hn
          have lD := tabL_len X 7
          have c0 : wr.cell? ⟨w.heap.size + 1, 6, none⟩ = some (.int .u64 ((tabV X 7 3 % 18446744073709551616 : Nat) : Int)) := by
            have := D1.int (i := 6) (by rw [lD]; omega)
            rw [show (tabL X 7).getD 6 0 = _ from tabL_lo X 7 (n := 3) (by omega)] at this
            exact this
          have c1 : wr.cell? ⟨w.heap.size + 1, 6 + 1, none⟩ = some (.int .u64 ((tabV X 7 3 / 18446744073709551616 : Nat) : Int)) := by
            have := D1.int (i := 6 + 1) (by rw [lD]; omega)
            rw [show (tabL X 7).getD (6 + 1) 0 = _ from tabL_hi X 7 (n := 3) (by omega)] at this
            exact this
          have lt1 := D1.lt
          generalize tabV X 7 3 = V at *
          go_wp2_with (fail)
          refine wp_region_last2 16 (by kernel_rfl) (by kernel_rfl) (by kernel_rfl) (by kernel_rfl) (fun D a W => ∃ u21 u22 u23 u24 u25 u26 u27 u28 u29 u30 u31 u32 u33 u34 u35 u36 u37 : Value, a = { tmps := #[.agg (ints .u8 hs), .pointer (some ⟨w.heap.size, 0, none⟩), .pointer none, .pointer (some ⟨w.heap.size + 1, 0, none⟩), .pointer (some ⟨g4, 0, none⟩), .int .i64 ((2 : Nat) : Int), .int .i64 ((3 : Nat) : Int), .agg (ints .u64 (zeros 32)), .pointer (some ⟨w.heap.size + 1, 0, none⟩), .slice (some ⟨w.heap.size, 0, none⟩) 16 16, .agg (ints .u64 (W2 x)), .agg (ints .u64 (W2 1)), .agg (ints .u64 (W2 X)), .int .i64 ((2 : Nat) : Int), .bool true, .int .i64 ((2 : Nat) : Int), .int .i64 ((2 : Nat) : Int), .int .i64 4, .int .i64 ((3 : Nat) : Int), .bool true, .int .i64 ((3 : Nat) : Int), u21, u22, u23, u24, u25, u26, u27, u28, u29, u30, u31, u32, u33, u34, u35, u36, u37, u38, u39, u40, undef], defers := [] } ∧ Below wr.heap.size wr W ∧ (D 0 → u21 = .pointer (some ⟨w.heap.size + 1, 0, none⟩)) ∧ (D 1 → u22 = .int .i64 ((2 : Nat) : Int)) ∧ (D 2 → u23 = .int .i64 4) ∧ (D 3 → u24 = .int .i64 ((3 : Nat) : Int)) ∧ (D 4 → u25 = .int .i64 7) ∧ (D 5 → u26 = .pointer (some ⟨w.heap.size + 1, 0, none⟩)) ∧ (D 6 → u27 = .int .i64 ((3 : Nat) : Int)) ∧ (D 7 → u28 = .pointer (some ⟨w.heap.size + 1, 0, none⟩)) ∧ (D 8 → u29 = .pointer (some ⟨w.heap.size + 1, 0, none⟩)) ∧ (D 9 → u30 = .pointer (some ⟨w.heap.size + 1, 6, none⟩)) ∧ (D 10 → u31 = .agg (ints .u64 (W2 V))) ∧ (D 11 → u32 = .agg (ints .u64 (W2 Y))) ∧ (D 12 → u33 = .agg (ints .u64 (W2 (V ^^^ 1 * Y)))) ∧ (D 13 → u34 = .pointer (some ⟨w.heap.size + 1, 0, none⟩)) ∧ (D 14 → u35 = .pointer (some ⟨w.heap.size + 1, 0, none⟩)) ∧ (D 15 → u36 = .pointer (some ⟨w.heap.size + 1, 14, none⟩))) ?_ ?_ ?_
          · exact ⟨_, _, _, _, _, _, _, _, _, _, _, _, _, _, _, _, _, rfl, ⟨rfl, rfl, rfl, Nat.le_refl _, fun _ _ => rfl⟩, (fun h => h.elim), (fun h => h.elim), (fun h => h.elim), (fun h => h.elim), (fun h => h.elim), (fun h => h.elim), (fun h => h.elim), (fun h => h.elim), (fun h => h.elim), (fun h => h.elim), (fun h => h.elim), (fun h => h.elim), (fun h => h.elim), (fun h => h.elim), (fun h => h.elim), (fun h => h.elim)⟩
          · intro i o hilt hi D a W hI hnD hall
            obtain ⟨u21, u22, u23, u24, u25, u26, u27, u28, u29, u30, u31, u32, u33, u34, u35, u36, u37, rfl, hW, f0, f1, f2, f3, f4, f5, f6, f7, f8, f9, f10, f11, f12, f13, f14, f15⟩ := hI
            rcases i with _ | _ | _ | _ | _ | _ | _ | _ | _ | _ | _ | _ | _ | _ | _ | _ | i
            · simp only [Nat.zero_add, Nat.reduceAdd, List.getElem?_toArray, List.getElem?_cons_succ, List.getElem?_cons_zero, Option.some.injEq] at hi
              subst hi
              refine wpOp_value (v := .pointer (some ⟨w.heap.size + 1, 0, none⟩)) rfl rfl rfl ?_
              exact ⟨_, _, _, _, _, _, _, _, _, _, _, _, _, _, _, _, _, rfl, hW, (fun _ => rfl), (fun h => f1 (rl h)), (fun h => f2 (rl h)), (fun h => f3 (rl h)), (fun h => f4 (rl h)), (fun h => f5 (rl h)), (fun h => f6 (rl h)), (fun h => f7 (rl h)), (fun h => f8 (rl h)), (fun h => f9 (rl h)), (fun h => f10 (rl h)), (fun h => f11 (rl h)), (fun h => f12 (rl h)), (fun h => f13 (rl h)), (fun h => f14 (rl h)), (fun h => f15 (rl h))⟩
            · simp only [Nat.zero_add, Nat.reduceAdd, List.getElem?_toArray, List.getElem?_cons_succ, List.getElem?_cons_zero, Option.some.injEq] at hi
              subst hi
              refine wpOp_value (v := .int .i64 ((2 : Nat) : Int)) rfl rfl rfl ?_
              exact ⟨_, _, _, _, _, _, _, _, _, _, _, _, _, _, _, _, _, rfl, hW, (fun h => f0 (rl h)), (fun _ => rfl), (fun h => f2 (rl h)), (fun h => f3 (rl h)), (fun h => f4 (rl h)), (fun h => f5 (rl h)), (fun h => f6 (rl h)), (fun h => f7 (rl h)), (fun h => f8 (rl h)), (fun h => f9 (rl h)), (fun h => f10 (rl h)), (fun h => f11 (rl h)), (fun h => f12 (rl h)), (fun h => f13 (rl h)), (fun h => f14 (rl h)), (fun h => f15 (rl h))⟩
            · simp only [Nat.zero_add, Nat.reduceAdd, List.getElem?_toArray, List.getElem?_cons_succ, List.getElem?_cons_zero, Option.some.injEq] at hi
              subst hi
              obtain rfl := f1 (pre_of hall 1 rfl)
              refine wpOp_value (v := .int .i64 4) rfl rfl (by kernel_rfl) ?_
              exact ⟨_, _, _, _, _, _, _, _, _, _, _, _, _, _, _, _, _, rfl, hW, (fun h => f0 (rl h)), (fun h => f1 (rl h)), (fun _ => rfl), (fun h => f3 (rl h)), (fun h => f4 (rl h)), (fun h => f5 (rl h)), (fun h => f6 (rl h)), (fun h => f7 (rl h)), (fun h => f8 (rl h)), (fun h => f9 (rl h)), (fun h => f10 (rl h)), (fun h => f11 (rl h)), (fun h => f12 (rl h)), (fun h => f13 (rl h)), (fun h => f14 (rl h)), (fun h => f15 (rl h))⟩
            · simp only [Nat.zero_add, Nat.reduceAdd, List.getElem?_toArray, List.getElem?_cons_succ, List.getElem?_cons_zero, Option.some.injEq] at hi
              subst hi
              refine wpOp_value (v := .int .i64 ((3 : Nat) : Int)) rfl rfl rfl ?_
              exact ⟨_, _, _, _, _, _, _, _, _, _, _, _, _, _, _, _, _, rfl, hW, (fun h => f0 (rl h)), (fun h => f1 (rl h)), (fun h => f2 (rl h)), (fun _ => rfl), (fun h => f4 (rl h)), (fun h => f5 (rl h)), (fun h => f6 (rl h)), (fun h => f7 (rl h)), (fun h => f8 (rl h)), (fun h => f9 (rl h)), (fun h => f10 (rl h)), (fun h => f11 (rl h)), (fun h => f12 (rl h)), (fun h => f13 (rl h)), (fun h => f14 (rl h)), (fun h => f15 (rl h))⟩
            · simp only [Nat.zero_add, Nat.reduceAdd, List.getElem?_toArray, List.getElem?_cons_succ, List.getElem?_cons_zero, Option.some.injEq] at hi
              subst hi
              obtain rfl := f2 (pre_of hall 2 rfl)
              obtain rfl := f3 (pre_of hall 3 rfl)
              refine wpOp_value (v := .int .i64 7) rfl rfl (by kernel_rfl) ?_
              exact ⟨_, _, _, _, _, _, _, _, _, _, _, _, _, _, _, _, _, rfl, hW, (fun h => f0 (rl h)), (fun h => f1 (rl h)), (fun h => f2 (rl h)), (fun h => f3 (rl h)), (fun _ => rfl), (fun h => f5 (rl h)), (fun h => f6 (rl h)), (fun h => f7 (rl h)), (fun h => f8 (rl h)), (fun h => f9 (rl h)), (fun h => f10 (rl h)), (fun h => f11 (rl h)), (fun h => f12 (rl h)), (fun h => f13 (rl h)), (fun h => f14 (rl h)), (fun h => f15 (rl h))⟩
            · simp only [Nat.zero_add, Nat.reduceAdd, List.getElem?_toArray, List.getElem?_cons_succ, List.getElem?_cons_zero, Option.some.injEq] at hi
              subst hi
              refine wpOp_value (v := .pointer (some ⟨w.heap.size + 1, 0, none⟩)) rfl rfl rfl ?_
              exact ⟨_, _, _, _, _, _, _, _, _, _, _, _, _, _, _, _, _, rfl, hW, (fun h => f0 (rl h)), (fun h => f1 (rl h)), (fun h => f2 (rl h)), (fun h => f3 (rl h)), (fun h => f4 (rl h)), (fun _ => rfl), (fun h => f6 (rl h)), (fun h => f7 (rl h)), (fun h => f8 (rl h)), (fun h => f9 (rl h)), (fun h => f10 (rl h)), (fun h => f11 (rl h)), (fun h => f12 (rl h)), (fun h => f13 (rl h)), (fun h => f14 (rl h)), (fun h => f15 (rl h))⟩
            · simp only [Nat.zero_add, Nat.reduceAdd, List.getElem?_toArray, List.getElem?_cons_succ, List.getElem?_cons_zero, Option.some.injEq] at hi
              subst hi
              refine wpOp_value (v := .int .i64 ((3 : Nat) : Int)) rfl rfl rfl ?_
              exact ⟨_, _, _, _, _, _, _, _, _, _, _, _, _, _, _, _, _, rfl, hW, (fun h => f0 (rl h)), (fun h => f1 (rl h)), (fun h => f2 (rl h)), (fun h => f3 (rl h)), (fun h => f4 (rl h)), (fun h => f5 (rl h)), (fun _ => rfl), (fun h => f7 (rl h)), (fun h => f8 (rl h)), (fun h => f9 (rl h)), (fun h => f10 (rl h)), (fun h => f11 (rl h)), (fun h => f12 (rl h)), (fun h => f13 (rl h)), (fun h => f14 (rl h)), (fun h => f15 (rl h))⟩
            · simp only [Nat.zero_add, Nat.reduceAdd, List.getElem?_toArray, List.getElem?_cons_succ, List.getElem?_cons_zero, Option.some.injEq] at hi
              subst hi
              obtain rfl := f5 (pre_of hall 5 rfl)
              refine wpOp_value (v := .pointer (some ⟨w.heap.size + 1, 0, none⟩)) rfl rfl (by kernel_rfl) ?_
              exact ⟨_, _, _, _, _, _, _, _, _, _, _, _, _, _, _, _, _, rfl, hW, (fun h => f0 (rl h)), (fun h => f1 (rl h)), (fun h => f2 (rl h)), (fun h => f3 (rl h)), (fun h => f4 (rl h)), (fun h => f5 (rl h)), (fun h => f6 (rl h)), (fun _ => rfl), (fun h => f8 (rl h)), (fun h => f9 (rl h)), (fun h => f10 (rl h)), (fun h => f11 (rl h)), (fun h => f12 (rl h)), (fun h => f13 (rl h)), (fun h => f14 (rl h)), (fun h => f15 (rl h))⟩
            · simp only [Nat.zero_add, Nat.reduceAdd, List.getElem?_toArray, List.getElem?_cons_succ, List.getElem?_cons_zero, Option.some.injEq] at hi
              subst hi
              obtain rfl := f7 (pre_of hall 7 rfl)
              refine wpOp_value (v := .pointer (some ⟨w.heap.size + 1, 0, none⟩)) rfl rfl (by kernel_rfl) ?_
              exact ⟨_, _, _, _, _, _, _, _, _, _, _, _, _, _, _, _, _, rfl, hW, (fun h => f0 (rl h)), (fun h => f1 (rl h)), (fun h => f2 (rl h)), (fun h => f3 (rl h)), (fun h => f4 (rl h)), (fun h => f5 (rl h)), (fun h => f6 (rl h)), (fun h => f7 (rl h)), (fun _ => rfl), (fun h => f9 (rl h)), (fun h => f10 (rl h)), (fun h => f11 (rl h)), (fun h => f12 (rl h)), (fun h => f13 (rl h)), (fun h => f14 (rl h)), (fun h => f15 (rl h))⟩
            · simp only [Nat.zero_add, Nat.reduceAdd, List.getElem?_toArray, List.getElem?_cons_succ, List.getElem?_cons_zero, Option.some.injEq] at hi
              subst hi
              obtain rfl := f8 (pre_of hall 8 rfl)
              obtain rfl := f6 (pre_of hall 6 rfl)
              refine wpOp_value (v := .pointer (some ⟨w.heap.size + 1, 6, none⟩)) rfl rfl (by kernel_rfl) ?_
              exact ⟨_, _, _, _, _, _, _, _, _, _, _, _, _, _, _, _, _, rfl, hW, (fun h => f0 (rl h)), (fun h => f1 (rl h)), (fun h => f2 (rl h)), (fun h => f3 (rl h)), (fun h => f4 (rl h)), (fun h => f5 (rl h)), (fun h => f6 (rl h)), (fun h => f7 (rl h)), (fun h => f8 (rl h)), (fun _ => rfl), (fun h => f10 (rl h)), (fun h => f11 (rl h)), (fun h => f12 (rl h)), (fun h => f13 (rl h)), (fun h => f14 (rl h)), (fun h => f15 (rl h))⟩
            · simp only [Nat.zero_add, Nat.reduceAdd, List.getElem?_toArray, List.getElem?_cons_succ, List.getElem?_cons_zero, Option.some.injEq] at hi
              subst hi
              obtain rfl := f9 (pre_of hall 9 rfl)
              refine wpOp_value (v := .agg (ints .u64 (W2 V))) rfl rfl (run_wide rfl rfl ((hW.cell (p := ⟨_, _, none⟩) lt1).trans c0) ((hW.cell (p := ⟨_, _, none⟩) lt1).trans c1)) ?_
              exact ⟨_, _, _, _, _, _, _, _, _, _, _, _, _, _, _, _, _, rfl, hW, (fun h => f0 (rl h)), (fun h => f1 (rl h)), (fun h => f2 (rl h)), (fun h => f3 (rl h)), (fun h => f4 (rl h)), (fun h => f5 (rl h)), (fun h => f6 (rl h)), (fun h => f7 (rl h)), (fun h => f8 (rl h)), (fun h => f9 (rl h)), (fun _ => rfl), (fun h => f11 (rl h)), (fun h => f12 (rl h)), (fun h => f13 (rl h)), (fun h => f14 (rl h)), (fun h => f15 (rl h))⟩
            · simp only [Nat.zero_add, Nat.reduceAdd, List.getElem?_toArray, List.getElem?_cons_succ, List.getElem?_cons_zero, Option.some.injEq] at hi
              subst hi
              refine wpOp_load rfl rfl rfl rfl (D4.below' hW) Try.ar54 rfl ?_
              exact ⟨_, _, _, _, _, _, _, _, _, _, _, _, _, _, _, _, _, rfl, hW, (fun h => f0 (rl h)), (fun h => f1 (rl h)), (fun h => f2 (rl h)), (fun h => f3 (rl h)), (fun h => f4 (rl h)), (fun h => f5 (rl h)), (fun h => f6 (rl h)), (fun h => f7 (rl h)), (fun h => f8 (rl h)), (fun h => f9 (rl h)), (fun h => f10 (rl h)), (fun _ => rfl), (fun h => f12 (rl h)), (fun h => f13 (rl h)), (fun h => f14 (rl h)), (fun h => f15 (rl h))⟩
            · simp only [Nat.zero_add, Nat.reduceAdd, List.getElem?_toArray, List.getElem?_cons_succ, List.getElem?_cons_zero, Option.some.injEq] at hi
              subst hi
              obtain rfl := f10 (pre_of hall 10 rfl)
              obtain rfl := f11 (pre_of hall 11 rfl)
              refine wpOp_call 44 rfl rfl rfl Try.func44 (by kernel_rfl) (by kernel_rfl) (plus10_c V Y 1 hv hY (Nat.le_refl 1) W) ?_
              intro W' hW'
              exact ⟨_, _, _, _, _, _, _, _, _, _, _, _, _, _, _, _, _, rfl, bCall hW hW' hW.size, (fun h => f0 (rl h)), (fun h => f1 (rl h)), (fun h => f2 (rl h)), (fun h => f3 (rl h)), (fun h => f4 (rl h)), (fun h => f5 (rl h)), (fun h => f6 (rl h)), (fun h => f7 (rl h)), (fun h => f8 (rl h)), (fun h => f9 (rl h)), (fun h => f10 (rl h)), (fun h => f11 (rl h)), (fun _ => rfl), (fun h => f13 (rl h)), (fun h => f14 (rl h)), (fun h => f15 (rl h))⟩
            · simp only [Nat.zero_add, Nat.reduceAdd, List.getElem?_toArray, List.getElem?_cons_succ, List.getElem?_cons_zero, Option.some.injEq] at hi
              subst hi
              obtain rfl := f0 (pre_of hall 0 rfl)
              refine wpOp_value (v := .pointer (some ⟨w.heap.size + 1, 0, none⟩)) rfl rfl (by kernel_rfl) ?_
              exact ⟨_, _, _, _, _, _, _, _, _, _, _, _, _, _, _, _, _, rfl, hW, (fun h => f0 (rl h)), (fun h => f1 (rl h)), (fun h => f2 (rl h)), (fun h => f3 (rl h)), (fun h => f4 (rl h)), (fun h => f5 (rl h)), (fun h => f6 (rl h)), (fun h => f7 (rl h)), (fun h => f8 (rl h)), (fun h => f9 (rl h)), (fun h => f10 (rl h)), (fun h => f11 (rl h)), (fun h => f12 (rl h)), (fun _ => rfl), (fun h => f14 (rl h)), (fun h => f15 (rl h))⟩
            · simp only [Nat.zero_add, Nat.reduceAdd, List.getElem?_toArray, List.getElem?_cons_succ, List.getElem?_cons_zero, Option.some.injEq] at hi
              subst hi
              obtain rfl := f13 (pre_of hall 13 rfl)
              refine wpOp_value (v := .pointer (some ⟨w.heap.size + 1, 0, none⟩)) rfl rfl (by kernel_rfl) ?_
              exact ⟨_, _, _, _, _, _, _, _, _, _, _, _, _, _, _, _, _, rfl, hW, (fun h => f0 (rl h)), (fun h => f1 (rl h)), (fun h => f2 (rl h)), (fun h => f3 (rl h)), (fun h => f4 (rl h)), (fun h => f5 (rl h)), (fun h => f6 (rl h)), (fun h => f7 (rl h)), (fun h => f8 (rl h)), (fun h => f9 (rl h)), (fun h => f10 (rl h)), (fun h => f11 (rl h)), (fun h => f12 (rl h)), (fun h => f13 (rl h)), (fun _ => rfl), (fun h => f15 (rl h))⟩
            · simp only [Nat.zero_add, Nat.reduceAdd, List.getElem?_toArray, List.getElem?_cons_succ, List.getElem?_cons_zero, Option.some.injEq] at hi
              subst hi
              obtain rfl := f14 (pre_of hall 14 rfl)
              obtain rfl := f4 (pre_of hall 4 rfl)
              refine wpOp_value (v := .pointer (some ⟨w.heap.size + 1, 14, none⟩)) rfl rfl (by kernel_rfl) ?_
              exact ⟨_, _, _, _, _, _, _, _, _, _, _, _, _, _, _, _, _, rfl, hW, (fun h => f0 (rl h)), (fun h => f1 (rl h)), (fun h => f2 (rl h)), (fun h => f3 (rl h)), (fun h => f4 (rl h)), (fun h => f5 (rl h)), (fun h => f6 (rl h)), (fun h => f7 (rl h)), (fun h => f8 (rl h)), (fun h => f9 (rl h)), (fun h => f10 (rl h)), (fun h => f11 (rl h)), (fun h => f12 (rl h)), (fun h => f13 (rl h)), (fun h => f14 (rl h)), (fun _ => rfl)⟩
            · exfalso; omega
          · rintro D a W ⟨u21, u22, u23, u24, u25, u26, u27, u28, u29, u30, u31, u32, u33, u34, u35, u36, u37, rfl, hW, f0, f1, f2, f3, f4, f5, f6, f7, f8, f9, f10, f11, f12, f13, f14, f15⟩ hall
            obtain rfl := f0 (hall 0 (by decide))
            obtain rfl := f1 (hall 1 (by decide))
            obtain rfl := f2 (hall 2 (by decide))
            obtain rfl := f3 (hall 3 (by decide))
            obtain rfl := f4 (hall 4 (by decide))
            obtain rfl := f5 (hall 5 (by decide))
            obtain rfl := f6 (hall 6 (by decide))
            obtain rfl := f7 (hall 7 (by decide))
            obtain rfl := f8 (hall 8 (by decide))
            obtain rfl := f9 (hall 9 (by decide))
            obtain rfl := f10 (hall 10 (by decide))
            obtain rfl := f11 (hall 11 (by decide))
            obtain rfl := f12 (hall 12 (by decide))
            obtain rfl := f13 (hall 13 (by decide))
            obtain rfl := f14 (hall 14 (by decide))
            obtain rfl := f15 (hall 15 (by decide))
            clear f0 f1 f2 f3 f4 f5 f6 f7 f8 f9 f10 f11 f12 f13 f14 f15 hall
            have E1 := D1.below' hW
            have E4 := D4.below' hW
            have hbel5 := bCall hbel4 hW hbel4.size
            rw [← hn]
            refine wpOp_store_wide rfl rfl rfl rfl rfl E1 (by rw [lD]; omega) ?_
            have F1 := (E1.intSet 14 (mul R1 X 7 % 18446744073709551616)).intSet (14 + 1) (mul R1 X 7 / 18446744073709551616)
            rw [show ((tabL X 7).set 14 (mul R1 X 7 % 18446744073709551616)).set (14 + 1) (mul R1 X 7 / 18446744073709551616) = tabL X 8 from tab_set X 7 (by omega)] at F1
            have F4 := (E4.far (p := ⟨w.heap.size + 1, 14, none⟩) (Ne.symm hg4) (.int .u64 ((mul R1 X 7 % 18446744073709551616 : Nat) : Int))).far (p := ⟨w.heap.size + 1, 14 + 1, none⟩) (Ne.symm hg4) (.int .u64 ((mul R1 X 7 / 18446744073709551616 : Nat) : Int))
            have hbel6 := (hbel5.setCell (p := ⟨w.heap.size + 1, 14, none⟩) (Nat.le_succ _) (.int .u64 ((mul R1 X 7 % 18446744073709551616 : Nat) : Int))).setCell (p := ⟨w.heap.size + 1, 14 + 1, none⟩) (Nat.le_succ _) (.int .u64 ((mul R1 X 7 / 18446744073709551616 : Nat) : Int))
            clear E1 E4 hbel5 c0 c1 D1 D4 hbel4 hW hn
            generalize (W.setCell ⟨w.heap.size + 1, 14, none⟩ (.int .u64 ((mul R1 X 7 % 18446744073709551616 : Nat) : Int))).setCell ⟨w.heap.size + 1, 14 + 1, none⟩ (.int .u64 ((mul R1 X 7 / 18446744073709551616 : Nat) : Int)) = w9 at *
            go_wp2_with (fail)
            refine ⟨⟨_, _, _, _, _, _, _, _, _, _, _, _, _, _, _, _, _, _, _, _, _, ⟨4, by omega, rfl, F1, F4, hbel6⟩, rfl⟩, by simp [intOf]⟩
        · simp only [Nat.reduceAdd] at D1
          clear hnx
          go_wp2_with (refine wpList_load_ints rfl 54 _ rfl g4 rfl D4 Try.ar54 rfl ?_; (try simp only [Act.put, List.setIfInBounds_toArray, List.set_cons_zero, List.set_cons_succ, World.size_alloc, setRow_size, Nat.add_assoc, Nat.reduceAdd]))
          refine (up_c Y hY _).mono ?_
          rintro e w4 ⟨rfl, hb4⟩
          have F4' := D4.below' hb4
          have F4 := F4'.row (ints .u64 (W2 (up R1 Y)))
          have F1 := (D1.below' hb4).rowFar hg4 (ints .u64 (W2 (up R1 Y)))
          have hbel7 := bSetRow (bCall hbel4 hb4 hbel4.size) hg4b (ints .u64 (W2 (up R1 Y)))
          clear D1 D4 hbel4 hb4
          go_wp2_with (refine wpList_store_ints rfl 54 _ _ rfl g4 rfl rfl F4' rfl Try.ar54 rfl ?_; (try simp only [Act.put, List.setIfInBounds_toArray, List.set_cons_zero, List.set_cons_succ, World.size_alloc, setRow_size, Nat.add_assoc, Nat.reduceAdd]))
          rw [← HU.out] at F1 F4 hbel7 ⊢
          refine ⟨⟨3, by omega, rfl, F1, F4, hbel7⟩, by simp [intOf]⟩
    · have hY := Gf.upN_lt Gf.R1_lt hX 3
      have hup : upN R1 (3 + 1) X = up R1 (upN R1 3 X) := rfl
      have HU := Lib.hid hup
      clear hup
      have hnx := fun i (hi : i < 8) => tab_next X 3 i (by omega) hi
      generalize hYd : upN R1 3 X = Y at *
      clear hYd
      simp only [Nat.reducePow] at C1 hnx
      go_wp2_with (fail)
      go_loopw [18] (fun t wr => ∃ i : Nat, i ≤ 8 ∧ t = .int .i64 i ∧ Blk wr (w.heap.size + 1) 70 (ints .u64 (tabL X (8 + i))) ∧ Blk wr g4 54 (ints .u64 (W2 Y)) ∧ Below w.heap.size w wr) (fun t wr => 8 - (intOf t).toNat)
      case atStart => exact ⟨0, by omega, rfl, C1, C4, hbelr⟩
      case round =>
        obtain ⟨i, hi, rfl, D1, D4, hbel4⟩ := hrel
        clear C1 C4 hbelr
        have hi5 : i = 0 ∨ i = 1 ∨ i = 2 ∨ i = 3 ∨ i = 4 ∨ i = 5 ∨ i = 6 ∨ i = 7 ∨ i = 8 := by omega
        rcases hi5 with rfl | rfl | rfl | rfl | rfl | rfl | rfl | rfl | rfl
        · have hv := tabV_lt X 8 0 hX
          have hn := hnx 0 (by omega)
          simp only [Nat.reduceAdd] at D1 hn
          have lD := tabL_len X 8
          have c0 : wr.cell? ⟨w.heap.size + 1, 0, none⟩ = some (.int .u64 ((tabV X 8 0 % 18446744073709551616 : Nat) : Int)) := by
            have := D1.int (i := 0) (by rw [lD]; omega)
            rw [show (tabL X 8).getD 0 0 = _ from tabL_lo X 8 (n := 0) (by omega)] at this
            exact this
          have c1 : wr.cell? ⟨w.heap.size + 1, 0 + 1, none⟩ = some (.int .u64 ((tabV X 8 0 / 18446744073709551616 : Nat) : Int)) := by
            have := D1.int (i := 0 + 1) (by rw [lD]; omega)
            rw [show (tabL X 8).getD (0 + 1) 0 = _ from tabL_hi X 8 (n := 0) (by omega)] at this
            exact this
          have lt1 := D1.lt
          generalize tabV X 8 0 = V at *
          go_wp2_with (fail)
          refine wp_region_last2 16 (by kernel_rfl) (by kernel_rfl) (by kernel_rfl) (by kernel_rfl) (fun D a W => ∃ u21 u22 u23 u24 u25 u26 u27 u28 u29 u30 u31 u32 u33 u34 u35 u36 u37 : Value, a = { tmps := #[.agg (ints .u8 hs), .pointer (some ⟨w.heap.size, 0, none⟩), .pointer none, .pointer (some ⟨w.heap.size + 1, 0, none⟩), .pointer (some ⟨g4, 0, none⟩), .int .i64 ((3 : Nat) : Int), .int .i64 ((0 : Nat) : Int), .agg (ints .u64 (zeros 32)), .pointer (some ⟨w.heap.size + 1, 0, none⟩), .slice (some ⟨w.heap.size, 0, none⟩) 16 16, .agg (ints .u64 (W2 x)), .agg (ints .u64 (W2 1)), .agg (ints .u64 (W2 X)), .int .i64 ((3 : Nat) : Int), .bool true, .int .i64 ((3 : Nat) : Int), .int .i64 ((3 : Nat) : Int), .int .i64 8, .int .i64 ((0 : Nat) : Int), .bool true, .int .i64 ((0 : Nat) : Int), u21, u22, u23, u24, u25, u26, u27, u28, u29, u30, u31, u32, u33, u34, u35, u36, u37, u38, u39, u40, undef], defers := [] } ∧ Below wr.heap.size wr W ∧ (D 0 → u21 = .pointer (some ⟨w.heap.size + 1, 0, none⟩)) ∧ (D 1 → u22 = .int .i64 ((3 : Nat) : Int)) ∧ (D 2 → u23 = .int .i64 8) ∧ (D 3 → u24 = .int .i64 ((0 : Nat) : Int)) ∧ (D 4 → u25 = .int .i64 8) ∧ (D 5 → u26 = .pointer (some ⟨w.heap.size + 1, 0, none⟩)) ∧ (D 6 → u27 = .int .i64 ((0 : Nat) : Int)) ∧ (D 7 → u28 = .pointer (some ⟨w.heap.size + 1, 0, none⟩)) ∧ (D 8 → u29 = .pointer (some ⟨w.heap.size + 1, 0, none⟩)) ∧ (D 9 → u30 = .pointer (some ⟨w.heap.size + 1, 0, none⟩)) ∧ (D 10 → u31 = .agg (ints .u64 (W2 V))) ∧ (D 11 → u32 = .agg (ints .u64 (W2 Y))) ∧ (D 12 → u33 = .agg (ints .u64 (W2 (V ^^^ 1 * Y)))) ∧ (D 13 → u34 = .pointer (some ⟨w.heap.size + 1, 0, none⟩)) ∧ (D 14 → u35 = .pointer (some ⟨w.heap.size + 1, 0, none⟩)) ∧ (D 15 → u36 = .pointer (some ⟨w.heap.size + 1, 16, none⟩))) ?_ ?_ ?_
          · exact ⟨_, _, _, _, _, _, _, _, _, _, _, _, _, _, _, _, _, rfl, ⟨rfl, rfl, rfl, Nat.le_refl _, fun _ _ => rfl⟩, (fun h => h.elim), (fun h => h.elim), (fun h => h.elim), (fun h => h.elim), (fun h => h.elim), (fun h => h.elim), (fun h => h.elim), (fun h => h.elim), (fun h => h.elim), (fun h => h.elim), (fun h => h.elim), (fun h => h.elim), (fun h => h.elim), (fun h => h.elim), (fun h => h.elim), (fun h => h.elim)⟩
          · intro i o hilt hi D a W hI hnD hall
            obtain ⟨u21, u22, u23, u24, u25, u26, u27, u28, u29, u30, u31, u32, u33, u34, u35, u36, u37, rfl, hW, f0, f1, f2, f3, f4, f5, f6, f7, f8, f9, f10, f11, f12, f13, f14, f15⟩ := hI
            rcases i with _ | _ | _ | _ | _ | _ | _ | _ | _ | _ | _ | _ | _ | _ | _ | _ | i
            · simp only [Nat.zero_add, Nat.reduceAdd, List.getElem?_toArray, List.getElem?_cons_succ, List.getElem?_cons_zero, Option.some.injEq] at hi
              subst hi
              refine wpOp_value (v := .pointer (some ⟨w.heap.size + 1, 0, none⟩)) rfl rfl rfl ?_
              exact ⟨_, _, _, _, _, _, _, _, _, _, _, _, _, _, _, _, _, rfl, hW, (fun _ => rfl), (fun h => f1 (rl h)), (fun h => f2 (rl h)), (fun h => f3 (rl h)), (fun h => f4 (rl h)), (fun h => f5 (rl h)), (fun h => f6 (rl h)), (fun h => f7 (rl h)), (fun h => f8 (rl h)), (fun h => f9 (rl h)), (fun h => f10 (rl h)), (fun h => f11 (rl h)), (fun h => f12 (rl h)), (fun h => f13 (rl h)), (fun h => f14 (rl h)), (fun h => f15 (rl h))⟩
            · simp only [Nat.zero_add, Nat.reduceAdd, List.getElem?_toArray, List.getElem?_cons_succ, List.getElem?_cons_zero, Option.some.injEq] at hi
              subst hi
              refine wpOp_value (v := .int .i64 ((3 : Nat) : Int)) rfl rfl rfl ?_
              exact ⟨_, _, _, _, _, _, _, _, _, _, _, _, _, _, _, _, _, rfl, hW, (fun h => f0 (rl h)), (fun _ => rfl), (fun h => f2 (rl h)), (fun h => f3 (rl h)), (fun h => f4 (rl h)), (fun h => f5 (rl h)), (fun h => f6 (rl h)), (fun h => f7 (rl h)), (fun h => f8 (rl h)), (fun h => f9 (rl h)), (fun h => f10 (rl h)), (fun h => f11 (rl h)), (fun h => f12 (rl h)), (fun h => f13 (rl h)), (fun h => f14 (rl h)), (fun h => f15 (rl h))⟩
            · simp only [Nat.zero_add, Nat.reduceAdd, List.getElem?_toArray, List.getElem?_cons_succ, List.getElem?_cons_zero, Option.some.injEq] at hi
              subst hi
              obtain rfl := f1 (pre_of hall 1 rfl)
              refine wpOp_value (v := .int .i64 8) rfl rfl (by kernel_rfl) ?_
              exact ⟨_, _, _, _, _, _, _, _, _, _, _, _, _, _, _, _, _, rfl, hW, (fun h => f0 (rl h)), (fun h => f1 (rl h)), (fun _ => rfl), (fun h => f3 (rl h)), (fun h => f4 (rl h)), (fun h => f5 (rl h)), (fun h => f6 (rl h)), (fun h => f7 (rl h)), (fun h => f8 (rl h)), (fun h => f9 (rl h)), (fun h => f10 (rl h)), (fun h => f11 (rl h)), (fun h => f12 (rl h)), (fun h => f13 (rl h)), (fun h => f14 (rl h)), (fun h => f15 (rl h))⟩
            · simp only [Nat.zero_add, Nat.reduceAdd, List.getElem?_toArray, List.getElem?_cons_succ, List.getElem?_cons_zero, Option.some.injEq] at hi
              subst hi
              refine wpOp_value (v := .int .i64 ((0 : Nat) : Int)) rfl rfl rfl ?_
              exact ⟨_, _, _, _, _, _, _, _, _, _, _, _, _, _, _, _, _, rfl, hW, (fun h => f0 (rl h)), (fun h => f1 (rl h)), (fun h => f2 (rl h)), (fun _ => rfl), (fun h => f4 (rl h)), (fun h => f5 (rl h)), (fun h => f6 (rl h)), (fun h => f7 (rl h)), (fun h => f8 (rl h)), (fun h => f9 (rl h)), (fun h => f10 (rl h)), (fun h => f11 (rl h)), (fun h => f12 (rl h)), (fun h => f13 (rl h)), (fun h => f14 (rl h)), (fun h => f15 (rl h))⟩
            · simp only [Nat.zero_add, Nat.reduceAdd, List.getElem?_toArray, List.getElem?_cons_succ, List.getElem?_cons_zero, Option.some.injEq] at hi
              subst hi
              obtain rfl := f2 (pre_of hall 2 rfl)
              obtain rfl := f3 (pre_of hall 3 rfl)
              refine wpOp_value (v := .int .i64 8) rfl rfl (by kernel_rfl) ?_
              exact ⟨_, _, _, _, _, _, _, _, _, _, _, _, _, _, _, _, _, rfl, hW, (fun h => f0 (rl h)), (fun h => f1 (rl h)), (fun h => f2 (rl h)), (fun h => f3 (rl h)), (fun _ => rfl), (fun h => f5 (rl h)), (fun h => f6 (rl h)), (fun h => f7 (rl h)), (fun h => f8 (rl h)), (fun h => f9 (rl h)), (fun h => f10 (rl h)), (fun h => f11 (rl h)), (fun h => f12 (rl h)), (fun h => f13 (rl h)), (fun h => f14 (rl h)), (fun h => f15 (rl h))⟩
            · simp only [Nat.zero_add, Nat.reduceAdd, List.getElem?_toArray, List.getElem?_cons_succ, List.getElem?_cons_zero, Option.some.injEq] at hi
              subst hi
              refine wpOp_value (v := .pointer (some ⟨w.heap.size + 1, 0, none⟩)) rfl rfl rfl ?_
              exact ⟨_, _, _, _, _, _, _, _, _, _, _, _, _, _, _, _, _, rfl, hW, (fun h => f0 (rl h)), (fun h => f1 (rl h)), (fun h => f2 (rl h)), (fun h => f3 (rl h)), (fun h => f4 (rl h)), (fun _ => rfl), (fun h => f6 (rl h)), (fun h => f7 (rl h)), (fun h => f8 (rl h)), (fun h => f9 (rl h)), (fun h => f10 (rl h)), (fun h => f11 (rl h)), (fun h => f12 (rl h)), (fun h => f13 (rl h)), (fun h => f14 (rl h)), (fun h => f15 (rl h))⟩
            · simp only [Nat.zero_add, Nat.reduceAdd, List.getElem?_toArray, List.getElem?_cons_succ, List.getElem?_cons_zero, Option.some.injEq] at hi
              subst hi
              refine wpOp_value (v := .int .i64 ((0 : Nat) : Int)) rfl rfl rfl ?_
              exact ⟨_, _, _, _, _, _, _, _, _, _, _, _, _, _, _, _, _, rfl, hW, (fun h => f0 (rl h)), (fun h => f1 (rl h)), (fun h => f2 (rl h)), (fun h => f3 (rl h)), (fun h => f4 (rl h)), (fun h => f5 (rl h)), (fun _ => rfl), (fun h => f7 (rl h)), (fun h => f8 (rl h)), (fun h => f9 (rl h)), (fun h => f10 (rl h)), (fun h => f11 (rl h)), (fun h => f12 (rl h)), (fun h => f13 (rl h)), (fun h => f14 (rl h)), (fun h => f15 (rl h))⟩
            · simp only [Nat.zero_add, Nat.reduceAdd, List.getElem?_toArray, List.getElem?_cons_succ, List.getElem?_cons_zero, Option.some.injEq] at hi
              subst hi
              obtain rfl := f5 (pre_of hall 5 rfl)
              refine wpOp_value (v := .pointer (some ⟨w.heap.size + 1, 0, none⟩)) rfl rfl (by kernel_rfl) ?_
              exact ⟨_, _, _, _, _, _, _, _, _, _, _, _, _, _, _, _, _, rfl, hW, (fun h => f0 (rl h)), (fun h => f1 (rl h)), (fun h => f2 (rl h)), (fun h => f3 (rl h)), (fun h => f4 (rl h)), (fun h => f5 (rl h)), (fun h => f6 (rl h)), (fun _ => rfl), (fun h => f8 (rl h)), (fun h => f9 (rl h)), (fun h => f10 (rl h)), (fun h => f11 (rl h)), (fun h => f12 (rl h)), (fun h => f13 (rl h)), (fun h => f14 (rl h)), (fun h => f15 (rl h))⟩
            · simp only [Nat.zero_add, Nat.reduceAdd, List.getElem?_toArray, List.getElem?_cons_succ, List.getElem?_cons_zero, Option.some.injEq] at hi
              subst hi
              obtain rfl := f7 (pre_of hall 7 rfl)
              refine wpOp_value (v := .pointer (some ⟨w.heap.size + 1, 0, none⟩)) rfl rfl (by kernel_rfl) ?_
              exact ⟨_, _, _, _, _, _, _, _, _, _, _, _, _, _, _, _, _, rfl, hW, (fun h => f0 (rl h)), (fun h => f1 (rl h)), (fun h => f2 (rl h)), (fun h => f3 (rl h)), (fun h => f4 (rl h)), (fun h => f5 (rl h)), (fun h => f6 (rl h)), (fun h => f7 (rl h)), (fun _ => rfl), (fun h => f9 (rl h)), (fun h => f10 (rl h)), (fun h => f11 (rl h)), (fun h => f12 (rl h)), (fun h => f13 (rl h)), (fun h => f14 (rl h)), (fun h => f15 (rl h))⟩
            · simp only [Nat.zero_add, Nat.reduceAdd, List.getElem?_toArray, List.getElem?_cons_succ, List.getElem?_cons_zero, Option.some.injEq] at hi
              subst hi
              obtain rfl := f8 (pre_of hall 8 rfl)
              obtain rfl := f6 (pre_of hall 6 rfl)
              refine wpOp_value (v := .pointer (some ⟨w.heap.size + 1, 0, none⟩)) rfl rfl (by kernel_rfl) ?_
              exact ⟨_, _, _, _, _, _, _, _, _, _, _, _, _, _, _, _, _, rfl, hW, (fun h => f0 (rl h)), (fun h => f1 (rl h)), (fun h => f2 (rl h)), (fun h => f3 (rl h)), (fun h => f4 (rl h)), (fun h => f5 (rl h)), (fun h => f6 (rl h)), (fun h => f7 (rl h)), (fun h => f8 (rl h)), (fun _ => rfl), (fun h => f10 (rl h)), (fun h => f11 (rl h)), (fun h => f12 (rl h)), (fun h => f13 (rl h)), (fun h => f14 (rl h)), (fun h => f15 (rl h))⟩
            · simp only [Nat.zero_add, Nat.reduceAdd, List.getElem?_toArray, List.getElem?_cons_succ, List.getElem?_cons_zero, Option.some.injEq] at hi
              subst hi
              obtain rfl := f9 (pre_of hall 9 rfl)
              refine wpOp_value (v := .agg (ints .u64 (W2 V))) rfl rfl (run_wide rfl rfl ((hW.cell (p := ⟨_, _, none⟩) lt1).trans c0) ((hW.cell (p := ⟨_, _, none⟩) lt1).trans c1)) ?_
              exact ⟨_, _, _, _, _, _, _, _, _, _, _, _, _, _, _, _, _, rfl, hW, (fun h => f0 (rl h)), (fun h => f1 (rl h)), (fun h => f2 (rl h)), (fun h => f3 (rl h)), (fun h => f4 (rl h)), (fun h => f5 (rl h)), (fun h => f6 (rl h)), (fun h => f7 (rl h)), (fun h => f8 (rl h)), (fun h => f9 (rl h)), (fun _ => rfl), (fun h => f11 (rl h)), (fun h => f12 (rl h)), (fun h => f13 (rl h)), (fun h => f14 (rl h)), (fun h => f15 (rl h))⟩
            · simp only [Nat.zero_add, Nat.reduceAdd, List.getElem?_toArray, List.getElem?_cons_succ, List.getElem?_cons_zero, Option.some.injEq] at hi
              subst hi
              refine wpOp_load rfl rfl rfl rfl (D4.below' hW) Try.ar54 rfl ?_
              exact ⟨_, _, _, _, _, _, _, _, _, _, _, _, _, _, _, _, _, rfl, hW, (fun h => f0 (rl h)), (fun h => f1 (rl h)), (fun h => f2 (rl h)), (fun h => f3 (rl h)), (fun h => f4 (rl h)), (fun h => f5 (rl h)), (fun h => f6 (rl h)), (fun h => f7 (rl h)), (fun h => f8 (rl h)), (fun h => f9 (rl h)), (fun h => f10 (rl h)), (fun _ => rfl), (fun h => f12 (rl h)), (fun h => f13 (rl h)), (fun h => f14 (rl h)), (fun h => f15 (rl h))⟩
            · simp only [Nat.zero_add, Nat.reduceAdd, List.getElem?_toArray, List.getElem?_cons_succ, List.getElem?_cons_zero, Option.some.injEq] at hi
              subst hi
              obtain rfl := f10 (pre_of hall 10 rfl)
              obtain rfl := f11 (pre_of hall 11 rfl)
              refine wpOp_call 44 rfl rfl rfl Try.func44 (by kernel_rfl) (by kernel_rfl) (plus10_c V Y 1 hv hY (Nat.le_refl 1) W) ?_
              intro W' hW'
              exact ⟨_, _, _, _, _, _, _, _, _, _, _, _, _, _, _, _, _, rfl, bCall hW hW' hW.size, (fun h => f0 (rl h)), (fun h => f1 (rl h)), (fun h => f2 (rl h)), (fun h => f3 (rl h)), (fun h => f4 (rl h)), (fun h => f5 (rl h)), (fun h => f6 (rl h)), (fun h => f7 (rl h)), (fun h => f8 (rl h)), (fun h => f9 (rl h)), (fun h => f10 (rl h)), (fun h => f11 (rl h)), (fun _ => rfl), (fun h => f13 (rl h)), (fun h => f14 (rl h)), (fun h => f15 (rl h))⟩
            · simp only [Nat.zero_add, Nat.reduceAdd, List.getElem?_toArray, List.getElem?_cons_succ, List.getElem?_cons_zero, Option.some.injEq] at hi
              subst hi
              obtain rfl := f0 (pre_of hall 0 rfl)
              refine wpOp_value (v := .pointer (some ⟨w.heap.size + 1, 0, none⟩)) rfl rfl (by kernel_rfl) ?_
              exact ⟨_, _, _, _, _, _, _, _, _, _, _, _, _, _, _, _, _, rfl, hW, (fun h => f0 (rl h)), (fun h => f1 (rl h)), (fun h => f2 (rl h)), (fun h => f3 (rl h)), (fun h => f4 (rl h)), (fun h => f5 (rl h)), (fun h => f6 (rl h)), (fun h => f7 (rl h)), (fun h => f8 (rl h)), (fun h => f9 (rl h)), (fun h => f10 (rl h)), (fun h => f11 (rl h)), (fun h => f12 (rl h)), (fun _ => rfl), (fun h => f14 (rl h)), (fun h => f15 (rl h))⟩
            · simp only [Nat.zero_add, Nat.reduceAdd, List.getElem?_toArray, List.getElem?_cons_succ, List.getElem?_cons_zero, Option.some.injEq] at hi
              subst hi
              obtain rfl := f13 (pre_of hall 13 rfl)
              refine wpOp_value (v := .pointer (some ⟨w.heap.size + 1, 0, none⟩)) rfl rfl (by kernel_rfl) ?_
              exact ⟨_, _, _, _, _, _, _, _, _, _, _, _, _, _, _, _, _, rfl, hW, (fun h => f0 (rl h)), (fun h => f1 (rl h)), (fun h => f2 (rl h)), (fun h => f3 (rl h)), (fun h => f4 (rl h)), (fun h => f5 (rl h)), (fun h => f6 (rl h)), (fun h => f7 (rl h)), (fun h => f8 (rl h)), (fun h => f9 (rl h)), (fun h => f10 (rl h)), (fun h => f11 (rl h)), (fun h => f12 (rl h)), (fun h => f13 (rl h)), (fun _ => rfl), (fun h => f15 (rl h))⟩
            · simp only [Nat.zero_add, Nat.reduceAdd, List.getElem?_toArray, List.getElem?_cons_succ, List.getElem?_cons_zero, Option.some.injEq] at hi
              subst hi
              obtain rfl := f14 (pre_of hall 14 rfl)
              obtain rfl := f4 (pre_of hall 4 rfl)
              refine wpOp_value (v := .pointer (some ⟨w.heap.size + 1, 16, none⟩)) rfl rfl (by kernel_rfl) ?_
              exact ⟨_, _, _, _, _, _, _, _, _, _, _, _, _, _, _, _, _, rfl, hW, (fun h => f0 (rl h)), (fun h => f1 (rl h)), (fun h => f2 (rl h)), (fun h => f3 (rl h)), (fun h => f4 (rl h)), (fun h => f5 (rl h)), (fun h => f6 (rl h)), (fun h => f7 (rl h)), (fun h => f8 (rl h)), (fun h => f9 (rl h)), (fun h => f10 (rl h)), (fun h => f11 (rl h)), (fun h => f12 (rl h)), (fun h => f13 (rl h)), (fun h => f14 (rl h)), (fun _ => rfl)⟩
            · exfalso; omega
          · rintro D a W ⟨u21, u22, u23, u24, u25, u26, u27, u28, u29, u30, u31, u32, u33, u34, u35, u36, u37, rfl, hW, f0, f1, f2, f3, f4, f5, f6, f7, f8, f9, f10, f11, f12, f13, f14, f15⟩ hall
            obtain rfl := f0 (hall 0 (by decide))
            obtain rfl := f1 (hall 1 (by decide))
            obtain rfl := f2 (hall 2 (by decide))
            obtain rfl := f3 (hall 3 (by decide))
            obtain rfl := f4 (hall 4 (by decide))
            obtain rfl := f5 (hall 5 (by decide))
            obtain rfl := f6 (hall 6 (by decide))
            obtain rfl := f7 (hall 7 (by decide))
            obtain rfl := f8 (hall 8 (by decide))
            obtain rfl := f9 (hall 9 (by decide))
            obtain rfl := f10 (hall 10 (by decide))
            obtain rfl := f11 (hall 11 (by decide))
            obtain rfl := f12 (hall 12 (by decide))
            obtain rfl := f13 (hall 13 (by decide))
            obtain rfl := f14 (hall 14 (by decide))
            obtain rfl := f15 (hall 15 (by decide))
            clear f0 f1 f2 f3 f4 f5 f6 f7 f8 f9 f10 f11 f12 f13 f14 f15 hall
            have E1 := D1.below' hW
            have E4 := D4.below' hW
            have hbel5 := bCall hbel4 hW hbel4.size
            rw [← hn]
            refine wpOp_store_wide rfl rfl rfl rfl rfl E1 (by rw [lD]; omega) ?_
            have F1 := (E1.intSet 16 (mul R1 X 8 % 18446744073709551616)).intSet (16 + 1) (mul R1 X 8 / 18446744073709551616)
            rw [show ((tabL X 8).set 16 (mul R1 X 8 % 18446744073709551616)).set (16 + 1) (mul R1 X 8 / 18446744073709551616) = tabL X 9 from tab_set X 8 (by omega)] at F1
            have F4 := (E4.far (p := ⟨w.heap.size + 1, 16, none⟩) (Ne.symm hg4) (.int .u64 ((mul R1 X 8 % 18446744073709551616 : Nat) : Int))).far (p := ⟨w.heap.size + 1, 16 + 1, none⟩) (Ne.symm hg4) (.int .u64 ((mul R1 X 8 / 18446744073709551616 : Nat) : Int))
            have hbel6 := (hbel5.setCell (p := ⟨w.heap.size + 1, 16, none⟩) (Nat.le_succ _) (.int .u64 ((mul R1 X 8 % 18446744073709551616 : Nat) : Int))).setCell (p := ⟨w.heap.size + 1, 16 + 1, none⟩) (Nat.le_succ _) (.int .u64 ((mul R1 X 8 / 18446744073709551616 : Nat) : Int))
            clear E1 E4 hbel5 c0 c1 D1 D4 hbel4 hW hn
            generalize (W.setCell ⟨w.heap.size + 1, 16, none⟩ (.int .u64 ((mul R1 X 8 % 18446744073709551616 : Nat) : Int))).setCell ⟨w.heap.size + 1, 16 + 1, none⟩ (.int .u64 ((mul R1 X 8 / 18446744073709551616 : Nat) : Int)) = w9 at *
            go_wp2_with (fail)
            refine ⟨⟨_, _, _, _, _, _, _, _, _, _, _, _, _, _, _, _, _, _, _, _, _, ⟨1, by omega, rfl, F1, F4, hbel6⟩, rfl⟩, by simp [intOf]⟩
        · have hv := tabV_lt X 9 1 hX
          have hn := hnx 1 (by omega)
          simp only [Nat.reduceAdd] at D1 hn
          have lD := tabL_len X 9
          have c0 : wr.cell? ⟨w.heap.size + 1, 2, none⟩ = some (.int .u64 ((tabV X 9 1 % 18446744073709551616 : Nat) : Int)) := by
            have := D1.int (i := 2) (by rw [lD]; omega)
            rw [show (tabL X 9).getD 2 0 = _ from tabL_lo X 9 (n := 1) (by omega)] at this
            exact this
          have c1 : wr.cell? ⟨w.heap.size + 1, 2 + 1, none⟩ = some (.int .u64 ((tabV X 9 1 / 18446744073709551616 : Nat) : Int)) := by
            have := D1.int (i := 2 + 1) (by rw [lD]; omega)
            rw [show (tabL X 9).getD (2 + 1) 0 = _ from tabL_hi X 9 (n := 1) (by omega)] at this
            exact this
          have lt1 := D1.lt
          generalize tabV X 9 1 = V at *
          go_wp2_with (fail)
          refine wp_region_last2 16 (by kernel_rfl) (by kernel_rfl) (by kernel_rfl) (by kernel_rfl) (fun D a W => ∃ u21 u22 u23 u24 u25 u26 u27 u28 u29 u30 u31 u32 u33 u34 u35 u36 u37 : Value, a = { tmps := #[.agg (ints .u8 hs), .pointer (some ⟨w.heap.size, 0, none⟩), .pointer none, .pointer (some ⟨w.heap.size + 1, 0, none⟩), .pointer (some ⟨g4, 0, none⟩), .int .i64 ((3 : Nat) : Int), .int .i64 ((1 : Nat) : Int), .agg (ints .u64 (zeros 32)), .pointer (some ⟨w.heap.size + 1, 0, none⟩), .slice (some ⟨w.heap.size, 0, none⟩) 16 16, .agg (ints .u64 (W2 x)), .agg (ints .u64 (W2 1)), .agg (ints .u64 (W2 X)), .int .i64 ((3 : Nat) : Int), .bool true, .int .i64 ((3 : Nat) : Int), .int .i64 ((3 : Nat) : Int), .int .i64 8, .int .i64 ((1 : Nat) : Int), .bool true, .int .i64 ((1 : Nat) : Int), u21, u22, u23, u24, u25, u26, u27, u28, u29, u30, u31, u32, u33, u34, u35, u36, u37, u38, u39, u40, undef], defers := [] } ∧ Below wr.heap.size wr W ∧ (D 0 → u21 = .pointer (some ⟨w.heap.size + 1, 0, none⟩)) ∧ (D 1 → u22 = .int .i64 ((3 : Nat) : Int)) ∧ (D 2 → u23 = .int .i64 8) ∧ (D 3 → u24 = .int .i64 ((1 : Nat) : Int)) ∧ (D 4 → u25 = .int .i64 9) ∧ (D 5 → u26 = .pointer (some ⟨w.heap.size + 1, 0, none⟩)) ∧ (D 6 → u27 = .int .i64 ((1 : Nat) : Int)) ∧ (D 7 → u28 = .pointer (some ⟨w.heap.size + 1, 0, none⟩)) ∧ (D 8 → u29 = .pointer (some ⟨w.heap.size + 1, 0, none⟩)) ∧ (D 9 → u30 = .pointer (some ⟨w.heap.size + 1, 2, none⟩)) ∧ (D 10 → u31 = .agg (ints .u64 (W2 V))) ∧ (D 11 → u32 = .agg (ints .u64 (W2 Y))) ∧ (D 12 → u33 = .agg (ints .u64 (W2 (V ^^^ 1 * Y)))) ∧ (D 13 → u34 = .pointer (some ⟨w.heap.size + 1, 0, none⟩)) ∧ (D 14 → u35 = .pointer (some ⟨w.heap.size + 1, 0, none⟩)) ∧ (D 15 → u36 = .pointer (some ⟨w.heap.size + 1, 18, none⟩))) ?_ ?_ ?_
          · exact ⟨_, _, _, _, _, _, _, _, _, _, _, _, _, _, _, _, _, rfl, ⟨rfl, rfl, rfl, Nat.le_refl _, fun _ _ => rfl⟩, (fun h => h.elim), (fun h => h.elim), (fun h => h.elim), (fun h => h.elim), (fun h => h.elim), (fun h => h.elim), (fun h => h.elim), (fun h => h.elim), (fun h => h.elim), (fun h => h.elim), (fun h => h.elim), (fun h => h.elim), (fun h => h.elim), (fun h => h.elim), (fun h => h.elim), (fun h => h.elim)⟩
          · intro i o hilt hi D a W hI hnD hall
            obtain ⟨u21, u22, u23, u24, u25, u26, u27, u28, u29, u30, u31, u32, u33, u34, u35, u36, u37, rfl, hW, f0, f1, f2, f3, f4, f5, f6, f7, f8, f9, f10, f11, f12, f13, f14, f15⟩ := hI
            rcases i with _ | _ | _ | _ | _ | _ | _ | _ | _ | _ | _ | _ | _ | _ | _ | _ | i
            · simp only [Nat.zero_add, Nat.reduceAdd, List.getElem?_toArray, List.getElem?_cons_succ, List.getElem?_cons_zero, Option.some.injEq] at hi
              subst hi
              refine wpOp_value (v := .pointer (some ⟨w.heap.size + 1, 0, none⟩)) rfl rfl rfl ?_
              exact ⟨_, _, _, _, _, _, _, _, _, _, _, _, _, _, _, _, _, rfl, hW, (fun _ => rfl), (fun h => f1 (rl h)), (fun h => f2 (rl h)), (fun h => f3 (rl h)), (fun h => f4 (rl h)), (fun h => f5 (rl h)), (fun h => f6 (rl h)), (fun h => f7 (rl h)), (fun h => f8 (rl h)), (fun h => f9 (rl h)), (fun h => f10 (rl h)), (fun h => f11 (rl h)), (fun h => f12 (rl h)), (fun h => f13 (rl h)), (fun h => f14 (rl h)), (fun h => f15 (rl h))⟩
            · simp only [Nat.zero_add, Nat.reduceAdd, List.getElem?_toArray, List.getElem?_cons_succ, List.getElem?_cons_zero, Option.some.injEq] at hi
              subst hi
              refine wpOp_value (v := .int .i64 ((3 : Nat) : Int)) rfl rfl rfl ?_
              exact ⟨_, _, _, _, _, _, _, _, _, _, _, _, _, _, _, _, _, rfl, hW, (fun h => f0 (rl h)), (fun _ => rfl), (fun h => f2 (rl h)), (fun h => f3 (rl h)), (fun h => f4 (rl h)), (fun h => f5 (rl h)), (fun h => f6 (rl h)), (fun h => f7 (rl h)), (fun h => f8 (rl h)), (fun h => f9 (rl h)), (fun h => f10 (rl h)), (fun h => f11 (rl h)), (fun h => f12 (rl h)), (fun h => f13 (rl h)), (fun h => f14 (rl h)), (fun h => f15 (rl h))⟩
            · simp only [Nat.zero_add, Nat.reduceAdd, List.getElem?_toArray, List.getElem?_cons_succ, List.getElem?_cons_zero, Option.some.injEq] at hi
              subst hi
              obtain rfl := f1 (pre_of hall 1 rfl)
              refine wpOp_value (v := .int .i64 8) rfl rfl (by kernel_rfl) ?_
              exact ⟨_, _, _, _, _, _, _, _, _, _, _, _, _, _, _, _, _, rfl, hW, (fun h => f0 (rl h)), (fun h => f1 (rl h)), (fun _ => rfl), (fun h => f3 (rl h)), (fun h => f4 (rl h)), (fun h => f5 (rl h)), (fun h => f6 (rl h)), (fun h => f7 (rl h)), (fun h => f8 (rl h)), (fun h => f9 (rl h)), (fun h => f10 (rl h)), (fun h => f11 (rl h)), (fun h => f12 (rl h)), (fun h => f13 (rl h)), (fun h => f14 (rl h)), (fun h => f15 (rl h))⟩
            · simp only [Nat.zero_add, Nat.reduceAdd, List.getElem?_toArray, List.getElem?_cons_succ, List.getElem?_cons_zero, Option.some.injEq] at hi
              subst hi
              refine wpOp_value (v := .int .i64 ((1 : Nat) : Int)) rfl rfl rfl ?_
              exact ⟨_, _, _, _, _, _, _, _, _, _, _, _, _, _, _, _, _, rfl, hW, (fun h => f0 (rl h)), (fun h => f1 (rl h)), (fun h => f2 (rl h)), (fun _ => rfl), (fun h => f4 (rl h)), (fun h => f5 (rl h)), (fun h => f6 (rl h)), (fun h => f7 (rl h)), (fun h => f8 (rl h)), (fun h => f9 (rl h)), (fun h => f10 (rl h)), (fun h => f11 (rl h)), (fun h => f12 (rl h)), (fun h => f13 (rl h)), (fun h => f14 (rl h)), (fun h => f15 (rl h))⟩
            · simp only [Nat.zero_add, Nat.reduceAdd, List.getElem?_toArray, List.getElem?_cons_succ, List.getElem?_cons_zero, Option.some.injEq] at hi
              subst hi
              obtain rfl := f2 (pre_of hall 2 rfl)
              obtain rfl := f3 (pre_of hall 3 rfl)
              refine wpOp_value (v := .int .i64 9) rfl rfl (by kernel_rfl) ?_
              exact ⟨_, _, _, _, _, _, _, _, _, _, _, _, _, _, _, _, _, rfl, hW, (fun h => f0 (rl h)), (fun h => f1 (rl h)), (fun h => f2 (rl h)), (fun h => f3 (rl h)), (fun _ => rfl), (fun h => f5 (rl h)), (fun h => f6 (rl h)), (fun h => f7 (rl h)), (fun h => f8 (rl h)), (fun h => f9 (rl h)), (fun h => f10 (rl h)), (fun h => f11 (rl h)), (fun h => f12 (rl h)), (fun h => f13 (rl h)), (fun h => f14 (rl h)), (fun h => f15 (rl h))⟩
            · simp only [Nat.zero_add, Nat.reduceAdd, List.getElem?_toArray, List.getElem?_cons_succ, List.getElem?_cons_zero, Option.some.injEq] at hi
              subst hi
              refine wpOp_value (v := .pointer (some ⟨w.heap.size + 1, 0, none⟩)) rfl rfl rfl ?_
              exact ⟨_, _, _, _, _, _, _, _, _, _, _, _, _, _, _, _, _, rfl, hW, (fun h => f0 (rl h)), (fun h => f1 (rl h)), (fun h => f2 (rl h)), (fun h => f3 (rl h)), (fun h => f4 (rl h)), (fun _ => rfl), (fun h => f6 (rl h)), (fun h => f7 (rl h)), (fun h => f8 (rl h)), (fun h => f9 (rl h)), (fun h => f10 (rl h)), (fun h => f11 (rl h)), (fun h => f12 (rl h)), (fun h => f13 (rl h)), (fun h => f14 (rl h)), (fun h => f15 (rl h))⟩
            · simp only [Nat.zero_add, Nat.reduceAdd, List.getElem?_toArray, List.getElem?_cons_succ, List.getElem?_cons_zero, Option.some.injEq] at hi
              subst hi
              refine wpOp_value (v := .int .i64 ((1 : Nat) : Int)) rfl rfl rfl ?_
              exact ⟨_, _, _, _, _, _, _, _, _, _, _, _, _, _, _, _, _, rfl, hW, (fun h => f0 (rl h)), (fun h => f1 (rl h)), (fun h => f2 (rl h)), (fun h => f3 (rl h)), (fun h => f4 (rl h)), (fun h => f5 (rl h)), (fun _ => rfl), (fun h => f7 (rl h)), (fun h => f8 (rl h)), (fun h => f9 (rl h)), (fun h => f10 (rl h)), (fun h => f11 (rl h)), (fun h => f12 (rl h)), (fun h => f13 (rl h)), (fun h => f14 (rl h)), (fun h => f15 (rl h))⟩
            · simp only [Nat.zero_add, Nat.reduceAdd, List.getElem?_toArray, List.getElem?_cons_succ, List.getElem?_cons_zero, Option.some.injEq] at hi
              subst hi
              obtain rfl := f5 (pre_of hall 5 rfl)
              refine wpOp_value (v := .pointer (some ⟨w.heap.size + 1, 0, none⟩)) rfl rfl (by kernel_rfl) ?_
              exact ⟨_, _, _, _, _, _, _, _, _, _, _, _, _, _, _, _, _, rfl, hW, (fun h => f0 (rl h)), (fun h => f1 (rl h)), (fun h => f2 (rl h)), (fun h => f3 (rl h)), (fun h => f4 (rl h)), (fun h => f5 (rl h)), (fun h => f6 (rl h)), (fun _ => rfl), (fun h => f8 (rl h)), (fun h => f9 (rl h)), (fun h => f10 (rl h)), (fun h => f11 (rl h)), (fun h => f12 (rl h)), (fun h => f13 (rl h)), (fun h => f14 (rl h)), (fun h => f15 (rl h))⟩
            · simp only [Nat.zero_add, Nat.reduceAdd, List.getElem?_toArray, List.getElem?_cons_succ, List.getElem?_cons_zero, Option.some.injEq] at hi
              subst hi
              obtain rfl := f7 (pre_of hall 7 rfl)
              refine wpOp_value (v := .pointer (some ⟨w.heap.size + 1, 0, none⟩)) rfl rfl (by kernel_rfl) ?_
              exact ⟨_, _, _, _, _, _, _, _, _, _, _, _, _, _, _, _, _, rfl, hW, (fun h => f0 (rl h)), (fun h => f1 (rl h)), (fun h => f2 (rl h)), (fun h => f3 (rl h)), (fun h => f4 (rl h)), (fun h => f5 (rl h)), (fun h => f6 (rl h)), (fun h => f7 (rl h)), (fun _ => rfl), (fun h => f9 (rl h)), (fun h => f10 (rl h)), (fun h => f11 (rl h)), (fun h => f12 (rl h)), (fun h => f13 (rl h)), (fun h => f14 (rl h)), (fun h => f15 (rl h))⟩
            · simp only [Nat.zero_add, Nat.reduceAdd, List.getElem?_toArray, List.getElem?_cons_succ, List.getElem?_cons_zero, Option.some.injEq] at hi
              subst hi
              obtain rfl := f8 (pre_of hall 8 rfl)
              obtain rfl := f6 (pre_of hall 6 rfl)
              refine wpOp_value (v := .pointer (some ⟨w.heap.size + 1, 2, none⟩)) rfl rfl (by kernel_rfl) ?_
              exact ⟨_, _, _, _, _, _, _, _, _, _, _, _, _, _, _, _, _, rfl, hW, (fun h => f0 (rl h)), (fun h => f1 (rl h)), (fun h => f2 (rl h)), (fun h => f3 (rl h)), (fun h => f4 (rl h)), (fun h => f5 (rl h)), (fun h => f6 (rl h)), (fun h => f7 (rl h)), (fun h => f8 (rl h)), (fun _ => rfl), (fun h => f10 (rl h)), (fun h => f11 (rl h)), (fun h => f12 (rl h)), (fun h => f13 (rl h)), (fun h => f14 (rl h)), (fun h => f15 (rl h))⟩
            · simp only [Nat.zero_add, Nat.reduceAdd, List.getElem?_toArray, List.getElem?_cons_succ, List.getElem?_cons_zero, Option.some.injEq] at hi
              subst hi
              obtain rfl := f9 (pre_of hall 9 rfl)
              refine wpOp_value (v := .agg (ints .u64 (W2 V))) rfl rfl (run_wide rfl rfl ((hW.cell (p := ⟨_, _, none⟩) lt1).trans c0) ((hW.cell (p := ⟨_, _, none⟩) lt1).trans c1)) ?_
              exact ⟨_, _, _, _, _, _, _, _, _, _, _, _, _, _, _, _, _, rfl, hW, (fun h => f0 (rl h)), (fun h => f1 (rl h)), (fun h => f2 (rl h)), (fun h => f3 (rl h)), (fun h => f4 (rl h)), (fun h => f5 (rl h)), (fun h => f6 (rl h)), (fun h => f7 (rl h)), (fun h => f8 (rl h)), (fun h => f9 (rl h)), (fun _ => rfl), (fun h => f11 (rl h)), (fun h => f12 (rl h)), (fun h => f13 (rl h)), (fun h => f14 (rl h)), (fun h => f15 (rl h))⟩
            · simp only [Nat.zero_add, Nat.reduceAdd, List.getElem?_toArray, List.getElem?_cons_succ, List.getElem?_cons_zero, Option.some.injEq] at hi
              subst hi
              refine wpOp_load rfl rfl rfl rfl (D4.below' hW) Try.ar54 rfl ?_
              exact ⟨_, _, _, _, _, _, _, _, _, _, _, _, _, _, _, _, _, rfl, hW, (fun h => f0 (rl h)), (fun h => f1 (rl h)), (fun h => f2 (rl h)), (fun h => f3 (rl h)), (fun h => f4 (rl h)), (fun h => f5 (rl h)), (fun h => f6 (rl h)), (fun h => f7 (rl h)), (fun h => f8 (rl h)), (fun h => f9 (rl h)), (fun h => f10 (rl h)), (fun _ => rfl), (fun h => f12 (rl h)), (fun h => f13 (rl h)), (fun h => f14 (rl h)), (fun h => f15 (rl h))⟩
            · simp only [Nat.zero_add, Nat.reduceAdd, List.getElem?_toArray, List.getElem?_cons_succ, List.getElem?_cons_zero, Option.some.injEq] at hi
              subst hi
              obtain rfl := f10 (pre_of hall 10 rfl)
              obtain rfl := f11 (pre_of hall 11 rfl)
              refine wpOp_call 44 rfl rfl rfl Try.func44 (by kernel_rfl) (by kernel_rfl) (plus10_c V Y 1 hv hY (Nat.le_refl 1) W) ?_
              intro W' hW'
              exact ⟨_, _, _, _, _, _, _, _, _, _, _, _, _, _, _, _, _, rfl, bCall hW hW' hW.size, (fun h => f0 (rl h)), (fun h => f1 (rl h)), (fun h => f2 (rl h)), (fun h => f3 (rl h)), (fun h => f4 (rl h)), (fun h => f5 (rl h)), (fun h => f6 (rl h)), (fun h => f7 (rl h)), (fun h => f8 (rl h)), (fun h => f9 (rl h)), (fun h => f10 (rl h)), (fun h => f11 (rl h)), (fun _ => rfl), (fun h => f13 (rl h)), (fun h => f14 (rl h)), (fun h => f15 (rl h))⟩
            · simp only [Nat.zero_add, Nat.reduceAdd, List.getElem?_toArray, List.getElem?_cons_succ, List.getElem?_cons_zero, Option.some.injEq] at hi
              subst hi
              obtain rfl := f0 (pre_of hall 0 rfl)
              refine wpOp_value (v := .pointer (some ⟨w.heap.size + 1, 0, none⟩)) rfl rfl (by kernel_rfl) ?_
              exact ⟨_, _, _, _, _, _, _, _, _, _, _, _, _, _, _, _, _, rfl, hW, (fun h => f0 (rl h)), (fun h => f1 (rl h)), (fun h => f2 (rl h)), (fun h => f3 (rl h)), (fun h => f4 (rl h)), (fun h => f5 (rl h)), (fun h => f6 (rl h)), (fun h => f7 (rl h)), (fun h => f8 (rl h)), (fun h => f9 (rl h)), (fun h => f10 (rl h)), (fun h => f11 (rl h)), (fun h => f12 (rl h)), (fun _ => rfl), (fun h => f14 (rl h)), (fun h => f15 (rl h))⟩
            · simp only [Nat.zero_add, Nat.reduceAdd, List.getElem?_toArray, List.getElem?_cons_succ, List.getElem?_cons_zero, Option.some.injEq] at hi
              subst hi
              obtain rfl := f13 (pre_of hall 13 rfl)
              refine wpOp_value (v := .pointer (some ⟨w.heap.size + 1, 0, none⟩)) rfl rfl (by kernel_rfl) ?_
              exact ⟨_, _, _, _, _, _, _, _, _, _, _, _, _, _, _, _, _, rfl, hW, (fun h => f0 (rl h)), (fun h => f1 (rl h)), (fun h => f2 (rl h)), (fun h => f3 (rl h)), (fun h => f4 (rl h)), (fun h => f5 (rl h)), (fun h => f6 (rl h)), (fun h => f7 (rl h)), (fun h => f8 (rl h)), (fun h => f9 (rl h)), (fun h => f10 (rl h)), (fun h => f11 (rl h)), (fun h => f12 (rl h)), (fun h => f13 (rl h)), (fun _ => rfl), (fun h => f15 (rl h))⟩
            · simp only [Nat.zero_add, Nat.reduceAdd, List.getElem?_toArray, List.getElem?_cons_succ, List.getElem?_cons_zero, Option.some.injEq] at hi
              subst hi
              obtain rfl := f14 (pre_of hall 14 rfl)
              obtain rfl := f4 (pre_of hall 4 rfl)
              refine wpOp_value (v := .pointer (some ⟨w.heap.size + 1, 18, none⟩)) rfl rfl (by kernel_rfl) ?_
              exact ⟨_, _, _, _, _, _, _, _, _, _, _, _, _, _, _, _, _, rfl, hW, (fun h => f0 (rl h)), (fun h => f1 (rl h)), (fun h => f2 (rl h)), (fun h => f3 (rl h)), (fun h => f4 (rl h)), (fun h => f5 (rl h)), (fun h => f6 (rl h)), (fun h => f7 (rl h)), (fun h => f8 (rl h)), (fun h => f9 (rl h)), (fun h => f10 (rl h)), (fun h => f11 (rl h)), (fun h => f12 (rl h)), (fun h => f13 (rl h)), (fun h => f14 (rl h)), (fun _ => rfl)⟩
            · exfalso; omega
          · rintro D a W ⟨u21, u22, u23, u24, u25, u26, u27, u28, u29, u30, u31, u32, u33, u34, u35, u36, u37, rfl, hW, f0, f1, f2, f3, f4, f5, f6, f7, f8, f9, f10, f11, f12, f13, f14, f15⟩ hall
            obtain rfl := f0 (hall 0 (by decide))
            obtain rfl := f1 (hall 1 (by decide))
            obtain rfl := f2 (hall 2 (by decide))
            obtain rfl := f3 (hall 3 (by decide))
            obtain rfl := f4 (hall 4 (by decide))
            obtain rfl := f5 (hall 5 (by decide))
            obtain rfl := f6 (hall 6 (by decide))
            obtain rfl := f7 (hall 7 (by decide))
            obtain rfl := f8 (hall 8 (by decide))
            obtain rfl := f9 (hall 9 (by decide))
            obtain rfl := f10 (hall 10 (by decide))
            obtain rfl := f11 (hall 11 (by decide))
            obtain rfl := f12 (hall 12 (by decide))
            obtain rfl := f13 (hall 13 (by decide))
            obtain rfl := f14 (hall 14 (by decide))
            obtain rfl := f15 (hall 15 (by decide))
            clear f0 f1 f2 f3 f4 f5 f6 f7 f8 f9 f10 f11 f12 f13 f14 f15 hall
            have E1 := D1.below' hW
            have E4 := D4.below' hW
            have hbel5 := bCall hbel4 hW hbel4.size
            rw [← hn]
            refine wpOp_store_wide rfl rfl rfl rfl rfl E1 (by rw [lD]; omega) ?_
            have F1 := (E1.intSet 18 (mul R1 X 9 % 18446744073709551616)).intSet (18 + 1) (mul R1 X 9 / 18446744073709551616)
            rw [show ((tabL X 9).set 18 (mul R1 X 9 % 18446744073709551616)).set (18 + 1) (mul R1 X 9 / 18446744073709551616) = tabL X 10 from tab_set X 9 (by omega)] at F1
            have F4 := (E4.far (p := ⟨w.heap.size + 1, 18, none⟩) (Ne.symm hg4) (.int .u64 ((mul R1 X 9 % 18446744073709551616 : Nat) : Int))).far (p := ⟨w.heap.size + 1, 18 + 1, none⟩) (Ne.symm hg4) (.int .u64 ((mul R1 X 9 / 18446744073709551616 : Nat) : Int))
            have hbel6 := (hbel5.setCell (p := ⟨w.heap.size + 1, 18, none⟩) (Nat.le_succ _) (.int .u64 ((mul R1 X 9 % 18446744073709551616 : Nat) : Int))).setCell (p := ⟨w.heap.size + 1, 18 + 1, none⟩) (Nat.le_succ _) (.int .u64 ((mul R1 X 9 / 18446744073709551616 : Nat) : Int))
            clear E1 E4 hbel5 c0 c1 D1 D4 hbel4 hW hn
            generalize (W.setCell ⟨w.heap.size + 1, 18, none⟩ (.int .u64 ((mul R1 X 9 % 18446744073709551616 : Nat) : Int))).setCell ⟨w.heap.size + 1, 18 + 1, none⟩ (.int .u64 ((mul R1 X 9 / 18446744073709551616 : Nat) : Int)) = w9 at *
            go_wp2_with (fail)
            refine ⟨⟨_, _, _, _, _, _, _, _, _, _, _, _, _, _, _, _, _, _, _, _, _, ⟨2, by omega, rfl, F1, F4, hbel6⟩, rfl⟩, by simp [intOf]⟩
        · have hv := tabV_lt X 10 2 hX
          have hn := hnx 2 (by omega)
          simp only [Nat.reduceAdd] at D1 hn
          have lD := tabL_len X 10
          have c0 : wr.cell? ⟨w.heap.size + 1, 4, none⟩ = some (.int .u64 ((tabV X 10 2 % 18446744073709551616 : Nat) : Int)) := by
            have := D1.int (i := 4) (by rw [lD]; omega)
            rw [show (tabL X 10).getD 4 0 = _ from tabL_lo X 10 (n := 2) (by omega)] at this
            exact this
          have c1 : wr.cell? ⟨w.heap.size + 1, 4 + 1, none⟩ = some (.int .u64 ((tabV X 10 2 / 18446744073709551616 : Nat) : Int)) := by
            have := D1.int (i := 4 + 1) (by rw [lD]; omega)
            rw [show (tabL X 10).getD (4 + 1) 0 = _ from tabL_hi X 10 (n := 2) (by omega)] at this
            exact this
          have lt1 := D1.lt
          generalize tabV X 10 2 = V at *
          go_wp2_with (fail)
          refine wp_region_last2 16 (by kernel_rfl) (by kernel_rfl) (by kernel_rfl) (by kernel_rfl) (fun D a W => ∃ u21 u22 u23 u24 u25 u26 u27 u28 u29 u30 u31 u32 u33 u34 u35 u36 u37 : Value, a = { tmps := #[.agg (ints .u8 hs), .pointer (some ⟨w.heap.size, 0, none⟩), .pointer none, .pointer (some ⟨w.heap.size + 1, 0, none⟩), .pointer (some ⟨g4, 0, none⟩), .int .i64 ((3 : Nat) : Int), .int .i64 ((2 : Nat) : Int), .agg (ints .u64 (zeros 32)), .pointer (some ⟨w.heap.size + 1, 0, none⟩), .slice (some ⟨w.heap.size, 0, none⟩) 16 16, .agg (ints .u64 (W2 x)), .agg (ints .u64 (W2 1)), .agg (ints .u64 (W2 X)), .int .i64 ((3 : Nat) : Int), .bool true, .int .i64 ((3 : Nat) : Int), .int .i64 ((3 : Nat) : Int), .int .i64 8, .int .i64 ((2 : Nat) : Int), .bool true, .int .i64 ((2 : Nat) : Int), u21, u22, u23, u24, u25, u26, u27, u28, u29, u30, u31, u32, u33, u34, u35, u36, u37, u38, u39, u40, undef], defers := [] } ∧ Below wr.heap.size wr W ∧ (D 0 → u21 = .pointer (some ⟨w.heap.size + 1, 0, none⟩)) ∧ (D 1 → u22 = .int .i64 ((3 : Nat) : Int)) ∧ (D 2 → u23 = .int .i64 8) ∧ (D 3 → u24 = .int .i64 ((2 : Nat) : Int)) ∧ (D 4 → u25 = .int .i64 10) ∧ (D 5 → u26 = .pointer (some ⟨w.heap.size + 1, 0, none⟩)) ∧ (D 6 → u27 = .int .i64 ((2 : Nat) : Int)) ∧ (D 7 → u28 = .pointer (some ⟨w.heap.size + 1, 0, none⟩)) ∧ (D 8 → u29 = .pointer (some ⟨w.heap.size + 1, 0, none⟩)) ∧ (D 9 → u30 = .pointer (some ⟨w.heap.size + 1, 4, none⟩)) ∧ (D 10 → u31 = .agg (ints .u64 (W2 V))) ∧ (D 11 → u32 = .agg (ints .u64 (W2 Y))) ∧ (D 12 → u33 = .agg (ints .u64 (W2 (V ^^^ 1 * Y)))) ∧ (D 13 → u34 = .pointer (some ⟨w.heap.size + 1, 0, none⟩)) ∧ (D 14 → u35 = .pointer (some ⟨w.heap.size + 1, 0, none⟩)) ∧ (D 15 → u36 = .pointer (some ⟨w.heap.size + 1, 20, none⟩))) ?_ ?_ ?_
          · exact ⟨_, _, _, _, _, _, _, _, _, _, _, _, _, _, _, _, _, rfl, ⟨rfl, rfl, rfl, Nat.le_refl _, fun _ _ => rfl⟩, (fun h => h.elim), (fun h => h.elim), (fun h => h.elim), (fun h => h.elim), (fun h => h.elim), (fun h => h.elim), (fun h => h.elim), (fun h => h.elim), (fun h => h.elim), (fun h => h.elim), (fun h => h.elim), (fun h => h.elim), (fun h => h.elim), (fun h => h.elim), (fun h => h.elim), (fun h => h.elim)⟩
          · intro i o hilt hi D a W hI hnD hall
            obtain ⟨u21, u22, u23, u24, u25, u26, u27, u28, u29, u30, u31, u32, u33, u34, u35, u36, u37, rfl, hW, f0, f1, f2, f3, f4, f5, f6, f7, f8, f9, f10, f11, f12, f13, f14, f15⟩ := hI
            rcases i with _ | _ | _ | _ | _ | _ | _ | _ | _ | _ | _ | _ | _ | _ | _ | _ | i
            · simp only [Nat.zero_add, Nat.reduceAdd, List.getElem?_toArray, List.getElem?_cons_succ, List.getElem?_cons_zero, Option.some.injEq] at hi
              subst hi
              refine wpOp_value (v := .pointer (some ⟨w.heap.size + 1, 0, none⟩)) rfl rfl rfl ?_
              exact ⟨_, _, _, _, _, _, _, _, _, _, _, _, _, _, _, _, _, rfl, hW, (fun _ => rfl), (fun h => f1 (rl h)), (fun h => f2 (rl h)), (fun h => f3 (rl h)), (fun h => f4 (rl h)), (fun h => f5 (rl h)), (fun h => f6 (rl h)), (fun h => f7 (rl h)), (fun h => f8 (rl h)), (fun h => f9 (rl h)), (fun h => f10 (rl h)), (fun h => f11 (rl h)), (fun h => f12 (rl h)), (fun h => f13 (rl h)), (fun h => f14 (rl h)), (fun h => f15 (rl h))⟩
            · simp only [Nat.zero_add, Nat.reduceAdd, List.getElem?_toArray, List.getElem?_cons_succ, List.getElem?_cons_zero, Option.some.injEq] at hi
              subst hi
              refine wpOp_value (v := .int .i64 ((3 : Nat) : Int)) rfl rfl rfl ?_
              exact ⟨_, _, _, _, _, _, _, _, _, _, _, _, _, _, _, _, _, rfl, hW, (fun h => f0 (rl h)), (fun _ => rfl), (fun h => f2 (rl h)), (fun h => f3 (rl h)), (fun h => f4 (rl h)), (fun h => f5 (rl h)), (fun h => f6 (rl h)), (fun h => f7 (rl h)), (fun h => f8 (rl h)), (fun h => f9 (rl h)), (fun h => f10 (rl h)), (fun h => f11 (rl h)), (fun h => f12 (rl h)), (fun h => f13 (rl h)), (fun h => f14 (rl h)), (fun h => f15 (rl h))⟩
            · simp only [Nat.zero_add, Nat.reduceAdd, List.getElem?_toArray, List.getElem?_cons_succ, List.getElem?_cons_zero, Option.some.injEq] at hi
              subst hi
              obtain rfl := f1 (pre_of hall 1 rfl)
              refine wpOp_value (v := .int .i64 8) rfl rfl (by kernel_rfl) ?_
              exact ⟨_, _, _, _, _, _, _, _, _, _, _, _, _, _, _, _, _, rfl, hW, (fun h => f0 (rl h)), (fun h => f1 (rl h)), (fun _ => rfl), (fun h => f3 (rl h)), (fun h => f4 (rl h)), (fun h => f5 (rl h)), (fun h => f6 (rl h)), (fun h => f7 (rl h)), (fun h => f8 (rl h)), (fun h => f9 (rl h)), (fun h => f10 (rl h)), (fun h => f11 (rl h)), (fun h => f12 (rl h)), (fun h => f13 (rl h)), (fun h => f14 (rl h)), (fun h => f15 (rl h))⟩
            · simp only [Nat.zero_add, Nat.reduceAdd, List.getElem?_toArray, List.getElem?_cons_succ, List.getElem?_cons_zero, Option.some.injEq] at hi
              subst hi
              refine wpOp_value (v := .int .i64 ((2 : Nat) : Int)) rfl rfl rfl ?_
              exact ⟨_, _, _, _, _, _, _, _, _, _, _, _, _, _, _, _, _, rfl, hW, (fun h => f0 (rl h)), (fun h => f1 (rl h)), (fun h => f2 (rl h)), (fun _ => rfl), (fun h => f4 (rl h)), (fun h => f5 (rl h)), (fun h => f6 (rl h)), (fun h => f7 (rl h)), (fun h => f8 (rl h)), (fun h => f9 (rl h)), (fun h => f10 (rl h)), (fun h => f11 (rl h)), (fun h => f12 (rl h)), (fun h => f13 (rl h)), (fun h => f14 (rl h)), (fun h => f15 (rl h))⟩
            · simp only [Nat.zero_add, Nat.reduceAdd, List.getElem?_toArray, List.getElem?_cons_succ, List.getElem?_cons_zero, Option.some.injEq] at hi
              subst hi
              obtain rfl := f2 (pre_of hall 2 rfl)
              obtain rfl := f3 (pre_of hall 3 rfl)
              refine wpOp_value (v := .int .i64 10) rfl rfl (by kernel_rfl) ?_
              exact ⟨_, _, _, _, _, _, _, _, _, _, _, _, _, _, _, _, _, rfl, hW, (fun h => f0 (rl h)), (fun h => f1 (rl h)), (fun h => f2 (rl h)), (fun h => f3 (rl h)), (fun _ => rfl), (fun h => f5 (rl h)), (fun h => f6 (rl h)), (fun h => f7 (rl h)), (fun h => f8 (rl h)), (fun h => f9 (rl h)), (fun h => f10 (rl h)), (fun h => f11 (rl h)), (fun h => f12 (rl h)), (fun h => f13 (rl h)), (fun h => f14 (rl h)), (fun h => f15 (rl h))⟩
            · simp only [Nat.zero_add, Nat.reduceAdd, List.getElem?_toArray, List.getElem?_cons_succ, List.getElem?_cons_zero, Option.some.injEq] at hi
              subst hi
              refine wpOp_value (v := .pointer (some ⟨w.heap.size + 1, 0, none⟩)) rfl rfl rfl ?_
              exact ⟨_, _, _, _, _, _, _, _, _, _, _, _, _, _, _, _, _, rfl, hW, (fun h => f0 (rl h)), (fun h => f1 (rl h)), (fun h => f2 (rl h)), (fun h => f3 (rl h)), (fun h => f4 (rl h)), (fun _ => rfl), (fun h => f6 (rl h)), (fun h => f7 (rl h)), (fun h => f8 (rl h)), (fun h => f9 (rl h)), (fun h => f10 (rl h)), (fun h => f11 (rl h)), (fun h => f12 (rl h)), (fun h => f13 (rl h)), (fun h => f14 (rl h)), (fun h => f15 (rl h))⟩
            · simp only [Nat.zero_add, Nat.reduceAdd, List.getElem?_toArray, List.getElem?_cons_succ, List.getElem?_cons_zero, Option.some.injEq] at hi
              subst hi
              refine wpOp_value (v := .int .i64 ((2 : Nat) : Int)) rfl rfl rfl ?_
              exact ⟨_, _, _, _, _, _, _, _, _, _, _, _, _, _, _, _, _, rfl, hW, (fun h => f0 (rl h)), (fun h => f1 (rl h)), (fun h => f2 (rl h)), (fun h => f3 (rl h)), (fun h => f4 (rl h)), (fun h => f5 (rl h)), (fun _ => rfl), (fun h => f7 (rl h)), (fun h => f8 (rl h)), (fun h => f9 (rl h)), (fun h => f10 (rl h)), (fun h => f11 (rl h)), (fun h => f12 (rl h)), (fun h => f13 (rl h)), (fun h => f14 (rl h)), (fun h => f15 (rl h))⟩
            · simp only [Nat.zero_add, Nat.reduceAdd, List.getElem?_toArray, List.getElem?_cons_succ, List.getElem?_cons_zero, Option.some.injEq] at hi
              subst hi
              obtain rfl := f5 (pre_of hall 5 rfl)
              refine wpOp_value (v := .pointer (some ⟨w.heap.size + 1, 0, none⟩)) rfl rfl (by kernel_rfl) ?_
              exact ⟨_, _, _, _, _, _, _, _, _, _, _, _, _, _, _, _, _, rfl, hW, (fun h => f0 (rl h)), (fun h => f1 (rl h)), (fun h => f2 (rl h)), (fun h => f3 (rl h)), (fun h => f4 (rl h)), (fun h => f5 (rl h)), (fun h => f6 (rl h)), (fun _ => rfl), (fun h => f8 (rl h)), (fun h => f9 (rl h)), (fun h => f10 (rl h)), (fun h => f11 (rl h)), (fun h => f12 (rl h)), (fun h => f13 (rl h)), (fun h => f14 (rl h)), (fun h => f15 (rl h))⟩
            · simp only [Nat.zero_add, Nat.reduceAdd, List.getElem?_toArray, List.getElem?_cons_succ, List.getElem?_cons_zero, Option.some.injEq] at hi
              subst hi
              obtain rfl := f7 (pre_of hall 7 rfl)
              refine wpOp_value (v := .pointer (some ⟨w.heap.size + 1, 0, none⟩)) rfl rfl (by kernel_rfl) ?_
              exact ⟨_, _, _, _, _, _, _, _, _, _, _, _, _, _, _, _, _, rfl, hW, (fun h => f0 (rl h)), (fun h => f1 (rl h)), (fun h => f2 (rl h)), (fun h => f3 (rl h)), (fun h => f4 (rl h)), (fun h => f5 (rl h)), (fun h => f6 (rl h)), (fun h => f7 (rl h)), (fun _ => rfl), (fun h => f9 (rl h)), (fun h => f10 (rl h)), (fun h => f11 (rl h)), (fun h => f12 (rl h)), (fun h => f13 (rl h)), (fun h => f14 (rl h)), (fun h => f15 (rl h))⟩
            · simp only [Nat.zero_add, Nat.reduceAdd, List.getElem?_toArray, List.getElem?_cons_succ, List.getElem?_cons_zero, Option.some.injEq] at hi
              subst hi
              obtain rfl := f8 (pre_of hall 8 rfl)
              obtain rfl := f6 (pre_of hall 6 rfl)
              refine wpOp_value (v := .pointer (some ⟨w.heap.size + 1, 4, none⟩)) rfl rfl (by kernel_rfl) ?_
              exact ⟨_, _, _, _, _, _, _, _, _, _, _, _, _, _, _, _, _, rfl, hW, (fun h => f0 (rl h)), (fun h => f1 (rl h)), (fun h => f2 (rl h)), (fun h => f3 (rl h)), (fun h => f4 (rl h)), (fun h => f5 (rl h)), (fun h => f6 (rl h)), (fun h => f7 (rl h)), (fun h => f8 (rl h)), (fun _ => rfl), (fun h => f10 (rl h)), (fun h => f11 (rl h)), (fun h => f12 (rl h)), (fun h => f13 (rl h)), (fun h => f14 (rl h)), (fun h => f15 (rl h))⟩
            · simp only [Nat.zero_add, Nat.reduceAdd, List.getElem?_toArray, List.getElem?_cons_succ, List.getElem?_cons_zero, Option.some.injEq] at hi
              subst hi
              obtain rfl := f9 (pre_of hall 9 rfl)
              refine wpOp_value (v := .agg (ints .u64 (W2 V))) rfl rfl (run_wide rfl rfl ((hW.cell (p := ⟨_, _, none⟩) lt1).trans c0) ((hW.cell (p := ⟨_, _, none⟩) lt1).trans c1)) ?_
              exact ⟨_, _, _, _, _, _, _, _, _, _, _, _, _, _, _, _, _, rfl, hW, (fun h => f0 (rl h)), (fun h => f1 (rl h)), (fun h => f2 (rl h)), (fun h => f3 (rl h)), (fun h => f4 (rl h)), (fun h => f5 (rl h)), (fun h => f6 (rl h)), (fun h => f7 (rl h)), (fun h => f8 (rl h)), (fun h => f9 (rl h)), (fun _ => rfl), (fun h => f11 (rl h)), (fun h => f12 (rl h)), (fun h => f13 (rl h)), (fun h => f14 (rl h)), (fun h => f15 (rl h))⟩
            · simp only [Nat.zero_add, Nat.reduceAdd, List.getElem?_toArray, List.getElem?_cons_succ, List.getElem?_cons_zero, Option.some.injEq] at hi
              subst hi
              refine wpOp_load rfl rfl rfl rfl (D4.below' hW) Try.ar54 rfl ?_
              exact ⟨_, _, _, _, _, _, _, _, _, _, _, _, _, _, _, _, _, rfl, hW, (fun h => f0 (rl h)), (fun h => f1 (rl h)), (fun h => f2 (rl h)), (fun h => f3 (rl h)), (fun h => f4 (rl h)), (fun h => f5 (rl h)), (fun h => f6 (rl h)), (fun h => f7 (rl h)), (fun h => f8 (rl h)), (fun h => f9 (rl h)), (fun h => f10 (rl h)), (fun _ => rfl), (fun h => f12 (rl h)), (fun h => f13 (rl h)), (fun h => f14 (rl h)), (fun h => f15 (rl h))⟩
            · simp only [Nat.zero_add, Nat.reduceAdd, List.getElem?_toArray, List.getElem?_cons_succ, List.getElem?_cons_zero, Option.some.injEq] at hi
              subst hi
              obtain rfl := f10 (pre_of hall 10 rfl)
              obtain rfl := f11 (pre_of hall 11 rfl)
              refine wpOp_call 44 rfl rfl rfl Try.func44 (by kernel_rfl) (by kernel_rfl) (plus10_c V Y 1 hv hY (Nat.le_refl 1) W) ?_
              intro W' hW'
              exact ⟨_, _, _, _, _, _, _, _, _, _, _, _, _, _, _, _, _, rfl, bCall hW hW' hW.size, (fun h => f0 (rl h)), (fun h => f1 (rl h)), (fun h => f2 (rl h)), (fun h => f3 (rl h)), (fun h => f4 (rl h)), (fun h => f5 (rl h)), (fun h => f6 (rl h)), (fun h => f7 (rl h)), (fun h => f8 (rl h)), (fun h => f9 (rl h)), (fun h => f10 (rl h)), (fun h => f11 (rl h)), (fun _ => rfl), (fun h => f13 (rl h)), (fun h => f14 (rl h)), (fun h => f15 (rl h))⟩
            · simp only [Nat.zero_add, Nat.reduceAdd, List.getElem?_toArray, List.getElem?_cons_succ, List.getElem?_cons_zero, Option.some.injEq] at hi
              subst hi
              obtain rfl := f0 (pre_of hall 0 rfl)
              refine wpOp_value (v := .pointer (some ⟨w.heap.size + 1, 0, none⟩)) rfl rfl (by kernel_rfl) ?_
              exact ⟨_, _, _, _, _, _, _, _, _, _, _, _, _, _, _, _, _, rfl, hW, (fun h => f0 (rl h)), (fun h => f1 (rl h)), (fun h => f2 (rl h)), (fun h => f3 (rl h)), (fun h => f4 (rl h)), (fun h => f5 (rl h)), (fun h => f6 (rl h)), (fun h => f7 (rl h)), (fun h => f8 (rl h)), (fun h => f9 (rl h)), (fun h => f10 (rl h)), (fun h => f11 (rl h)), (fun h => f12 (rl h)), (fun _ => rfl), (fun h => f14 (rl h)), (fun h => f15 (rl h))⟩
            · simp only [Nat.zero_add, Nat.reduceAdd, List.getElem?_toArray, List.getElem?_cons_succ, List.getElem?_cons_zero, Option.some.injEq] at hi
              subst hi
              obtain rfl := f13 (pre_of hall 13 rfl)
              refine wpOp_value (v := .pointer (some ⟨w.heap.size + 1, 0, none⟩)) rfl rfl (by kernel_rfl) ?_
              exact ⟨_, _, _, _, _, _, _, _, _, _, _, _, _, _, _, _, _, rfl, hW, (fun h => f0 (rl h)), (fun h => f1 (rl h)), (fun h => f2 (rl h)), (fun h => f3 (rl h)), (fun h => f4 (rl h)), (fun h => f5 (rl h)), (fun h => f6 (rl h)), (fun h => f7 (rl h)), (fun h => f8 (rl h)), (fun h => f9 (rl h)), (fun h => f10 (rl h)), (fun h => f11 (rl h)), (fun h => f12 (rl h)), (fun h => f13 (rl h)), (fun _ => rfl), (fun h => f15 (rl h))⟩
            · simp only [Nat.zero_add, Nat.reduceAdd, List.getElem?_toArray, List.getElem?_cons_succ, List.getElem?_cons_zero, Option.some.injEq] at hi
              subst hi
              obtain rfl := f14 (pre_of hall 14 rfl)
              obtain rfl := f4 (pre_of hall 4 rfl)
              refine wpOp_value (v := .pointer (some ⟨w.heap.size + 1, 20, none⟩)) rfl rfl (by kernel_rfl) ?_
              exact ⟨_, _, _, _, _, _, _, _, _, _, _, _, _, _, _, _, _, rfl, hW, (fun h => f0 (rl h)), (fun h => f1 (rl h)), (fun h => f2 (rl h)), (fun h => f3 (rl h)), (fun h => f4 (rl h)), (fun h => f5 (rl h)), (fun h => f6 (rl h)), (fun h => f7 (rl h)), (fun h => f8 (rl h)), (fun h => f9 (rl h)), (fun h => f10 (rl h)), (fun h => f11 (rl h)), (fun h => f12 (rl h)), (fun h => f13 (rl h)), (fun h => f14 (rl h)), (fun _ => rfl)⟩
            · exfalso; omega
          · rintro D a W ⟨u21, u22, u23, u24, u25, u26, u27, u28, u29, u30, u31, u32, u33, u34, u35, u36, u37, rfl, hW, f0, f1, f2, f3, f4, f5, f6, f7, f8, f9, f10, f11, f12, f13, f14, f15⟩ hall
            obtain rfl := f0 (hall 0 (by decide))
            obtain rfl := f1 (hall 1 (by decide))
            obtain rfl := f2 (hall 2 (by decide))
            obtain rfl := f3 (hall 3 (by decide))
            obtain rfl := f4 (hall 4 (by decide))
            obtain rfl := f5 (hall 5 (by decide))
            obtain rfl := f6 (hall 6 (by decide))
            obtain rfl := f7 (hall 7 (by decide))
            obtain rfl := f8 (hall 8 (by decide))
            obtain rfl := f9 (hall 9 (by decide))
            obtain rfl := f10 (hall 10 (by decide))
            obtain rfl := f11 (hall 11 (by decide))
            obtain rfl := f12 (hall 12 (by decide))
            obtain rfl := f13 (hall 13 (by decide))
            obtain rfl := f14 (hall 14 (by decide))
            obtain rfl := f15 (hall 15 (by decide))
            clear f0 f1 f2 f3 f4 f5 f6 f7 f8 f9 f10 f11 f12 f13 f14 f15 hall
            have E1 := D1.below' hW
            have E4 := D4.below' hW
            have hbel5 := bCall hbel4 hW hbel4.size
            rw [← hn]
            refine wpOp_store_wide rfl rfl rfl rfl rfl E1 (by rw [lD]; omega) ?_
            have F1 := (E1.intSet 20 (mul R1 X 10 % 18446744073709551616)).intSet (20 + 1) (mul R1 X 10 / 18446744073709551616)
            rw [show ((tabL X 10).set 20 (mul R1 X 10 % 18446744073709551616)).set (20 + 1) (mul R1 X 10 / 18446744073709551616) = tabL X 11 from tab_set X 10 (by omega)] at F1
            have F4 := (E4.far (p := ⟨w.heap.size + 1, 20, none⟩) (Ne.symm hg4) (.int .u64 ((mul R1 X 10 % 18446744073709551616 : Nat) : Int))).far (p := ⟨w.heap.size + 1, 20 + 1, none⟩) (Ne.symm hg4) (.int .u64 ((mul R1 X 10 / 18446744073709551616 : Nat) : Int))
            have hbel6 := (hbel5.setCell (p := ⟨w.heap.size + 1, 20, none⟩) (Nat.le_succ _) (.int .u64 ((mul R1 X 10 % 18446744073709551616 : Nat) : Int))).setCell (p := ⟨w.heap.size + 1, 20 + 1, none⟩) (Nat.le_succ _) (.int .u64 ((mul R1 X 10 / 18446744073709551616 : Nat) : Int))
            clear E1 E4 hbel5 c0 c1 D1 D4 hbel4 hW hn
            generalize (W.setCell ⟨w.heap.size + 1, 20, none⟩ (.int .u64 ((mul R1 X 10 % 18446744073709551616 : Nat) : Int))).setCell ⟨w.heap.size + 1, 20 + 1, none⟩ (.int .u64 ((mul R1 X 10 / 18446744073709551616 : Nat) : Int)) = w9 at *
            go_wp2_with (fail)
            refine ⟨⟨_, _, _, _, _, _, _, _, _, _, _, _, _, _, _, _, _, _, _, _, _, ⟨3, by omega, rfl, F1, F4, hbel6⟩, rfl⟩, by simp [intOf]⟩
        · have hv := tabV_lt X 11 3 hX
          have hn := hnx 3 (by omega)
          simp only [Nat.reduceAdd] at D1 hn
          have lD := tabL_len X 11
          have c0 : wr.cell? ⟨w.heap.size + 1, 6, none⟩ = some (.int .u64 ((tabV X 11 3 % 18446744073709551616 : Nat) : Int)) := by
            have := D1.int (i := 6) (by rw [lD]; omega)
            rw [show (tabL X 11).getD 6 0 = _ from tabL_lo X 11 (n := 3) (by omega)] at this
            exact this
          have c1 : wr.cell? ⟨w.heap.size + 1, 6 + 1, none⟩ = some (.int .u64 ((tabV X 11 3 / 18446744073709551616 : Nat) : Int)) := by
            have := D1.int (i := 6 + 1) (by rw [lD]; omega)
            rw [show (tabL X 11).getD (6 + 1) 0 = _ from tabL_hi X 11 (n := 3) (by omega)] at this
            exact this
          have lt1 := D1.lt
          generalize tabV X 11 3 = V at *
          go_wp2_with (fail)
          refine wp_region_last2 16 (by kernel_rfl) (by kernel_rfl) (by kernel_rfl) (by kernel_rfl) (fun D a W => ∃ u21 u22 u23 u24 u25 u26 u27 u28 u29 u30 u31 u32 u33 u34 u35 u36 u37 : Value, a = { tmps := #[.agg (ints .u8 hs), .pointer (some ⟨w.heap.size, 0, none⟩), .pointer none, .pointer (some ⟨w.heap.size + 1, 0, none⟩), .pointer (some ⟨g4, 0, none⟩), .int .i64 ((3 : Nat) : Int), .int .i64 ((3 : Nat) : Int), .agg (ints .u64 (zeros 32)), .pointer (some ⟨w.heap.size + 1, 0, none⟩), .slice (some ⟨w.heap.size, 0, none⟩) 16 16, .agg (ints .u64 (W2 x)), .agg (ints .u64 (W2 1)), .agg (ints .u64 (W2 X)), .int .i64 ((3 : Nat) : Int), .bool true, .int .i64 ((3 : Nat) : Int), .int .i64 ((3 : Nat) : Int), .int .i64 8, .int .i64 ((3 : Nat) : Int), .bool true, .int .i64 ((3 : Nat) : Int), u21, u22, u23, u24, u25, u26, u27, u28, u29, u30, u31, u32, u33, u34, u35, u36, u37, u38, u39, u40, undef], defers := [] } ∧ Below wr.heap.size wr W ∧ (D 0 → u21 = .pointer (some ⟨w.heap.size + 1, 0, none⟩)) ∧ (D 1 → u22 = .int .i64 ((3 : Nat) : Int)) ∧ (D 2 → u23 = .int .i64 8) ∧ (D 3 → u24 = .int .i64 ((3 : Nat) : Int)) ∧ (D 4 → u25 = .int .i64 11) ∧ (D 5 → u26 = .pointer (some ⟨w.heap.size + 1, 0, none⟩)) ∧ (D 6 → u27 = .int .i64 ((3 : Nat) : Int)) ∧ (D 7 → u28 = .pointer (some ⟨w.heap.size + 1, 0, none⟩)) ∧ (D 8 → u29 = .pointer (some ⟨w.heap.size + 1, 0, none⟩)) ∧ (D 9 → u30 = .pointer (some ⟨w.heap.size + 1, 6, none⟩)) ∧ (D 10 → u31 = .agg (ints .u64 (W2 V))) ∧ (D 11 → u32 = .agg (ints .u64 (W2 Y))) ∧ (D 12 → u33 = .agg (ints .u64 (W2 (V ^^^ 1 * Y)))) ∧ (D 13 → u34 = .pointer (some ⟨w.heap.size + 1, 0, none⟩)) ∧ (D 14 → u35 = .pointer (some ⟨w.heap.size + 1, 0, none⟩)) ∧ (D 15 → u36 = .pointer (some ⟨w.heap.size + 1, 22, none⟩))) ?_ ?_ ?_
          · exact ⟨_, _, _, _, _, _, _, _, _, _, _, _, _, _, _, _, _, rfl, ⟨rfl, rfl, rfl, Nat.le_refl _, fun _ _ => rfl⟩, (fun h => h.elim), (fun h => h.elim), (fun h => h.elim), (fun h => h.elim), (fun h => h.elim), (fun h => h.elim), (fun h => h.elim), (fun h => h.elim), (fun h => h.elim), (fun h => h.elim), (fun h => h.elim), (fun h => h.elim), (fun h => h.elim), (fun h => h.elim), (fun h => h.elim), (fun h => h.elim)⟩
          · intro i o hilt hi D a W hI hnD hall
            obtain ⟨u21, u22, u23, u24, u25, u26, u27, u28, u29, u30, u31, u32, u33, u34, u35, u36, u37, rfl, hW, f0, f1, f2, f3, f4, f5, f6, f7, f8, f9, f10, f11, f12, f13, f14, f15⟩ := hI
            rcases i with _ | _ | _ | _ | _ | _ | _ | _ | _ | _ | _ | _ | _ | _ | _ | _ | i
            · simp only [Nat.zero_add, Nat.reduceAdd, List.getElem?_toArray, List.getElem?_cons_succ, List.getElem?_cons_zero, Option.some.injEq] at hi
              subst hi
              refine wpOp_value (v := .pointer (some ⟨w.heap.size + 1, 0, none⟩)) rfl rfl rfl ?_
              exact ⟨_, _, _, _, _, _, _, _, _, _, _, _, _, _, _, _, _, rfl, hW, (fun _ => rfl), (fun h => f1 (rl h)), (fun h => f2 (rl h)), (fun h => f3 (rl h)), (fun h => f4 (rl h)), (fun h => f5 (rl h)), (fun h => f6 (rl h)), (fun h => f7 (rl h)), (fun h => f8 (rl h)), (fun h => f9 (rl h)), (fun h => f10 (rl h)), (fun h => f11 (rl h)), (fun h => f12 (rl h)), (fun h => f13 (rl h)), (fun h => f14 (rl h)), (fun h => f15 (rl h))⟩
            · simp only [Nat.zero_add, Nat.reduceAdd, List.getElem?_toArray, List.getElem?_cons_succ, List.getElem?_cons_zero, Option.some.injEq] at hi
              subst hi
              refine wpOp_value (v := .int .i64 ((3 : Nat) : Int)) rfl rfl rfl ?_
              exact ⟨_, _, _, _, _, _, _, _, _, _, _, _, _, _, _, _, _, rfl, hW, (fun h => f0 (rl h)), (fun _ => rfl), (fun h => f2 (rl h)), (fun h => f3 (rl h)), (fun h => f4 (rl h)), (fun h => f5 (rl h)), (fun h => f6 (rl h)), (fun h => f7 (rl h)), (fun h => f8 (rl h)), (fun h => f9 (rl h)), (fun h => f10 (rl h)), (fun h => f11 (rl h)), (fun h => f12 (rl h)), (fun h => f13 (rl h)), (fun h => f14 (rl h)), (fun h => f15 (rl h))⟩
            · simp only [Nat.zero_add, Nat.reduceAdd, List.getElem?_toArray, List.getElem?_cons_succ, List.getElem?_cons_zero, Option.some.injEq] at hi
              subst hi
              obtain rfl := f1 (pre_of hall 1 rfl)
              refine wpOp_value (v := .int .i64 8) rfl rfl (by kernel_rfl) ?_
              exact ⟨_, _, _, _, _, _, _, _, _, _, _, _, _, _, _, _, _, rfl, hW, (fun h => f0 (rl h)), (fun h => f1 (rl h)), (fun _ => rfl), (fun h => f3 (rl h)), (fun h => f4 (rl h)), (fun h => f5 (rl h)), (fun h => f6 (rl h)), (fun h => f7 (rl h)), (fun h => f8 (rl h)), (fun h => f9 (rl h)), (fun h => f10 (rl h)), (fun h => f11 (rl h)), (fun h => f12 (rl h)), (fun h => f13 (rl h)), (fun h => f14 (rl h)), (fun h => f15 (rl h))⟩
            · simp only [Nat.zero_add, Nat.reduceAdd, List.getElem?_toArray, List.getElem?_cons_succ, List.getElem?_cons_zero, Option.some.injEq] at hi
              subst hi
              refine wpOp_value (v := .int .i64 ((3 : Nat) : Int)) rfl rfl rfl ?_
              exact ⟨_, _, _, _, _, _, _, _, _, _, _, _, _, _, _, _, _, rfl, hW, (fun h => f0 (rl h)), (fun h => f1 (rl h)), (fun h => f2 (rl h)), (fun _ => rfl), (fun h => f4 (rl h)), (fun h => f5 (rl h)), (fun h => f6 (rl h)), (fun h => f7 (rl h)), (fun h => f8 (rl h)), (fun h => f9 (rl h)), (fun h => f10 (rl h)), (fun h => f11 (rl h)), (fun h => f12 (rl h)), (fun h => f13 (rl h)), (fun h => f14 (rl h)), (fun h => f15 (rl h))⟩
            · simp only [Nat.zero_add, Nat.reduceAdd, List.getElem?_toArray, List.getElem?_cons_succ, List.getElem?_cons_zero, Option.some.injEq] at hi
              subst hi
              obtain rfl := f2 (pre_of hall 2 rfl)
              obtain rfl := f3 (pre_of hall 3 rfl)
              refine wpOp_value (v := .int .i64 11) rfl rfl (by kernel_rfl) ?_
              exact ⟨_, _, _, _, _, _, _, _, _, _, _, _, _, _, _, _, _, rfl, hW, (fun h => f0 (rl h)), (fun h => f1 (rl h)), (fun h => f2 (rl h)), (fun h => f3 (rl h)), (fun _ => rfl), (fun h => f5 (rl h)), (fun h => f6 (rl h)), (fun h => f7 (rl h)), (fun h => f8 (rl h)), (fun h => f9 (rl h)), (fun h => f10 (rl h)), (fun h => f11 (rl h)), (fun h => f12 (rl h)), (fun h => f13 (rl h)), (fun h => f14 (rl h)), (fun h => f15 (rl h))⟩
            · simp only [Nat.zero_add, Nat.reduceAdd, List.getElem?_toArray, List.getElem?_cons_succ, List.getElem?_cons_zero, Option.some.injEq] at hi
              subst hi
              refine wpOp_value (v := .pointer (some ⟨w.heap.size + 1, 0, none⟩)) rfl rfl rfl ?_
              exact ⟨_, _, _, _, _, _, _, _, _, _, _, _, _, _, _, _, _, rfl, hW, (fun h => f0 (rl h)), (fun h => f1 (rl h)), (fun h => f2 (rl h)), (fun h => f3 (rl h)), (fun h => f4 (rl h)), (fun _ => rfl), (fun h => f6 (rl h)), (fun h => f7 (rl h)), (fun h => f8 (rl h)), (fun h => f9 (rl h)), (fun h => f10 (rl h)), (fun h => f11 (rl h)), (fun h => f12 (rl h)), (fun h => f13 (rl h)), (fun h => f14 (rl h)), (fun h => f15 (rl h))⟩
            · simp only [Nat.zero_add, Nat.reduceAdd, List.getElem?_toArray, List.getElem?_cons_succ, List.getElem?_cons_zero, Option.some.injEq] at hi
              subst hi
              refine wpOp_value (v := .int .i64 ((3 : Nat) : Int)) rfl rfl rfl ?_
              exact ⟨_, _, _, _, _, _, _, _, _, _, _, _, _, _, _, _, _, rfl, hW, (fun h => f0 (rl h)), (fun h => f1 (rl h)), (fun h => f2 (rl h)), (fun h => f3 (rl h)), (fun h => f4 (rl h)), (fun h => f5 (rl h)), (fun _ => rfl), (fun h => f7 (rl h)), (fun h => f8 (rl h)), (fun h => f9 (rl h)), (fun h => f10 (rl h)), (fun h => f11 (rl h)), (fun h => f12 (rl h)), (fun h => f13 (rl h)), (fun h => f14 (rl h)), (fun h => f15 (rl h))⟩
            · simp only [Nat.zero_add, Nat.reduceAdd, List.getElem?_toArray, List.getElem?_cons_succ, List.getElem?_cons_zero, Option.some.injEq] at hi
              subst hi
              obtain rfl := f5 (pre_of hall 5 rfl)
              refine wpOp_value (v := .pointer (some ⟨w.heap.size + 1, 0, none⟩)) rfl rfl (by kernel_rfl) ?_
              exact ⟨_, _, _, _, _, _, _, _, _, _, _, _, _, _, _, _, _, rfl, hW, (fun h => f0 (rl h)), (fun h => f1 (rl h)), (fun h => f2 (rl h)), (fun h => f3 (rl h)), (fun h => f4 (rl h)), (fun h => f5 (rl h)), (fun h => f6 (rl h)), (fun _ => rfl), (fun h => f8 (rl h)), (fun h => f9 (rl h)), (fun h => f10 (rl h)), (fun h => f11 (rl h)), (fun h => f12 (rl h)), (fun h => f13 (rl h)), (fun h => f14 (rl h)), (fun h => f15 (rl h))⟩
            · simp only [Nat.zero_add, Nat.reduceAdd, List.getElem?_toArray, List.getElem?_cons_succ, List.getElem?_cons_zero, Option.some.injEq] at hi
              subst hi
              obtain rfl := f7 (pre_of hall 7 rfl)
              refine wpOp_value (v := .pointer (some ⟨w.heap.size + 1, 0, none⟩)) rfl rfl (by kernel_rfl) ?_
              exact ⟨_, _, _, _, _, _, _, _, _, _, _, _, _, _, _, _, _, rfl, hW, (fun h => f0 (rl h)), (fun h => f1 (rl h)), (fun h => f2 (rl h)), (fun h => f3 (rl h)), (fun h => f4 (rl h)), (fun h => f5 (rl h)), (fun h => f6 (rl h)), (fun h => f7 (rl h)), (fun _ => rfl), (fun h => f9 (rl h)), (fun h => f10 (rl h)), (fun h => f11 (rl h)), (fun h => f12 (rl h)), (fun h => f13 (rl h)), (fun h => f14 (rl h)), (fun h => f15 (rl h))⟩
            · simp only [Nat.zero_add, Nat.reduceAdd, List.getElem?_toArray, List.getElem?_cons_succ, List.getElem?_cons_zero, Option.some.injEq] at hi
              subst hi
              obtain rfl := f8 (pre_of hall 8 rfl)
              obtain rfl := f6 (pre_of hall 6 rfl)
              refine wpOp_value (v := .pointer (some ⟨w.heap.size + 1, 6, none⟩)) rfl rfl (by kernel_rfl) ?_
              exact ⟨_, _, _, _, _, _, _, _, _, _, _, _, _, _, _, _, _, rfl, hW, (fun h => f0 (rl h)), (fun h => f1 (rl h)), (fun h => f2 (rl h)), (fun h => f3 (rl h)), (fun h => f4 (rl h)), (fun h => f5 (rl h)), (fun h => f6 (rl h)), (fun h => f7 (rl h)), (fun h => f8 (rl h)), (fun _ => rfl), (fun h => f10 (rl h)), (fun h => f11 (rl h)), (fun h => f12 (rl h)), (fun h => f13 (rl h)), (fun h => f14 (rl h)), (fun h => f15 (rl h))⟩
            · simp only [Nat.zero_add, Nat.reduceAdd, List.getElem?_toArray, List.getElem?_cons_succ, List.getElem?_cons_zero, Option.some.injEq] at hi
              subst hi
              obtain rfl := f9 (pre_of hall 9 rfl)
              refine wpOp_value (v := .agg (ints .u64 (W2 V))) rfl rfl (run_wide rfl rfl ((hW.cell (p := ⟨_, _, none⟩) lt1).trans c0) ((hW.cell (p := ⟨_, _, none⟩) lt1).trans c1)) ?_
              exact ⟨_, _, _, _, _, _, _, _, _, _, _, _, _, _, _, _, _, rfl, hW, (fun h => f0 (rl h)), (fun h => f1 (rl h)), (fun h => f2 (rl h)), (fun h => f3 (rl h)), (fun h => f4 (rl h)), (fun h => f5 (rl h)), (fun h => f6 (rl h)), (fun h => f7 (rl h)), (fun h => f8 (rl h)), (fun h => f9 (rl h)), (fun _ => rfl), (fun h => f11 (rl h)), (fun h => f12 (rl h)), (fun h => f13 (rl h)), (fun h => f14 (rl h)), (fun h => f15 (rl h))⟩
            · simp only [Nat.zero_add, Nat.reduceAdd, List.getElem?_toArray, List.getElem?_cons_succ, List.getElem?_cons_zero, Option.some.injEq] at hi
              subst hi
              refine wpOp_load rfl rfl rfl rfl (D4.below' hW) Try.ar54 rfl ?_
              exact ⟨_, _, _, _, _, _, _, _, _, _, _, _, _, _, _, _, _, rfl, hW, (fun h => f0 (rl h)), (fun h => f1 (rl h)), (fun h => f2 (rl h)), (fun h => f3 (rl h)), (fun h => f4 (rl h)), (fun h => f5 (rl h)), (fun h => f6 (rl h)), (fun h => f7 (rl h)), (fun h => f8 (rl h)), (fun h => f9 (rl h)), (fun h => f10 (rl h)), (fun _ => rfl), (fun h => f12 (rl h)), (fun h => f13 (rl h)), (fun h => f14 (rl h)), (fun h => f15 (rl h))⟩
            · simp only [Nat.zero_add, Nat.reduceAdd, List.getElem?_toArray, List.getElem?_cons_succ, List.getElem?_cons_zero, Option.some.injEq] at hi
              subst hi
              obtain rfl := f10 (pre_of hall 10 rfl)
              obtain rfl := f11 (pre_of hall 11 rfl)
              refine wpOp_call 44 rfl rfl rfl Try.func44 (by kernel_rfl) (by kernel_rfl) (plus10_c V Y 1 hv hY (Nat.le_refl 1) W) ?_
              intro W' hW'
              exact ⟨_, _, _, _, _, _, _, _, _, _, _, _, _, _, _, _, _, rfl, bCall hW hW' hW.size, (fun h => f0 (rl h)), (fun h => f1 (rl h)), (fun h => f2 (rl h)), (fun h => f3 (rl h)), (fun h => f4 (rl h)), (fun h => f5 (rl h)), (fun h => f6 (rl h)), (fun h => f7 (rl h)), (fun h => f8 (rl h)), (fun h => f9 (rl h)), (fun h => f10 (rl h)), (fun h => f11 (rl h)), (fun _ => rfl), (fun h => f13 (rl h)), (fun h => f14 (rl h)), (fun h => f15 (rl h))⟩
            · simp only [Nat.zero_add, Nat.reduceAdd, List.getElem?_toArray, List.getElem?_cons_succ, List.getElem?_cons_zero, Option.some.injEq] at hi
              subst hi
              obtain rfl := f0 (pre_of hall 0 rfl)
              refine wpOp_value (v := .pointer (some ⟨w.heap.size + 1, 0, none⟩)) rfl rfl (by kernel_rfl) ?_
              exact ⟨_, _, _, _, _, _, _, _, _, _, _, _, _, _, _, _, _, rfl, hW, (fun h => f0 (rl h)), (fun h => f1 (rl h)), (fun h => f2 (rl h)), (fun h => f3 (rl h)), (fun h => f4 (rl h)), (fun h => f5 (rl h)), (fun h => f6 (rl h)), (fun h => f7 (rl h)), (fun h => f8 (rl h)), (fun h => f9 (rl h)), (fun h => f10 (rl h)), (fun h => f11 (rl h)), (fun h => f12 (rl h)), (fun _ => rfl), (fun h => f14 (rl h)), (fun h => f15 (rl h))⟩
            · simp only [Nat.zero_add, Nat.reduceAdd, List.getElem?_toArray, List.getElem?_cons_succ, List.getElem?_cons_zero, Option.some.injEq] at hi
              subst hi
              obtain rfl := f13 (pre_of hall 13 rfl)
              refine wpOp_value (v := .pointer (some ⟨w.heap.size + 1, 0, none⟩)) rfl rfl (by kernel_rfl) ?_
              exact ⟨_, _, _, _, _, _, _, _, _, _, _, _, _, _, _, _, _, rfl, hW, (fun h => f0 (rl h)), (fun h => f1 (rl h)), (fun h => f2 (rl h)), (fun h => f3 (rl h)), (fun h => f4 (rl h)), (fun h => f5 (rl h)), (fun h => f6 (rl h)), (fun h => f7 (rl h)), (fun h => f8 (rl h)), (fun h => f9 (rl h)), (fun h => f10 (rl h)), (fun h => f11 (rl h)), (fun h => f12 (rl h)), (fun h => f13 (rl h)), (fun _ => rfl), (fun h => f15 (rl h))⟩
            · simp only [Nat.zero_add, Nat.reduceAdd, List.getElem?_toArray, List.getElem?_cons_succ, List.getElem?_cons_zero, Option.some.injEq] at hi
              subst hi
              obtain rfl := f14 (pre_of hall 14 rfl)
              obtain rfl := f4 (pre_of hall 4 rfl)
              refine wpOp_value (v := .pointer (some ⟨w.heap.size + 1, 22, none⟩)) rfl rfl (by kernel_rfl) ?_
              exact ⟨_, _, _, _, _, _, _, _, _, _, _, _, _, _, _, _, _, rfl, hW, (fun h => f0 (rl h)), (fun h => f1 (rl h)), (fun h => f2 (rl h)), (fun h => f3 (rl h)), (fun h => f4 (rl h)), (fun h => f5 (rl h)), (fun h => f6 (rl h)), (fun h => f7 (rl h)), (fun h => f8 (rl h)), (fun h => f9 (rl h)), (fun h => f10 (rl h)), (fun h => f11 (rl h)), (fun h => f12 (rl h)), (fun h => f13 (rl h)), (fun h => f14 (rl h)), (fun _ => rfl)⟩
            · exfalso; omega
          · rintro D a W ⟨u21, u22, u23, u24, u25, u26, u27, u28, u29, u30, u31, u32, u33, u34, u35, u36, u37, rfl, hW, f0, f1, f2, f3, f4, f5, f6, f7, f8, f9, f10, f11, f12, f13, f14, f15⟩ hall
            obtain rfl := f0 (hall 0 (by decide))
            obtain rfl := f1 (hall 1 (by decide))
            obtain rfl := f2 (hall 2 (by decide))
            obtain rfl := f3 (hall 3 (by decide))
            obtain rfl := f4 (hall 4 (by decide))
            obtain rfl := f5 (hall 5 (by decide))
            obtain rfl := f6 (hall 6 (by decide))
            obtain rfl := f7 (hall 7 (by decide))
            obtain rfl := f8 (hall 8 (by decide))
            obtain rfl := f9 (hall 9 (by decide))
            obtain rfl := f10 (hall 10 (by decide))
            obtain rfl := f11 (hall 11 (by decide))
            obtain rfl := f12 (hall 12 (by decide))
            obtain rfl := f13 (hall 13 (by decide))
            obtain rfl := f14 (hall 14 (by decide))
            obtain rfl := f15 (hall 15 (by decide))
            clear f0 f1 f2 f3 f4 f5 f6 f7 f8 f9 f10 f11 f12 f13 f14 f15 hall
            have E1 := D1.below' hW
            have E4 := D4.below' hW
            have hbel5 := bCall hbel4 hW hbel4.size
            rw [← hn]
            refine wpOp_store_wide rfl rfl rfl rfl rfl E1 (by rw [lD]; omega) ?_
            have F1 := (E1.intSet 22 (mul R1 X 11 % 18446744073709551616)).intSet (22 + 1) (mul R1 X 11 / 18446744073709551616)
            rw [show ((tabL X 11).set 22 (mul R1 X 11 % 18446744073709551616)).set (22 + 1) (mul R1 X 11 / 18446744073709551616) = tabL X 12 from tab_set X 11 (by omega)] at F1
            have F4 := (E4.far (p := ⟨w.heap.size + 1, 22, none⟩) (Ne.symm hg4) (.int .u64 ((mul R1 X 11 % 18446744073709551616 : Nat) : Int))).far (p := ⟨w.heap.size + 1, 22 + 1, none⟩) (Ne.symm hg4) (.int .u64 ((mul R1 X 11 / 18446744073709551616 : Nat) : Int))
            have hbel6 := (hbel5.setCell (p := ⟨w.heap.size + 1, 22, none⟩) (Nat.le_succ _) (.int .u64 ((mul R1 X 11 % 18446744073709551616 : Nat) : Int))).setCell (p := ⟨w.heap.size + 1, 22 + 1, none⟩) (Nat.le_succ _) (.int .u64 ((mul R1 X 11 / 18446744073709551616 : Nat) : Int))
            clear E1 E4 hbel5 c0 c1 D1 D4 hbel4 hW hn
            generalize (W.setCell ⟨w.heap.size + 1, 22, none⟩ (.int .u64 ((mul R1 X 11 % 18446744073709551616 : Nat) : Int))).setCell ⟨w.heap.size + 1, 22 + 1, none⟩ (.int .u64 ((mul R1 X 11 / 18446744073709551616 : Nat) : Int)) = w9 at *
            go_wp2_with (fail)
            refine ⟨⟨_, _, _, _, _, _, _, _, _, _, _, _, _, _, _, _, _, _, _, _, _, ⟨4, by omega, rfl, F1, F4, hbel6⟩, rfl⟩, by simp [intOf]⟩
        · have hv := tabV_lt X 12 4 hX
          have hn := hnx 4 (by omega)
          simp only [Nat.reduceAdd] at D1 hn
          have lD := tabL_len X 12
          have c0 : wr.cell? ⟨w.heap.size + 1, 8, none⟩ = some (.int .u64 ((tabV X 12 4 % 18446744073709551616 : Nat) : Int)) := by
            have := D1.int (i := 8) (by rw [lD]; omega)
            rw [show (tabL X 12).getD 8 0 = _ from tabL_lo X 12 (n := 4) (by omega)] at this
            exact this
          have c1 : wr.cell? ⟨w.heap.size + 1, 8 + 1, none⟩ = some (.int .u64 ((tabV X 12 4 / 18446744073709551616 : Nat) : Int)) := by
            have := D1.int (i := 8 + 1) (by rw [lD]; omega)
            rw [show (tabL X 12).getD (8 + 1) 0 = _ from tabL_hi X 12 (n := 4) (by omega)] at this
            exact this
          have lt1 := D1.lt
          generalize tabV X 12 4 = V at *
          go_wp2_with (fail)
          refine wp_region_last2 16 (by kernel_rfl) (by kernel_rfl) (by kernel_rfl) (by kernel_rfl) (fun D a W => ∃ u21 u22 u23 u24 u25 u26 u27 u28 u29 u30 u31 u32 u33 u34 u35 u36 u37 : Value, a = { tmps := #[.agg (ints .u8 hs), .pointer (some ⟨w.heap.size, 0, none⟩), .pointer none, .pointer (some ⟨w.heap.size + 1, 0, none⟩), .pointer (some ⟨g4, 0, none⟩), .int .i64 ((3 : Nat) : Int), .int .i64 ((4 : Nat) : Int), .agg (ints .u64 (zeros 32)), .pointer (some ⟨w.heap.size + 1, 0, none⟩), .slice (some ⟨w.heap.size, 0, none⟩) 16 16, .agg (ints .u64 (W2 x)), .agg (ints .u64 (W2 1)), .agg (ints .u64 (W2 X)), .int .i64 ((3 : Nat) : Int), .bool true, .int .i64 ((3 : Nat) : Int), .int .i64 ((3 : Nat) : Int), .int .i64 8, .int .i64 ((4 : Nat) : Int), .bool true, .int .i64 ((4 : Nat) : Int), u21, u22, u23, u24, u25, u26, u27, u28, u29, u30, u31, u32, u33, u34, u35, u36, u37, u38, u39, u40, undef], defers := [] } ∧ Below wr.heap.size wr W ∧ (D 0 → u21 = .pointer (some ⟨w.heap.size + 1, 0, none⟩)) ∧ (D 1 → u22 = .int .i64 ((3 : Nat) : Int)) ∧ (D 2 → u23 = .int .i64 8) ∧ (D 3 → u24 = .int .i64 ((4 : Nat) : Int)) ∧ (D 4 → u25 = .int .i64 12) ∧ (D 5 → u26 = .pointer (some ⟨w.heap.size + 1, 0, none⟩)) ∧ (D 6 → u27 = .int .i64 ((4 : Nat) : Int)) ∧ (D 7 → u28 = .pointer (some ⟨w.heap.size + 1, 0, none⟩)) ∧ (D 8 → u29 = .pointer (some ⟨w.heap.size + 1, 0, none⟩)) ∧ (D 9 → u30 = .pointer (some ⟨w.heap.size + 1, 8, none⟩)) ∧ (D 10 → u31 = .agg (ints .u64 (W2 V))) ∧ (D 11 → u32 = .agg (ints .u64 (W2 Y))) ∧ (D 12 → u33 = .agg (ints .u64 (W2 (V ^^^ 1 * Y)))) ∧ (D 13 → u34 = .pointer (some ⟨w.heap.size + 1, 0, none⟩)) ∧ (D 14 → u35 = .pointer (some ⟨w.heap.size + 1, 0, none⟩)) ∧ (D 15 → u36 = .pointer (some ⟨w.heap.size + 1, 24, none⟩))) ?_ ?_ ?_
          · exact ⟨_, _, _, _, _, _, _, _, _, _, _, _, _, _, _, _, _, rfl, ⟨rfl, rfl, rfl, Nat.le_refl _, fun _ _ => rfl⟩, (fun h => h.elim), (fun h => h.elim), (fun h => h.elim), (fun h => h.elim), (fun h => h.elim), (fun h => h.elim), (fun h => h.elim), (fun h => h.elim), (fun h => h.elim), (fun h => h.elim), (fun h => h.elim), (fun h => h.elim), (fun h => h.elim), (fun h => h.elim), (fun h => h.elim), (fun h => h.elim)⟩
          · intro i o hilt hi D a W hI hnD hall
            obtain ⟨u21, u22, u23, u24, u25, u26, u27, u28, u29, u30, u31, u32, u33, u34, u35, u36, u37, rfl, hW, f0, f1, f2, f3, f4, f5, f6, f7, f8, f9, f10, f11, f12, f13, f14, f15⟩ := hI
            rcases i with _ | _ | _ | _ | _ | _ | _ | _ | _ | _ | _ | _ | _ | _ | _ | _ | i
            · simp only [Nat.zero_add, Nat.reduceAdd, List.getElem?_toArray, List.getElem?_cons_succ, List.getElem?_cons_zero, Option.some.injEq] at hi
              subst hi
              refine wpOp_value (v := .pointer (some ⟨w.heap.size + 1, 0, none⟩)) rfl rfl rfl ?_
              exact ⟨_, _, _, _, _, _, _, _, _, _, _, _, _, _, _, _, _, rfl, hW, (fun _ => rfl), (fun h => f1 (rl h)), (fun h => f2 (rl h)), (fun h => f3 (rl h)), (fun h => f4 (rl h)), (fun h => f5 (rl h)), (fun h => f6 (rl h)), (fun h => f7 (rl h)), (fun h => f8 (rl h)), (fun h => f9 (rl h)), (fun h => f10 (rl h)), (fun h => f11 (rl h)), (fun h => f12 (rl h)), (fun h => f13 (rl h)), (fun h => f14 (rl h)), (fun h => f15 (rl h))⟩
            · simp only [Nat.zero_add, Nat.reduceAdd, List.getElem?_toArray, List.getElem?_cons_succ, List.getElem?_cons_zero, Option.some.injEq] at hi
              subst hi
              refine wpOp_value (v := .int .i64 ((3 : Nat) : Int)) rfl rfl rfl ?_
              exact ⟨_, _, _, _, _, _, _, _, _, _, _, _, _, _, _, _, _, rfl, hW, (fun h => f0 (rl h)), (fun _ => rfl), (fun h => f2 (rl h)), (fun h => f3 (rl h)), (fun h => f4 (rl h)), (fun h => f5 (rl h)), (fun h => f6 (rl h)), (fun h => f7 (rl h)), (fun h => f8 (rl h)), (fun h => f9 (rl h)), (fun h => f10 (rl h)), (fun h => f11 (rl h)), (fun h => f12 (rl h)), (fun h => f13 (rl h)), (fun h => f14 (rl h)), (fun h => f15 (rl h))⟩
            · simp only [Nat.zero_add, Nat.reduceAdd, List.getElem?_toArray, List.getElem?_cons_succ, List.getElem?_cons_zero, Option.some.injEq] at hi
              subst hi
              obtain rfl := f1 (pre_of hall 1 rfl)
              refine wpOp_value (v := .int .i64 8) rfl rfl (by kernel_rfl) ?_
              exact ⟨_, _, _, _, _, _, _, _, _, _, _, _, _, _, _, _, _, rfl, hW, (fun h => f0 (rl h)), (fun h => f1 (rl h)), (fun _ => rfl), (fun h => f3 (rl h)), (fun h => f4 (rl h)), (fun h => f5 (rl h)), (fun h => f6 (rl h)), (fun h => f7 (rl h)), (fun h => f8 (rl h)), (fun h => f9 (rl h)), (fun h => f10 (rl h)), (fun h => f11 (rl h)), (fun h => f12 (rl h)), (fun h => f13 (rl h)), (fun h => f14 (rl h)), (fun h => f15 (rl h))⟩
            · simp only [Nat.zero_add, Nat.reduceAdd, List.getElem?_toArray, List.getElem?_cons_succ, List.getElem?_cons_zero, Option.some.injEq] at hi
              subst hi
              refine wpOp_value (v := .int .i64 ((4 : Nat) : Int)) rfl rfl rfl ?_
              exact ⟨_, _, _, _, _, _, _, _, _, _, _, _, _, _, _, _, _, rfl, hW, (fun h => f0 (rl h)), (fun h => f1 (rl h)), (fun h => f2 (rl h)), (fun _ => rfl), (fun h => f4 (rl h)), (fun h => f5 (rl h)), (fun h => f6 (rl h)), (fun h => f7 (rl h)), (fun h => f8 (rl h)), (fun h => f9 (rl h)), (fun h => f10 (rl h)), (fun h => f11 (rl h)), (fun h => f12 (rl h)), (fun h => f13 (rl h)), (fun h => f14 (rl h)), (fun h => f15 (rl h))⟩
            · simp only [Nat.zero_add, Nat.reduceAdd, List.getElem?_toArray, List.getElem?_cons_succ, List.getElem?_cons_zero, Option.some.injEq] at hi
              subst hi
              obtain rfl := f2 (pre_of hall 2 rfl)
              obtain rfl := f3 (pre_of hall 3 rfl)
              refine wpOp_value (v := .int .i64 12) rfl rfl (by kernel_rfl) ?_
              exact ⟨_, _, _, _, _, _, _, _, _, _, _, _, _, _, _, _, _, rfl, hW, (fun h => f0 (rl h)), (fun h => f1 (rl h)), (fun h => f2 (rl h)), (fun h => f3 (rl h)), (fun _ => rfl), (fun h => f5 (rl h)), (fun h => f6 (rl h)), (fun h => f7 (rl h)), (fun h => f8 (rl h)), (fun h => f9 (rl h)), (fun h => f10 (rl h)), (fun h => f11 (rl h)), (fun h => f12 (rl h)), (fun h => f13 (rl h)), (fun h => f14 (rl h)), (fun h => f15 (rl h))⟩
            · simp only [Nat.zero_add, Nat.reduceAdd, List.getElem?_toArray, List.getElem?_cons_succ, List.getElem?_cons_zero, Option.some.injEq] at hi
              subst hi
              refine wpOp_value (v := .pointer (some ⟨w.heap.size + 1, 0, none⟩)) rfl rfl rfl ?_
              exact ⟨_, _, _, _, _, _, _, _, _, _, _, _, _, _, _, _, _, rfl, hW, (fun h => f0 (rl h)), (fun h => f1 (rl h)), (fun h => f2 (rl h)), (fun h => f3 (rl h)), (fun h => f4 (rl h)), (fun _ => rfl), (fun h => f6 (rl h)), (fun h => f7 (rl h)), (fun h => f8 (rl h)), (fun h => f9 (rl h)), (fun h => f10 (rl h)), (fun h => f11 (rl h)), (fun h => f12 (rl h)), (fun h => f13 (rl h)), (fun h => f14 (rl h)), (fun h => f15 (rl h))⟩
            · simp only [Nat.zero_add, Nat.reduceAdd, List.getElem?_toArray, List.getElem?_cons_succ, List.getElem?_cons_zero, Option.some.injEq] at hi
              subst hi
              refine wpOp_value (v := .int .i64 ((4 : Nat) : Int)) rfl rfl rfl ?_
              exact ⟨_, _, _, _, _, _, _, _, _, _, _, _, _, _, _, _, _, rfl, hW, (fun h => f0 (rl h)), (fun h => f1 (rl h)), (fun h => f2 (rl h)), (fun h => f3 (rl h)), (fun h => f4 (rl h)), (fun h => f5 (rl h)), (fun _ => rfl), (fun h => f7 (rl h)), (fun h => f8 (rl h)), (fun h => f9 (rl h)), (fun h => f10 (rl h)), (fun h => f11 (rl h)), (fun h => f12 (rl h)), (fun h => f13 (rl h)), (fun h => f14 (rl h)), (fun h => f15 (rl h))⟩
            · simp only [Nat.zero_add, Nat.reduceAdd, List.getElem?_toArray, List.getElem?_cons_succ, List.getElem?_cons_zero, Option.some.injEq] at hi
              subst hi
              obtain rfl := f5 (pre_of hall 5 rfl)
              refine wpOp_value (v := .pointer (some ⟨w.heap.size + 1, 0, none⟩)) rfl rfl (by kernel_rfl) ?_
              exact ⟨_, _, _, _, _, _, _, _, _, _, _, _, _, _, _, _, _, rfl, hW, (fun h => f0 (rl h)), (fun h => f1 (rl h)), (fun h => f2 (rl h)), (fun h => f3 (rl h)), (fun h => f4 (rl h)), (fun h => f5 (rl h)), (fun h => f6 (rl h)), (fun _ => rfl), (fun h => f8 (rl h)), (fun h => f9 (rl h)), (fun h => f10 (rl h)), (fun h => f11 (rl h)), (fun h => f12 (rl h)), (fun h => f13 (rl h)), (fun h => f14 (rl h)), (fun h => f15 (rl h))⟩
            · simp only [Nat.zero_add, Nat.reduceAdd, List.getElem?_toArray, List.getElem?_cons_succ, List.getElem?_cons_zero, Option.some.injEq] at hi
              subst hi
              obtain rfl := f7 (pre_of hall 7 rfl)
              refine wpOp_value (v := .pointer (some ⟨w.heap.size + 1, 0, none⟩)) rfl rfl (by kernel_rfl) ?_
              exact ⟨_, _, _, _, _, _, _, _, _, _, _, _, _, _, _, _, _, rfl, hW, (fun h => f0 (rl h)), (fun h => f1 (rl h)), (fun h => f2 (rl h)), (fun h => f3 (rl h)), (fun h => f4 (rl h)), (fun h => f5 (rl h)), (fun h => f6 (rl h)), (fun h => f7 (rl h)), (fun _ => rfl), (fun h => f9 (rl h)), (fun h => f10 (rl h)), (fun h => f11 (rl h)), (fun h => f12 (rl h)), (fun h => f13 (rl h)), (fun h => f14 (rl h)), (fun h => f15 (rl h))⟩
            · simp only [Nat.zero_add, Nat.reduceAdd, List.getElem?_toArray, List.getElem?_cons_succ, List.getElem?_cons_zero, Option.some.injEq] at hi
              subst hi
              obtain rfl := f8 (pre_of hall 8 rfl)
              obtain rfl := f6 (pre_of hall 6 rfl)
              refine wpOp_value (v := .pointer (some ⟨w.heap.size + 1, 8, none⟩)) rfl rfl (by kernel_rfl) ?_
              exact ⟨_, _, _, _, _, _, _, _, _, _, _, _, _, _, _, _, _, rfl, hW, (fun h => f0 (rl h)), (fun h => f1 (rl h)), (fun h => f2 (rl h)), (fun h => f3 (rl h)), (fun h => f4 (rl h)), (fun h => f5 (rl h)), (fun h => f6 (rl h)), (fun h => f7 (rl h)), (fun h => f8 (rl h)), (fun _ => rfl), (fun h => f10 (rl h)), (fun h => f11 (rl h)), (fun h => f12 (rl h)), (fun h => f13 (rl h)), (fun h => f14 (rl h)), (fun h => f15 (rl h))⟩
            · simp only [Nat.zero_add, Nat.reduceAdd, List.getElem?_toArray, List.getElem?_cons_succ, List.getElem?_cons_zero, Option.some.injEq] at hi
              subst hi
              obtain rfl := f9 (pre_of hall 9 rfl)
              refine wpOp_value (v := .agg (ints .u64 (W2 V))) rfl rfl (run_wide rfl rfl ((hW.cell (p := ⟨_, _, none⟩) lt1).trans c0) ((hW.cell (p := ⟨_, _, none⟩) lt1).trans c1)) ?_
              exact ⟨_, _, _, _, _, _, _, _, _, _, _, _, _, _, _, _, _, rfl, hW, (fun h => f0 (rl h)), (fun h => f1 (rl h)), (fun h => f2 (rl h)), (fun h => f3 (rl h)), (fun h => f4 (rl h)), (fun h => f5 (rl h)), (fun h => f6 (rl h)), (fun h => f7 (rl h)), (fun h => f8 (rl h)), (fun h => f9 (rl h)), (fun _ => rfl), (fun h => f11 (rl h)), (fun h => f12 (rl h)), (fun h => f13 (rl h)), (fun h => f14 (rl h)), (fun h => f15 (rl h))⟩
            · simp only [Nat.zero_add, Nat.reduceAdd, List.getElem?_toArray, List.getElem?_cons_succ, List.getElem?_cons_zero, Option.some.injEq] at hi
              subst hi
              refine wpOp_load rfl rfl rfl rfl (D4.below' hW) Try.ar54 rfl ?_
              exact ⟨_, _, _, _, _, _, _, _, _, _, _, _, _, _, _, _, _, rfl, hW, (fun h => f0 (rl h)), (fun h => f1 (rl h)), (fun h => f2 (rl h)), (fun h => f3 (rl h)), (fun h => f4 (rl h)), (fun h => f5 (rl h)), (fun h => f6 (rl h)), (fun h => f7 (rl h)), (fun h => f8 (rl h)), (fun h => f9 (rl h)), (fun h => f10 (rl h)), (fun _ => rfl), (fun h => f12 (rl h)), (fun h => f13 (rl h)), (fun h => f14 (rl h)), (fun h => f15 (rl h))⟩
            · simp only [Nat.zero_add, Nat.reduceAdd, List.getElem?_toArray, List.getElem?_cons_succ, List.getElem?_cons_zero, Option.some.injEq] at hi
              subst hi
              obtain rfl := f10 (pre_of hall 10 rfl)
              obtain rfl := f11 (pre_of hall 11 rfl)
              refine wpOp_call 44 rfl rfl rfl Try.func44 (by kernel_rfl) (by kernel_rfl) (plus10_c V Y 1 hv hY (Nat.le_refl 1) W) ?_
              intro W' hW'
              exact ⟨_, _, _, _, _, _, _, _, _, _, _, _, _, _, _, _, _, rfl, bCall hW hW' hW.size, (fun h => f0 (rl h)), (fun h => f1 (rl h)), (fun h => f2 (rl h)), (fun h => f3 (rl h)), (fun h => f4 (rl h)), (fun h => f5 (rl h)), (fun h => f6 (rl h)), (fun h => f7 (rl h)), (fun h => f8 (rl h)), (fun h => f9 (rl h)), (fun h => f10 (rl h)), (fun h => f11 (rl h)), (fun _ => rfl), (fun h => f13 (rl h)), (fun h => f14 (rl h)), (fun h => f15 (rl h))⟩
            · simp only [Nat.zero_add, Nat.reduceAdd, List.getElem?_toArray, List.getElem?_cons_succ, List.getElem?_cons_zero, Option.some.injEq] at hi
              subst hi
              obtain rfl := f0 (pre_of hall 0 rfl)
              refine wpOp_value (v := .pointer (some ⟨w.heap.size + 1, 0, none⟩)) rfl rfl (by kernel_rfl) ?_
              exact ⟨_, _, _, _, _, _, _, _, _, _, _, _, _, _, _, _, _, rfl, hW, (fun h => f0 (rl h)), (fun h => f1 (rl h)), (fun h => f2 (rl h)), (fun h => f3 (rl h)), (fun h => f4 (rl h)), (fun h => f5 (rl h)), (fun h => f6 (rl h)), (fun h => f7 (rl h)), (fun h => f8 (rl h)), (fun h => f9 (rl h)), (fun h => f10 (rl h)), (fun h => f11 (rl h)), (fun h => f12 (rl h)), (fun _ => rfl), (fun h => f14 (rl h)), (fun h => f15 (rl h))⟩
            · simp only [Nat.zero_add, Nat.reduceAdd, List.getElem?_toArray, List.getElem?_cons_succ, List.getElem?_cons_zero, Option.some.injEq] at hi
              subst hi
              obtain rfl := f13 (pre_of hall 13 rfl)
              refine wpOp_value (v := .pointer (some ⟨w.heap.size + 1, 0, none⟩)) rfl rfl (by kernel_rfl) ?_
              exact ⟨_, _, _, _, _, _, _, _, _, _, _, _, _, _, _, _, _, rfl, hW, (fun h => f0 (rl h)), (fun h => f1 (rl h)), (fun h => f2 (rl h)), (fun h => f3 (rl h)), (fun h => f4 (rl h)), (fun h => f5 (rl h)), (fun h => f6 (rl h)), (fun h => f7 (rl h)), (fun h => f8 (rl h)), (fun h => f9 (rl h)), (fun h => f10 (rl h)), (fun h => f11 (rl h)), (fun h => f12 (rl h)), (fun h => f13 (rl h)), (fun _ => rfl), (fun h => f15 (rl h))⟩
            · simp only [Nat.zero_add, Nat.reduceAdd, List.getElem?_toArray, List.getElem?_cons_succ, List.getElem?_cons_zero, Option.some.injEq] at hi
              subst hi
              obtain rfl := f14 (pre_of hall 14 rfl)
              obtain rfl := f4 (pre_of hall 4 rfl)
              refine wpOp_value (v := .pointer (some ⟨w.heap.size + 1, 24, none⟩)) rfl rfl (by kernel_rfl) ?_
              exact ⟨_, _, _, _, _, _, _, _, _, _, _, _, _, _, _, _, _, rfl, hW, (fun h => f0 (rl h)), (fun h => f1 (rl h)), (fun h => f2 (rl h)), (fun h => f3 (rl h)), (fun h => f4 (rl h)), (fun h => f5 (rl h)), (fun h => f6 (rl h)), (fun h => f7 (rl h)), (fun h => f8 (rl h)), (fun h => f9 (rl h)), (fun h => f10 (rl h)), (fun h => f11 (rl h)), (fun h => f12 (rl h)), (fun h => f13 (rl h)), (fun h => f14 (rl h)), (fun _ => rfl)⟩
            · exfalso; omega
          · rintro D a W ⟨u21, u22, u23, u24, u25, u26, u27, u28, u29, u30, u31, u32, u33, u34, u35, u36, u37, rfl, hW, f0, f1, f2, f3, f4, f5, f6, f7, f8, f9, f10, f11, f12, f13, f14, f15⟩ hall
            obtain rfl := f0 (hall 0 (by decide))
            obtain rfl := f1 (hall 1 (by decide))
            obtain rfl := f2 (hall 2 (by decide))
            obtain rfl := f3 (hall 3 (by decide))
            obtain rfl := f4 (hall 4 (by decide))
            obtain rfl := f5 (hall 5 (by decide))
            obtain rfl := f6 (hall 6 (by decide))
            obtain rfl := f7 (hall 7 (by decide))
            obtain rfl := f8 (hall 8 (by decide))
            obtain rfl := f9 (hall 9 (by decide))
            obtain rfl := f10 (hall 10 (by decide))
            obtain rfl := f11 (hall 11 (by decide))
            obtain rfl := f12 (hall 12 (by decide))
            obtain rfl := f13 (hall 13 (by decide))
            obtain rfl := f14 (hall 14 (by decide))
            obtain rfl := f15 (hall 15 (by decide))
            clear f0 f1 f2 f3 f4 f5 f6 f7 f8 f9 f10 f11 f12 f13 f14 f15 hall
            have E1 := D1.below' hW
            have E4 := D4.below' hW
            have hbel5 := bCall hbel4 hW hbel4.size
            rw [← hn]
            refine wpOp_store_wide rfl rfl rfl rfl rfl E1 (by rw [lD]; omega) ?_
            have F1 := (E1.intSet 24 (mul R1 X 12 % 18446744073709551616)).intSet (24 + 1) (mul R1 X 12 / 18446744073709551616)
            rw [show ((tabL X 12).set 24 (mul R1 X 12 % 18446744073709551616)).set (24 + 1) (mul R1 X 12 / 18446744073709551616) = tabL X 13 from tab_set X 12 (by omega)] at F1
            have F4 := (E4.far (p := ⟨w.heap.size + 1, 24, none⟩) (Ne.symm hg4) (.int .u64 ((mul R1 X 12 % 18446744073709551616 : Nat) : Int))).far (p := ⟨w.heap.size + 1, 24 + 1, none⟩) (Ne.symm hg4) (.int .u64 ((mul R1 X 12 / 18446744073709551616 : Nat) : Int))
            have hbel6 := (hbel5.setCell (p := ⟨w.heap.size + 1, 24, none⟩) (Nat.le_succ _) (.int .u64 ((mul R1 X 12 % 18446744073709551616 : Nat) : Int))).setCell (p := ⟨w.heap.size + 1, 24 + 1, none⟩) (Nat.le_succ _) (.int .u64 ((mul R1 X 12 / 18446744073709551616 : Nat) : Int))
            clear E1 E4 hbel5 c0 c1 D1 D4 hbel4 hW hn
            generalize (W.setCell ⟨w.heap.size + 1, 24, none⟩ (.int .u64 ((mul R1 X 12 % 18446744073709551616 : Nat) : Int))).setCell ⟨w.heap.size + 1, 24 + 1, none⟩ (.int .u64 ((mul R1 X 12 / 18446744073709551616 : Nat) : Int)) = w9 at *
            go_wp2_with (fail)
            refine ⟨⟨_, _, _, _, _, _, _, _, _, _, _, _, _, _, _, _, _, _, _, _, _, ⟨5, by omega, rfl, F1, F4, hbel6⟩, rfl⟩, by simp [intOf]⟩
        · have hv := tabV_lt X 13 5 hX
          have hn := hnx 5 (by omega)
          simp only [Nat.reduceAdd] at D1 hn
          have lD := tabL_len X 13
          have c0 : wr.cell? ⟨w.heap.size + 1, 10, none⟩ = some (.int .u64 ((tabV X 13 5 % 18446744073709551616 : Nat) : Int)) := by
            have := D1.int (i := 10) (by rw [lD]; omega)
            rw [show (tabL X 13).getD 10 0 = _ from tabL_lo X 13 (n := 5) (by omega)] at this
            exact this
          have c1 : wr.cell? ⟨w.heap.size + 1, 10 + 1, none⟩ = some (.int .u64 ((tabV X 13 5 / 18446744073709551616 : Nat) : Int)) := by
            have := D1.int (i := 10 + 1) (by rw [lD]; omega)
            rw [show (tabL X 13).getD (10 + 1) 0 = _ from tabL_hi X 13 (n := 5) (by omega)] at this
            exact this
          have lt1 := D1.lt
          generalize tabV X 13 5 = V at *
          go_wp2_with (fail)
          refine wp_region_last2 16 (by kernel_rfl) (by kernel_rfl) (by kernel_rfl) (by kernel_rfl) (fun D a W => ∃ u21 u22 u23 u24 u25 u26 u27 u28 u29 u30 u31 u32 u33 u34 u35 u36 u37 : Value, a = { tmps := #[.agg (ints .u8 hs), .pointer (some ⟨w.heap.size, 0, none⟩), .pointer none, .pointer (some ⟨w.heap.size + 1, 0, none⟩), .pointer (some ⟨g4, 0, none⟩), .int .i64 ((3 : Nat) : Int), .int .i64 ((5 : Nat) : Int), .agg (ints .u64 (zeros 32)), .pointer (some ⟨w.heap.size + 1, 0, none⟩), .slice (some ⟨w.heap.size, 0, none⟩) 16 16, .agg (ints .u64 (W2 x)), .agg (ints .u64 (W2 1)), .agg (ints .u64 (W2 X)), .int .i64 ((3 : Nat) : Int), .bool true, .int .i64 ((3 : Nat) : Int), .int .i64 ((3 : Nat) : Int), .int .i64 8, .int .i64 ((5 : Nat) : Int), .bool true, .int .i64 ((5 : Nat) : Int), u21, u22, u23, u24, u25, u26, u27, u28, u29, u30, u31, u32, u33, u34, u35, u36, u37, u38, u39, u40, undef], defers := [] } ∧ Below wr.heap.size wr W ∧ (D 0 → u21 = .pointer (some ⟨w.heap.size + 1, 0, none⟩)) ∧ (D 1 → u22 = .int .i64 ((3 : Nat) : Int)) ∧ (D 2 → u23 = .int .i64 8) ∧ (D 3 → u24 = .int .i64 ((5 : Nat) : Int)) ∧ (D 4 → u25 = .int .i64 13) ∧ (D 5 → u26 = .pointer (some ⟨w.heap.size + 1, 0, none⟩)) ∧ (D 6 → u27 = .int .i64 ((5 : Nat) : Int)) ∧ (D 7 → u28 = .pointer (some ⟨w.heap.size + 1, 0, none⟩)) ∧ (D 8 → u29 = .pointer (some ⟨w.heap.size + 1, 0, none⟩)) ∧ (D 9 → u30 = .pointer (some ⟨w.heap.size + 1, 10, none⟩)) ∧ (D 10 → u31 = .agg (ints .u64 (W2 V))) ∧ (D 11 → u32 = .agg (ints .u64 (W2 Y))) ∧ (D 12 → u33 = .agg (ints .u64 (W2 (V ^^^ 1 * Y)))) ∧ (D 13 → u34 = .pointer (some ⟨w.heap.size + 1, 0, none⟩)) ∧ (D 14 → u35 = .pointer (some ⟨w.heap.size + 1, 0, none⟩)) ∧ (D 15 → u36 = .pointer (some ⟨w.heap.size + 1, 26, none⟩))) ?_ ?_ ?_
          · exact ⟨_, _, _, _, _, _, _, _, _, _, _, _, _, _, _, _, _, rfl, ⟨rfl, rfl, rfl, Nat.le_refl _, fun _ _ => rfl⟩, (fun h => h.elim), (fun h => h.elim), (fun h => h.elim), (fun h => h.elim), (fun h => h.elim), (fun h => h.elim), (fun h => h.elim), (fun h => h.elim), (fun h => h.elim), (fun h => h.elim), (fun h => h.elim), (fun h => h.elim), (fun h => h.elim), (fun h => h.elim), (fun h => h.elim), (fun h => h.elim)⟩
          · intro i o hilt hi D a W hI hnD hall
            obtain ⟨u21, u22, u23, u24, u25, u26, u27, u28, u29, u30, u31, u32, u33, u34, u35, u36, u37, rfl, hW, f0, f1, f2, f3, f4, f5, f6, f7, f8, f9, f10, f11, f12, f13, f14, f15⟩ := hI
            rcases i with _ | _ | _ | _ | _ | _ | _ | _ | _ | _ | _ | _ | _ | _ | _ | _ | i
            · simp only [Nat.zero_add, Nat.reduceAdd, List.getElem?_toArray, List.getElem?_cons_succ, List.getElem?_cons_zero, Option.some.injEq] at hi
              subst hi
              refine wpOp_value (v := .pointer (some ⟨w.heap.size + 1, 0, none⟩)) rfl rfl rfl ?_
              exact ⟨_, _, _, _, _, _, _, _, _, _, _, _, _, _, _, _, _, rfl, hW, (fun _ => rfl), (fun h => f1 (rl h)), (fun h => f2 (rl h)), (fun h => f3 (rl h)), (fun h => f4 (rl h)), (fun h => f5 (rl h)), (fun h => f6 (rl h)), (fun h => f7 (rl h)), (fun h => f8 (rl h)), (fun h => f9 (rl h)), (fun h => f10 (rl h)), (fun h => f11 (rl h)), (fun h => f12 (rl h)), (fun h => f13 (rl h)), (fun h => f14 (rl h)), (fun h => f15 (rl h))⟩
            · simp only [Nat.zero_add, Nat.reduceAdd, List.getElem?_toArray, List.getElem?_cons_succ, List.getElem?_cons_zero, Option.some.injEq] at hi
              subst hi
              refine wpOp_value (v := .int .i64 ((3 : Nat) : Int)) rfl rfl rfl ?_
              exact ⟨_, _, _, _, _, _, _, _, _, _, _, _, _, _, _, _, _, rfl, hW, (fun h => f0 (rl h)), (fun _ => rfl), (fun h => f2 (rl h)), (fun h => f3 (rl h)), (fun h => f4 (rl h)), (fun h => f5 (rl h)), (fun h => f6 (rl h)), (fun h => f7 (rl h)), (fun h => f8 (rl h)), (fun h => f9 (rl h)), (fun h => f10 (rl h)), (fun h => f11 (rl h)), (fun h => f12 (rl h)), (fun h => f13 (rl h)), (fun h => f14 (rl h)), (fun h => f15 (rl h))⟩
            · simp only [Nat.zero_add, Nat.reduceAdd, List.getElem?_toArray, List.getElem?_cons_succ, List.getElem?_cons_zero, Option.some.injEq] at hi
              subst hi
              obtain rfl := f1 (pre_of hall 1 rfl)
              refine wpOp_value (v := .int .i64 8) rfl rfl (by kernel_rfl) ?_
              exact ⟨_, _, _, _, _, _, _, _, _, _, _, _, _, _, _, _, _, rfl, hW, (fun h => f0 (rl h)), (fun h => f1 (rl h)), (fun _ => rfl), (fun h => f3 (rl h)), (fun h => f4 (rl h)), (fun h => f5 (rl h)), (fun h => f6 (rl h)), (fun h => f7 (rl h)), (fun h => f8 (rl h)), (fun h => f9 (rl h)), (fun h => f10 (rl h)), (fun h => f11 (rl h)), (fun h => f12 (rl h)), (fun h => f13 (rl h)), (fun h => f14 (rl h)), (fun h => f15 (rl h))⟩
            · simp only [Nat.zero_add, Nat.reduceAdd, List.getElem?_toArray, List.getElem?_cons_succ, List.getElem?_cons_zero, Option.some.injEq] at hi
              subst hi
              refine wpOp_value (v := .int .i64 ((5 : Nat) : Int)) rfl rfl rfl ?_
              exact ⟨_, _, _, _, _, _, _, _, _, _, _, _, _, _, _, _, _, rfl, hW, (fun h => f0 (rl h)), (fun h => f1 (rl h)), (fun h => f2 (rl h)), (fun _ => rfl), (fun h => f4 (rl h)), (fun h => f5 (rl h)), (fun h => f6 (rl h)), (fun h => f7 (rl h)), (fun h => f8 (rl h)), (fun h => f9 (rl h)), (fun h => f10 (rl h)), (fun h => f11 (rl h)), (fun h => f12 (rl h)), (fun h => f13 (rl h)), (fun h => f14 (rl h)), (fun h => f15 (rl h))⟩
            · simp only [Nat.zero_add, Nat.reduceAdd, List.getElem?_toArray, List.getElem?_cons_succ, List.getElem?_cons_zero, Option.some.injEq] at hi
              subst hi
              obtain rfl := f2 (pre_of hall 2 rfl)
              obtain rfl := f3 (pre_of hall 3 rfl)
              refine wpOp_value (v := .int .i64 13) rfl rfl (by kernel_rfl) ?_
              exact ⟨_, _, _, _, _, _, _, _, _, _, _, _, _, _, _, _, _, rfl, hW, (fun h => f0 (rl h)), (fun h => f1 (rl h)), (fun h => f2 (rl h)), (fun h => f3 (rl h)), (fun _ => rfl), (fun h => f5 (rl h)), (fun h => f6 (rl h)), (fun h => f7 (rl h)), (fun h => f8 (rl h)), (fun h => f9 (rl h)), (fun h => f10 (rl h)), (fun h => f11 (rl h)), (fun h => f12 (rl h)), (fun h => f13 (rl h)), (fun h => f14 (rl h)), (fun h => f15 (rl h))⟩
            · simp only [Nat.zero_add, Nat.reduceAdd, List.getElem?_toArray, List.getElem?_cons_succ, List.getElem?_cons_zero, Option.some.injEq] at hi
              subst hi
              refine wpOp_value (v := .pointer (some ⟨w.heap.size + 1, 0, none⟩)) rfl rfl rfl ?_
              exact ⟨_, _, _, _, _, _, _, _, _, _, _, _, _, _, _, _, _, rfl, hW, (fun h => f0 (rl h)), (fun h => f1 (rl h)), (fun h => f2 (rl h)), (fun h => f3 (rl h)), (fun h => f4 (rl h)), (fun _ => rfl), (fun h => f6 (rl h)), (fun h => f7 (rl h)), (fun h => f8 (rl h)), (fun h => f9 (rl h)), (fun h => f10 (rl h)), (fun h => f11 (rl h)), (fun h => f12 (rl h)), (fun h => f13 (rl h)), (fun h => f14 (rl h)), (fun h => f15 (rl h))⟩
            · simp only [Nat.zero_add, Nat.reduceAdd, List.getElem?_toArray, List.getElem?_cons_succ, List.getElem?_cons_zero, Option.some.injEq] at hi
              subst hi
              refine wpOp_value (v := .int .i64 ((5 : Nat) : Int)) rfl rfl rfl ?_
              exact ⟨_, _, _, _, _, _, _, _, _, _, _, _, _, _, _, _, _, rfl, hW, (fun h => f0 (rl h)), (fun h => f1 (rl h)), (fun h => f2 (rl h)), (fun h => f3 (rl h)), (fun h => f4 (rl h)), (fun h => f5 (rl h)), (fun _ => rfl), (fun h => f7 (rl h)), (fun h => f8 (rl h)), (fun h => f9 (rl h)), (fun h => f10 (rl h)), (fun h => f11 (rl h)), (fun h => f12 (rl h)), (fun h => f13 (rl h)), (fun h => f14 (rl h)), (fun h => f15 (rl h))⟩
            · simp only [Nat.zero_add, Nat.reduceAdd, List.getElem?_toArray, List.getElem?_cons_succ, List.getElem?_cons_zero, Option.some.injEq] at hi
              subst hi
              obtain rfl := f5 (pre_of hall 5 rfl)
              refine wpOp_value (v := .pointer (some ⟨w.heap.size + 1, 0, none⟩)) rfl rfl (by kernel_rfl) ?_
              exact ⟨_, _, _, _, _, _, _, _, _, _, _, _, _, _, _, _, _, rfl, hW, (fun h => f0 (rl h)), (fun h => f1 (rl h)), (fun h => f2 (rl h)), (fun h => f3 (rl h)), (fun h => f4 (rl h)), (fun h => f5 (rl h)), (fun h => f6 (rl h)), (fun _ => rfl), (fun h => f8 (rl h)), (fun h => f9 (rl h)), (fun h => f10 (rl h)), (fun h => f11 (rl h)), (fun h => f12 (rl h)), (fun h => f13 (rl h)), (fun h => f14 (rl h)), (fun h => f15 (rl h))⟩
            · simp only [Nat.zero_add, Nat.reduceAdd, List.getElem?_toArray, List.getElem?_cons_succ, List.getElem?_cons_zero, Option.some.injEq] at hi
              subst hi
              obtain rfl := f7 (pre_of hall 7 rfl)
              refine wpOp_value (v := .pointer (some ⟨w.heap.size + 1, 0, none⟩)) rfl rfl (by kernel_rfl) ?_
              exact ⟨_, _, _, _, _, _, _, _, _, _, _, _, _, _, _, _, _, rfl, hW, (fun h => f0 (rl h)), (fun h => f1 (rl h)), (fun h => f2 (rl h)), (fun h => f3 (rl h)), (fun h => f4 (rl h)), (fun h => f5 (rl h)), (fun h => f6 (rl h)), (fun h => f7 (rl h)), (fun _ => rfl), (fun h => f9 (rl h)), (fun h => f10 (rl h)), (fun h => f11 (rl h)), (fun h => f12 (rl h)), (fun h => f13 (rl h)), (fun h => f14 (rl h)), (fun h => f15 (rl h))⟩
            · simp only [Nat.zero_add, Nat.reduceAdd, List.getElem?_toArray, List.getElem?_cons_succ, List.getElem?_cons_zero, Option.some.injEq] at hi
              subst hi
              obtain rfl := f8 (pre_of hall 8 rfl)
              obtain rfl := f6 (pre_of hall 6 rfl)
              refine wpOp_value (v := .pointer (some ⟨w.heap.size + 1, 10, none⟩)) rfl rfl (by kernel_rfl) ?_
              exact ⟨_, _, _, _, _, _, _, _, _, _, _, _, _, _, _, _, _, rfl, hW, (fun h => f0 (rl h)), (fun h => f1 (rl h)), (fun h => f2 (rl h)), (fun h => f3 (rl h)), (fun h => f4 (rl h)), (fun h => f5 (rl h)), (fun h => f6 (rl h)), (fun h => f7 (rl h)), (fun h => f8 (rl h)), (fun _ => rfl), (fun h => f10 (rl h)), (fun h => f11 (rl h)), (fun h => f12 (rl h)), (fun h => f13 (rl h)), (fun h => f14 (rl h)), (fun h => f15 (rl h))⟩
            · simp only [Nat.zero_add, Nat.reduceAdd, List.getElem?_toArray, List.getElem?_cons_succ, List.getElem?_cons_zero, Option.some.injEq] at hi
              subst hi
              obtain rfl := f9 (pre_of hall 9 rfl)
              refine wpOp_value (v := .agg (ints .u64 (W2 V))) rfl rfl (run_wide rfl rfl ((hW.cell (p := ⟨_, _, none⟩) lt1).trans c0) ((hW.cell (p := ⟨_, _, none⟩) lt1).trans c1)) ?_
              exact ⟨_, _, _, _, _, _, _, _, _, _, _, _, _, _, _, _, _, rfl, hW, (fun h => f0 (rl h)), (fun h => f1 (rl h)), (fun h => f2 (rl h)), (fun h => f3 (rl h)), (fun h => f4 (rl h)), (fun h => f5 (rl h)), (fun h => f6 (rl h)), (fun h => f7 (rl h)), (fun h => f8 (rl h)), (fun h => f9 (rl h)), (fun _ => rfl), (fun h => f11 (rl h)), (fun h => f12 (rl h)), (fun h => f13 (rl h)), (fun h => f14 (rl h)), (fun h => f15 (rl h))⟩
            · simp only [Nat.zero_add, Nat.reduceAdd, List.getElem?_toArray, List.getElem?_cons_succ, List.getElem?_cons_zero, Option.some.injEq] at hi
              subst hi
              refine wpOp_load rfl rfl rfl rfl (D4.below' hW) Try.ar54 rfl ?_
              exact ⟨_, _, _, _, _, _, _, _, _, _, _, _, _, _, _, _, _, rfl, hW, (fun h => f0 (rl h)), (fun h => f1 (rl h)), (fun h => f2 (rl h)), (fun h => f3 (rl h)), (fun h => f4 (rl h)), (fun h => f5 (rl h)), (fun h => f6 (rl h)), (fun h => f7 (rl h)), (fun h => f8 (rl h)), (fun h => f9 (rl h)), (fun h => f10 (rl h)), (fun _ => rfl), (fun h => f12 (rl h)), (fun h => f13 (rl h)), (fun h => f14 (rl h)), (fun h => f15 (rl h))⟩
            · simp only [Nat.zero_add, Nat.reduceAdd, List.getElem?_toArray, List.getElem?_cons_succ, List.getElem?_cons_zero, Option.some.injEq] at hi
              subst hi
              obtain rfl := f10 (pre_of hall 10 rfl)
              obtain rfl := f11 (pre_of hall 11 rfl)
              refine wpOp_call 44 rfl rfl rfl Try.func44 (by kernel_rfl) (by kernel_rfl) (plus10_c V Y 1 hv hY (Nat.le_refl 1) W) ?_
              intro W' hW'
              exact ⟨_, _, _, _, _, _, _, _, _, _, _, _, _, _, _, _, _, rfl, bCall hW hW' hW.size, (fun h => f0 (rl h)), (fun h => f1 (rl h)), (fun h => f2 (rl h)), (fun h => f3 (rl h)), (fun h => f4 (rl h)), (fun h => f5 (rl h)), (fun h => f6 (rl h)), (fun h => f7 (rl h)), (fun h => f8 (rl h)), (fun h => f9 (rl h)), (fun h => f10 (rl h)), (fun h => f11 (rl h)), (fun _ => rfl), (fun h => f13 (rl h)), (fun h => f14 (rl h)), (fun h => f15 (rl h))⟩
            · simp only [Nat.zero_add, Nat.reduceAdd, List.getElem?_toArray, List.getElem?_cons_succ, List.getElem?_cons_zero, Option.some.injEq] at hi
              subst hi
              obtain rfl := f0 (pre_of hall 0 rfl)
              refine wpOp_value (v := .pointer (some ⟨w.heap.size + 1, 0, none⟩)) rfl rfl (by kernel_rfl) ?_
              exact ⟨_, _, _, _, _, _, _, _, _, _, _, _, _, _, _, _, _, rfl, hW, (fun h => f0 (rl h)), (fun h => f1 (rl h)), (fun h => f2 (rl h)), (fun h => f3 (rl h)), (fun h => f4 (rl h)), (fun h => f5 (rl h)), (fun h => f6 (rl h)), (fun h => f7 (rl h)), (fun h => f8 (rl h)), (fun h => f9 (rl h)), (fun h => f10 (rl h)), (fun h => f11 (rl h)), (fun h => f12 (rl h)), (fun _ => rfl), (fun h => f14 (rl h)), (fun h => f15 (rl h))⟩
            · simp only [Nat.zero_add, Nat.reduceAdd, List.getElem?_toArray, List.getElem?_cons_succ, List.getElem?_cons_zero, Option.some.injEq] at hi
              subst hi
              obtain rfl := f13 (pre_of hall 13 rfl)
              refine wpOp_value (v := .pointer (some ⟨w.heap.size + 1, 0, none⟩)) rfl rfl (by kernel_rfl) ?_
              exact ⟨_, _, _, _, _, _, _, _, _, _, _, _, _, _, _, _, _, rfl, hW, (fun h => f0 (rl h)), (fun h => f1 (rl h)), (fun h => f2 (rl h)), (fun h => f3 (rl h)), (fun h => f4 (rl h)), (fun h => f5 (rl h)), (fun h => f6 (rl h)), (fun h => f7 (rl h)), (fun h => f8 (rl h)), (fun h => f9 (rl h)), (fun h => f10 (rl h)), (fun h => f11 (rl h)), (fun h => f12 (rl h)), (fun h => f13 (rl h)), (fun _ => rfl), (fun h => f15 (rl h))⟩
            · simp only [Nat.zero_add, Nat.reduceAdd, List.getElem?_toArray, List.getElem?_cons_succ, List.getElem?_cons_zero, Option.some.injEq] at hi
              subst hi
              obtain rfl := f14 (pre_of hall 14 rfl)
              obtain rfl := f4 (pre_of hall 4 rfl)
              refine wpOp_value (v := .pointer (some ⟨w.heap.size + 1, 26, none⟩)) rfl rfl (by kernel_rfl) ?_
              exact ⟨_, _, _, _, _, _, _, _, _, _, _, _, _, _, _, _, _, rfl, hW, (fun h => f0 (rl h)), (fun h => f1 (rl h)), (fun h => f2 (rl h)), (fun h => f3 (rl h)), (fun h => f4 (rl h)), (fun h => f5 (rl h)), (fun h => f6 (rl h)), (fun h => f7 (rl h)), (fun h => f8 (rl h)), (fun h => f9 (rl h)), (fun h => f10 (rl h)), (fun h => f11 (rl h)), (fun h => f12 (rl h)), (fun h => f13 (rl h)), (fun h => f14 (rl h)), (fun _ => rfl)⟩
            · exfalso; omega
          · rintro D a W ⟨u21, u22, u23, u24, u25, u26, u27, u28, u29, u30, u31, u32, u33, u34, u35, u36, u37, rfl, hW, f0, f1, f2, f3, f4, f5, f6, f7, f8, f9, f10, f11, f12, f13, f14, f15⟩ hall
            obtain rfl := f0 (hall 0 (by decide))
            obtain rfl := f1 (hall 1 (by decide))
            obtain rfl := f2 (hall 2 (by decide))
            obtain rfl := f3 (hall 3 (by decide))
            obtain rfl := f4 (hall 4 (by decide))
            obtain rfl := f5 (hall 5 (by decide))
            obtain rfl := f6 (hall 6 (by decide))
            obtain rfl := f7 (hall 7 (by decide))
            obtain rfl := f8 (hall 8 (by decide))
            obtain rfl := f9 (hall 9 (by decide))
            obtain rfl := f10 (hall 10 (by decide))
            obtain rfl := f11 (hall 11 (by decide))
            obtain rfl := f12 (hall 12 (by decide))
            obtain rfl := f13 (hall 13 (by decide))
            obtain rfl := f14 (hall 14 (by decide))
            obtain rfl := f15 (hall 15 (by decide))
            clear f0 f1 f2 f3 f4 f5 f6 f7 f8 f9 f10 f11 f12 f13 f14 f15 hall
            have E1 := D1.below' hW
            have E4 := D4.below' hW
            have hbel5 := bCall hbel4 hW hbel4.size
            rw [← hn]
            refine wpOp_store_wide rfl rfl rfl rfl rfl E1 (by rw [lD]; omega) ?_
            have F1 := (E1.intSet 26 (mul R1 X 13 % 18446744073709551616)).intSet (26 + 1) (mul R1 X 13 / 18446744073709551616)
            rw [show ((tabL X 13).set 26 (mul R1 X 13 % 18446744073709551616)).set (26 + 1) (mul R1 X 13 / 18446744073709551616) = tabL X 14 from tab_set X 13 (by omega)] at F1
            have F4 := (E4.far (p := ⟨w.heap.size + 1, 26, none⟩) (Ne.symm hg4) (.int .u64 ((mul R1 X 13 % 18446744073709551616 : Nat) : Int))).far (p := ⟨w.heap.size + 1, 26 + 1, none⟩) (Ne.symm hg4) (.int .u64 ((mul R1 X 13 / 18446744073709551616 : Nat) : Int))
            have hbel6 := (hbel5.setCell (p := ⟨w.heap.size + 1, 26, none⟩) (Nat.le_succ _) (.int .u64 ((mul R1 X 13 % 18446744073709551616 : Nat) : Int))).setCell (p := ⟨w.heap.size + 1, 26 + 1, none⟩) (Nat.le_succ _) (.int .u64 ((mul R1 X 13 / 18446744073709551616 : Nat) : Int))
            clear E1 E4 hbel5 c0 c1 D1 D4 hbel4 hW hn
            generalize (W.setCell ⟨w.heap.size + 1, 26, none⟩ (.int .u64 ((mul R1 X 13 % 18446744073709551616 : Nat) : Int))).setCell ⟨w.heap.size + 1, 26 + 1, none⟩ (.int .u64 ((mul R1 X 13 / 18446744073709551616 : Nat) : Int)) = w9 at *
            go_wp2_with (fail)
            refine ⟨⟨_, _, _, _, _, _, _, _, _, _, _, _, _, _, _, _, _, _, _, _, _, ⟨6, by omega, rfl, F1, F4, hbel6⟩, rfl⟩, by simp [intOf]⟩
        · have hv := tabV_lt X 14 6 hX
          have hn := hnx 6 (by omega)
          simp only [Nat.reduceAdd] at D1 hn
          have lD := tabL_len X 14
          have c0 : wr.cell? ⟨w.heap.size + 1, 12, none⟩ = some (.int .u64 ((tabV X 14 6 % 18446744073709551616 : Nat) : Int)) := by
            have := D1.int (i := 12) (by rw [lD]; omega)
            rw [show (tabL X 14).getD 12 0 = _ from tabL_lo X 14 (n := 6) (by omega)] at this
            exact this
          have c1 : wr.cell? ⟨w.heap.size + 1, 12 + 1, none⟩ = some (.int .u64 ((tabV X 14 6 / 18446744073709551616 : Nat) : Int)) := by
            have := D1.int (i := 12 + 1) (by rw [lD]; omega)
            rw [show (tabL X 14).getD (12 + 1) 0 = _ from tabL_hi X 14 (n := 6) (by omega)] at this
            exact this
          have lt1 := D1.lt
          generalize tabV X 14 6 = V at *
          go_wp2_with (fail)
          refine wp_region_last2 16 (by kernel_rfl) (by kernel_rfl) (by kernel_rfl) (by kernel_rfl) (fun D a W => ∃ u21 u22 u23 u24 u25 u26 u27 u28 u29 u30 u31 u32 u33 u34 u35 u36 u37 : Value, a = { tmps := #[.agg (ints .u8 hs), .pointer (some ⟨w.heap.size, 0, none⟩), .pointer none, .pointer (some ⟨w.heap.size + 1, 0, none⟩), .pointer (some ⟨g4, 0, none⟩), .int .i64 ((3 : Nat) : Int), .int .i64 ((6 : Nat) : Int), .agg (ints .u64 (zeros 32)), .pointer (some ⟨w.heap.size + 1, 0, none⟩), .slice (some ⟨w.heap.size, 0, none⟩) 16 16, .agg (ints .u64 (W2 x)), .agg (ints .u64 (W2 1)), .agg (ints .u64 (W2 X)), .int .i64 ((3 : Nat) : Int), .bool true, .int .i64 ((3 : Nat) : Int), .int .i64 ((3 : Nat) : Int), .int .i64 8, .int .i64 ((6 : Nat) : Int), .bool true, .int .i64 ((6 : Nat) : Int), u21, u22, u23, u24, u25, u26, u27, u28, u29, u30, u31, u32, u33, u34, u35, u36, u37, u38, u39, u40, undef], defers := [] } ∧ Below wr.heap.size wr W ∧ (D 0 → u21 = .pointer (some ⟨w.heap.size + 1, 0, none⟩)) ∧ (D 1 → u22 = .int .i64 ((3 : Nat) : Int)) ∧ (D 2 → u23 = .int .i64 8) ∧ (D 3 → u24 = .int .i64 ((6 : Nat) : Int)) ∧ (D 4 → u25 = .int .i64 14) ∧ (D 5 → u26 = .pointer (some ⟨w.heap.size + 1, 0, none⟩)) ∧ (D 6 → u27 = .int .i64 ((6 : Nat) : Int)) ∧ (D 7 → u28 = .pointer (some ⟨w.heap.size + 1, 0, none⟩)) ∧ (D 8 → u29 = .pointer (some ⟨w.heap.size + 1, 0, none⟩)) ∧ (D 9 → u30 = .pointer (some ⟨w.heap.size + 1, 12, none⟩)) ∧ (D 10 → u31 = .agg (ints .u64 (W2 V))) ∧ (D 11 → u32 = .agg (ints .u64 (W2 Y))) ∧ (D 12 → u33 = .agg (ints .u64 (W2 (V ^^^ 1 * Y)))) ∧ (D 13 → u34 = .pointer (some ⟨w.heap.size + 1, 0, none⟩)) ∧ (D 14 → u35 = .pointer (some ⟨w.heap.size + 1, 0, none⟩)) ∧ (D 15 → u36 = .pointer (some ⟨w.heap.size + 1, 28, none⟩))) ?_ ?_ ?_
          · exact ⟨_, _, _, _, _, _, _, _, _, _, _, _, _, _, _, _, _, rfl, ⟨rfl, rfl, rfl, Nat.le_refl _, fun _ _ => rfl⟩, (fun h => h.elim), (fun h => h.elim), (fun h => h.elim), (fun h => h.elim), (fun h => h.elim), (fun h => h.elim), (fun h => h.elim), (fun h => h.elim), (fun h => h.elim), (fun h => h.elim), (fun h => h.elim), (fun h => h.elim), (fun h => h.elim), (fun h => h.elim), (fun h => h.elim), (fun h => h.elim)⟩
          · intro i o hilt hi D a W hI hnD hall
            obtain ⟨u21, u22, u23, u24, u25, u26, u27, u28, u29, u30, u31, u32, u33, u34, u35, u36, u37, rfl, hW, f0, f1, f2, f3, f4, f5, f6, f7, f8, f9, f10, f11, f12, f13, f14, f15⟩ := hI
            rcases i with _ | _ | _ | _ | _ | _ | _ | _ | _ | _ | _ | _ | _ | _ | _ | _ | i
            · simp only [Nat.zero_add, Nat.reduceAdd, List.getElem?_toArray, List.getElem?_cons_succ, List.getElem?_cons_zero, Option.some.injEq] at hi
              subst hi
              refine wpOp_value (v := .pointer (some ⟨w.heap.size + 1, 0, none⟩)) rfl rfl rfl ?_
              exact ⟨_, _, _, _, _, _, _, _, _, _, _, _, _, _, _, _, _, rfl, hW, (fun _ => rfl), (fun h => f1 (rl h)), (fun h => f2 (rl h)), (fun h => f3 (rl h)), (fun h => f4 (rl h)), (fun h => f5 (rl h)), (fun h => f6 (rl h)), (fun h => f7 (rl h)), (fun h => f8 (rl h)), (fun h => f9 (rl h)), (fun h => f10 (rl h)), (fun h => f11 (rl h)), (fun h => f12 (rl h)), (fun h => f13 (rl h)), (fun h => f14 (rl h)), (fun h => f15 (rl h))⟩
            · simp only [Nat.zero_add, Nat.reduceAdd, List.getElem?_toArray, List.getElem?_cons_succ, List.getElem?_cons_zero, Option.some.injEq] at hi
              subst hi
              refine wpOp_value (v := .int .i64 ((3 : Nat) : Int)) rfl rfl rfl ?_
              exact ⟨_, _, _, _, _, _, _, _, _, _, _, _, _, _, _, _, _, rfl, hW, (fun h => f0 (rl h)), (fun _ => rfl), (fun h => f2 (rl h)), (fun h => f3 (rl h)), (fun h => f4 (rl h)), (fun h => f5 (rl h)), (fun h => f6 (rl h)), (fun h => f7 (rl h)), (fun h => f8 (rl h)), (fun h => f9 (rl h)), (fun h => f10 (rl h)), (fun h => f11 (rl h)), (fun h => f12 (rl h)), (fun h => f13 (rl h)), (fun h => f14 (rl h)), (fun h => f15 (rl h))⟩
            · simp only [Nat.zero_add, Nat.reduceAdd, List.getElem?_toArray, List.getElem?_cons_succ, List.getElem?_cons_zero, Option.some.injEq] at hi
              subst hi
              obtain rfl := f1 (pre_of hall 1 rfl)
              refine wpOp_value (v := .int .i64 8) rfl rfl (by kernel_rfl) ?_
              exact ⟨_, _, _, _, _, _, _, _, _, _, _, _, _, _, _, _, _, rfl, hW, (fun h => f0 (rl h)), (fun h => f1 (rl h)), (fun _ => rfl), (fun h => f3 (rl h)), (fun h => f4 (rl h)), (fun h => f5 (rl h)), (fun h => f6 (rl h)), (fun h => f7 (rl h)), (fun h => f8 (rl h)), (fun h => f9 (rl h)), (fun h => f10 (rl h)), (fun h => f11 (rl h)), (fun h => f12 (rl h)), (fun h => f13 (rl h)), (fun h => f14 (rl h)), (fun h => f15 (rl h))⟩
            · simp only [Nat.zero_add, Nat.reduceAdd, List.getElem?_toArray, List.getElem?_cons_succ, List.getElem?_cons_zero, Option.some.injEq] at hi
              subst hi
              refine wpOp_value (v := .int .i64 ((6 : Nat) : Int)) rfl rfl rfl ?_
              exact ⟨_, _, _, _, _, _, _, _, _, _, _, _, _, _, _, _, _, rfl, hW, (fun h => f0 (rl h)), (fun h => f1 (rl h)), (fun h => f2 (rl h)), (fun _ => rfl), (fun h => f4 (rl h)), (fun h => f5 (rl h)), (fun h => f6 (rl h)), (fun h => f7 (rl h)), (fun h => f8 (rl h)), (fun h => f9 (rl h)), (fun h => f10 (rl h)), (fun h => f11 (rl h)), (fun h => f12 (rl h)), (fun h => f13 (rl h)), (fun h => f14 (rl h)), (fun h => f15 (rl h))⟩
            · simp only [Nat.zero_add, Nat.reduceAdd, List.getElem?_toArray, List.getElem?_cons_succ, List.getElem?_cons_zero, Option.some.injEq] at hi
              subst hi
              obtain rfl := f2 (pre_of hall 2 rfl)
              obtain rfl := f3 (pre_of hall 3 rfl)
              refine wpOp_value (v := .int .i64 14) rfl rfl (by kernel_rfl) ?_
              exact ⟨_, _, _, _, _, _, _, _, _, _, _, _, _, _, _, _, _, rfl, hW, (fun h => f0 (rl h)), (fun h => f1 (rl h)), (fun h => f2 (rl h)), (fun h => f3 (rl h)), (fun _ => rfl), (fun h => f5 (rl h)), (fun h => f6 (rl h)), (fun h => f7 (rl h)), (fun h => f8 (rl h)), (fun h => f9 (rl h)), (fun h => f10 (rl h)), (fun h => f11 (rl h)), (fun h => f12 (rl h)), (fun h => f13 (rl h)), (fun h => f14 (rl h)), (fun h => f15 (rl h))⟩
            · simp only [Nat.zero_add, Nat.reduceAdd, List.getElem?_toArray, List.getElem?_cons_succ, List.getElem?_cons_zero, Option.some.injEq] at hi
              subst hi
              refine wpOp_value (v := .pointer (some ⟨w.heap.size + 1, 0, none⟩)) rfl rfl rfl ?_
              exact ⟨_, _, _, _, _, _, _, _, _, _, _, _, _, _, _, _, _, rfl, hW, (fun h => f0 (rl h)), (fun h => f1 (rl h)), (fun h => f2 (rl h)), (fun h => f3 (rl h)), (fun h => f4 (rl h)), (fun _ => rfl), (fun h => f6 (rl h)), (fun h => f7 (rl h)), (fun h => f8 (rl h)), (fun h => f9 (rl h)), (fun h => f10 (rl h)), (fun h => f11 (rl h)), (fun h => f12 (rl h)), (fun h => f13 (rl h)), (fun h => f14 (rl h)), (fun h => f15 (rl h))⟩
            · simp only [Nat.zero_add, Nat.reduceAdd, List.getElem?_toArray, List.getElem?_cons_succ, List.getElem?_cons_zero, Option.some.injEq] at hi
              subst hi
              refine wpOp_value (v := .int .i64 ((6 : Nat) : Int)) rfl rfl rfl ?_
              exact ⟨_, _, _, _, _, _, _, _, _, _, _, _, _, _, _, _, _, rfl, hW, (fun h => f0 (rl h)), (fun h => f1 (rl h)), (fun h => f2 (rl h)), (fun h => f3 (rl h)), (fun h => f4 (rl h)), (fun h => f5 (rl h)), (fun _ => rfl), (fun h => f7 (rl h)), (fun h => f8 (rl h)), (fun h => f9 (rl h)), (fun h => f10 (rl h)), (fun h => f11 (rl h)), (fun h => f12 (rl h)), (fun h => f13 (rl h)), (fun h => f14 (rl h)), (fun h => f15 (rl h))⟩
            · simp only [Nat.zero_add, Nat.reduceAdd, List.getElem?_toArray, List.getElem?_cons_succ, List.getElem?_cons_zero, Option.some.injEq] at hi
              subst hi
              obtain rfl := f5 (pre_of hall 5 rfl)
              refine wpOp_value (v := .pointer (some ⟨w.heap.size + 1, 0, none⟩)) rfl rfl (by kernel_rfl) ?_
              exact ⟨_, _, _, _, _, _, _, _, _, _, _, _, _, _, _, _, _, rfl, hW, (fun h => f0 (rl h)), (fun h => f1 (rl h)), (fun h => f2 (rl h)), (fun h => f3 (rl h)), (fun h => f4 (rl h)), (fun h => f5 (rl h)), (fun h => f6 (rl h)), (fun _ => rfl), (fun h => f8 (rl h)), (fun h => f9 (rl h)), (fun h => f10 (rl h)), (fun h => f11 (rl h)), (fun h => f12 (rl h)), (fun h => f13 (rl h)), (fun h => f14 (rl h)), (fun h => f15 (rl h))⟩
            · simp only [Nat.zero_add, Nat.reduceAdd, List.getElem?_toArray, List.getElem?_cons_succ, List.getElem?_cons_zero, Option.some.injEq] at hi
              subst hi
              obtain rfl := f7 (pre_of hall 7 rfl)
              refine wpOp_value (v := .pointer (some ⟨w.heap.size + 1, 0, none⟩)) rfl rfl (by kernel_rfl) ?_
              exact ⟨_, _, _, _, _, _, _, _, _, _, _, _, _, _, _, _, _, rfl, hW, (fun h => f0 (rl h)), (fun h => f1 (rl h)), (fun h => f2 (rl h)), (fun h => f3 (rl h)), (fun h => f4 (rl h)), (fun h => f5 (rl h)), (fun h => f6 (rl h)), (fun h => f7 (rl h)), (fun _ => rfl), (fun h => f9 (rl h)), (fun h => f10 (rl h)), (fun h => f11 (rl h)), (fun h => f12 (rl h)), (fun h => f13 (rl h)), (fun h => f14 (rl h)), (fun h => f15 (rl h))⟩
            · simp only [Nat.zero_add, Nat.reduceAdd, List.getElem?_toArray, List.getElem?_cons_succ, List.getElem?_cons_zero, Option.some.injEq] at hi
              subst hi
              obtain rfl := f8 (pre_of hall 8 rfl)
              obtain rfl := f6 (pre_of hall 6 rfl)
              refine wpOp_value (v := .pointer (some ⟨w.heap.size + 1, 12, none⟩)) rfl rfl (by kernel_rfl) ?_
              exact ⟨_, _, _, _, _, _, _, _, _, _, _, _, _, _, _, _, _, rfl, hW, (fun h => f0 (rl h)), (fun h => f1 (rl h)), (fun h => f2 (rl h)), (fun h => f3 (rl h)), (fun h => f4 (rl h)), (fun h => f5 (rl h)), (fun h => f6 (rl h)), (fun h => f7 (rl h)), (fun h => f8 (rl h)), (fun _ => rfl), (fun h => f10 (rl h)), (fun h => f11 (rl h)), (fun h => f12 (rl h)), (fun h => f13 (rl h)), (fun h => f14 (rl h)), (fun h => f15 (rl h))⟩
            · simp only [Nat.zero_add, Nat.reduceAdd, List.getElem?_toArray, List.getElem?_cons_succ, List.getElem?_cons_zero, Option.some.injEq] at hi
              subst hi
              obtain rfl := f9 (pre_of hall 9 rfl)
              refine wpOp_value (v := .agg (ints .u64 (W2 V))) rfl rfl (run_wide rfl rfl ((hW.cell (p := ⟨_, _, none⟩) lt1).trans c0) ((hW.cell (p := ⟨_, _, none⟩) lt1).trans c1)) ?_
              exact ⟨_, _, _, _, _, _, _, _, _, _, _, _, _, _, _, _, _, rfl, hW, (fun h => f0 (rl h)), (fun h => f1 (rl h)), (fun h => f2 (rl h)), (fun h => f3 (rl h)), (fun h => f4 (rl h)), (fun h => f5 (rl h)), (fun h => f6 (rl h)), (fun h => f7 (rl h)), (fun h => f8 (rl h)), (fun h => f9 (rl h)), (fun _ => rfl), (fun h => f11 (rl h)), (fun h => f12 (rl h)), (fun h => f13 (rl h)), (fun h => f14 (rl h)), (fun h => f15 (rl h))⟩
            · simp only [Nat.zero_add, Nat.reduceAdd, List.getElem?_toArray, List.getElem?_cons_succ, List.getElem?_cons_zero, Option.some.injEq] at hi
              subst hi
              refine wpOp_load rfl rfl rfl rfl (D4.below' hW) Try.ar54 rfl ?_
              exact ⟨_, _, _, _, _, _, _, _, _, _, _, _, _, _, _, _, _, rfl, hW, (fun h => f0 (rl h)), (fun h => f1 (rl h)), (fun h => f2 (rl h)), (fun h => f3 (rl h)), (fun h => f4 (rl h)), (fun h => f5 (rl h)), (fun h => f6 (rl h)), (fun h => f7 (rl h)), (fun h => f8 (rl h)), (fun h => f9 (rl h)), (fun h => f10 (rl h)), (fun _ => rfl), (fun h => f12 (rl h)), (fun h => f13 (rl h)), (fun h => f14 (rl h)), (fun h => f15 (rl h))⟩
            · simp only [Nat.zero_add, Nat.reduceAdd, List.getElem?_toArray, List.getElem?_cons_succ, List.getElem?_cons_zero, Option.some.injEq] at hi
              subst hi
              obtain rfl := f10 (pre_of hall 10 rfl)
              obtain rfl := f11 (pre_of hall 11 rfl)
              refine wpOp_call 44 rfl rfl rfl Try.func44 (by kernel_rfl) (by kernel_rfl) (plus10_c V Y 1 hv hY (Nat.le_refl 1) W) ?_
              intro W' hW'
              exact ⟨_, _, _, _, _, _, _, _, _, _, _, _, _, _, _, _, _, rfl, bCall hW hW' hW.size, (fun h => f0 (rl h)), (fun h => f1 (rl h)), (fun h => f2 (rl h)), (fun h => f3 (rl h)), (fun h => f4 (rl h)), (fun h => f5 (rl h)), (fun h => f6 (rl h)), (fun h => f7 (rl h)), (fun h => f8 (rl h)), (fun h => f9 (rl h)), (fun h => f10 (rl h)), (fun h => f11 (rl h)), (fun _ => rfl), (fun h => f13 (rl h)), (fun h => f14 (rl h)), (fun h => f15 (rl h))⟩
            · simp only [Nat.zero_add, Nat.reduceAdd, List.getElem?_toArray, List.getElem?_cons_succ, List.getElem?_cons_zero, Option.some.injEq] at hi
              subst hi
              obtain rfl := f0 (pre_of hall 0 rfl)
              refine wpOp_value (v := .pointer (some ⟨w.heap.size + 1, 0, none⟩)) rfl rfl (by kernel_rfl) ?_
              exact ⟨_, _, _, _, _, _, _, _, _, _, _, _, _, _, _, _, _, rfl, hW, (fun h => f0 (rl h)), (fun h => f1 (rl h)), (fun h => f2 (rl h)), (fun h => f3 (rl h)), (fun h => f4 (rl h)), (fun h => f5 (rl h)), (fun h => f6 (rl h)), (fun h => f7 (rl h)), (fun h => f8 (rl h)), (fun h => f9 (rl h)), (fun h => f10 (rl h)), (fun h => f11 (rl h)), (fun h => f12 (rl h)), (fun _ => rfl), (fun h => f14 (rl h)), (fun h => f15 (rl h))⟩
            · simp only [Nat.zero_add, Nat.reduceAdd, List.getElem?_toArray, List.getElem?_cons_succ, List.getElem?_cons_zero, Option.some.injEq] at hi
              subst hi
              obtain rfl := f13 (pre_of hall 13 rfl)
              refine wpOp_value (v := .pointer (some ⟨w.heap.size + 1, 0, none⟩)) rfl rfl (by kernel_rfl) ?_
              exact ⟨_, _, _, _, _, _, _, _, _, _, _, _, _, _, _, _, _, rfl, hW, (fun h => f0 (rl h)), (fun h => f1 (rl h)), (fun h => f2 (rl h)), (fun h => f3 (rl h)), (fun h => f4 (rl h)), (fun h => f5 (rl h)), (fun h => f6 (rl h)), (fun h => f7 (rl h)), (fun h => f8 (rl h)), (fun h => f9 (rl h)), (fun h => f10 (rl h)), (fun h => f11 (rl h)), (fun h => f12 (rl h)), (fun h => f13 (rl h)), (fun _ => rfl), (fun h => f15 (rl h))⟩
            · simp only [Nat.zero_add, Nat.reduceAdd, List.getElem?_toArray, List.getElem?_cons_succ, List.getElem?_cons_zero, Option.some.injEq] at hi
              subst hi
              obtain rfl := f14 (pre_of hall 14 rfl)
              obtain rfl := f4 (pre_of hall 4 rfl)
              refine wpOp_value (v := .pointer (some ⟨w.heap.size + 1, 28, none⟩)) rfl rfl (by kernel_rfl) ?_
              exact ⟨_, _, _, _, _, _, _, _, _, _, _, _, _, _, _, _, _, rfl, hW, (fun h => f0 (rl h)), (fun h => f1 (rl h)), (fun h => f2 (rl h)), (fun h => f3 (rl h)), (fun h => f4 (rl h)), (fun h => f5 (rl h)), (fun h => f6 (rl h)), (fun h => f7 (rl h)), (fun h => f8 (rl h)), (fun h => f9 (rl h)), (fun h => f10 (rl h)), (fun h => f11 (rl h)), (fun h => f12 (rl h)), (fun h => f13 (rl h)), (fun h => f14 (rl h)), (fun _ => rfl)⟩
            · exfalso; omega
          · rintro D a W ⟨u21, u22, u23, u24, u25, u26, u27, u28, u29, u30, u31, u32, u33, u34, u35, u36, u37, rfl, hW, f0, f1, f2, f3, f4, f5, f6, f7, f8, f9, f10, f11, f12, f13, f14, f15⟩ hall
            obtain rfl := f0 (hall 0 (by decide))
            obtain rfl := f1 (hall 1 (by decide))
            obtain rfl := f2 (hall 2 (by decide))
            obtain rfl := f3 (hall 3 (by decide))
            obtain rfl := f4 (hall 4 (by decide))
            obtain rfl := f5 (hall 5 (by decide))
            obtain rfl := f6 (hall 6 (by decide))
            obtain rfl := f7 (hall 7 (by decide))
            obtain rfl := f8 (hall 8 (by decide))
            obtain rfl := f9 (hall 9 (by decide))
            obtain rfl := f10 (hall 10 (by decide))
            obtain rfl := f11 (hall 11 (by decide))
            obtain rfl := f12 (hall 12 (by decide))
            obtain rfl := f13 (hall 13 (by decide))
            obtain rfl := f14 (hall 14 (by decide))
            obtain rfl := f15 (hall 15 (by decide))
            clear f0 f1 f2 f3 f4 f5 f6 f7 f8 f9 f10 f11 f12 f13 f14 f15 hall
            have E1 := D1.below' hW
            have E4 := D4.below' hW
            have hbel5 := bCall hbel4 hW hbel4.size
            rw [← hn]
            refine wpOp_store_wide rfl rfl rfl rfl rfl E1 (by rw [lD]; omega) ?_
            have F1 := (E1.intSet 28 (mul R1 X 14 % 18446744073709551616)).intSet (28 + 1) (mul R1 X 14 / 18446744073709551616)
            rw [show ((tabL X 14).set 28 (mul R1 X 14 % 18446744073709551616)).set (28 + 1) (mul R1 X 14 / 18446744073709551616) = tabL X 15 from tab_set X 14 (by omega)] at F1
            have F4 := (E4.far (p := ⟨w.heap.size + 1, 28, none⟩) (Ne.symm hg4) (.int .u64 ((mul R1 X 14 % 18446744073709551616 : Nat) : Int))).far (p := ⟨w.heap.size + 1, 28 + 1, none⟩) (Ne.symm hg4) (.int .u64 ((mul R1 X 14 / 18446744073709551616 : Nat) : Int))
            have hbel6 := (hbel5.setCell (p := ⟨w.heap.size + 1, 28, none⟩) (Nat.le_succ _) (.int .u64 ((mul R1 X 14 % 18446744073709551616 : Nat) : Int))).setCell (p := ⟨w.heap.size + 1, 28 + 1, none⟩) (Nat.le_succ _) (.int .u64 ((mul R1 X 14 / 18446744073709551616 : Nat) : Int))
            clear E1 E4 hbel5 c0 c1 D1 D4 hbel4 hW hn
            generalize (W.setCell ⟨w.heap.size + 1, 28, none⟩ (.int .u64 ((mul R1 X 14 % 18446744073709551616 : Nat) : Int))).setCell ⟨w.heap.size + 1, 28 + 1, none⟩ (.int .u64 ((mul R1 X 14 / 18446744073709551616 : Nat) : Int)) = w9 at *
            go_wp2_with (fail)
            refine ⟨⟨_, _, _, _, _, _, _, _, _, _, _, _, _, _, _, _, _, _, _, _, _, ⟨7, by omega, rfl, F1, F4, hbel6⟩, rfl⟩, by simp [intOf]⟩
        · have hv := tabV_lt X 15 7 hX
          have hn := hnx 7 (by omega)
          simp only [Nat.reduceAdd] at D1 hn
          have lD := tabL_len X 15
          have c0 : wr.cell? ⟨w.heap.size + 1, 14, none⟩ = some (.int .u64 ((tabV X 15 7 % 18446744073709551616 : Nat) : Int)) := by
            have := D1.int (i := 14) (by rw [lD]; omega)
            rw [show (tabL X 15).getD 14 0 = _ from tabL_lo X 15 (n := 7) (by omega)] at this
            exact this
          have c1 : wr.cell? ⟨w.heap.size + 1, 14 + 1, none⟩ = some (.int .u64 ((tabV X 15 7 / 18446744073709551616 : Nat) : Int)) := by
            have := D1.int (i := 14 + 1) (by rw [lD]; omega)
            rw [show (tabL X 15).getD (14 + 1) 0 = _ from tabL_hi X 15 (n := 7) (by omega)] at this
            exact this
          have lt1 := D1.lt
          generalize tabV X 15 7 = V at *
          go_wp2_with (fail)
          refine wp_region_last2 16 (by kernel_rfl) (by kernel_rfl) (by kernel_rfl) (by kernel_rfl) (fun D a W => ∃ u21 u22 u23 u24 u25 u26 u27 u28 u29 u30 u31 u32 u33 u34 u35 u36 u37 : Value, a = { tmps := #[.agg (ints .u8 hs), .pointer (some ⟨w.heap.size, 0, none⟩), .pointer none, .pointer (some ⟨w.heap.size + 1, 0, none⟩), .pointer (some ⟨g4, 0, none⟩), .int .i64 ((3 : Nat) : Int), .int .i64 ((7 : Nat) : Int), .agg (ints .u64 (zeros 32)), .pointer (some ⟨w.heap.size + 1, 0, none⟩), .slice (some ⟨w.heap.size, 0, none⟩) 16 16, .agg (ints .u64 (W2 x)), .agg (ints .u64 (W2 1)), .agg (ints .u64 (W2 X)), .int .i64 ((3 : Nat) : Int), .bool true, .int .i64 ((3 : Nat) : Int), .int .i64 ((3 : Nat) : Int), .int .i64 8, .int .i64 ((7 : Nat) : Int), .bool true, .int .i64 ((7 : Nat) : Int), u21, u22, u23, u24, u25, u26, u27, u28, u29, u30, u31, u32, u33, u34, u35, u36, u37, u38, u39, u40, undef], defers := [] } ∧ Below wr.heap.size wr W ∧ (D 0 → u21 = .pointer (some ⟨w.heap.size + 1, 0, none⟩)) ∧ (D 1 → u22 = .int .i64 ((3 : Nat) : Int)) ∧ (D 2 → u23 = .int .i64 8) ∧ (D 3 → u24 = .int .i64 ((7 : Nat) : Int)) ∧ (D 4 → u25 = .int .i64 15) ∧ (D 5 → u26 = .pointer (some ⟨w.heap.size + 1, 0, none⟩)) ∧ (D 6 → u27 = .int .i64 ((7 : Nat) : Int)) ∧ (D 7 → u28 = .pointer (some ⟨w.heap.size + 1, 0, none⟩)) ∧ (D 8 → u29 = .pointer (some ⟨w.heap.size + 1, 0, none⟩)) ∧ (D 9 → u30 = .pointer (some ⟨w.heap.size + 1, 14, none⟩)) ∧ (D 10 → u31 = .agg (ints .u64 (W2 V))) ∧ (D 11 → u32 = .agg (ints .u64 (W2 Y))) ∧ (D 12 → u33 = .agg (ints .u64 (W2 (V ^^^ 1 * Y)))) ∧ (D 13 → u34 = .pointer (some ⟨w.heap.size + 1, 0, none⟩)) ∧ (D 14 → u35 = .pointer (some ⟨w.heap.size + 1, 0, none⟩)) ∧ (D 15 → u36 = .pointer (some ⟨w.heap.size + 1, 30, none⟩))) ?_ ?_ ?_
          · exact ⟨_, _, _, _, _, _, _, _, _, _, _, _, _, _, _, _, _, rfl, ⟨rfl, rfl, rfl, Nat.le_refl _, fun _ _ => rfl⟩, (fun h => h.elim), (fun h => h.elim), (fun h => h.elim), (fun h => h.elim), (fun h => h.elim), (fun h => h.elim), (fun h => h.elim), (fun h => h.elim), (fun h => h.elim), (fun h => h.elim), (fun h => h.elim), (fun h => h.elim), (fun h => h.elim), (fun h => h.elim), (fun h => h.elim), (fun h => h.elim)⟩
          · intro i o hilt hi D a W hI hnD hall
            obtain ⟨u21, u22, u23, u24, u25, u26, u27, u28, u29, u30, u31, u32, u33, u34, u35, u36, u37, rfl, hW, f0, f1, f2, f3, f4, f5, f6, f7, f8, f9, f10, f11, f12, f13, f14, f15⟩ := hI
            rcases i with _ | _ | _ | _ | _ | _ | _ | _ | _ | _ | _ | _ | _ | _ | _ | _ | i
            · simp only [Nat.zero_add, Nat.reduceAdd, List.getElem?_toArray, List.getElem?_cons_succ, List.getElem?_cons_zero, Option.some.injEq] at hi
              subst hi
              refine wpOp_value (v := .pointer (some ⟨w.heap.size + 1, 0, none⟩)) rfl rfl rfl ?_
              exact ⟨_, _, _, _, _, _, _, _, _, _, _, _, _, _, _, _, _, rfl, hW, (fun _ => rfl), (fun h => f1 (rl h)), (fun h => f2 (rl h)), (fun h => f3 (rl h)), (fun h => f4 (rl h)), (fun h => f5 (rl h)), (fun h => f6 (rl h)), (fun h => f7 (rl h)), (fun h => f8 (rl h)), (fun h => f9 (rl h)), (fun h => f10 (rl h)), (fun h => f11 (rl h)), (fun h => f12 (rl h)), (fun h => f13 (rl h)), (fun h => f14 (rl h)), (fun h => f15 (rl h))⟩
            · simp only [Nat.zero_add, Nat.reduceAdd, List.getElem?_toArray, List.getElem?_cons_succ, List.getElem?_cons_zero, Option.some.injEq] at hi
              subst hi
              refine wpOp_value (v := .int .i64 ((3 : Nat) : Int)) rfl rfl rfl ?_
              exact ⟨_, _, _, _, _, _, _, _, _, _, _, _, _, _, _, _, _, rfl, hW, (fun h => f0 (rl h)), (fun _ => rfl), (fun h => f2 (rl h)), (fun h => f3 (rl h)), (fun h => f4 (rl h)), (fun h => f5 (rl h)), (fun h => f6 (rl h)), (fun h => f7 (rl h)), (fun h => f8 (rl h)), (fun h => f9 (rl h)), (fun h => f10 (rl h)), (fun h => f11 (rl h)), (fun h => f12 (rl h)), (fun h => f13 (rl h)), (fun h => f14 (rl h)), (fun h => f15 (rl h))⟩
            · simp only [Nat.zero_add, Nat.reduceAdd, List.getElem?_toArray, List.getElem?_cons_succ, List.getElem?_cons_zero, Option.some.injEq] at hi
              subst hi
              obtain rfl := f1 (pre_of hall 1 rfl)
              refine wpOp_value (v := .int .i64 8) rfl rfl (by kernel_rfl) ?_
              exact ⟨_, _, _, _, _, _, _, _, _, _, _, _, _, _, _, _, _, rfl, hW, (fun h => f0 (rl h)), (fun h => f1 (rl h)), (fun _ => rfl), (fun h => f3 (rl h)), (fun h => f4 (rl h)), (fun h => f5 (rl h)), (fun h => f6 (rl h)), (fun h => f7 (rl h)), (fun h => f8 (rl h)), (fun h => f9 (rl h)), (fun h => f10 (rl h)), (fun h => f11 (rl h)), (fun h => f12 (rl h)), (fun h => f13 (rl h)), (fun h => f14 (rl h)), (fun h => f15 (rl h))⟩
            · simp only [Nat.zero_add, Nat.reduceAdd, List.getElem?_toArray, List.getElem?_cons_succ, List.getElem?_cons_zero, Option.some.injEq] at hi
              subst hi
              refine wpOp_value (v := .int .i64 ((7 : Nat) : Int)) rfl rfl rfl ?_
              exact ⟨_, _, _, _, _, _, _, _, _, _, _, _, _, _, _, _, _, rfl, hW, (fun h => f0 (rl h)), (fun h => f1 (rl h)), (fun h => f2 (rl h)), (fun _ => rfl), (fun h => f4 (rl h)), (fun h => f5 (rl h)), (fun h => f6 (rl h)), (fun h => f7 (rl h)), (fun h => f8 (rl h)), (fun h => f9 (rl h)), (fun h => f10 (rl h)), (fun h => f11 (rl h)), (fun h => f12 (rl h)), (fun h => f13 (rl h)), (fun h => f14 (rl h)), (fun h => f15 (rl h))⟩
            · simp only [Nat.zero_add, Nat.reduceAdd, List.getElem?_toArray, List.getElem?_cons_succ, List.getElem?_cons_zero, Option.some.injEq] at hi
              subst hi
              obtain rfl := f2 (pre_of hall 2 rfl)
              obtain rfl := f3 (pre_of hall 3 rfl)
              refine wpOp_value (v := .int .i64 15) rfl rfl (by kernel_rfl) ?_
              exact ⟨_, _, _, _, _, _, _, _, _, _, _, _, _, _, _, _, _, rfl, hW, (fun h => f0 (rl h)), (fun h => f1 (rl h)), (fun h => f2 (rl h)), (fun h => f3 (rl h)), (fun _ => rfl), (fun h => f5 (rl h)), (fun h => f6 (rl h)), (fun h => f7 (rl h)), (fun h => f8 (rl h)), (fun h => f9 (rl h)), (fun h => f10 (rl h)), (fun h => f11 (rl h)), (fun h => f12 (rl h)), (fun h => f13 (rl h)), (fun h => f14 (rl h)), (fun h => f15 (rl h))⟩
            · simp only [Nat.zero_add, Nat.reduceAdd, List.getElem?_toArray, List.getElem?_cons_succ, List.getElem?_cons_zero, Option.some.injEq] at hi
              subst hi
              refine wpOp_value (v := .pointer (some ⟨w.heap.size + 1, 0, none⟩)) rfl rfl rfl ?_
              exact ⟨_, _, _, _, _, _, _, _, _, _, _, _, _, _, _, _, _, rfl, hW, (fun h => f0 (rl h)), (fun h => f1 (rl h)), (fun h => f2 (rl h)), (fun h => f3 (rl h)), (fun h => f4 (rl h)), (fun _ => rfl), (fun h => f6 (rl h)), (fun h => f7 (rl h)), (fun h => f8 (rl h)), (fun h => f9 (rl h)), (fun h => f10 (rl h)), (fun h => f11 (rl h)), (fun h => f12 (rl h)), (fun h => f13 (rl h)), (fun h => f14 (rl h)), (fun h => f15 (rl h))⟩
            · simp only [Nat.zero_add, Nat.reduceAdd, List.getElem?_toArray, List.getElem?_cons_succ, List.getElem?_cons_zero, Option.some.injEq] at hi
              subst hi
              refine wpOp_value (v := .int .i64 ((7 : Nat) : Int)) rfl rfl rfl ?_
              exact ⟨_, _, _, _, _, _, _, _, _, _, _, _, _, _, _, _, _, rfl, hW, (fun h => f0 (rl h)), (fun h => f1 (rl h)), (fun h => f2 (rl h)), (fun h => f3 (rl h)), (fun h => f4 (rl h)), (fun h => f5 (rl h)), (fun _ => rfl), (fun h => f7 (rl h)), (fun h => f8 (rl h)), (fun h => f9 (rl h)), (fun h => f10 (rl h)), (fun h => f11 (rl h)), (fun h => f12 (rl h)), (fun h => f13 (rl h)), (fun h => f14 (rl h)), (fun h => f15 (rl h))⟩
            · simp only [Nat.zero_add, Nat.reduceAdd, List.getElem?_toArray, List.getElem?_cons_succ, List.getElem?_cons_zero, Option.some.injEq] at hi
              subst hi
              obtain rfl := f5 (pre_of hall 5 rfl)
              refine wpOp_value (v := .pointer (some ⟨w.heap.size + 1, 0, none⟩)) rfl rfl (by kernel_rfl) ?_
              exact ⟨_, _, _, _, _, _, _, _, _, _, _, _, _, _, _, _, _, rfl, hW, (fun h => f0 (rl h)), (fun h => f1 (rl h)), (fun h => f2 (rl h)), (fun h => f3 (rl h)), (fun h => f4 (rl h)), (fun h => f5 (rl h)), (fun h => f6 (rl h)), (fun _ => rfl), (fun h => f8 (rl h)), (fun h => f9 (rl h)), (fun h => f10 (rl h)), (fun h => f11 (rl h)), (fun h => f12 (rl h)), (fun h => f13 (rl h)), (fun h => f14 (rl h)), (fun h => f15 (rl h))⟩
            · simp only [Nat.zero_add, Nat.reduceAdd, List.getElem?_toArray, List.getElem?_cons_succ, List.getElem?_cons_zero, Option.some.injEq] at hi
              subst hi
              obtain rfl := f7 (pre_of hall 7 rfl)
              refine wpOp_value (v := .pointer (some ⟨w.heap.size + 1, 0, none⟩)) rfl rfl (by kernel_rfl) ?_
              exact ⟨_, _, _, _, _, _, _, _, _, _, _, _, _, _, _, _, _, rfl, hW, (fun h => f0 (rl h)), (fun h => f1 (rl h)), (fun h => f2 (rl h)), (fun h => f3 (rl h)), (fun h => f4 (rl h)), (fun h => f5 (rl h)), (fun h => f6 (rl h)), (fun h => f7 (rl h)), (fun _ => rfl), (fun h => f9 (rl h)), (fun h => f10 (rl h)), (fun h => f11 (rl h)), (fun h => f12 (rl h)), (fun h => f13 (rl h)), (fun h => f14 (rl h)), (fun h => f15 (rl h))⟩
            · simp only [Nat.zero_add, Nat.reduceAdd, List.getElem?_toArray, List.getElem?_cons_succ, List.getElem?_cons_zero, Option.some.injEq] at hi
              subst hi
              obtain rfl := f8 (pre_of hall 8 rfl)
              obtain rfl := f6 (pre_of hall 6 rfl)
              refine wpOp_value (v := .pointer (some ⟨w.heap.size + 1, 14, none⟩)) rfl rfl (by kernel_rfl) ?_
              exact ⟨_, _, _, _, _, _, _, _, _, _, _, _, _, _, _, _, _, rfl, hW, (fun h => f0 (rl h)), (fun h => f1 (rl h)), (fun h => f2 (rl h)), (fun h => f3 (rl h)), (fun h => f4 (rl h)), (fun h => f5 (rl h)), (fun h => f6 (rl h)), (fun h => f7 (rl h)), (fun h => f8 (rl h)), (fun _ => rfl), (fun h => f10 (rl h)), (fun h => f11 (rl h)), (fun h => f12 (rl h)), (fun h => f13 (rl h)), (fun h => f14 (rl h)), (fun h => f15 (rl h))⟩
            · simp only [Nat.zero_add, Nat.reduceAdd, List.getElem?_toArray, List.getElem?_cons_succ, List.getElem?_cons_zero, Option.some.injEq] at hi
              subst hi
              obtain rfl := f9 (pre_of hall 9 rfl)
              refine wpOp_value (v := .agg (ints .u64 (W2 V))) rfl rfl (run_wide rfl rfl ((hW.cell (p := ⟨_, _, none⟩) lt1).trans c0) ((hW.cell (p := ⟨_, _, none⟩) lt1).trans c1)) ?_
              exact ⟨_, _, _, _, _, _, _, _, _, _, _, _, _, _, _, _, _, rfl, hW, (fun h => f0 (rl h)), (fun h => f1 (rl h)), (fun h => f2 (rl h)), (fun h => f3 (rl h)), (fun h => f4 (rl h)), (fun h => f5 (rl h)), (fun h => f6 (rl h)), (fun h => f7 (rl h)), (fun h => f8 (rl h)), (fun h => f9 (rl h)), (fun _ => rfl), (fun h => f11 (rl h)), (fun h => f12 (rl h)), (fun h => f13 (rl h)), (fun h => f14 (rl h)), (fun h => f15 (rl h))⟩
            · simp only [Nat.zero_add, Nat.reduceAdd, List.getElem?_toArray, List.getElem?_cons_succ, List.getElem?_cons_zero, Option.some.injEq] at hi
              subst hi
              refine wpOp_load rfl rfl rfl rfl (D4.below' hW) Try.ar54 rfl ?_
              exact ⟨_, _, _, _, _, _, _, _, _, _, _, _, _, _, _, _, _, rfl, hW, (fun h => f0 (rl h)), (fun h => f1 (rl h)), (fun h => f2 (rl h)), (fun h => f3 (rl h)), (fun h => f4 (rl h)), (fun h => f5 (rl h)), (fun h => f6 (rl h)), (fun h => f7 (rl h)), (fun h => f8 (rl h)), (fun h => f9 (rl h)), (fun h => f10 (rl h)), (fun _ => rfl), (fun h => f12 (rl h)), (fun h => f13 (rl h)), (fun h => f14 (rl h)), (fun h => f15 (rl h))⟩
            · simp only [Nat.zero_add, Nat.reduceAdd, List.getElem?_toArray, List.getElem?_cons_succ, List.getElem?_cons_zero, Option.some.injEq] at hi
              subst hi
              obtain rfl := f10 (pre_of hall 10 rfl)
              obtain rfl := f11 (pre_of hall 11 rfl)
              refine wpOp_call 44 rfl rfl rfl Try.func44 (by kernel_rfl) (by kernel_rfl) (plus10_c V Y 1 hv hY (Nat.le_refl 1) W) ?_
              intro W' hW'
              exact ⟨_, _, _, _, _, _, _, _, _, _, _, _, _, _, _, _, _, rfl, bCall hW hW' hW.size, (fun h => f0 (rl h)), (fun h => f1 (rl h)), (fun h => f2 (rl h)), (fun h => f3 (rl h)), (fun h => f4 (rl h)), (fun h => f5 (rl h)), (fun h => f6 (rl h)), (fun h => f7 (rl h)), (fun h => f8 (rl h)), (fun h => f9 (rl h)), (fun h => f10 (rl h)), (fun h => f11 (rl h)), (fun _ => rfl), (fun h => f13 (rl h)), (fun h => f14 (rl h)), (fun h => f15 (rl h))⟩
            · simp only [Nat.zero_add, Nat.reduceAdd, List.getElem?_toArray, List.getElem?_cons_succ, List.getElem?_cons_zero, Option.some.injEq] at hi
              subst hi
              obtain rfl := f0 (pre_of hall 0 rfl)
              refine wpOp_value (v := .pointer (some ⟨w.heap.size + 1, 0, none⟩)) rfl rfl (by kernel_rfl) ?_
              exact ⟨_, _, _, _, _, _, _, _, _, _, _, _, _, _, _, _, _, rfl, hW, (fun h => f0 (rl h)), (fun h => f1 (rl h)), (fun h => f2 (rl h)), (fun h => f3 (rl h)), (fun h => f4 (rl h)), (fun h => f5 (rl h)), (fun h => f6 (rl h)), (fun h => f7 (rl h)), (fun h => f8 (rl h)), (fun h => f9 (rl h)), (fun h => f10 (rl h)), (fun h => f11 (rl h)), (fun h => f12 (rl h)), (fun _ => rfl), (fun h => f14 (rl h)), (fun h => f15 (rl h))⟩
            · simp only [Nat.zero_add, Nat.reduceAdd, List.getElem?_toArray, List.getElem?_cons_succ, List.getElem?_cons_zero, Option.some.injEq] at hi
              subst hi
              obtain rfl := f13 (pre_of hall 13 rfl)
              refine wpOp_value (v := .pointer (some ⟨w.heap.size + 1, 0, none⟩)) rfl rfl (by kernel_rfl) ?_
              exact ⟨_, _, _, _, _, _, _, _, _, _, _, _, _, _, _, _, _, rfl, hW, (fun h => f0 (rl h)), (fun h => f1 (rl h)), (fun h => f2 (rl h)), (fun h => f3 (rl h)), (fun h => f4 (rl h)), (fun h => f5 (rl h)), (fun h => f6 (rl h)), (fun h => f7 (rl h)), (fun h => f8 (rl h)), (fun h => f9 (rl h)), (fun h => f10 (rl h)), (fun h => f11 (rl h)), (fun h => f12 (rl h)), (fun h => f13 (rl h)), (fun _ => rfl), (fun h => f15 (rl h))⟩
            · simp only [Nat.zero_add, Nat.reduceAdd, List.getElem?_toArray, List.getElem?_cons_succ, List.getElem?_cons_zero, Option.some.injEq] at hi
              subst hi
              obtain rfl := f14 (pre_of hall 14 rfl)
              obtain rfl := f4 (pre_of hall 4 rfl)
              refine wpOp_value (v := .pointer (some ⟨w.heap.size + 1, 30, none⟩)) rfl rfl (by kernel_rfl) ?_
              exact ⟨_, _, _, _, _, _, _, _, _, _, _, _, _, _, _, _, _, rfl, hW, (fun h => f0 (rl h)), (fun h => f1 (rl h)), (fun h => f2 (rl h)), (fun h => f3 (rl h)), (fun h => f4 (rl h)), (fun h => f5 (rl h)), (fun h => f6 (rl h)), (fun h => f7 (rl h)), (fun h => f8 (rl h)), (fun h => f9 (rl h)), (fun h => f10 (rl h)), (fun h => f11 (rl h)), (fun h => f12 (rl h)), (fun h => f13 (rl h)), (fun h => f14 (rl h)), (fun _ => rfl)⟩
            · exfalso; omega
          · rintro D a W ⟨u21, u22, u23, u24, u25, u26, u27, u28, u29, u30, u31, u32, u33, u34, u35, u36, u37, rfl, hW, f0, f1, f2, f3, f4, f5, f6, f7, f8, f9, f10, f11, f12, f13, f14, f15⟩ hall
            obtain rfl := f0 (hall 0 (by decide))
            obtain rfl := f1 (hall 1 (by decide))
            obtain rfl := f2 (hall 2 (by decide))
            obtain rfl := f3 (hall 3 (by decide))
            obtain rfl := f4 (hall 4 (by decide))
            obtain rfl := f5 (hall 5 (by decide))
            obtain rfl := f6 (hall 6 (by decide))
            obtain rfl := f7 (hall 7 (by decide))
            obtain rfl := f8 (hall 8 (by decide))
            obtain rfl := f9 (hall 9 (by decide))
            obtain rfl := f10 (hall 10 (by decide))
            obtain rfl := f11 (hall 11 (by decide))
            obtain rfl := f12 (hall 12 (by decide))
            obtain rfl := f13 (hall 13 (by decide))
            obtain rfl := f14 (hall 14 (by decide))
            obtain rfl := f15 (hall 15 (by decide))
            clear f0 f1 f2 f3 f4 f5 f6 f7 f8 f9 f10 f11 f12 f13 f14 f15 hall
            have E1 := D1.below' hW
            have E4 := D4.below' hW
            have hbel5 := bCall hbel4 hW hbel4.size
            rw [← hn]
            refine wpOp_store_wide rfl rfl rfl rfl rfl E1 (by rw [lD]; omega) ?_
            have F1 := (E1.intSet 30 (mul R1 X 15 % 18446744073709551616)).intSet (30 + 1) (mul R1 X 15 / 18446744073709551616)
            rw [show ((tabL X 15).set 30 (mul R1 X 15 % 18446744073709551616)).set (30 + 1) (mul R1 X 15 / 18446744073709551616) = tabL X 16 from tab_set X 15 (by omega)] at F1
            have F4 := (E4.far (p := ⟨w.heap.size + 1, 30, none⟩) (Ne.symm hg4) (.int .u64 ((mul R1 X 15 % 18446744073709551616 : Nat) : Int))).far (p := ⟨w.heap.size + 1, 30 + 1, none⟩) (Ne.symm hg4) (.int .u64 ((mul R1 X 15 / 18446744073709551616 : Nat) : Int))
            have hbel6 := (hbel5.setCell (p := ⟨w.heap.size + 1, 30, none⟩) (Nat.le_succ _) (.int .u64 ((mul R1 X 15 % 18446744073709551616 : Nat) : Int))).setCell (p := ⟨w.heap.size + 1, 30 + 1, none⟩) (Nat.le_succ _) (.int .u64 ((mul R1 X 15 / 18446744073709551616 : Nat) : Int))
            clear E1 E4 hbel5 c0 c1 D1 D4 hbel4 hW hn
            generalize (W.setCell ⟨w.heap.size + 1, 30, none⟩ (.int .u64 ((mul R1 X 15 % 18446744073709551616 : Nat) : Int))).setCell ⟨w.heap.size + 1, 30 + 1, none⟩ (.int .u64 ((mul R1 X 15 / 18446744073709551616 : Nat) : Int)) = w9 at *
            go_wp2_with (fail)
            refine ⟨⟨_, _, _, _, _, _, _, _, _, _, _, _, _, _, _, _, _, _, _, _, _, ⟨8, by omega, rfl, F1, F4, hbel6⟩, rfl⟩, by simp [intOf]⟩
        · simp only [Nat.reduceAdd] at D1
          clear hnx
          go_wp2_with (refine wpList_load_ints rfl 54 _ rfl g4 rfl D4 Try.ar54 rfl ?_; (try simp only [Act.put, List.setIfInBounds_toArray, List.set_cons_zero, List.set_cons_succ, World.size_alloc, setRow_size, Nat.add_assoc, Nat.reduceAdd]))
          refine (up_c Y hY _).mono ?_
          rintro e w4 ⟨rfl, hb4⟩
          have F4' := D4.below' hb4
          have F4 := F4'.row (ints .u64 (W2 (up R1 Y)))
          have F1 := (D1.below' hb4).rowFar hg4 (ints .u64 (W2 (up R1 Y)))
          have hbel7 := bSetRow (bCall hbel4 hb4 hbel4.size) hg4b (ints .u64 (W2 (up R1 Y)))
          clear D1 D4 hbel4 hb4
          go_wp2_with (refine wpList_store_ints rfl 54 _ _ rfl g4 rfl rfl F4' rfl Try.ar54 rfl ?_; (try simp only [Act.put, List.setIfInBounds_toArray, List.set_cons_zero, List.set_cons_succ, World.size_alloc, setRow_size, Nat.add_assoc, Nat.reduceAdd]))
          rw [← HU.out] at F1 F4 hbel7 ⊢
          refine ⟨⟨4, by omega, rfl, F1, F4, hbel7⟩, by simp [intOf]⟩
    · go_wp2_with (fail)
      go_ret
      exact ⟨rfl, hbelr, by have := C1; rw [← HX.out, ← Hxd.out] at this; exact this⟩
end Go.Proofs.Ytckobbddjldflaa
