/- (*ring.Table).Dot. No condition but that bytes are below 256. -/
import Derived.Test.YtckobbddjldflaaWA
import Derived.Test.YtckobbddjldflaaKA
namespace Go.Proofs.Ytckobbddjldflaa
set_option linter.unusedSimpArgs false
set_option linter.unusedVariables false
set_option linter.unusedSectionVars false
set_option linter.unusedVariables false
open Go.RowKit
open Gf (W2 up down upN downN mulS mul dot dotS R1 D1)
theorem upN_shift (k n : Nat) : ∀ j, n < 2 ^ (128 - j) → j ≤ 128 → upN R1 j n = 2 ^ j * n
  | 0, _, _ => by simp [upN]
  | j + 1, h, hj => by
    have h1 : n < 2 ^ (128 - j) := Nat.lt_of_lt_of_le h (Nat.pow_le_pow_right (by omega) (by omega))
    show up R1 (upN R1 j n) = _
    rw [upN_shift k n j h1 (by omega)]
    have h2 : 2 ^ j * n < 2 ^ 127 := by
      have : 2 ^ j * n < 2 ^ j * 2 ^ (128 - (j + 1)) := Nat.mul_lt_mul_of_pos_left h (Nat.two_pow_pos j)
      rwa [← Nat.pow_add, show j + (128 - (j + 1)) = 127 by omega] at this
    unfold up
    rw [Nat.testBit_lt_two_pow h2, Nat.mod_eq_of_lt (by omega), Nat.pow_succ]
    simp
    rw [Nat.mul_comm (2 ^ j) 2, Nat.mul_assoc]
/-- Four coefficients more. -/
theorem horner (X q n : Nat) (hX : X < 2 ^ 128) (hq : q < 2 ^ 124) (hn : n < 16) : upN R1 4 (mul R1 X q) ^^^ 1 * mul R1 X n = mul R1 X (16 * q + n) := by
  have e : 16 * q + n = 16 * q ^^^ n := by
    have h := Nat.two_pow_add_eq_or_of_lt (i := 4) (b := n) (by omega) q
    have h2 : (2 ^ 4 * q) ^^^ n = (2 ^ 4 * q) ||| n := by
      apply Nat.eq_of_testBit_eq
      intro i
      rw [Nat.testBit_xor, Nat.testBit_or, Nat.testBit_two_pow_mul]
      by_cases hi : i ≥ 4
      · have : n.testBit i = false := Nat.testBit_lt_two_pow (Nat.lt_of_lt_of_le hn (show 2 ^ 4 ≤ 2 ^ i from Nat.pow_le_pow_right (by omega) hi))
        simp [this]
      · simp [hi]
    rw [show 16 * q = 2 ^ 4 * q from rfl, h, h2]
  have h1 : mul R1 X (16 * q ^^^ n) = mul R1 X (16 * q) ^^^ mul R1 X n := Gf.mul_lin_r R1 X (16 * q) n
  have h2 : upN R1 4 q = 16 * q := upN_shift 0 q 4 hq (by omega)
  rw [e, h1, Nat.one_mul, ← h2, Gf.mul_upN_r R1 Gf.R1_lt hX (by omega)]
/-- The number's nibbles from the highest. -/
theorem nib_hi {as_ : List Nat} (hl : as_.length = 16) (hb : ∀ x ∈ as_, x < 256) {i : Nat} (hi : i < 16) : num as_ / 256 ^ (15 - i) / 16 = 16 * (num as_ / 256 ^ (15 - i) / 256) + as_.getD (15 - i) 0 / 16 := by
  rw [num_digit hl hb (i := 15 - i) (by omega)]
  generalize num as_ / 256 ^ (15 - i) = m
  omega
theorem nib_lo {as_ : List Nat} (hl : as_.length = 16) (hb : ∀ x ∈ as_, x < 256) {i : Nat} (hi : i < 16) : num as_ / 256 ^ (15 - i) = 16 * (num as_ / 256 ^ (15 - i) / 16) + as_.getD (15 - i) 0 % 16 := by
  rw [num_digit hl hb (i := 15 - i) (by omega)]
  generalize num as_ / 256 ^ (15 - i) = m
  omega
end Go.Proofs.Ytckobbddjldflaa
/- (*ring.Table).Dot. No condition but that bytes are below 256. -/
namespace Go.Proofs.Ytckobbddjldflaa
set_option linter.unusedSimpArgs false
set_option linter.unusedVariables false
set_option linter.unusedSectionVars false
set_option linter.unusedVariables false
open Go.RowKit
open Gf (W2 up down upN downN mulS mul dot dotS R1 D1)
theorem and15 (b : Nat) (hb : b < 256) : bits BinOp.and IntKind.u8 (b : Int) 15 = ((b % 16 : Nat) : Int) := by
  have h := u8_and_nat b 15 hb (by omega)
  rw [show b &&& 15 = b % 16 from Nat.and_two_pow_sub_one_eq_mod b 4] at h
  exact h
theorem run_wideT {a : Act} {o : Oper} {W : World} {x : Operand} {g off v : Nat} (ho : o.op = .load 54 x) (hx : a.eval x = .pointer (some ⟨g, off, none⟩))
    (c0 : W.cell? ⟨g, off, none⟩ = some (.int .u64 ((v % 18446744073709551616 : Nat) : Int))) (c1 : W.cell? ⟨g, off + 1, none⟩ = some (.int .u64 ((v / 18446744073709551616 : Nat) : Int))) :
    (execOp a.eval o).run Try.prog W = .ok (.value (.agg (ints .u64 (W2 v)))) W := by
  obtain ⟨⟨d, h1, hd⟩, h2⟩ := Try.ar54
  have hr : W.rangeAt g off [Value.int .u64 ((v % 18446744073709551616 : Nat) : Int), Value.int .u64 ((v / 18446744073709551616 : Nat) : Int)] := fun j u hj => by
    rcases j with _ | _ | j
    · simp only [List.getElem?_cons_zero, Option.some.injEq] at hj; subst hj; exact c0
    · simp only [List.getElem?_cons_succ, List.getElem?_cons_zero, Option.some.injEq, Nat.zero_add] at hj; subst hj; exact c1
    · simp at hj
  unfold execOp
  simp only [ho, hx, Instr.loadAt, Instr.sureAddr, Sem.run_bind, Sem.run_pure, Result.andThen_ok, run_loadVar_mid W g off _ _ d hr h1 (by cases d <;> first | rfl | cases hd) h2]
  rfl
theorem run_idx {a : Act} {o : Oper} {W : World} {x y : Operand} {g n : Nat} (ho : o.op = .indexAddr 68 x y) (hx : a.eval x = .pointer (some ⟨g, 0, none⟩)) (hy : a.eval y = .int .u8 (n : Int)) (hn : n < 16) :
    (execOp a.eval o).run Try.prog W = .ok (.value (.pointer (some ⟨g, 2 * n, none⟩))) W := by
  have h16 : n = 0 ∨ n = 1 ∨ n = 2 ∨ n = 3 ∨ n = 4 ∨ n = 5 ∨ n = 6 ∨ n = 7 ∨ n = 8 ∨ n = 9 ∨ n = 10 ∨ n = 11 ∨ n = 12 ∨ n = 13 ∨ n = 14 ∨ n = 15 := by omega
  unfold execOp
  simp only [ho, hx, hy]
  rcases h16 with rfl | rfl | rfl | rfl | rfl | rfl | rfl | rfl | rfl | rfl | rfl | rfl | rfl | rfl | rfl | rfl <;> first | rfl | (show _ = _; kernel_rfl)
theorem wpList_run {P : Program} {ops : Array Oper} {rest : List Oper} {o : Oper} {a : Act} {w : World} {Q : Exit → Act → World → Prop} {v : Value} {T : TypeId} {x y : Operand} (hgd : o.guard = none) (ho : o.op = .index T x y) (hr : (execOp a.eval o).run P w = .ok (.value v) w)
    (h : wpList P ops Q rest (a.put o.dst v) w) : wpList P ops Q (o :: rest) a w :=
  wpList_plain hgd fun _ hK => by
    unfold Oper.wp
    rw [hr]
    simp only [Oper.upon]
    exact hK _ _ h
def nibQ (q j : Nat) : Nat := if j = 0 then q / 256 else if j = 1 then q / 16 else q
set_option maxRecDepth 100000 in
set_option maxHeartbeats 20000000 in
theorem dotT_c (g X : Nat) (as_ : List Nat) (hX : X < 2 ^ 128) (hl : as_.length = 16) (hb : ∀ x ∈ as_, x < 256) (w : World) (hT : Blk w g 70 (ints .u64 (tabL X 16))) :
    Calls Try.prog 32 #[.pointer (some ⟨g, 0, none⟩), .agg (ints .u8 as_)] w fun e w' => e = .returned (.agg (ints .u8 (elem (mul R1 X (num as_))))) ∧ Below w.heap.size w w' := by
  have hA := num_lt hl hb
  have hg := hT.lt
  have B0 := ((Blk.new w 22 (ints .u8 as_)).alloc (.cells (ints .u8 (zeros 16)) 22)).alloc (.cells (ints .u64 (zeros 2)) 54)
  have B1 := (Blk.new (w.alloc (.cells (ints .u8 as_) 22)) 22 (ints .u8 (zeros 16))).alloc (.cells (ints .u64 (zeros 2)) 54)
  have B2 := Blk.new ((w.alloc (.cells (ints .u8 as_) 22)).alloc (.cells (ints .u8 (zeros 16)) 22)) 54 (ints .u64 (zeros 2))
  rw [World.size_alloc] at B1
  rw [World.size_alloc, World.size_alloc] at B2
  simp only [Nat.add_assoc, Nat.reduceAdd] at B2
  have hbel := (((Below.refl w.heap.size w).alloc (Nat.le_refl _) (.cells (ints .u8 as_) 22)).alloc (by simp) (.cells (ints .u8 (zeros 16)) 22)).alloc (by simp; omega) (.cells (ints .u64 (zeros 2)) 54)
  have hz0 : W2 (mul R1 X (num as_ / 256 ^ 16)) = zeros 2 := by
    rw [Nat.div_eq_of_lt (show num as_ < 256 ^ 16 from hA), show mul R1 X 0 = 0 from (Gf.mul_lin_r R1 X).zero]; decide
  go_enter Try.func32, Try.ntmps32
  go_wp2_with (first | (refine wpList_alloc_ints rfl 22 rfl Try.z22 ?_; (try simp only [Act.put, List.setIfInBounds_toArray, List.set_cons_zero, List.set_cons_succ, World.size_alloc, setRow_size, Nat.add_assoc, Nat.reduceAdd])) | (refine wpList_alloc_ints rfl 54 rfl Try.z54 ?_; (try simp only [Act.put, List.setIfInBounds_toArray, List.set_cons_zero, List.set_cons_succ, World.size_alloc, setRow_size, Nat.add_assoc, Nat.reduceAdd])))
  generalize (((w.alloc (.cells (ints .u8 as_) 22)).alloc (.cells (ints .u8 (zeros 16)) 22)).alloc (.cells (ints .u64 (zeros 2)) 54)) = w1 at *
  go_loopw [13] (fun t wr => ∃ i : Nat, i ≤ 16 ∧ t = .int .i64 i ∧ Blk wr w.heap.size 22 (ints .u8 as_) ∧ Blk wr (w.heap.size + 1) 22 (ints .u8 (zeros 16)) ∧ Blk wr (w.heap.size + 2) 54 (ints .u64 (W2 (mul R1 X (num as_ / 256 ^ (16 - i))))) ∧ Below w.heap.size w wr) (fun t wr => 16 - (intOf t).toNat)
  case atStart => exact ⟨0, by omega, rfl, B0, B1, by rw [hz0]; exact B2, hbel⟩
  case round =>
    rename_i hrel
    obtain ⟨i, hi, rfl, C0, C1, C2, hbelr⟩ := hrel
    by_cases hlt : i < 16
    · have hi1 := nib_hi hl hb hlt
      have lo1 := nib_lo hl hb hlt
      have hq0 : num as_ / 256 ^ (16 - i) = num as_ / 256 ^ (15 - i) / 256 := by
        rw [Nat.div_div_eq_div_mul, ← Nat.pow_succ, show (15 - i).succ = 16 - i by omega]
      have hq2 : num as_ / 256 ^ (15 - i) < 2 ^ 128 := Nat.lt_of_le_of_lt (Nat.div_le_self _ _) hA
      have hnext : 16 - (i + 1) = 15 - i := by omega
      rw [hq0] at C2
      have cb := C0.int (i := 15 - i) (by omega)
      have hv := getD_bound hb (by omega) (15 - i)
      have hand := and15 _ hv
      clear hz0 hq0
      generalize as_.getD (15 - i) 0 = b at *
      generalize hQ : num as_ / 256 ^ (15 - i) = q at *
      have HQ := Lib.hid hQ
      clear hQ
      have hpd : ((15 : Int) - (i : Int)) = ((15 - i : Nat) : Int) := by omega
      have hp : 15 - i < 16 := by omega
      have Hnext := Lib.hid hnext
      clear hnext
      have Hpi := Lib.hid (show 15 - i = 15 - i from rfl)
      generalize hpp : 15 - i = p at *
      have hp1 : (p : Int) < 16 := by omega
      have hn1 : b / 16 < 16 := by omega
      have hn2 : b % 16 < 16 := by omega
      have hd1 : ((b : Int) / 16) = ((b / 16 : Nat) : Int) := by omega
      generalize b / 16 = n1 at *
      generalize b % 16 = n2 at *
      have hk1 := horner X (q / 256) n1 hX (by omega) hn1
      have hk2 := horner X (q / 16) n2 hX (by omega) hn2
      rw [← hi1] at hk1
      rw [← lo1] at hk2
      have Hk1 := Lib.hid hk1
      have Hk2 := Lib.hid hk2
      clear hk1 hk2 hi1 lo1
      clear hpp Hpi
      have hd0 : decide ((i : Int) < 16) = true := by simp; omega
      go_wp2
      go_loopw [25] (fun t wr => ∃ j : Nat, j ≤ 2 ∧ t = .int .i64 j ∧ Blk wr w.heap.size 22 (ints .u8 as_) ∧ Blk wr (w.heap.size + 1) 22 (ints .u8 (zeros 16)) ∧ Blk wr (w.heap.size + 2) 54 (ints .u64 (W2 (mul R1 X (nibQ q j)))) ∧ Below w.heap.size w wr) (fun t wr => 2 - (intOf t).toNat)
      case atStart => exact ⟨0, by omega, rfl, C0, C1, C2, hbelr⟩
      case round =>
        clear C0 C1 C2 hbelr
        obtain ⟨j, hj, rfl, D0, D1', D2, hbel4⟩ := hrel
        have hj3 : j = 0 ∨ j = 1 ∨ j = 2 := by omega
        rcases hj3 with rfl | rfl | rfl
        · rw [show nibQ q 0 = q / 256 from rfl] at D2
          have hS := Gf.mul_lt Gf.R1_lt hX (q / 256)
          have HK := Hk1
          generalize mul R1 X (q / 256) = S at *
          go_wp2_with (refine wpList_run (v := .int .u8 n1) rfl rfl ?h1 ?_; (case h1 => kernel_rfl); (try simp only [Act.put, List.setIfInBounds_toArray, List.set_cons_zero, List.set_cons_succ, World.size_alloc, setRow_size, Nat.add_assoc, Nat.reduceAdd]))
          go_loopw [28] (fun t wr => ∃ m : Nat, m ≤ 4 ∧ t = .int .i64 m ∧ Blk wr w.heap.size 22 (ints .u8 as_) ∧ Blk wr (w.heap.size + 1) 22 (ints .u8 (zeros 16)) ∧ Blk wr (w.heap.size + 2) 54 (ints .u64 (W2 (upN R1 m S))) ∧ Below w.heap.size w wr) (fun t wr => 4 - (intOf t).toNat)
          case atStart => exact ⟨0, by omega, rfl, D0, D1', D2, hbel4⟩
          case round =>
            obtain ⟨m, hm, rfl, E0, E1, E2, hbel5⟩ := hrel
            have hY := Gf.upN_lt Gf.R1_lt hS m
            by_cases hm4 : m < 4
            · have hux : upN R1 (m + 1) S = up R1 (upN R1 m S) := rfl
              have HU := Lib.hid hux
              clear hux HK
              generalize upN R1 m S = Y at *
              go_wp2_with (refine wpList_load_ints rfl 54 _ rfl (w.heap.size + 2) rfl E2 Try.ar54 rfl ?_; (try simp only [Act.put, List.setIfInBounds_toArray, List.set_cons_zero, List.set_cons_succ, World.size_alloc, setRow_size, Nat.add_assoc, Nat.reduceAdd]))
              refine (up_c Y hY _).mono ?_
              rintro e w4 ⟨rfl, hb4⟩
              rw [← HU.out]
              have F0 := (E0.below' hb4).rowFar (show w.heap.size ≠ w.heap.size + 2 by omega) (ints .u64 (W2 (upN R1 (m + 1) S)))
              have F1 := (E1.below' hb4).rowFar (show w.heap.size + 1 ≠ w.heap.size + 2 by omega) (ints .u64 (W2 (upN R1 (m + 1) S)))
              have F2' := E2.below' hb4
              have F2 := F2'.row (ints .u64 (W2 (upN R1 (m + 1) S)))
              have hbel7 := bSetRow (bCall hbel5 hb4 hbel5.size) (show w.heap.size ≤ w.heap.size + 2 by omega) (ints .u64 (W2 (upN R1 (m + 1) S)))
              clear E0 E1 E2 hbel5 hb4
              go_wp2_with (refine wpList_store_ints rfl 54 _ _ rfl (w.heap.size + 2) rfl rfl F2' rfl Try.ar54 rfl ?_; (try simp only [Act.put, List.setIfInBounds_toArray, List.set_cons_zero, List.set_cons_succ, World.size_alloc, setRow_size, Nat.add_assoc, Nat.reduceAdd]))
              refine ⟨⟨_, _, _, _, _, ⟨m + 1, by omega, by go_num, F0, F1, F2, hbel7⟩, rfl⟩, by simp [intOf] <;> omega⟩
            · obtain rfl : m = 4 := by omega
              have T := hT.below hbel5 hg
              have lD := tabL_len X 16
              have hV : tabV X 16 n1 = mul R1 X n1 := by unfold tabV; rw [if_pos (by omega)]
              have hVl := Gf.mul_lt Gf.R1_lt hX n1
              have c0 : wr.cell? ⟨g, 2 * n1, none⟩ = some (.int .u64 ((mul R1 X n1 % 18446744073709551616 : Nat) : Int)) := by
                have := T.int (i := 2 * n1) (by rw [lD]; omega)
                rw [tabL_lo X 16 (by omega), hV] at this
                exact this
              have c1 : wr.cell? ⟨g, 2 * n1 + 1, none⟩ = some (.int .u64 ((mul R1 X n1 / 18446744073709551616 : Nat) : Int)) := by
                have := T.int (i := 2 * n1 + 1) (by rw [lD]; omega)
                rw [tabL_hi X 16 (by omega), hV] at this
                exact this
              have lt1 := T.lt
              clear hV T
              generalize mul R1 X n1 = V at *
              generalize upN R1 4 S = Y at *
              go_wp2_with (fail)
              refine wp_region_last2 8 (by kernel_rfl) (by kernel_rfl) (by kernel_rfl) (by kernel_rfl) (fun D a W => ∃ u30 u31 u32 u33 u34 u35 u36 u37 u38 u39 u40 u41 : Value, a = { tmps := #[.pointer (some ⟨g, 0, none⟩), .agg (ints .u8 as_), undef, .pointer (some ⟨w.heap.size, 0, none⟩), .pointer (some ⟨w.heap.size + 1, 0, none⟩), .pointer (some ⟨w.heap.size + 2, 0, none⟩), .int .i64 i, .int .u8 b, undef, .int .u8 n1, .pointer (some ⟨g, 0, none⟩), .bool false, undef, .int .i64 i, .bool true, .int .i64 i, .int .i64 i, .int .i64 p, .pointer (some ⟨w.heap.size, p, none⟩), .int .u8 b, .int .u8 b, .int .u8 n1, .int .u8 b, .int .u8 n2, .agg #[.int .u8 n1, .int .u8 n2], .int .i64 ((0 : Nat) : Int), .bool true, .int .u8 n1, .int .i64 ((4 : Nat) : Int), .bool false, u30, u31, u32, u33, u34, u35, u36, u37, u38, u39, u40, u41, u42, undef, undef], defers := [] } ∧ Below wr.heap.size wr W ∧ (D 0 → u33 = .agg (ints .u64 (W2 Y))) ∧ (D 1 → u34 = .pointer (some ⟨g, 0, none⟩)) ∧ (D 2 → u35 = .int .u8 n1) ∧ (D 3 → u36 = .pointer (some ⟨g, 0, none⟩)) ∧ (D 4 → u37 = .pointer (some ⟨g, 0, none⟩)) ∧ (D 5 → u38 = .pointer (some ⟨g, 2 * n1, none⟩)) ∧ (D 6 → u39 = .agg (ints .u64 (W2 V))) ∧ (D 7 → u40 = .agg (ints .u64 (W2 (Y ^^^ 1 * V))))) ?_ ?_ ?_
              · exact ⟨_, _, _, _, _, _, _, _, _, _, _, _, rfl, ⟨rfl, rfl, rfl, Nat.le_refl _, fun _ _ => rfl⟩, (fun h => h.elim), (fun h => h.elim), (fun h => h.elim), (fun h => h.elim), (fun h => h.elim), (fun h => h.elim), (fun h => h.elim), (fun h => h.elim)⟩
              · intro i o hilt hi D a W hI hnD hall
                obtain ⟨u30, u31, u32, u33, u34, u35, u36, u37, u38, u39, u40, u41, rfl, hW, f0, f1, f2, f3, f4, f5, f6, f7⟩ := hI
                rcases i with _ | _ | _ | _ | _ | _ | _ | _ | i
                · simp only [Nat.zero_add, Nat.reduceAdd, List.getElem?_toArray, List.getElem?_cons_succ, List.getElem?_cons_zero, Option.some.injEq] at hi
                  subst hi
                  refine wpOp_load rfl rfl rfl rfl (E2.below' hW) Try.ar54 rfl ?_
                  exact ⟨_, _, _, _, _, _, _, _, _, _, _, _, rfl, hW, (fun _ => rfl), (fun h => f1 (rl h)), (fun h => f2 (rl h)), (fun h => f3 (rl h)), (fun h => f4 (rl h)), (fun h => f5 (rl h)), (fun h => f6 (rl h)), (fun h => f7 (rl h))⟩
                · simp only [Nat.zero_add, Nat.reduceAdd, List.getElem?_toArray, List.getElem?_cons_succ, List.getElem?_cons_zero, Option.some.injEq] at hi
                  subst hi
                  refine wpOp_value (v := .pointer (some ⟨g, 0, none⟩)) rfl rfl rfl ?_
                  exact ⟨_, _, _, _, _, _, _, _, _, _, _, _, rfl, hW, (fun h => f0 (rl h)), (fun _ => rfl), (fun h => f2 (rl h)), (fun h => f3 (rl h)), (fun h => f4 (rl h)), (fun h => f5 (rl h)), (fun h => f6 (rl h)), (fun h => f7 (rl h))⟩
                · simp only [Nat.zero_add, Nat.reduceAdd, List.getElem?_toArray, List.getElem?_cons_succ, List.getElem?_cons_zero, Option.some.injEq] at hi
                  subst hi
                  refine wpOp_value (v := .int .u8 n1) rfl rfl rfl ?_
                  exact ⟨_, _, _, _, _, _, _, _, _, _, _, _, rfl, hW, (fun h => f0 (rl h)), (fun h => f1 (rl h)), (fun _ => rfl), (fun h => f3 (rl h)), (fun h => f4 (rl h)), (fun h => f5 (rl h)), (fun h => f6 (rl h)), (fun h => f7 (rl h))⟩
                · simp only [Nat.zero_add, Nat.reduceAdd, List.getElem?_toArray, List.getElem?_cons_succ, List.getElem?_cons_zero, Option.some.injEq] at hi
                  subst hi
                  obtain rfl := f1 (pre_of hall 1 rfl)
                  refine wpOp_value (v := .pointer (some ⟨g, 0, none⟩)) rfl rfl (by kernel_rfl) ?_
                  exact ⟨_, _, _, _, _, _, _, _, _, _, _, _, rfl, hW, (fun h => f0 (rl h)), (fun h => f1 (rl h)), (fun h => f2 (rl h)), (fun _ => rfl), (fun h => f4 (rl h)), (fun h => f5 (rl h)), (fun h => f6 (rl h)), (fun h => f7 (rl h))⟩
                · simp only [Nat.zero_add, Nat.reduceAdd, List.getElem?_toArray, List.getElem?_cons_succ, List.getElem?_cons_zero, Option.some.injEq] at hi
                  subst hi
                  obtain rfl := f3 (pre_of hall 3 rfl)
                  refine wpOp_value (v := .pointer (some ⟨g, 0, none⟩)) rfl rfl (by kernel_rfl) ?_
                  exact ⟨_, _, _, _, _, _, _, _, _, _, _, _, rfl, hW, (fun h => f0 (rl h)), (fun h => f1 (rl h)), (fun h => f2 (rl h)), (fun h => f3 (rl h)), (fun _ => rfl), (fun h => f5 (rl h)), (fun h => f6 (rl h)), (fun h => f7 (rl h))⟩
                · simp only [Nat.zero_add, Nat.reduceAdd, List.getElem?_toArray, List.getElem?_cons_succ, List.getElem?_cons_zero, Option.some.injEq] at hi
                  subst hi
                  obtain rfl := f4 (pre_of hall 4 rfl)
                  obtain rfl := f2 (pre_of hall 2 rfl)
                  refine wpOp_value (v := .pointer (some ⟨g, 2 * n1, none⟩)) rfl rfl (run_idx rfl rfl rfl hn1) ?_
                  exact ⟨_, _, _, _, _, _, _, _, _, _, _, _, rfl, hW, (fun h => f0 (rl h)), (fun h => f1 (rl h)), (fun h => f2 (rl h)), (fun h => f3 (rl h)), (fun h => f4 (rl h)), (fun _ => rfl), (fun h => f6 (rl h)), (fun h => f7 (rl h))⟩
                · simp only [Nat.zero_add, Nat.reduceAdd, List.getElem?_toArray, List.getElem?_cons_succ, List.getElem?_cons_zero, Option.some.injEq] at hi
                  subst hi
                  obtain rfl := f5 (pre_of hall 5 rfl)
                  refine wpOp_value (v := .agg (ints .u64 (W2 V))) rfl rfl (run_wideT rfl rfl ((hW.cell (p := ⟨_, _, none⟩) lt1).trans c0) ((hW.cell (p := ⟨_, _, none⟩) lt1).trans c1)) ?_
                  exact ⟨_, _, _, _, _, _, _, _, _, _, _, _, rfl, hW, (fun h => f0 (rl h)), (fun h => f1 (rl h)), (fun h => f2 (rl h)), (fun h => f3 (rl h)), (fun h => f4 (rl h)), (fun h => f5 (rl h)), (fun _ => rfl), (fun h => f7 (rl h))⟩
                · simp only [Nat.zero_add, Nat.reduceAdd, List.getElem?_toArray, List.getElem?_cons_succ, List.getElem?_cons_zero, Option.some.injEq] at hi
                  subst hi
                  obtain rfl := f0 (pre_of hall 0 rfl)
                  obtain rfl := f6 (pre_of hall 6 rfl)
                  refine wpOp_call 44 rfl rfl rfl Try.func44 (by kernel_rfl) (by kernel_rfl) (plus10_c Y V 1 hY hVl (Nat.le_refl 1) W) ?_
                  intro W' hW'
                  exact ⟨_, _, _, _, _, _, _, _, _, _, _, _, rfl, bCall hW hW' hW.size, (fun h => f0 (rl h)), (fun h => f1 (rl h)), (fun h => f2 (rl h)), (fun h => f3 (rl h)), (fun h => f4 (rl h)), (fun h => f5 (rl h)), (fun h => f6 (rl h)), (fun _ => rfl)⟩
                · exfalso; omega
              · rintro D a W ⟨u30, u31, u32, u33, u34, u35, u36, u37, u38, u39, u40, u41, rfl, hW, f0, f1, f2, f3, f4, f5, f6, f7⟩ hall
                obtain rfl := f0 (hall 0 (by decide))
                obtain rfl := f1 (hall 1 (by decide))
                obtain rfl := f2 (hall 2 (by decide))
                obtain rfl := f3 (hall 3 (by decide))
                obtain rfl := f4 (hall 4 (by decide))
                obtain rfl := f5 (hall 5 (by decide))
                obtain rfl := f6 (hall 6 (by decide))
                obtain rfl := f7 (hall 7 (by decide))
                clear f0 f1 f2 f3 f4 f5 f6 f7 hall
                rw [HK.out]
                have F0 := (E0.below' hW).rowFar (show w.heap.size ≠ w.heap.size + 2 by omega) (ints .u64 (W2 (mul R1 X (q / 16))))
                have F1 := (E1.below' hW).rowFar (show w.heap.size + 1 ≠ w.heap.size + 2 by omega) (ints .u64 (W2 (mul R1 X (q / 16))))
                have F2' := E2.below' hW
                have F2 := F2'.row (ints .u64 (W2 (mul R1 X (q / 16))))
                have hbel7 := bSetRow (bCall hbel5 hW hbel5.size) (show w.heap.size ≤ w.heap.size + 2 by omega) (ints .u64 (W2 (mul R1 X (q / 16))))
                refine wpOp_store rfl rfl rfl rfl rfl F2' rfl Try.ar54 rfl ?_
                clear E0 E1 E2 hbel5 hW c0 c1
                generalize W.setRow (w.heap.size + 2) (ints .u64 (W2 (mul R1 X (q / 16)))) = w9 at *
                go_wp2_with (fail)
                exact ⟨⟨1, by omega, rfl, F0, F1, F2, hbel7⟩, by simp [intOf]⟩
        · rw [show nibQ q 1 = q / 16 from rfl] at D2
          have hS := Gf.mul_lt Gf.R1_lt hX (q / 16)
          have HK := Hk2
          generalize mul R1 X (q / 16) = S at *
          go_wp2_with (refine wpList_run (v := .int .u8 n2) rfl rfl ?h1 ?_; (case h1 => kernel_rfl); (try simp only [Act.put, List.setIfInBounds_toArray, List.set_cons_zero, List.set_cons_succ, World.size_alloc, setRow_size, Nat.add_assoc, Nat.reduceAdd]))
          go_loopw [28] (fun t wr => ∃ m : Nat, m ≤ 4 ∧ t = .int .i64 m ∧ Blk wr w.heap.size 22 (ints .u8 as_) ∧ Blk wr (w.heap.size + 1) 22 (ints .u8 (zeros 16)) ∧ Blk wr (w.heap.size + 2) 54 (ints .u64 (W2 (upN R1 m S))) ∧ Below w.heap.size w wr) (fun t wr => 4 - (intOf t).toNat)
          case atStart => exact ⟨0, by omega, rfl, D0, D1', D2, hbel4⟩
          case round =>
            obtain ⟨m, hm, rfl, E0, E1, E2, hbel5⟩ := hrel
            have hY := Gf.upN_lt Gf.R1_lt hS m
            by_cases hm4 : m < 4
            · have hux : upN R1 (m + 1) S = up R1 (upN R1 m S) := rfl
              have HU := Lib.hid hux
              clear hux HK
              generalize upN R1 m S = Y at *
              go_wp2_with (refine wpList_load_ints rfl 54 _ rfl (w.heap.size + 2) rfl E2 Try.ar54 rfl ?_; (try simp only [Act.put, List.setIfInBounds_toArray, List.set_cons_zero, List.set_cons_succ, World.size_alloc, setRow_size, Nat.add_assoc, Nat.reduceAdd]))
              refine (up_c Y hY _).mono ?_
              rintro e w4 ⟨rfl, hb4⟩
              rw [← HU.out]
              have F0 := (E0.below' hb4).rowFar (show w.heap.size ≠ w.heap.size + 2 by omega) (ints .u64 (W2 (upN R1 (m + 1) S)))
              have F1 := (E1.below' hb4).rowFar (show w.heap.size + 1 ≠ w.heap.size + 2 by omega) (ints .u64 (W2 (upN R1 (m + 1) S)))
              have F2' := E2.below' hb4
              have F2 := F2'.row (ints .u64 (W2 (upN R1 (m + 1) S)))
              have hbel7 := bSetRow (bCall hbel5 hb4 hbel5.size) (show w.heap.size ≤ w.heap.size + 2 by omega) (ints .u64 (W2 (upN R1 (m + 1) S)))
              clear E0 E1 E2 hbel5 hb4
              go_wp2_with (refine wpList_store_ints rfl 54 _ _ rfl (w.heap.size + 2) rfl rfl F2' rfl Try.ar54 rfl ?_; (try simp only [Act.put, List.setIfInBounds_toArray, List.set_cons_zero, List.set_cons_succ, World.size_alloc, setRow_size, Nat.add_assoc, Nat.reduceAdd]))
              refine ⟨⟨_, _, _, _, _, ⟨m + 1, by omega, by go_num, F0, F1, F2, hbel7⟩, rfl⟩, by simp [intOf] <;> omega⟩
            · obtain rfl : m = 4 := by omega
              have T := hT.below hbel5 hg
              have lD := tabL_len X 16
              have hV : tabV X 16 n2 = mul R1 X n2 := by unfold tabV; rw [if_pos (by omega)]
              have hVl := Gf.mul_lt Gf.R1_lt hX n2
              have c0 : wr.cell? ⟨g, 2 * n2, none⟩ = some (.int .u64 ((mul R1 X n2 % 18446744073709551616 : Nat) : Int)) := by
                have := T.int (i := 2 * n2) (by rw [lD]; omega)
                rw [tabL_lo X 16 (by omega), hV] at this
                exact this
              have c1 : wr.cell? ⟨g, 2 * n2 + 1, none⟩ = some (.int .u64 ((mul R1 X n2 / 18446744073709551616 : Nat) : Int)) := by
                have := T.int (i := 2 * n2 + 1) (by rw [lD]; omega)
                rw [tabL_hi X 16 (by omega), hV] at this
                exact this
              have lt1 := T.lt
              clear hV T
              generalize mul R1 X n2 = V at *
              generalize upN R1 4 S = Y at *
              go_wp2_with (fail)
              refine wp_region_last2 8 (by kernel_rfl) (by kernel_rfl) (by kernel_rfl) (by kernel_rfl) (fun D a W => ∃ u30 u31 u32 u33 u34 u35 u36 u37 u38 u39 u40 u41 : Value, a = { tmps := #[.pointer (some ⟨g, 0, none⟩), .agg (ints .u8 as_), undef, .pointer (some ⟨w.heap.size, 0, none⟩), .pointer (some ⟨w.heap.size + 1, 0, none⟩), .pointer (some ⟨w.heap.size + 2, 0, none⟩), .int .i64 i, .int .u8 b, undef, .int .u8 n2, .pointer (some ⟨g, 0, none⟩), .bool false, undef, .int .i64 i, .bool true, .int .i64 i, .int .i64 i, .int .i64 p, .pointer (some ⟨w.heap.size, p, none⟩), .int .u8 b, .int .u8 b, .int .u8 n1, .int .u8 b, .int .u8 n2, .agg #[.int .u8 n1, .int .u8 n2], .int .i64 ((1 : Nat) : Int), .bool true, .int .u8 n2, .int .i64 ((4 : Nat) : Int), .bool false, u30, u31, u32, u33, u34, u35, u36, u37, u38, u39, u40, u41, u42, undef, undef], defers := [] } ∧ Below wr.heap.size wr W ∧ (D 0 → u33 = .agg (ints .u64 (W2 Y))) ∧ (D 1 → u34 = .pointer (some ⟨g, 0, none⟩)) ∧ (D 2 → u35 = .int .u8 n2) ∧ (D 3 → u36 = .pointer (some ⟨g, 0, none⟩)) ∧ (D 4 → u37 = .pointer (some ⟨g, 0, none⟩)) ∧ (D 5 → u38 = .pointer (some ⟨g, 2 * n2, none⟩)) ∧ (D 6 → u39 = .agg (ints .u64 (W2 V))) ∧ (D 7 → u40 = .agg (ints .u64 (W2 (Y ^^^ 1 * V))))) ?_ ?_ ?_
              · exact ⟨_, _, _, _, _, _, _, _, _, _, _, _, rfl, ⟨rfl, rfl, rfl, Nat.le_refl _, fun _ _ => rfl⟩, (fun h => h.elim), (fun h => h.elim), (fun h => h.elim), (fun h => h.elim), (fun h => h.elim), (fun h => h.elim), (fun h => h.elim), (fun h => h.elim)⟩
              · intro i o hilt hi D a W hI hnD hall
                obtain ⟨u30, u31, u32, u33, u34, u35, u36, u37, u38, u39, u40, u41, rfl, hW, f0, f1, f2, f3, f4, f5, f6, f7⟩ := hI
                rcases i with _ | _ | _ | _ | _ | _ | _ | _ | i
                · simp only [Nat.zero_add, Nat.reduceAdd, List.getElem?_toArray, List.getElem?_cons_succ, List.getElem?_cons_zero, Option.some.injEq] at hi
                  subst hi
                  refine wpOp_load rfl rfl rfl rfl (E2.below' hW) Try.ar54 rfl ?_
                  exact ⟨_, _, _, _, _, _, _, _, _, _, _, _, rfl, hW, (fun _ => rfl), (fun h => f1 (rl h)), (fun h => f2 (rl h)), (fun h => f3 (rl h)), (fun h => f4 (rl h)), (fun h => f5 (rl h)), (fun h => f6 (rl h)), (fun h => f7 (rl h))⟩
                · simp only [Nat.zero_add, Nat.reduceAdd, List.getElem?_toArray, List.getElem?_cons_succ, List.getElem?_cons_zero, Option.some.injEq] at hi
                  subst hi
                  refine wpOp_value (v := .pointer (some ⟨g, 0, none⟩)) rfl rfl rfl ?_
                  exact ⟨_, _, _, _, _, _, _, _, _, _, _, _, rfl, hW, (fun h => f0 (rl h)), (fun _ => rfl), (fun h => f2 (rl h)), (fun h => f3 (rl h)), (fun h => f4 (rl h)), (fun h => f5 (rl h)), (fun h => f6 (rl h)), (fun h => f7 (rl h))⟩
                · simp only [Nat.zero_add, Nat.reduceAdd, List.getElem?_toArray, List.getElem?_cons_succ, List.getElem?_cons_zero, Option.some.injEq] at hi
                  subst hi
                  refine wpOp_value (v := .int .u8 n2) rfl rfl rfl ?_
                  exact ⟨_, _, _, _, _, _, _, _, _, _, _, _, rfl, hW, (fun h => f0 (rl h)), (fun h => f1 (rl h)), (fun _ => rfl), (fun h => f3 (rl h)), (fun h => f4 (rl h)), (fun h => f5 (rl h)), (fun h => f6 (rl h)), (fun h => f7 (rl h))⟩
                · simp only [Nat.zero_add, Nat.reduceAdd, List.getElem?_toArray, List.getElem?_cons_succ, List.getElem?_cons_zero, Option.some.injEq] at hi
                  subst hi
                  obtain rfl := f1 (pre_of hall 1 rfl)
                  refine wpOp_value (v := .pointer (some ⟨g, 0, none⟩)) rfl rfl (by kernel_rfl) ?_
                  exact ⟨_, _, _, _, _, _, _, _, _, _, _, _, rfl, hW, (fun h => f0 (rl h)), (fun h => f1 (rl h)), (fun h => f2 (rl h)), (fun _ => rfl), (fun h => f4 (rl h)), (fun h => f5 (rl h)), (fun h => f6 (rl h)), (fun h => f7 (rl h))⟩
                · simp only [Nat.zero_add, Nat.reduceAdd, List.getElem?_toArray, List.getElem?_cons_succ, List.getElem?_cons_zero, Option.some.injEq] at hi
                  subst hi
                  obtain rfl := f3 (pre_of hall 3 rfl)
                  refine wpOp_value (v := .pointer (some ⟨g, 0, none⟩)) rfl rfl (by kernel_rfl) ?_
                  exact ⟨_, _, _, _, _, _, _, _, _, _, _, _, rfl, hW, (fun h => f0 (rl h)), (fun h => f1 (rl h)), (fun h => f2 (rl h)), (fun h => f3 (rl h)), (fun _ => rfl), (fun h => f5 (rl h)), (fun h => f6 (rl h)), (fun h => f7 (rl h))⟩
                · simp only [Nat.zero_add, Nat.reduceAdd, List.getElem?_toArray, List.getElem?_cons_succ, List.getElem?_cons_zero, Option.some.injEq] at hi
                  subst hi
                  obtain rfl := f4 (pre_of hall 4 rfl)
                  obtain rfl := f2 (pre_of hall 2 rfl)
                  refine wpOp_value (v := .pointer (some ⟨g, 2 * n2, none⟩)) rfl rfl (run_idx rfl rfl rfl hn2) ?_
                  exact ⟨_, _, _, _, _, _, _, _, _, _, _, _, rfl, hW, (fun h => f0 (rl h)), (fun h => f1 (rl h)), (fun h => f2 (rl h)), (fun h => f3 (rl h)), (fun h => f4 (rl h)), (fun _ => rfl), (fun h => f6 (rl h)), (fun h => f7 (rl h))⟩
                · simp only [Nat.zero_add, Nat.reduceAdd, List.getElem?_toArray, List.getElem?_cons_succ, List.getElem?_cons_zero, Option.some.injEq] at hi
                  subst hi
                  obtain rfl := f5 (pre_of hall 5 rfl)
                  refine wpOp_value (v := .agg (ints .u64 (W2 V))) rfl rfl (run_wideT rfl rfl ((hW.cell (p := ⟨_, _, none⟩) lt1).trans c0) ((hW.cell (p := ⟨_, _, none⟩) lt1).trans c1)) ?_
                  exact ⟨_, _, _, _, _, _, _, _, _, _, _, _, rfl, hW, (fun h => f0 (rl h)), (fun h => f1 (rl h)), (fun h => f2 (rl h)), (fun h => f3 (rl h)), (fun h => f4 (rl h)), (fun h => f5 (rl h)), (fun _ => rfl), (fun h => f7 (rl h))⟩
                · simp only [Nat.zero_add, Nat.reduceAdd, List.getElem?_toArray, List.getElem?_cons_succ, List.getElem?_cons_zero, Option.some.injEq] at hi
                  subst hi
                  obtain rfl := f0 (pre_of hall 0 rfl)
                  obtain rfl := f6 (pre_of hall 6 rfl)
                  refine wpOp_call 44 rfl rfl rfl Try.func44 (by kernel_rfl) (by kernel_rfl) (plus10_c Y V 1 hY hVl (Nat.le_refl 1) W) ?_
                  intro W' hW'
                  exact ⟨_, _, _, _, _, _, _, _, _, _, _, _, rfl, bCall hW hW' hW.size, (fun h => f0 (rl h)), (fun h => f1 (rl h)), (fun h => f2 (rl h)), (fun h => f3 (rl h)), (fun h => f4 (rl h)), (fun h => f5 (rl h)), (fun h => f6 (rl h)), (fun _ => rfl)⟩
                · exfalso; omega
              · rintro D a W ⟨u30, u31, u32, u33, u34, u35, u36, u37, u38, u39, u40, u41, rfl, hW, f0, f1, f2, f3, f4, f5, f6, f7⟩ hall
                obtain rfl := f0 (hall 0 (by decide))
                obtain rfl := f1 (hall 1 (by decide))
                obtain rfl := f2 (hall 2 (by decide))
                obtain rfl := f3 (hall 3 (by decide))
                obtain rfl := f4 (hall 4 (by decide))
                obtain rfl := f5 (hall 5 (by decide))
                obtain rfl := f6 (hall 6 (by decide))
                obtain rfl := f7 (hall 7 (by decide))
                clear f0 f1 f2 f3 f4 f5 f6 f7 hall
                rw [HK.out]
                have F0 := (E0.below' hW).rowFar (show w.heap.size ≠ w.heap.size + 2 by omega) (ints .u64 (W2 (mul R1 X (q))))
                have F1 := (E1.below' hW).rowFar (show w.heap.size + 1 ≠ w.heap.size + 2 by omega) (ints .u64 (W2 (mul R1 X (q))))
                have F2' := E2.below' hW
                have F2 := F2'.row (ints .u64 (W2 (mul R1 X (q))))
                have hbel7 := bSetRow (bCall hbel5 hW hbel5.size) (show w.heap.size ≤ w.heap.size + 2 by omega) (ints .u64 (W2 (mul R1 X (q))))
                refine wpOp_store rfl rfl rfl rfl rfl F2' rfl Try.ar54 rfl ?_
                clear E0 E1 E2 hbel5 hW c0 c1
                generalize W.setRow (w.heap.size + 2) (ints .u64 (W2 (mul R1 X (q)))) = w9 at *
                go_wp2_with (fail)
                exact ⟨⟨2, by omega, rfl, F0, F1, F2, hbel7⟩, by simp [intOf]⟩
        · rw [show nibQ q 2 = q from rfl] at D2
          go_wp2_with (fail)
          exact ⟨⟨i + 1, by omega, by go_num, D0, D1', by rw [Hnext.out, HQ.out]; exact D2, hbel4⟩, by simp [intOf] <;> omega⟩
    · obtain rfl : i = 16 := by omega
      rw [show num as_ / 256 ^ (16 - 16) = num as_ by rw [Nat.sub_self, Nat.pow_zero, Nat.div_one]] at C2
      have hM := Gf.mul_lt Gf.R1_lt hX (num as_)
      have hel := elem_len (mul R1 X (num as_))
      go_wp2_with (refine wpList_load_ints rfl 54 _ rfl (w.heap.size + 2) rfl C2 Try.ar54 rfl ?_; (try simp only [Act.put, List.setIfInBounds_toArray, List.set_cons_zero, List.set_cons_succ, World.size_alloc, setRow_size, Nat.add_assoc, Nat.reduceAdd]))
      refine (bytesN_c _ hM _).mono ?_
      rintro e w4 ⟨rfl, hb4⟩
      have E1 := C1.below' hb4
      have hbel5 := bCall hbelr hb4 hbelr.size
      go_wp2_with (refine wpList_store_ints rfl 22 _ _ rfl (w.heap.size + 1) rfl rfl E1 (zeros_size _ _) Try.ar22 hel ?_; (try simp only [Act.put, List.setIfInBounds_toArray, List.set_cons_zero, List.set_cons_succ, World.size_alloc, setRow_size, Nat.add_assoc, Nat.reduceAdd]))
      exact ret_ints rfl rfl (E1.row _) Try.ar22 hel ⟨rfl, bSetRow hbel5 (by omega) _⟩
end Go.Proofs.Ytckobbddjldflaa
/- Plain laws: a polynomial as the bits of a number. No program is spoken of. No condition. -/
namespace Go.Proofs.Ytckobbddjldflaa
set_option linter.unusedSimpArgs false
set_option linter.unusedVariables false
set_option linter.unusedSectionVars false
set_option linter.unusedVariables false
def polyN (n : Nat) : List Nat := (List.range 256).map fun k => n / 2 ^ k % 2
theorem polyN_len (n : Nat) : (polyN n).length = 256 := by simp [polyN]
theorem polyN_get (n : Nat) {k : Nat} (hk : k < 256) : (polyN n)[k]? = some (n / 2 ^ k % 2) := by
  unfold polyN
  rw [List.getElem?_map, List.getElem?_range hk]; rfl
theorem polyN_getD (n : Nat) {k : Nat} (hk : k < 256) : (polyN n).getD k 0 = n / 2 ^ k % 2 := by
  rw [List.getD_eq_getElem?_getD, polyN_get n hk]; rfl
theorem polyN_lt (n : Nat) : ∀ x ∈ polyN n, x < 256 := fun x hx => by
  obtain ⟨k, -, rfl⟩ := List.mem_map.1 hx
  have := Nat.mod_lt (n / 2 ^ k) (show 2 > 0 by omega)
  omega
theorem polyN_zero : polyN 0 = zeros 256 := by
  apply List.ext_getElem? fun k => ?_
  by_cases hk : k < 256
  · rw [polyN_get 0 hk, Nat.zero_div]
    unfold zeros
    rw [List.getElem?_replicate, if_pos hk]
  · rw [List.getElem?_eq_none (by rw [polyN_len]; omega), List.getElem?_eq_none (by rw [zeros_len]; omega)]
theorem bit_xor (a b k : Nat) : (a ^^^ b) / 2 ^ k % 2 = (a / 2 ^ k % 2) ^^^ (b / 2 ^ k % 2) := by
  rw [← Nat.shiftRight_eq_div_pow, ← Nat.shiftRight_eq_div_pow, ← Nat.shiftRight_eq_div_pow, Nat.shiftRight_xor_distrib]
  exact Nat.xor_mod_two_pow (n := 1)
theorem bit_one (b k j : Nat) (hb : b < 2) : (b * 2 ^ k) / 2 ^ j % 2 = if j = k then b else 0 := by
  have h : b = 0 ∨ b = 1 := by omega
  rcases h with rfl | rfl
  · simp
  · rw [Nat.one_mul, ← Nat.toNat_testBit, Nat.testBit_two_pow]
    by_cases h : k = j
    · rw [if_pos h.symm]; simp [h]
    · rw [if_neg (fun e => h e.symm)]; simp [h]
/-- One coefficient changed. -/
theorem polyN_set (n b k : Nat) (hk : k < 256) (hb : b < 2) : (polyN n).set k ((n / 2 ^ k % 2) ^^^ b) = polyN (n ^^^ b * 2 ^ k) := by
  apply List.ext_getElem? fun j => ?_
  by_cases hj : j < 256
  · rw [List.getElem?_set, polyN_get n hj, polyN_get _ hj, bit_xor, bit_one b k j hb]
    by_cases h : k = j
    · subst h
      rw [if_pos rfl, if_pos (by rw [polyN_len]; exact hk), if_pos rfl]
    · rw [if_neg h, if_neg (fun e => h e.symm), Nat.xor_zero]
  · rw [List.getElem?_eq_none (by simp [polyN_len]; omega), List.getElem?_eq_none (by rw [polyN_len]; omega)]
end Go.Proofs.Ytckobbddjldflaa
/- The reference's Low. No condition but that bytes are below 256. -/
namespace Go.Proofs.Ytckobbddjldflaa
set_option linter.unusedSimpArgs false
set_option linter.unusedVariables false
set_option linter.unusedSectionVars false
set_option linter.unusedVariables false
open Go.RowKit
theorem Try.ar77 : IsArr Try.prog 77 256 := isArr Try.underlying77 (by kernel_rfl)
theorem Try.z77 : IsZero Try.prog 77 256 .u8 := isZero (by kernel_rfl)
theorem num_bit {xs : List Nat} (hl : xs.length = 16) (hb : ∀ x ∈ xs, x < 256) (i : Nat) (hi : i < 128) : xs.getD (i / 8) 0 / 2 ^ (i % 8) % 2 = num xs / 2 ^ i % 2 := by
  rw [num_digit hl hb (i := i / 8) (by omega), byte_bit _ _ (by omega), Nat.div_div_eq_div_mul, show (256 : Nat) = 2 ^ 8 by decide, ← Nat.pow_mul, ← Nat.pow_add, show 8 * (i / 8) + i % 8 = i by omega]
theorem polyN_half {n : Nat} (hn : n < 2 ^ 128) : (polyN n).take 128 ++ zeros (256 - 128) = polyN n := by
  apply List.ext_getElem? fun k => ?_
  by_cases hk : k < 128
  · rw [List.getElem?_append_left (by rw [List.length_take, polyN_len]; omega), List.getElem?_take, if_pos hk]
  · rw [List.getElem?_append_right (by rw [List.length_take, polyN_len]; omega), List.length_take, polyN_len]
    by_cases hk2 : k < 256
    · rw [polyN_get n hk2]
      unfold zeros
      rw [List.getElem?_replicate, if_pos (by omega), Nat.div_eq_of_lt (Nat.lt_of_lt_of_le hn (Nat.pow_le_pow_right (by omega) (by omega)))]
    · rw [List.getElem?_eq_none (by rw [zeros_len]; omega), List.getElem?_eq_none (by rw [polyN_len]; omega)]
set_option maxRecDepth 100000 in
set_option maxHeartbeats 4000000 in
theorem low_ref (xs : List Nat) (hl : xs.length = 16) (hb : ∀ x ∈ xs, x < 256) (w : World) :
    Calls Try.prog 50 #[.agg (ints .u8 xs)] w fun e w' => e = .returned (.agg (ints .u8 (polyN (num xs)))) ∧ Below w.heap.size w w' := by
  have hx := num_lt hl hb
  have hpl := polyN_len (num xs)
  have B0 := ((Blk.new w 22 (ints .u8 xs)).alloc (.cells (ints .u8 (zeros 256)) 77)).alloc (.cells (ints .u8 (zeros 256)) 77)
  have B1 := (Blk.new (w.alloc (.cells (ints .u8 xs) 22)) 77 (ints .u8 (zeros 256))).alloc (.cells (ints .u8 (zeros 256)) 77)
  have B2 := Blk.new ((w.alloc (.cells (ints .u8 xs) 22)).alloc (.cells (ints .u8 (zeros 256)) 77)) 77 (ints .u8 (zeros 256))
  rw [World.size_alloc] at B1
  rw [World.size_alloc, World.size_alloc] at B2
  simp only [Nat.add_assoc, Nat.reduceAdd] at B2
  have hbel := (((Below.refl w.heap.size w).alloc (Nat.le_refl _) (.cells (ints .u8 xs) 22)).alloc (by simp) (.cells (ints .u8 (zeros 256)) 77)).alloc (by simp; omega) (.cells (ints .u8 (zeros 256)) 77)
  go_enter Try.func50, Try.ntmps50
  go_wp2_with (refine wpList_alloc_ints rfl 77 rfl Try.z77 ?_; (try simp only [Act.put, List.setIfInBounds_toArray, List.set_cons_zero, List.set_cons_succ, World.size_alloc, setRow_size, Nat.add_assoc, Nat.reduceAdd]))
  generalize (((w.alloc (.cells (ints .u8 xs) 22)).alloc (.cells (ints .u8 (zeros 256)) 77)).alloc (.cells (ints .u8 (zeros 256)) 77)) = w1 at *
  go_loopw [4] (fun t wr => ∃ k : Nat, k ≤ 128 ∧ t = .int .i64 k ∧ Blk wr w.heap.size 22 (ints .u8 xs) ∧ Blk wr (w.heap.size + 1) 77 (ints .u8 (zeros 256)) ∧ Blk wr (w.heap.size + 2) 77 (ints .u8 ((polyN (num xs)).take k ++ zeros (256 - k))) ∧ Below w.heap.size w wr) (fun t wr => 128 - (intOf t).toNat)
  case atStart => exact ⟨0, by omega, rfl, B0, B1, B2, hbel⟩
  case round =>
    rename_i hrel
    obtain ⟨k, hk, rfl, C0, C1, C2, hbelr⟩ := hrel
    have hkl : ((polyN (num xs)).take k ++ zeros (256 - k)).length = 256 := by rw [List.length_append, List.length_take, hpl, zeros_len]; omega
    by_cases hlt : k < 128
    · have c0 := C0.int (i := k / 8) (by omega)
      have c2 := C2.int (i := k) (by omega)
      have z2 := C2.frozen k
      have hv := polyN_getD (num xs) (k := k) (by omega)
      rw [← num_bit hl hb k hlt] at hv
      have vb := getD_bound hb (by omega) (k / 8)
      have C2' := C2.intSet k (xs.getD (k / 8) 0 / 2 ^ (k % 8) % 2)
      rw [take_set hpl (by omega) hv] at C2'
      have HC := Lib.hid C2'
      clear C2' hv hkl
      generalize xs.getD (k / 8) 0 = b at *
      generalize hqd : k / 8 = q at *
      generalize hrd : k % 8 = r at *
      have hq1 : (k : Int) / 8 = (q : Int) := by omega
      have hr1 : (k : Int) % 8 = (r : Int) := by omega
      have hq0 : (q : Int) < 16 := by omega
      have hr0 : r < 8 := by omega
      clear hqd hrd
      go_wp2
      exact ⟨⟨k + 1, by omega, by go_num, C0.far (by first | omega | (simp; done) | (simp; omega)) _, C1.far (by first | omega | (simp; done) | (simp; omega)) _, HC.out, hbelr.setCell (by first | omega | (simp; done) | (simp; omega)) _⟩, by simp [intOf] <;> omega⟩
    · obtain rfl : k = 128 := by omega
      rw [polyN_half hx] at C2
      go_wp2_with (first | (refine wpList_load_ints rfl 77 _ rfl (w.heap.size + 2) rfl C2 Try.ar77 hpl ?_; (try simp only [Act.put, List.setIfInBounds_toArray, List.set_cons_zero, List.set_cons_succ, World.size_alloc, setRow_size, Nat.add_assoc, Nat.reduceAdd])) | (refine wpList_store_ints rfl 77 _ _ rfl (w.heap.size + 1) rfl rfl C1 (zeros_size _ _) Try.ar77 hpl ?_; (try simp only [Act.put, List.setIfInBounds_toArray, List.set_cons_zero, List.set_cons_succ, World.size_alloc, setRow_size, Nat.add_assoc, Nat.reduceAdd])))
      exact ret_ints rfl rfl (C1.row _) Try.ar77 hpl ⟨rfl, bSetRow hbelr (by omega) _⟩
end Go.Proofs.Ytckobbddjldflaa
/- Plain laws: an element filled bit by bit. No program is spoken of. No condition. -/
namespace Go.Proofs.Ytckobbddjldflaa
set_option linter.unusedSimpArgs false
set_option linter.unusedVariables false
set_option linter.unusedSectionVars false
set_option linter.unusedVariables false
theorem fill_byte (n q r : Nat) (hr : r < 8) : n % 2 ^ (8 * q + r) / 256 ^ q % 256 + (n / 2 ^ (8 * q + r) % 2) * 2 ^ r = n % 2 ^ (8 * q + r + 1) / 256 ^ q % 256 := by
  have hK : 0 < 256 ^ q := Nat.pow_pos (by omega)
  have e : (2 : Nat) ^ (8 * q + r) = 256 ^ q * 2 ^ r := by rw [Nat.pow_add, Nat.pow_mul]
  rw [Nat.mod_pow_succ, e]
  have hlt : n % (256 ^ q * 2 ^ r) / 256 ^ q < 2 ^ r := Nat.div_lt_of_lt_mul (Nat.mod_lt _ (Nat.mul_pos hK (Nat.two_pow_pos r)))
  have h8 : (2 : Nat) ^ r * 2 ≤ 256 := by
    have : (2 : Nat) ^ (r + 1) ≤ 2 ^ 8 := Nat.pow_le_pow_right (by omega) (by omega)
    rw [Nat.pow_succ] at this; exact this
  have hb := Nat.mod_lt (n / (256 ^ q * 2 ^ r)) (show 2 > 0 by omega)
  rw [Nat.mul_assoc, Nat.add_mul_div_left _ _ hK]
  generalize n % (256 ^ q * 2 ^ r) / 256 ^ q = m at *
  have h01 : n / (256 ^ q * 2 ^ r) % 2 = 0 ∨ n / (256 ^ q * 2 ^ r) % 2 = 1 := by omega
  generalize (2 : Nat) ^ r = R at *
  rcases h01 with h | h <;> rw [h]
  · simp
  · rw [Nat.one_mul, Nat.mul_one, Nat.mod_eq_of_lt (by omega), Nat.mod_eq_of_lt (by omega)]
theorem low_digit (n m j : Nat) (h : 8 * (j + 1) ≤ m) : n % 2 ^ m / 256 ^ j % 256 = n / 256 ^ j % 256 := by
  have e : (2 : Nat) ^ m = 256 ^ j * (256 * 2 ^ (m - 8 * (j + 1))) := by
    rw [show (256 : Nat) = 2 ^ 8 by decide, ← Nat.pow_mul, ← Nat.pow_add, ← Nat.pow_add]
    congr 1
    omega
  rw [e, Nat.mod_mul_right_div_self, Nat.mod_mul_right_mod]
theorem high_digit (n m j : Nat) (h : m ≤ 8 * j) : n % 2 ^ m / 256 ^ j % 256 = 0 := by
  have : n % 2 ^ m < 256 ^ j := by
    refine Nat.lt_of_lt_of_le (Nat.mod_lt _ (Nat.two_pow_pos m)) ?_
    rw [show (256 : Nat) = 2 ^ 8 by decide, ← Nat.pow_mul]
    exact Nat.pow_le_pow_right (by omega) h
  rw [Nat.div_eq_of_lt this]
/-- One bit more in an element's row. -/
theorem elem_fill (n k : Nat) (hk : k < 128) : (elem (n % 2 ^ k)).set (k / 8) ((elem (n % 2 ^ k)).getD (k / 8) 0 + (n / 2 ^ k % 2) * 2 ^ (k % 8)) = elem (n % 2 ^ (k + 1)) := by
  refine list_ext16 (by rw [List.length_set]; exact elem_len _) (elem_len _) fun i hi => ?_
  have hf := fill_byte n (k / 8) (k % 8) (by omega)
  rw [show 8 * (k / 8) + k % 8 = k by omega] at hf
  rw [elem_getD _ (by omega : k / 8 < 16), hf, elem_getD _ hi]
  by_cases h : k / 8 = i
  · subst h
    rw [List.getD_eq_getElem?_getD, List.getElem?_set_self (by rw [elem_len]; omega)]; rfl
  · rw [List.getD_eq_getElem?_getD, List.getElem?_set_ne h, ← List.getD_eq_getElem?_getD, elem_getD _ hi]
    by_cases h2 : i < k / 8
    · rw [low_digit n k i (by omega), low_digit n (k + 1) i (by omega)]
    · rw [high_digit n k i (by omega), high_digit n (k + 1) i (by omega)]
end Go.Proofs.Ytckobbddjldflaa
/- The reference's Lowest. No condition but that the number is below 2^128. -/
namespace Go.Proofs.Ytckobbddjldflaa
set_option linter.unusedSimpArgs false
set_option linter.unusedVariables false
set_option linter.unusedSectionVars false
set_option linter.unusedVariables false
open Go.RowKit
theorem u8_fill {x b r : Nat} (h : x + b * 2 ^ r < 256) : ((x : Int) + (b : Int) * 2 ^ r) % 256 = ((x + b * 2 ^ r : Nat) : Int) := by
  have h2 : ((b : Int) * 2 ^ r) = ((b * 2 ^ r : Nat) : Int) := by simp
  rw [h2]
  omega
set_option maxRecDepth 100000 in
set_option maxHeartbeats 4000000 in
theorem lowest_ref (n : Nat) (hn : n < 2 ^ 128) (w : World) :
    Calls Try.prog 51 #[.agg (ints .u8 (polyN n))] w fun e w' => e = .returned (.agg (ints .u8 (elem n))) ∧ Below w.heap.size w w' := by
  have hpl := polyN_len n
  have B0 := ((Blk.new w 77 (ints .u8 (polyN n))).alloc (.cells (ints .u8 (zeros 16)) 22)).alloc (.cells (ints .u8 (zeros 16)) 22)
  have B1 := (Blk.new (w.alloc (.cells (ints .u8 (polyN n)) 77)) 22 (ints .u8 (zeros 16))).alloc (.cells (ints .u8 (zeros 16)) 22)
  have B2 := Blk.new ((w.alloc (.cells (ints .u8 (polyN n)) 77)).alloc (.cells (ints .u8 (zeros 16)) 22)) 22 (ints .u8 (zeros 16))
  rw [World.size_alloc] at B1
  rw [World.size_alloc, World.size_alloc] at B2
  simp only [Nat.add_assoc, Nat.reduceAdd] at B2
  have hbel := (((Below.refl w.heap.size w).alloc (Nat.le_refl _) (.cells (ints .u8 (polyN n)) 77)).alloc (by simp) (.cells (ints .u8 (zeros 16)) 22)).alloc (by simp; omega) (.cells (ints .u8 (zeros 16)) 22)
  have e0 : elem (n % 2 ^ 0) = zeros 16 := by rw [Nat.pow_zero, Nat.mod_one]; decide
  go_enter Try.func51, Try.ntmps51
  go_wp2_with (refine wpList_alloc_ints rfl 22 rfl Try.z22 ?_; (try simp only [Act.put, List.setIfInBounds_toArray, List.set_cons_zero, List.set_cons_succ, World.size_alloc, setRow_size, Nat.add_assoc, Nat.reduceAdd]))
  generalize (((w.alloc (.cells (ints .u8 (polyN n)) 77)).alloc (.cells (ints .u8 (zeros 16)) 22)).alloc (.cells (ints .u8 (zeros 16)) 22)) = w1 at *
  go_loopw [4] (fun t wr => ∃ k : Nat, k ≤ 128 ∧ t = .int .i64 k ∧ Blk wr w.heap.size 77 (ints .u8 (polyN n)) ∧ Blk wr (w.heap.size + 1) 22 (ints .u8 (zeros 16)) ∧ Blk wr (w.heap.size + 2) 22 (ints .u8 (elem (n % 2 ^ k))) ∧ Below w.heap.size w wr) (fun t wr => 128 - (intOf t).toNat)
  case atStart => exact ⟨0, by omega, rfl, B0, B1, by rw [e0]; exact B2, hbel⟩
  case round =>
    rename_i hrel
    obtain ⟨k, hk, rfl, C0, C1, C2, hbelr⟩ := hrel
    have hel := elem_len (n % 2 ^ k)
    by_cases hlt : k < 128
    · have c0 := C0.int (i := k) (by omega)
      rw [polyN_getD n (by omega)] at c0
      have c2 := C2.int (i := k / 8) (by omega)
      have z2 := C2.frozen (k / 8)
      have hf := fill_byte n (k / 8) (k % 8) (by omega)
      rw [show 8 * (k / 8) + k % 8 = k by omega, ← elem_getD _ (by omega : k / 8 < 16)] at hf
      have hs : (elem (n % 2 ^ k)).getD (k / 8) 0 + n / 2 ^ k % 2 * 2 ^ (k % 8) < 256 := by rw [hf]; exact Nat.mod_lt _ (by omega)
      have C2' := C2.intSet (k / 8) ((elem (n % 2 ^ k)).getD (k / 8) 0 + n / 2 ^ k % 2 * 2 ^ (k % 8))
      rw [elem_fill n k hlt] at C2'
      have HF := Lib.hid (u8_fill hs)
      have HC := Lib.hid C2'
      have hx := getD_bound (elem_lt (n % 2 ^ k)) (by omega) (k / 8)
      have hb2 := Nat.mod_lt (n / 2 ^ k) (show 2 > 0 by omega)
      clear C2' hf hs hel
      generalize (elem (n % 2 ^ k)).getD (k / 8) 0 = x at *
      generalize n / 2 ^ k % 2 = b at *
      generalize hqd : k / 8 = q at *
      generalize hrd : k % 8 = r at *
      have hq1 : (k : Int) / 8 = (q : Int) := by omega
      have hr1 : (k : Int) % 8 = (r : Int) := by omega
      have hq0 : (q : Int) < 16 := by omega
      have hr0 : r < 8 := by omega
      clear hqd hrd
      go_wp2
      go_region
      all_goals
        rw [HF.out]
        go_wp2
        exact ⟨⟨k + 1, by omega, by go_num, (C0.far (by first | omega | (simp; done) | (simp; omega)) _).drew, (C1.far (by first | omega | (simp; done) | (simp; omega)) _).drew, HC.out.drew, (hbelr.setCell (by first | omega | (simp; done) | (simp; omega)) _).drew⟩, by simp [intOf] <;> omega⟩
    · obtain rfl : k = 128 := by omega
      rw [Nat.mod_eq_of_lt hn] at C2 hel
      go_wp2_with (first | (refine wpList_load_ints rfl 22 _ rfl (w.heap.size + 2) rfl C2 Try.ar22 hel ?_; (try simp only [Act.put, List.setIfInBounds_toArray, List.set_cons_zero, List.set_cons_succ, World.size_alloc, setRow_size, Nat.add_assoc, Nat.reduceAdd])) | (refine wpList_store_ints rfl 22 _ _ rfl (w.heap.size + 1) rfl rfl C1 (zeros_size _ _) Try.ar22 hel ?_; (try simp only [Act.put, List.setIfInBounds_toArray, List.set_cons_zero, List.set_cons_succ, World.size_alloc, setRow_size, Nat.add_assoc, Nat.reduceAdd])))
      exact ret_ints rfl rfl (C1.row _) Try.ar22 hel ⟨rfl, bSetRow hbelr (by omega) _⟩
end Go.Proofs.Ytckobbddjldflaa
/- The reference's Highest. No condition but that the number is below 2^128. -/
namespace Go.Proofs.Ytckobbddjldflaa
set_option linter.unusedSimpArgs false
set_option linter.unusedVariables false
set_option linter.unusedSectionVars false
set_option linter.unusedVariables false
open Go.RowKit
/-- One bit more in an element's row, by the highest bit first. -/
theorem belem_fill (n k : Nat) (hk : k < 128) : (belem (n % 2 ^ k)).set (15 - k / 8) ((belem (n % 2 ^ k)).getD (15 - k / 8) 0 + (n / 2 ^ k % 2) * 2 ^ (k % 8)) = belem (n % 2 ^ (k + 1)) := by
  refine list_ext16 (by rw [List.length_set]; exact belem_len _) (belem_len _) fun i hi => ?_
  have hf := fill_byte n (k / 8) (k % 8) (by omega)
  rw [show 8 * (k / 8) + k % 8 = k by omega] at hf
  rw [belem_getD _ (by omega : 15 - k / 8 < 16), show 15 - (15 - k / 8) = k / 8 by omega, hf, belem_getD _ hi]
  by_cases h : 15 - k / 8 = i
  · subst h
    rw [List.getD_eq_getElem?_getD, List.getElem?_set_self (by rw [belem_len]; omega), show 15 - (15 - k / 8) = k / 8 by omega]; rfl
  · rw [List.getD_eq_getElem?_getD, List.getElem?_set_ne h, ← List.getD_eq_getElem?_getD, belem_getD _ hi]
    by_cases h2 : 15 - i < k / 8
    · rw [low_digit n k (15 - i) (by omega), low_digit n (k + 1) (15 - i) (by omega)]
    · rw [high_digit n k (15 - i) (by omega), high_digit n (k + 1) (15 - i) (by omega)]
end Go.Proofs.Ytckobbddjldflaa
/- The reference's High. No condition but that bytes are below 256. -/
namespace Go.Proofs.Ytckobbddjldflaa
set_option linter.unusedSimpArgs false
set_option linter.unusedVariables false
set_option linter.unusedSectionVars false
set_option linter.unusedVariables false
open Go.RowKit
end Go.Proofs.Ytckobbddjldflaa
/- Plain laws: a product of polynomials whose powers from x^128 on are put away one by one is the product. No program is spoken of. No condition. -/
namespace Go.Proofs.Ytckobbddjldflaa
set_option linter.unusedSimpArgs false
set_option linter.unusedVariables false
set_option linter.unusedSectionVars false
set_option linter.unusedVariables false
open Gf (up upN mulS mul Lin)
theorem shl_xor (a b j : Nat) : (a ^^^ b) * 2 ^ j = a * 2 ^ j ^^^ b * 2 ^ j := by
  rw [← Nat.shiftLeft_eq, ← Nat.shiftLeft_eq, ← Nat.shiftLeft_eq, Nat.shiftLeft_xor_distrib]
/-- The product, nothing put away, by the first n coefficients of q. -/
def clS (p q : Nat) : Nat → Nat
  | 0 => 0
  | n + 1 => clS p q n ^^^ (if q.testBit n then p * 2 ^ n else 0)
theorem clS_bit (p q n : Nat) : clS p q (n + 1) = clS p q n ^^^ q / 2 ^ n % 2 * (p * 2 ^ n) := by
  show clS p q n ^^^ _ = _
  rw [Gf.if_bit]
/-- One coefficient of p taken in. -/
theorem cl_step (N p i k : Nat) : (N ^^^ p % 2 ^ k * 2 ^ i) ^^^ (p / 2 ^ k % 2) * 2 ^ (i + k) = N ^^^ p % 2 ^ (k + 1) * 2 ^ i := by
  rw [Nat.xor_assoc, Nat.add_comm i k, Nat.pow_add, ← Nat.mul_assoc, ← shl_xor]
  congr 2
  rw [Gf.xor_add k (Nat.mod_lt _ (Nat.two_pow_pos k)), Nat.mod_pow_succ, Nat.mul_comm]
/-- One power put away. -/
def redStep (R j N : Nat) : Nat := N ^^^ (if N.testBit (128 + j) then 2 ^ (128 + j) ^^^ R * 2 ^ j else 0)
def red (R : Nat) : Nat → Nat → Nat
  | 0, N => N
  | j + 1, N => red R j (redStep R j N)
theorem redStep_lin (R j : Nat) : Lin (redStep R j) := fun a b => by
  unfold redStep
  rw [Nat.testBit_xor, Gf.if_xor, Gf.xor4]
theorem red_lin (R : Nat) : ∀ j, Lin (red R j)
  | 0 => Lin.id
  | j + 1 => (red_lin R j).comp (redStep_lin R j)
theorem redStep_none {R j N : Nat} (h : N < 2 ^ (128 + j)) : redStep R j N = N := by
  unfold redStep
  rw [Nat.testBit_lt_two_pow h]; simp
theorem red_skip {R N k : Nat} (h : N < 2 ^ (128 + k)) : ∀ m, red R (k + m) N = red R k N
  | 0 => rfl
  | m + 1 => by
    show red R (k + m) (redStep R (k + m) N) = _
    rw [redStep_none (Nat.lt_of_lt_of_le h (Nat.pow_le_pow_right (by omega) (by omega))), red_skip h m]
theorem bit_shl (x i j : Nat) : (x * 2 ^ i).testBit (j + i) = x.testBit j := by
  rw [← Nat.shiftLeft_eq, Nat.testBit_shiftLeft]
  simp
theorem redStep_up {R : Nat} {x : Nat} (hx : x < 2 ^ 128) (j : Nat) : redStep R j (x * 2 ^ (j + 1)) = up R x * 2 ^ j := by
  have e : x * 2 ^ (j + 1) = 2 * x * 2 ^ j := by rw [Nat.pow_succ, Nat.mul_comm (2 ^ j), ← Nat.mul_assoc, Nat.mul_comm x 2]
  have hb : (x * 2 ^ (j + 1)).testBit (128 + j) = x.testBit 127 := by
    rw [show 128 + j = 127 + (j + 1) by omega]; exact bit_shl x (j + 1) 127
  unfold redStep
  rw [hb, e]
  have ht := Gf.top_split (2 * x) 128 (by omega)
  have hb2 : (2 * x).testBit 128 = x.testBit 127 := by
    have := bit_shl x 1 127
    rw [Nat.pow_one, Nat.mul_comm x 2] at this; exact this
  rw [hb2] at ht
  unfold up
  rw [shl_xor]
  cases hc : x.testBit 127
  · rw [hc] at ht
    simp only [Bool.false_eq_true, if_false, Nat.xor_zero, Nat.zero_mul] at ht ⊢
    rw [← ht]
  · rw [hc] at ht
    simp only [if_true] at ht ⊢
    generalize 2 * x % 2 ^ 128 = y at *
    rw [ht, shl_xor, ← Nat.pow_add]
    apply Gf.bit_ext; intro i
    simp only [Nat.testBit_xor]
    cases (y * 2 ^ j).testBit i <;> cases (2 ^ (128 + j)).testBit i <;> cases (R * 2 ^ j).testBit i <;> rfl
theorem red_up {R : Nat} (hR : R < 2 ^ 128) : ∀ j {x : Nat}, x < 2 ^ 128 → red R j (x * 2 ^ j) = upN R j x
  | 0, x, _ => by show x * 2 ^ 0 = x; rw [Nat.pow_zero, Nat.mul_one]
  | j + 1, x, hx => by
    show red R j (redStep R j (x * 2 ^ (j + 1))) = _
    rw [redStep_up hx, red_up hR j (Gf.up_lt hR x), ← Gf.upN_succ']
theorem red_shl {R : Nat} (hR : R < 2 ^ 128) {p n : Nat} (hp : p < 2 ^ 128) (hn : n ≤ 127) : red R 127 (p * 2 ^ n) = upN R n p := by
  have h : p * 2 ^ n < 2 ^ (128 + n) := by
    rw [Nat.pow_add]; exact Nat.mul_lt_mul_of_pos_right hp (Nat.two_pow_pos n)
  have := red_skip (R := R) h (127 - n)
  rw [show n + (127 - n) = 127 by omega] at this
  rw [this, red_up hR n hp]
theorem red_clS {R : Nat} (hR : R < 2 ^ 128) {p : Nat} (hp : p < 2 ^ 128) (q : Nat) : ∀ n, n ≤ 128 → red R 127 (clS p q n) = mulS R p q n
  | 0, _ => (red_lin R 127).zero
  | n + 1, h => by
    show red R 127 (clS p q n ^^^ _) = mulS R p q n ^^^ _
    rw [red_lin, red_clS hR hp q n (by omega)]
    congr 1
    split
    · exact red_shl hR hp (by omega)
    · exact (red_lin R 127).zero
theorem red_cl {R : Nat} (hR : R < 2 ^ 128) {p : Nat} (hp : p < 2 ^ 128) (q : Nat) : red R 127 (clS p q 128) = mul R p q := red_clS hR hp q 128 (Nat.le_refl _)
/-- What is put in the place of x^128. -/
def R3 (a b c : Nat) : Nat := 2 ^ a ^^^ 2 ^ b ^^^ 2 ^ c ^^^ 1
theorem R3_lt {a b c : Nat} (ha : a < 128) (hb : b < 128) (hc : c < 128) : R3 a b c < 2 ^ 128 := by
  have h : ∀ x, x < 128 → 2 ^ x < 2 ^ 128 := fun x hx => Nat.pow_lt_pow_right (by omega) hx
  exact Nat.xor_lt_two_pow (Nat.xor_lt_two_pow (Nat.xor_lt_two_pow (h a ha) (h b hb)) (h c hc)) (by decide)
theorem red_yes {N j a b c : Nat} (h : N / 2 ^ (128 + j) % 2 = 1) : ((((N ^^^ 1 * 2 ^ (128 + j)) ^^^ 1 * 2 ^ (j + a)) ^^^ 1 * 2 ^ (j + b)) ^^^ 1 * 2 ^ (j + c)) ^^^ 1 * 2 ^ j = redStep (R3 a b c) j N := by
  unfold redStep R3
  have hb : N.testBit (128 + j) = true := by rw [Nat.testBit_eq_decide_div_mod_eq, h]; rfl
  rw [hb, if_pos rfl, shl_xor, shl_xor, shl_xor, ← Nat.pow_add, ← Nat.pow_add, ← Nat.pow_add, Nat.add_comm a, Nat.add_comm b, Nat.add_comm c]
  simp only [Nat.one_mul, Nat.xor_assoc]
theorem red_no {N j : Nat} (R : Nat) (h : N / 2 ^ (128 + j) % 2 = 0) : redStep R j N = N := by
  unfold redStep
  have hb : N.testBit (128 + j) = false := by rw [Nat.testBit_eq_decide_div_mod_eq, h]; rfl
  rw [hb]; simp
/-- One coefficient turned. -/
theorem polyN_flip (n k : Nat) (hk : k < 256) : (polyN n).set k ((n / 2 ^ k % 2) ^^^ 1) = polyN (n ^^^ 1 * 2 ^ k) := polyN_set n 1 k hk (by omega)
theorem polyN_clear (n k : Nat) (hk : k < 256) (h : n / 2 ^ k % 2 = 1) : (polyN n).set k 0 = polyN (n ^^^ 1 * 2 ^ k) := by
  have := polyN_set n 1 k hk (by omega)
  rw [h] at this; exact this
end Go.Proofs.Ytckobbddjldflaa
/- The reference's rest: the product of two polynomials, the powers from x^128 on put away. No condition but that both are below x^128 and the three places below 128. -/
namespace Go.Proofs.Ytckobbddjldflaa
set_option linter.unusedSimpArgs false
set_option linter.unusedVariables false
set_option linter.unusedSectionVars false
set_option linter.unusedVariables false
open Go.RowKit
open Gf (up upN mulS mul)
theorem Try.one5 : IsOne Try.prog 5 := by unfold IsOne; kernel_rfl
theorem poly_cell {W : World} {g t N : Nat} (h : Blk W g t (ints .u8 (polyN N))) (k : Nat) (hk : k < 256) : ∃ v : Nat, v < 2 ∧ Hid (N / 2 ^ k % 2 = v) ∧ W.cell? ⟨g, k, none⟩ = some (.int .u8 (v : Int)) ∧ bits BinOp.xor IntKind.u8 (v : Int) 1 = ((v ^^^ 1 : Nat) : Int) := by
  have e := h.int (i := k) (by rw [polyN_len]; exact hk)
  rw [polyN_getD N hk] at e
  exact ⟨_, by omega, Lib.hid rfl, e, u8xor (a := N / 2 ^ k % 2) (b := 1) (by omega) (by omega)⟩
theorem poly_flip {W : World} {g t N k v : Nat} (H : Hid (N / 2 ^ k % 2 = v)) (hk : k < 256) (h : Blk W g t (ints .u8 ((polyN N).set k (v ^^^ 1)))) : Blk W g t (ints .u8 (polyN (N ^^^ 1 * 2 ^ k))) := by
  rw [← H.out, polyN_flip N k hk] at h; exact h
set_option maxRecDepth 100000 in
set_option maxHeartbeats 20000000 in
theorem rest_ref (p q a b c : Nat) (hp : p < 2 ^ 128) (hq : q < 2 ^ 128) (ha : a < 128) (hb : b < 128) (hc : c < 128) (w : World) :
    Calls Try.prog 49 #[.agg (ints .u8 (polyN p)), .agg (ints .u8 (polyN q)), .int .i64 (a : Int), .int .i64 (b : Int), .int .i64 (c : Int)] w fun e w' => e = .returned (.agg (ints .u8 (polyN (mul (R3 a b c) p q)))) ∧ Below w.heap.size w w' := by
  have hpl := polyN_len p
  have hql := polyN_len q
  have HR := Lib.hid (red_cl (R3_lt ha hb hc) hp q)
  have B0 := (((Blk.new w 77 (ints .u8 (polyN p))).alloc (.cells (ints .u8 (polyN q)) 77)).alloc (.cells (ints .u8 (zeros 256)) 77)).alloc (.cells (ints .u8 (zeros 256)) 77)
  have B1 := ((Blk.new (w.alloc (.cells (ints .u8 (polyN p)) 77)) 77 (ints .u8 (polyN q))).alloc (.cells (ints .u8 (zeros 256)) 77)).alloc (.cells (ints .u8 (zeros 256)) 77)
  have B2 := (Blk.new ((w.alloc (.cells (ints .u8 (polyN p)) 77)).alloc (.cells (ints .u8 (polyN q)) 77)) 77 (ints .u8 (zeros 256))).alloc (.cells (ints .u8 (zeros 256)) 77)
  have B3 := Blk.new (((w.alloc (.cells (ints .u8 (polyN p)) 77)).alloc (.cells (ints .u8 (polyN q)) 77)).alloc (.cells (ints .u8 (zeros 256)) 77)) 77 (ints .u8 (zeros 256))
  rw [World.size_alloc] at B1
  rw [World.size_alloc, World.size_alloc] at B2
  rw [World.size_alloc, World.size_alloc, World.size_alloc] at B3
  simp only [Nat.add_assoc, Nat.reduceAdd] at B2 B3
  have hbel := ((((Below.refl w.heap.size w).alloc (Nat.le_refl _) (.cells (ints .u8 (polyN p)) 77)).alloc (by simp) (.cells (ints .u8 (polyN q)) 77)).alloc (by simp; omega) (.cells (ints .u8 (zeros 256)) 77)).alloc (by simp; omega) (.cells (ints .u8 (zeros 256)) 77)
  go_enter Try.func49, Try.ntmps49
  go_wp2_with (refine wpList_alloc_ints rfl 77 rfl Try.z77 ?_; (try simp only [Act.put, List.setIfInBounds_toArray, List.set_cons_zero, List.set_cons_succ, World.size_alloc, setRow_size, Nat.add_assoc, Nat.reduceAdd]))
  generalize ((((w.alloc (.cells (ints .u8 (polyN p)) 77)).alloc (.cells (ints .u8 (polyN q)) 77)).alloc (.cells (ints .u8 (zeros 256)) 77)).alloc (.cells (ints .u8 (zeros 256)) 77)) = w1 at *
  rw [← polyN_zero] at B3
  go_loopw [12] (fun t wr => ∃ i : Nat, i ≤ 128 ∧ t = .int .i64 i ∧ Blk wr w.heap.size 77 (ints .u8 (polyN p)) ∧ Blk wr (w.heap.size + 1) 77 (ints .u8 (polyN q)) ∧ Blk wr (w.heap.size + 2) 77 (ints .u8 (zeros 256)) ∧ Blk wr (w.heap.size + 3) 77 (ints .u8 (polyN (clS p q i))) ∧ Below w.heap.size w wr) (fun t wr => 128 - (intOf t).toNat)
  case atStart => exact ⟨0, by omega, rfl, B0, B1, B2, B3, hbel⟩
  case round =>
    rename_i hrel
    obtain ⟨i, hi, rfl, C0, C1, C2, C3, hbelr⟩ := hrel
    by_cases hlt : i < 128
    · have c1 := C1.int (i := i) (by omega)
      rw [polyN_getD q (by omega)] at c1
      have hd0 : decide ((i : Int) < 128) = true := by simp; omega
      have Hb := Lib.hid (clS_bit p q i)
      rcases Nat.mod_two_eq_zero_or_one (q / 2 ^ i) with h2 | h2
      · rw [h2] at c1 Hb
        have hn : clS p q (i + 1) = clS p q i := by rw [Hb.out, Nat.zero_mul, Nat.xor_zero]
        rw [← hn] at C3
        have HC := Lib.hid C3
        clear hn C3 Hb h2
        go_wp2
        exact ⟨⟨i + 1, by omega, by go_num, C0, C1, C2, HC.out, hbelr⟩, by simp [intOf] <;> omega⟩
      · rw [h2] at c1 Hb
        have hq1 : ((((1 : Nat) : Int)) == 0) = false := by decide
        clear h2
        rw [Nat.one_mul] at Hb
        go_wp2
        obtain ⟨wo, rfl⟩ : ∃ wo : World, wo = wr := ⟨_, rfl⟩
        go_loopw [13] (fun t wr => ∃ k : Nat, k ≤ 128 ∧ t = .int .i64 k ∧ Blk wr w.heap.size 77 (ints .u8 (polyN p)) ∧ Blk wr (w.heap.size + 1) 77 (ints .u8 (polyN q)) ∧ Blk wr (w.heap.size + 2) 77 (ints .u8 (zeros 256)) ∧ Blk wr (w.heap.size + 3) 77 (ints .u8 (polyN (clS p q i ^^^ p % 2 ^ k * 2 ^ i))) ∧ Below w.heap.size w wr) (fun t wr => 128 - (intOf t).toNat)
        case atStart => exact ⟨0, by omega, rfl, C0, C1, C2, by rw [Nat.pow_zero, Nat.mod_one, Nat.zero_mul, Nat.xor_zero]; exact C3, hbelr⟩
        case round =>
          rename_i hrel
          obtain ⟨k, hk, rfl, D0, D1, D2, D3, hbel4⟩ := hrel
          clear C0 C1 C2 C3 hbelr c1
          by_cases hlk : k < 128
          · have d0 := D0.int (i := k) (by omega)
            rw [polyN_getD p (by omega)] at d0
            have hN := polyN_len (clS p q i ^^^ p % 2 ^ k * 2 ^ i)
            have d3 := D3.int (i := i + k) (by omega)
            rw [polyN_getD _ (by omega)] at d3
            have z3 := D3.frozen (i + k)
            have hv := polyN_set (clS p q i ^^^ p % 2 ^ k * 2 ^ i) (p / 2 ^ k % 2) (i + k) (by omega) (by omega)
            rw [cl_step] at hv
            have D3' := D3.intSet (i + k) (((clS p q i ^^^ p % 2 ^ k * 2 ^ i) / 2 ^ (i + k) % 2) ^^^ (p / 2 ^ k % 2))
            rw [hv] at D3'
            have HD := Lib.hid D3'
            have hb1 : (clS p q i ^^^ p % 2 ^ k * 2 ^ i) / 2 ^ (i + k) % 2 < 256 := by omega
            have hb2 : p / 2 ^ k % 2 < 256 := by omega
            clear hv D3'
            generalize (clS p q i ^^^ p % 2 ^ k * 2 ^ i) / 2 ^ (i + k) % 2 = x at *
            generalize p / 2 ^ k % 2 = y at *
            have hx := u8xor hb1 hb2
            have hd0 : decide ((k : Int) < 128) = true := by simp; omega
            clear Hb
            go_wp2
            go_region
            all_goals

              go_wp2
              exact ⟨⟨k + 1, by omega, by go_num, (D0.far (by first | omega | (simp; done) | (simp; omega)) _).drew, (D1.far (by first | omega | (simp; done) | (simp; omega)) _).drew, (D2.far (by first | omega | (simp; done) | (simp; omega)) _).drew, HD.out.drew, (hbel4.setCell (by first | omega | (simp; done) | (simp; omega)) _).drew⟩, by simp [intOf] <;> omega⟩
          · obtain rfl : k = 128 := by omega
            rw [Nat.mod_eq_of_lt hp, ← Hb.out] at D3
            clear Hb
            go_wp2
            exact ⟨⟨i + 1, by omega, by go_num, D0, D1, D2, D3, hbel4⟩, by simp [intOf] <;> omega⟩
    · obtain rfl : i = 128 := by omega
      have HH : Hid (red (R3 a b c) 127 (clS p q 128) = mul (R3 a b c) p q) := HR
      clear HR B0 B1 B2 B3 hbel
      generalize clS p q 128 = N0 at *
      obtain ⟨M, HM⟩ : ∃ M, Hid (mul (R3 a b c) p q = M) := ⟨_, Lib.hid rfl⟩
      rw [HM.out] at HH
      go_wp2
      obtain ⟨wo, rfl⟩ : ∃ wo : World, wo = wr := ⟨_, rfl⟩
      go_loopw [14] (fun t wr => ∃ m N : Nat, m ≤ 127 ∧ t = .int .i64 ((127 + m : Nat) : Int) ∧ red (R3 a b c) m N = M ∧ Blk wr (w.heap.size + 2) 77 (ints .u8 (zeros 256)) ∧ Blk wr (w.heap.size + 3) 77 (ints .u8 (polyN N)) ∧ Below w.heap.size w wr) (fun t wr => (intOf t).toNat)
      case atStart => exact ⟨127, N0, by omega, rfl, HH.out, C2, C3, hbelr⟩
      case round =>
        rename_i hrel
        obtain ⟨m, N, hm, rfl, hred, D2, D3, hbel4⟩ := hrel
        clear C0 C1 C2 C3 hbelr
        have hN := polyN_len N
        rcases m with _ | j
        · obtain rfl : N = M := hred
          clear HH
          have hfin : decide ((127 : Int) ≥ 128) = false := by decide
          go_wp2_with (first | (refine wpList_load_ints rfl 77 _ rfl (w.heap.size + 3) rfl D3 Try.ar77 hN ?_; (try simp only [Act.put, List.setIfInBounds_toArray, List.set_cons_zero, List.set_cons_succ, World.size_alloc, setRow_size, Nat.add_assoc, Nat.reduceAdd])) | (refine wpList_store_ints rfl 77 _ _ rfl (w.heap.size + 2) rfl rfl D2 (zeros_size _ _) Try.ar77 hN ?_; (try simp only [Act.put, List.setIfInBounds_toArray, List.set_cons_zero, List.set_cons_succ, World.size_alloc, setRow_size, Nat.add_assoc, Nat.reduceAdd])))
          exact ret_ints rfl rfl (D2.row _) Try.ar77 hN ⟨by rw [HM.out], bSetRow hbel4 (by omega) _⟩
        · clear HH
          have hred' : red (R3 a b c) j (redStep (R3 a b c) j N) = M := hred
          have HR := Lib.hid hred'
          clear hred hred'
          rw [show 127 + (j + 1) = 128 + j by omega]
          obtain ⟨i, hi⟩ : ∃ i : Nat, i = 128 + j := ⟨_, rfl⟩
          rw [← hi]
          have hge : decide ((i : Int) ≥ 128) = true := by simp; omega
          have hi256 : i < 255 := by omega
          have hi0 : 128 ≤ i := by omega
          have hsub : (i : Int) - 128 = (j : Int) := by omega
          have hnext : (i : Int) - 1 = ((127 + j : Nat) : Int) := by omega
          have Hi := Lib.hid hi
          have Hnext := Lib.hid hnext
          clear hi hnext
          obtain ⟨v, hv, H, c3, -⟩ := poly_cell D3 i (by omega)
          have hv2 : v = 0 ∨ v = 1 := by omega
          rcases hv2 with rfl | rfl
          · have hno : redStep (R3 a b c) j N = N := red_no _ (by rw [← Hi.out]; exact H.out)
            have HN := Lib.hid hno
            clear hno
            go_wp2
            exact ⟨⟨j, N, by omega, by rw [Hnext.out], by rw [← HR.out, HN.out], D2, D3, hbel4⟩, by simp [intOf] <;> omega⟩
          · have HY : Hid (((((N ^^^ 1 * 2 ^ i) ^^^ 1 * 2 ^ (j + a)) ^^^ 1 * 2 ^ (j + b)) ^^^ 1 * 2 ^ (j + c)) ^^^ 1 * 2 ^ j = redStep (R3 a b c) j N) := Lib.hid (by rw [Hi.out]; exact red_yes (by rw [← Hi.out]; exact H.out))
            go_wp2_with (first
              | (refine wpList_store_one rfl 5 _ _ rfl Try.one5 D3 i 0 rfl rfl (by omega) ?_; intro w2 E2 F2; rw [polyN_clear N i (by omega) H.out] at E2; obtain ⟨v2, hv2, H2, e2, x2⟩ := poly_cell E2 (j + a) (by omega); (try simp only [Act.put, List.setIfInBounds_toArray, List.set_cons_zero, List.set_cons_succ, World.size_alloc, setRow_size, Nat.add_assoc, Nat.reduceAdd]))
              | (refine wpList_store_one rfl 5 _ _ rfl Try.one5 E2 (j + a) (v2 ^^^ 1) rfl rfl (by rw [polyN_len]; omega) ?_; intro w3 E3' F3; have E3 := poly_flip H2 (by omega) E3'; clear E3'; obtain ⟨v3, hv3, H3, e3, x3⟩ := poly_cell E3 (j + b) (by omega); (try simp only [Act.put, List.setIfInBounds_toArray, List.set_cons_zero, List.set_cons_succ, World.size_alloc, setRow_size, Nat.add_assoc, Nat.reduceAdd]))
              | (refine wpList_store_one rfl 5 _ _ rfl Try.one5 E3 (j + b) (v3 ^^^ 1) rfl rfl (by rw [polyN_len]; omega) ?_; intro w4 E4' F4; have E4 := poly_flip H3 (by omega) E4'; clear E4'; obtain ⟨v4, hv4, H4, e4, x4⟩ := poly_cell E4 (j + c) (by omega); (try simp only [Act.put, List.setIfInBounds_toArray, List.set_cons_zero, List.set_cons_succ, World.size_alloc, setRow_size, Nat.add_assoc, Nat.reduceAdd]))
              | (refine wpList_store_one rfl 5 _ _ rfl Try.one5 E4 (j + c) (v4 ^^^ 1) rfl rfl (by rw [polyN_len]; omega) ?_; intro w5 E5' F5; have E5 := poly_flip H4 (by omega) E5'; clear E5'; obtain ⟨v5, hv5, H5, e5, x5⟩ := poly_cell E5 j (by omega); (try simp only [Act.put, List.setIfInBounds_toArray, List.set_cons_zero, List.set_cons_succ, World.size_alloc, setRow_size, Nat.add_assoc, Nat.reduceAdd]))
              | (refine wpList_store_one rfl 5 _ _ rfl Try.one5 E5 j (v5 ^^^ 1) rfl rfl (by rw [polyN_len]; omega) ?_; intro w6 E6' F6; have E6 := poly_flip H5 (by omega) E6'; clear E6'; (try simp only [Act.put, List.setIfInBounds_toArray, List.set_cons_zero, List.set_cons_succ, World.size_alloc, setRow_size, Nat.add_assoc, Nat.reduceAdd])))
            rw [HY.out] at E6
            exact ⟨⟨j, redStep (R3 a b c) j N, by omega, by rw [Hnext.out], HR.out, F6.blk (F5.blk (F4.blk (F3.blk (F2.blk D2 (by omega)) (by omega)) (by omega)) (by omega)) (by omega), E6, F6.below (F5.below (F4.below (F3.below (F2.below hbel4 (by omega)) (by omega)) (by omega)) (by omega)) (by omega)⟩, by simp [intOf] <;> omega⟩
end Go.Proofs.Ytckobbddjldflaa
/- The reference's Times, Double and Multiple. No condition but that bytes are below 256 and the number below 2^64. -/
namespace Go.Proofs.Ytckobbddjldflaa
set_option linter.unusedSimpArgs false
set_option linter.unusedVariables false
set_option linter.unusedSectionVars false
set_option linter.unusedVariables false
open Go.RowKit
open Gf (up upN mulS mul R1)
theorem R3_1 : R3 127 126 121 = R1 := by decide
theorem R3_2 : R3 7 2 1 = R2 := by decide
theorem rest1_ref (p q : Nat) (hp : p < 2 ^ 128) (hq : q < 2 ^ 128) (w : World) :
    Calls Try.prog 49 #[.agg (ints .u8 (polyN p)), .agg (ints .u8 (polyN q)), .int .i64 127, .int .i64 126, .int .i64 121] w fun e w' => e = .returned (.agg (ints .u8 (polyN (mul R1 p q)))) ∧ Below w.heap.size w w' := by
  have h := rest_ref p q 127 126 121 hp hq (by omega) (by omega) (by omega) w
  rw [R3_1] at h; exact h
theorem rest2_ref (p q : Nat) (hp : p < 2 ^ 128) (hq : q < 2 ^ 128) (w : World) :
    Calls Try.prog 49 #[.agg (ints .u8 (polyN p)), .agg (ints .u8 (polyN q)), .int .i64 7, .int .i64 2, .int .i64 1] w fun e w' => e = .returned (.agg (ints .u8 (polyN (mul R2 p q)))) ∧ Below w.heap.size w w' := by
  have h := rest_ref p q 7 2 1 hp hq (by omega) (by omega) (by omega) w
  rw [R3_2] at h; exact h
theorem mul_two {x : Nat} : mul R2 x 2 = up R2 x := Gf.mul_pow R2 x (i := 1) (by omega)
theorem polyN_two : (zeros 256).set 1 1 = polyN 2 := by
  have := polyN_set 0 1 1 (by omega) (by omega)
  rw [polyN_zero] at this
  exact this
end Go.Proofs.Ytckobbddjldflaa
/- The reference's Multiple. No condition but that bytes are below 256 and the number below 2^64. -/
namespace Go.Proofs.Ytckobbddjldflaa
set_option linter.unusedSimpArgs false
set_option linter.unusedVariables false
set_option linter.unusedSectionVars false
set_option linter.unusedVariables false
open Go.RowKit
open Gf (up upN mulS mul R1)
theorem polyN_fill (n k : Nat) (hk : k < 256) : (polyN (n % 2 ^ k)).set k (n / 2 ^ k % 2) = polyN (n % 2 ^ (k + 1)) := by
  have h := polyN_set (n % 2 ^ k) (n / 2 ^ k % 2) k hk (by omega)
  rw [Nat.div_eq_of_lt (Nat.mod_lt n (Nat.two_pow_pos k)), Nat.zero_mod, Nat.zero_xor, Gf.xor_add k (Nat.mod_lt _ (Nat.two_pow_pos k))] at h
  rw [h, Nat.mod_pow_succ, Nat.mul_comm]
end Go.Proofs.Ytckobbddjldflaa
/- The reference's Dot. No condition but that bytes are below 256. -/
namespace Go.Proofs.Ytckobbddjldflaa
set_option linter.unusedSimpArgs false
set_option linter.unusedVariables false
set_option linter.unusedSectionVars false
set_option linter.unusedVariables false
open Go.RowKit
open Gf (up upN mulS mul R1 D1 dot down downN)
/-- The coefficients moved down by one, the first k of them. -/
def shL (M k : Nat) : List Nat := (polyN (M / 2)).take k ++ (polyN M).drop k
theorem shL_len (M : Nat) {k : Nat} (hk : k ≤ 256) : (shL M k).length = 256 := by
  unfold shL
  rw [List.length_append, List.length_take, List.length_drop, polyN_len, polyN_len]; omega
theorem half_bit (M k : Nat) : M / 2 / 2 ^ k % 2 = M / 2 ^ (k + 1) % 2 := by
  rw [Nat.div_div_eq_div_mul, Nat.pow_succ, Nat.mul_comm 2]
theorem shL_zero (M : Nat) : shL M 0 = polyN M := by simp [shL]
theorem shL_get (M : Nat) {k : Nat} (hk : k < 255) : (shL M k).getD (k + 1) 0 = M / 2 ^ (k + 1) % 2 := by
  unfold shL
  rw [List.getD_eq_getElem?_getD, List.getElem?_append_right (by rw [List.length_take, polyN_len]; omega), List.length_take, polyN_len, Nat.min_eq_left (by omega), List.getElem?_drop, show k + (k + 1 - k) = k + 1 by omega, polyN_get M (by omega)]; rfl
theorem shL_set (M : Nat) {k : Nat} (hk : k < 256) : (shL M k).set k (M / 2 ^ (k + 1) % 2) = shL M (k + 1) := by
  unfold shL
  rw [List.set_append_right _ _ (by rw [List.length_take, polyN_len]; omega), List.length_take, polyN_len, Nat.min_eq_left (by omega), Nat.sub_self]
  have hd : (polyN M).drop k = (M / 2 ^ k % 2) :: (polyN M).drop (k + 1) := by
    rw [List.drop_eq_getElem_cons (by rw [polyN_len]; exact hk)]
    congr 1
    have := polyN_get M hk
    rw [List.getElem?_eq_getElem (by rw [polyN_len]; exact hk)] at this
    exact Option.some.inj this
  rw [hd, List.set_cons_zero, List.take_add_one, polyN_get _ hk, half_bit]
  simp
theorem shL_end {M : Nat} (hM : M < 2 ^ 129) : (shL M 128).set 128 0 = polyN (M / 2) := by
  have h0 : ∀ j, 128 ≤ j → M / 2 / 2 ^ j % 2 = 0 := fun j hj => by
    rw [Nat.div_eq_of_lt (Nat.lt_of_lt_of_le (show M / 2 < 2 ^ 128 by omega) (Nat.pow_le_pow_right (by omega) hj))]
  apply List.ext_getElem? fun j => ?_
  by_cases hj : j < 256
  · rw [polyN_get _ hj, List.getElem?_set, shL_len M (by omega)]
    by_cases h : 128 = j
    · subst h
      rw [if_pos rfl, if_pos (by omega), h0 128 (by omega)]
    · rw [if_neg h]
      unfold shL
      by_cases h2 : j < 128
      · rw [List.getElem?_append_left (by rw [List.length_take, polyN_len]; omega), List.getElem?_take, if_pos h2, polyN_get _ hj]
      · rw [List.getElem?_append_right (by rw [List.length_take, polyN_len]; omega), List.length_take, polyN_len, List.getElem?_drop, show 128 + (j - min 128 256) = j by omega, polyN_get _ hj, h0 j (by omega),
          Nat.div_eq_of_lt (Nat.lt_of_lt_of_le hM (Nat.pow_le_pow_right (by omega) (by omega)))]
  · rw [List.getElem?_eq_none (by rw [List.length_set, shL_len M (by omega)]; omega), List.getElem?_eq_none (by rw [polyN_len]; omega)]
theorem dot_odd {N : Nat} (h : N / 2 ^ 0 % 2 = 1) : (((((N ^^^ 1 * 2 ^ 0) ^^^ 1 * 2 ^ 121) ^^^ 1 * 2 ^ 126) ^^^ 1 * 2 ^ 127) ^^^ 1 * 2 ^ 128) / 2 = down D1 N := by
  unfold down
  have hb : N.testBit 0 = true := by rw [Nat.testBit_eq_decide_div_mod_eq, h]; rfl
  rw [hb, if_pos rfl]
  simp only [Gf.half_xor, Nat.xor_assoc]
  congr 1
theorem dot_even {N : Nat} (h : N / 2 ^ 0 % 2 = 0) : N / 2 = down D1 N := by
  unfold down
  have hb : N.testBit 0 = false := by rw [Nat.testBit_eq_decide_div_mod_eq, h]; rfl
  rw [hb]; simp
theorem poly_top {W : World} {g t X : Nat} (hX : X < 2 ^ 128) (h : Blk W g t (ints .u8 ((polyN X).set 128 1))) : Blk W g t (ints .u8 (polyN (X ^^^ 1 * 2 ^ 128))) := by
  have := polyN_set X 1 128 (by omega) (by omega)
  rw [Nat.div_eq_of_lt hX, show (0 % 2) ^^^ 1 = 1 by decide] at this
  rw [this] at h; exact h
theorem xor_pow_lt {X k : Nat} (h : X < 2 ^ 128) (hk : k < 128) : X ^^^ 1 * 2 ^ k < 2 ^ 128 := Nat.xor_lt_two_pow h (by rw [Nat.one_mul]; exact Nat.pow_lt_pow_right (by omega) hk)
set_option maxRecDepth 100000 in
set_option maxHeartbeats 20000000 in
theorem dot_ref (as_ bs : List Nat) (hl : as_.length = 16) (hb : ∀ x ∈ as_, x < 256) (hl' : bs.length = 16) (hb' : ∀ x ∈ bs, x < 256) (w : World) :
    Calls Try.prog 38 #[.agg (ints .u8 as_), .agg (ints .u8 bs)] w fun e w' => e = .returned (.agg (ints .u8 (elem (dot R1 D1 (num as_) (num bs))))) ∧ Below w.heap.size w w' := by
  have hx := num_lt hl hb
  have hy := num_lt hl' hb'
  have hd := Gf.mul_lt Gf.R1_lt hx (num bs)
  have hpl := polyN_len (mul R1 (num as_) (num bs))
  have hel := elem_len (dot R1 D1 (num as_) (num bs))
  have B0 := ((Blk.new w 22 (ints .u8 as_)).alloc (.cells (ints .u8 bs) 22)).alloc (.cells (ints .u8 (zeros 16)) 22)
  have B1 := (Blk.new (w.alloc (.cells (ints .u8 as_) 22)) 22 (ints .u8 bs)).alloc (.cells (ints .u8 (zeros 16)) 22)
  have B2 := Blk.new ((w.alloc (.cells (ints .u8 as_) 22)).alloc (.cells (ints .u8 bs) 22)) 22 (ints .u8 (zeros 16))
  rw [World.size_alloc] at B1
  rw [World.size_alloc, World.size_alloc] at B2
  simp only [Nat.add_assoc, Nat.reduceAdd] at B2
  have hbel := (((Below.refl w.heap.size w).alloc (Nat.le_refl _) (.cells (ints .u8 as_) 22)).alloc (by simp) (.cells (ints .u8 bs) 22)).alloc (by simp; omega) (.cells (ints .u8 (zeros 16)) 22)
  go_enter Try.func38, Try.ntmps38
  go_wp2_with (refine wpList_alloc_ints rfl 22 rfl Try.z22 ?_; (try simp only [Act.put, List.setIfInBounds_toArray, List.set_cons_zero, List.set_cons_succ, World.size_alloc, setRow_size, Nat.add_assoc, Nat.reduceAdd]))
  generalize (((w.alloc (.cells (ints .u8 as_) 22)).alloc (.cells (ints .u8 bs) 22)).alloc (.cells (ints .u8 (zeros 16)) 22)) = w0 at *
  refine wp_region_inv (by kernel_rfl) (by kernel_rfl) (fun D a W => ∃ u5 u8 u9 u10 u11 u12 : Value, a = { tmps := #[.agg (ints .u8 as_), .agg (ints .u8 bs), .pointer (some ⟨w.heap.size, 0, none⟩), .pointer (some ⟨w.heap.size + 1, 0, none⟩), .pointer (some ⟨w.heap.size + 2, 0, none⟩), u5, undef, undef, u8, u9, u10, u11, u12, undef, undef, undef, undef, undef, undef, undef, undef, undef, undef, undef, undef, undef, undef, undef, undef, undef, undef, undef, undef, undef, undef, undef, undef, undef, undef, undef, undef, undef, undef, undef, undef, undef, undef], defers := [] } ∧ Below w0.heap.size w0 W ∧ (D 0 → u8 = .agg (ints .u8 as_)) ∧ (D 1 → u9 = .agg (ints .u8 (polyN (num as_)))) ∧ (D 2 → u10 = .agg (ints .u8 bs)) ∧ (D 3 → u11 = .agg (ints .u8 (polyN (num bs)))) ∧ (D 4 → u12 = .agg (ints .u8 (polyN (mul R1 (num as_) (num bs))))) ∧ (D 5 → Al W w0.heap.size u5 77 256 .u8 (D 6) (polyN (mul R1 (num as_) (num bs)))) ∧ (D 6 → D 5)) ?_ ?_ ?_
  · exact ⟨_, _, _, _, _, _, rfl, ⟨rfl, rfl, rfl, Nat.le_refl _, fun _ _ => rfl⟩, (fun h => h.elim), (fun h => h.elim), (fun h => h.elim), (fun h => h.elim), (fun h => h.elim), (fun h => h.elim), (fun h => h.elim)⟩
  · intro i o hi D a W hI hnD hall
    obtain ⟨u5, u8, u9, u10, u11, u12, rfl, hW, f0, f1, f2, f3, f4, f5, f6⟩ := hI
    rcases i with _ | _ | _ | _ | _ | _ | _ | i
    · simp only [Nat.zero_add, Nat.reduceAdd, List.getElem?_toArray, List.getElem?_cons_succ, List.getElem?_cons_zero, Option.some.injEq] at hi
      subst hi
      refine wpOp_load rfl rfl rfl rfl (B0.below' hW) Try.ar22 hl ?_
      exact ⟨_, _, _, _, _, _, rfl, hW, (fun _ => rfl), (fun h => f1 (h.resolve_left (by decide))), (fun h => f2 (h.resolve_left (by decide))), (fun h => f3 (h.resolve_left (by decide))), (fun h => f4 (h.resolve_left (by decide))), (fun h => (f5 (h.resolve_left (by decide))).same (fun h' => h'.resolve_left (by decide))), (fun h => .inr (f6 (h.resolve_left (by decide))))⟩
    · simp only [Nat.zero_add, Nat.reduceAdd, List.getElem?_toArray, List.getElem?_cons_succ, List.getElem?_cons_zero, Option.some.injEq] at hi
      subst hi
      obtain rfl := f0 (pre_of hall 0 rfl)
      refine wpOp_call 50 rfl rfl rfl Try.func50 (by kernel_rfl) (by kernel_rfl) (low_ref as_ hl hb W) ?_
      intro W' hW'
      exact ⟨_, _, _, _, _, _, rfl, bCall hW hW' hW.size, (fun h => f0 (h.resolve_left (by decide))), (fun _ => rfl), (fun h => f2 (h.resolve_left (by decide))), (fun h => f3 (h.resolve_left (by decide))), (fun h => f4 (h.resolve_left (by decide))), (fun h => (f5 (h.resolve_left (by decide))).below hW' (fun h' => h'.resolve_left (by decide))), (fun h => .inr (f6 (h.resolve_left (by decide))))⟩
    · simp only [Nat.zero_add, Nat.reduceAdd, List.getElem?_toArray, List.getElem?_cons_succ, List.getElem?_cons_zero, Option.some.injEq] at hi
      subst hi
      refine wpOp_load rfl rfl rfl rfl (B1.below' hW) Try.ar22 hl' ?_
      exact ⟨_, _, _, _, _, _, rfl, hW, (fun h => f0 (h.resolve_left (by decide))), (fun h => f1 (h.resolve_left (by decide))), (fun _ => rfl), (fun h => f3 (h.resolve_left (by decide))), (fun h => f4 (h.resolve_left (by decide))), (fun h => (f5 (h.resolve_left (by decide))).same (fun h' => h'.resolve_left (by decide))), (fun h => .inr (f6 (h.resolve_left (by decide))))⟩
    · simp only [Nat.zero_add, Nat.reduceAdd, List.getElem?_toArray, List.getElem?_cons_succ, List.getElem?_cons_zero, Option.some.injEq] at hi
      subst hi
      obtain rfl := f2 (pre_of hall 2 rfl)
      refine wpOp_call 50 rfl rfl rfl Try.func50 (by kernel_rfl) (by kernel_rfl) (low_ref bs hl' hb' W) ?_
      intro W' hW'
      exact ⟨_, _, _, _, _, _, rfl, bCall hW hW' hW.size, (fun h => f0 (h.resolve_left (by decide))), (fun h => f1 (h.resolve_left (by decide))), (fun h => f2 (h.resolve_left (by decide))), (fun _ => rfl), (fun h => f4 (h.resolve_left (by decide))), (fun h => (f5 (h.resolve_left (by decide))).below hW' (fun h' => h'.resolve_left (by decide))), (fun h => .inr (f6 (h.resolve_left (by decide))))⟩
    · simp only [Nat.zero_add, Nat.reduceAdd, List.getElem?_toArray, List.getElem?_cons_succ, List.getElem?_cons_zero, Option.some.injEq] at hi
      subst hi
      obtain rfl := f1 (pre_of hall 1 rfl)
      obtain rfl := f3 (pre_of hall 3 rfl)
      refine wpOp_call 49 rfl rfl rfl Try.func49 (by kernel_rfl) (by kernel_rfl) (rest1_ref (num as_) (num bs) hx hy W) ?_
      intro W' hW'
      exact ⟨_, _, _, _, _, _, rfl, bCall hW hW' hW.size, (fun h => f0 (h.resolve_left (by decide))), (fun h => f1 (h.resolve_left (by decide))), (fun h => f2 (h.resolve_left (by decide))), (fun h => f3 (h.resolve_left (by decide))), (fun _ => rfl), (fun h => (f5 (h.resolve_left (by decide))).below hW' (fun h' => h'.resolve_left (by decide))), (fun h => .inr (f6 (h.resolve_left (by decide))))⟩
    · simp only [Nat.zero_add, Nat.reduceAdd, List.getElem?_toArray, List.getElem?_cons_succ, List.getElem?_cons_zero, Option.some.injEq] at hi
      subst hi
      refine wpOp_alloc rfl rfl rfl Try.z77 ?_
      have hnS : ¬ (6 = 5 ∨ D 6) := fun h => h.elim (by decide) (fun h => hnD (f6 h))
      exact ⟨_, _, _, _, _, _, rfl, hW.alloc hW.size _, (fun h => f0 (h.resolve_left (by decide))), (fun h => f1 (h.resolve_left (by decide))), (fun h => f2 (h.resolve_left (by decide))), (fun h => f3 (h.resolve_left (by decide))), (fun h => f4 (h.resolve_left (by decide))), (fun _ => Al.new hW.size (fun h => (hnS h).elim)), (fun _ => .inl rfl)⟩
    · simp only [Nat.zero_add, Nat.reduceAdd, List.getElem?_toArray, List.getElem?_cons_succ, List.getElem?_cons_zero, Option.some.injEq] at hi
      subst hi
      obtain rfl := f4 (pre_of hall 4 rfl)
      obtain ⟨g, l, rfl, hg, hl0, hB, hst⟩ := f5 (pre_of hall 5 rfl)
      refine wpOp_store rfl rfl rfl rfl rfl hB ((ints_size _ _).trans hl0) Try.ar77 hpl ?_
      exact ⟨_, _, _, _, _, _, rfl, bSetRow hW hg _, (fun h => f0 (h.resolve_left (by decide))), (fun h => f1 (h.resolve_left (by decide))), (fun h => f2 (h.resolve_left (by decide))), (fun h => f3 (h.resolve_left (by decide))), (fun h => f4 (h.resolve_left (by decide))), (fun _ => Al.set hB hg hpl), (fun _ => .inr (pre_of hall 5 rfl))⟩
    · exfalso; simp at hi
  · rintro D a W ⟨u5, u8, u9, u10, u11, u12, rfl, hW, f0, f1, f2, f3, f4, f5, f6⟩ hall
    obtain rfl := f0 (hall 0 (by decide))
    obtain rfl := f1 (hall 1 (by decide))
    obtain rfl := f2 (hall 2 (by decide))
    obtain rfl := f3 (hall 3 (by decide))
    obtain rfl := f4 (hall 4 (by decide))
    obtain ⟨g5, l5, rfl, hg5, -, hB5, hl5⟩ := f5 (hall 5 (by decide))
    obtain rfl := hl5 (hall 6 (by decide))
    clear f0 f1 f2 f3 f4 f5 f6 hall
    have C2 := B2.below' hW
    have hlt2 := B2.lt
    have hbel1 := bCall hbel hW (by omega)
    have hg : w.heap.size + 2 < g5 := by omega
    clear B0 B1 B2 hbel hW hl5 hg5
    have hdot : downN D1 128 (mul R1 (num as_) (num bs)) = dot R1 D1 (num as_) (num bs) := rfl
    have HD := Lib.hid hdot
    clear hdot hpl
    obtain ⟨x, Hx⟩ : ∃ x, Hid (mul R1 (num as_) (num bs) = x) := ⟨_, Lib.hid rfl⟩
    rw [Hx.out] at hB5 hd HD
    go_wp2
    go_loopw [6] (fun t wr => ∃ i : Nat, i ≤ 128 ∧ t = .int .i64 i ∧ Blk wr (w.heap.size + 2) 22 (ints .u8 (zeros 16)) ∧ Blk wr g5 77 (ints .u8 (polyN (downN D1 i x))) ∧ Below w.heap.size w wr) (fun t wr => 128 - (intOf t).toNat)
    case atStart => exact ⟨0, by omega, rfl, C2, hB5, hbel1⟩
    case round =>
      rename_i hrel
      obtain ⟨i, hi, rfl, D2, C5, hbelr⟩ := hrel
      clear C2 hB5 hbel1
      by_cases hlt : i < 128
      · have hN := Gf.downN_lt Gf.pair1.d hd i
        have Hs := Lib.hid (show downN D1 (i + 1) x = down D1 (downN D1 i x) from rfl)
        generalize downN D1 i x = N at *
        have hd0 : decide ((i : Int) < 128) = true := by simp; omega
        obtain ⟨v, hv, H, c0, -⟩ := poly_cell C5 0 (by omega)
        have hv2 : v = 0 ∨ v = 1 := by omega
        rcases hv2 with rfl | rfl
        · have HM := Lib.hid (dot_even H.out)
          have hM := Lib.hid (show N < 2 ^ 129 from Nat.lt_of_lt_of_le hN (by decide))
          clear hN H
          rw [← HM.out] at Hs
          clear HM
          go_wp2
          obtain ⟨M, rfl⟩ : ∃ M, M = N := ⟨_, rfl⟩
          have G2 := D2
          have G5 := C5
          have hbel6 := hbelr
          clear D2 C5 hbelr c0
          rw [← shL_zero M] at G5
          go_loopw [7] (fun t wr => ∃ k : Nat, k ≤ 128 ∧ t = .int .i64 k ∧ Blk wr (w.heap.size + 2) 22 (ints .u8 (zeros 16)) ∧ Blk wr g5 77 (ints .u8 (shL M k)) ∧ Below w.heap.size w wr) (fun t wr => 128 - (intOf t).toNat)
          case atStart => exact ⟨0, by omega, rfl, G2, G5, hbel6⟩
          case round =>
            rename_i hrel
            obtain ⟨k, hk, rfl, I2, I5, hbel7⟩ := hrel
            clear G2 G5 hbel6
            have hSl := shL_len M (show k ≤ 256 by omega)
            by_cases hlk : k < 128
            · have c7 := I5.int (i := k + 1) (by omega)
              rw [shL_get M (by omega)] at c7
              have hset := shL_set M (show k < 256 by omega)
              generalize M / 2 ^ (k + 1) % 2 = v at *
              have HS := Lib.hid hset
              clear hset
              have hd1 : decide ((k : Int) < 128) = true := by simp; omega
              go_wp2_with (refine wpList_store_one rfl 5 _ _ rfl Try.one5 I5 k v rfl rfl (by omega) ?_; intro w7 J5 F7; rw [HS.out] at J5; (try simp only [Act.put, List.setIfInBounds_toArray, List.set_cons_zero, List.set_cons_succ, World.size_alloc, setRow_size, Nat.add_assoc, Nat.reduceAdd]))
              exact ⟨⟨k + 1, by omega, by go_num, F7.blk I2 (by omega), J5, F7.below hbel7 (by omega)⟩, by simp [intOf] <;> omega⟩
            · obtain rfl : k = 128 := by omega
              go_wp2_with (refine wpList_store_one rfl 5 _ _ rfl Try.one5 I5 128 0 rfl rfl (by omega) ?_; intro w7 J5 F7; rw [shL_end hM.out, ← Hs.out] at J5; (try simp only [Act.put, List.setIfInBounds_toArray, List.set_cons_zero, List.set_cons_succ, World.size_alloc, setRow_size, Nat.add_assoc, Nat.reduceAdd]))
              exact ⟨⟨i + 1, by omega, by go_num, F7.blk I2 (by omega), J5, F7.below hbel7 (by omega)⟩, by simp [intOf] <;> omega⟩
        · have hN1 := xor_pow_lt hN (show 0 < 128 by omega)
          have hN2 := xor_pow_lt hN1 (show 121 < 128 by omega)
          have hN3 := xor_pow_lt hN2 (show 126 < 128 by omega)
          have hN4 := xor_pow_lt hN3 (show 127 < 128 by omega)
          have HM := Lib.hid (dot_odd H.out)
          have hM : ((((N ^^^ 1 * 2 ^ 0) ^^^ 1 * 2 ^ 121) ^^^ 1 * 2 ^ 126) ^^^ 1 * 2 ^ 127) ^^^ 1 * 2 ^ 128 < 2 ^ 129 := Nat.xor_lt_two_pow (Nat.lt_of_lt_of_le hN4 (by decide)) (by decide)
          have hN4 := Lib.hid hN4
          have hM := Lib.hid hM
          clear hN hN1 hN2 hN3
          rw [← HM.out] at Hs
          go_wp2_with (first
              | (refine wpList_store_one rfl 5 _ _ rfl Try.one5 C5 0 0 rfl rfl (by rw [polyN_len]; omega) ?_; intro w2 E2 F2; rw [polyN_clear N 0 (by omega) H.out] at E2; obtain ⟨v2, hv2, H2, e2, x2⟩ := poly_cell E2 121 (by omega); (try simp only [Act.put, List.setIfInBounds_toArray, List.set_cons_zero, List.set_cons_succ, World.size_alloc, setRow_size, Nat.add_assoc, Nat.reduceAdd]))
              | (refine wpList_store_one rfl 5 _ _ rfl Try.one5 E2 121 (v2 ^^^ 1) rfl rfl (by rw [polyN_len]; omega) ?_; intro w3 E3' F3; have E3 := poly_flip H2 (by omega) E3'; clear E3'; obtain ⟨v3, hv3, H3, e3, x3⟩ := poly_cell E3 126 (by omega); (try simp only [Act.put, List.setIfInBounds_toArray, List.set_cons_zero, List.set_cons_succ, World.size_alloc, setRow_size, Nat.add_assoc, Nat.reduceAdd]))
              | (refine wpList_store_one rfl 5 _ _ rfl Try.one5 E3 126 (v3 ^^^ 1) rfl rfl (by rw [polyN_len]; omega) ?_; intro w4 E4' F4; have E4 := poly_flip H3 (by omega) E4'; clear E4'; obtain ⟨v4, hv4, H4, e4, x4⟩ := poly_cell E4 127 (by omega); (try simp only [Act.put, List.setIfInBounds_toArray, List.set_cons_zero, List.set_cons_succ, World.size_alloc, setRow_size, Nat.add_assoc, Nat.reduceAdd]))
              | (refine wpList_store_one rfl 5 _ _ rfl Try.one5 E4 127 (v4 ^^^ 1) rfl rfl (by rw [polyN_len]; omega) ?_; intro w5 E5' F5; have E5 := poly_flip H4 (by omega) E5'; clear E5'; (try simp only [Act.put, List.setIfInBounds_toArray, List.set_cons_zero, List.set_cons_succ, World.size_alloc, setRow_size, Nat.add_assoc, Nat.reduceAdd]))
              | (refine wpList_store_one rfl 5 _ _ rfl Try.one5 E5 128 1 rfl rfl (by rw [polyN_len]; omega) ?_; intro w6 E6' F6; have E6 := poly_top hN4.out E6'; clear E6'; (try simp only [Act.put, List.setIfInBounds_toArray, List.set_cons_zero, List.set_cons_succ, World.size_alloc, setRow_size, Nat.add_assoc, Nat.reduceAdd])))
          obtain ⟨M, HMM⟩ : ∃ M, Hid (((((N ^^^ 1 * 2 ^ 0) ^^^ 1 * 2 ^ 121) ^^^ 1 * 2 ^ 126) ^^^ 1 * 2 ^ 127) ^^^ 1 * 2 ^ 128 = M) := ⟨_, Lib.hid rfl⟩
          rw [HMM.out] at E6 Hs hM
          have G2 := F6.blk (F5.blk (F4.blk (F3.blk (F2.blk D2 (by omega)) (by omega)) (by omega)) (by omega)) (by omega)
          have hbel6 := F6.below (F5.below (F4.below (F3.below (F2.below hbelr (by omega)) (by omega)) (by omega)) (by omega)) (by omega)
          have G5 := E6
          clear F6 F5 F4 F3 F2 E6 E5 E4 E3 E2 D2 C5 hbelr H H2 H3 H4 HMM HM hN4 e2 e3 e4 c0 x2 x3 x4 hv2 hv3 hv4
          rw [← shL_zero M] at G5
          go_loopw [7] (fun t wr => ∃ k : Nat, k ≤ 128 ∧ t = .int .i64 k ∧ Blk wr (w.heap.size + 2) 22 (ints .u8 (zeros 16)) ∧ Blk wr g5 77 (ints .u8 (shL M k)) ∧ Below w.heap.size w wr) (fun t wr => 128 - (intOf t).toNat)
          case atStart => exact ⟨0, by omega, rfl, G2, G5, hbel6⟩
          case round =>
            rename_i hrel
            obtain ⟨k, hk, rfl, I2, I5, hbel7⟩ := hrel
            clear G2 G5 hbel6
            have hSl := shL_len M (show k ≤ 256 by omega)
            by_cases hlk : k < 128
            · have c7 := I5.int (i := k + 1) (by omega)
              rw [shL_get M (by omega)] at c7
              have hset := shL_set M (show k < 256 by omega)
              generalize M / 2 ^ (k + 1) % 2 = v at *
              have HS := Lib.hid hset
              clear hset
              have hd1 : decide ((k : Int) < 128) = true := by simp; omega
              go_wp2_with (refine wpList_store_one rfl 5 _ _ rfl Try.one5 I5 k v rfl rfl (by omega) ?_; intro w7 J5 F7; rw [HS.out] at J5; (try simp only [Act.put, List.setIfInBounds_toArray, List.set_cons_zero, List.set_cons_succ, World.size_alloc, setRow_size, Nat.add_assoc, Nat.reduceAdd]))
              exact ⟨⟨k + 1, by omega, by go_num, F7.blk I2 (by omega), J5, F7.below hbel7 (by omega)⟩, by simp [intOf] <;> omega⟩
            · obtain rfl : k = 128 := by omega
              go_wp2_with (refine wpList_store_one rfl 5 _ _ rfl Try.one5 I5 128 0 rfl rfl (by omega) ?_; intro w7 J5 F7; rw [shL_end hM.out, ← Hs.out] at J5; (try simp only [Act.put, List.setIfInBounds_toArray, List.set_cons_zero, List.set_cons_succ, World.size_alloc, setRow_size, Nat.add_assoc, Nat.reduceAdd]))
              exact ⟨⟨i + 1, by omega, by go_num, F7.blk I2 (by omega), J5, F7.below hbel7 (by omega)⟩, by simp [intOf] <;> omega⟩
      · obtain rfl : i = 128 := by omega
        have hdl := Gf.downN_lt Gf.pair1.d hd 128
        rw [HD.out] at C5 hdl
        have hpl := polyN_len (dot R1 D1 (num as_) (num bs))
        have Hdl := Lib.hid hdl
        clear hdl hd
        go_wp2_with (refine wpList_load_ints rfl 77 _ rfl g5 rfl C5 Try.ar77 hpl ?_; (try simp only [Act.put, List.setIfInBounds_toArray, List.set_cons_zero, List.set_cons_succ, World.size_alloc, setRow_size, Nat.add_assoc, Nat.reduceAdd]))
        refine (lowest_ref _ Hdl.out _).mono ?_
        rintro e w8 ⟨rfl, hb8⟩
        have K2 := D2.below' hb8
        have hbel8 := bCall hbelr hb8 hbelr.size
        go_wp2_with (refine wpList_store_ints rfl 22 _ _ rfl (w.heap.size + 2) rfl rfl K2 (zeros_size _ _) Try.ar22 hel ?_; (try simp only [Act.put, List.setIfInBounds_toArray, List.set_cons_zero, List.set_cons_succ, World.size_alloc, setRow_size, Nat.add_assoc, Nat.reduceAdd]))
        exact ret_ints rfl rfl (K2.row _) Try.ar22 hel ⟨rfl, bSetRow hbel8 (by omega) _⟩
end Go.Proofs.Ytckobbddjldflaa
