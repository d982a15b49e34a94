/- The walk of ValKinds. No condition but that the numbers are below 2^32. -/
import Derived.Test.YtckobbddjldflaaL11b
namespace Go.Proofs.Ytckobbddjldflaa
set_option linter.unusedSimpArgs false
set_option linter.unusedVariables false
set_option linter.unusedSectionVars false
set_option linter.unusedVariables false
open Go.RowKit
theorem kinds_flip (n : Nat) : (lenL n true).set 0 ((lenL n true).getD 0 0 ^^^ 1) = lenL n false := by
  have h1 : lenL n true = (16 * n + 2) % 256 :: dig 256 15 ((16 * n + 2) / 256) := rfl
  have h2 : lenL n false = (16 * n + 3) % 256 :: dig 256 15 ((16 * n + 3) / 256) := rfl
  rw [h1, h2, List.set_cons_zero, List.getD_cons_zero, show (16 * n + 2) / 256 = (16 * n + 3) / 256 by omega]
  congr 1
  have e : (16 * n + 2) % 256 = 2 ^ 1 * ((16 * n + 2) % 256 / 2) := by omega
  have h := Nat.two_pow_add_eq_or_of_lt (i := 1) (b := 1) (by omega) ((16 * n + 2) % 256 / 2)
  have hx : 2 ^ 1 * ((16 * n + 2) % 256 / 2) ^^^ 1 = 2 ^ 1 * ((16 * n + 2) % 256 / 2) + 1 := by
    apply Nat.eq_of_testBit_eq
    intro i
    rw [Nat.testBit_xor]
    cases i with
    | zero => simp [Nat.testBit_zero] <;> omega
    | succ i => simp [Nat.testBit_succ] <;> (congr 1 <;> omega)
  rw [← e] at hx
  rw [hx]
  omega
theorem lenL_eq {n m : Nat} (hn : n < 2 ^ 32) (hm : m < 2 ^ 32) : (lenL n true == lenL m true) = decide (n = m) := by
  rw [Bool.eq_iff_iff, beq_iff_eq, decide_eq_true_eq]
  exact ⟨fun h => (lenL_inj (by omega) (by omega) h).1, fun h => by rw [h]⟩
theorem lenL_ne {n m : Nat} (hn : n < 2 ^ 32) (hm : m < 2 ^ 32) : (lenL n true == lenL m false) = false := by
  rw [Bool.eq_false_iff]
  intro h
  rw [beq_iff_eq] at h
  have := (lenL_inj (by omega) (by omega) h).2
  cases this
set_option maxRecDepth 100000 in
set_option maxHeartbeats 8000000 in
theorem valKinds_c (n m : Nat) (hn : n < 2 ^ 32) (hm : m < 2 ^ 32) (w : World) :
    Calls Try.prog 8 #[.int .u32 n, .int .u32 m] w fun e w' => e = .returned (.bool true) ∧ Below w.heap.size w w' := by
  have hn63 : n < 2 ^ 63 := by omega
  have hm63 : m < 2 ^ 63 := by omega
  have hnI : (n : Int) < 4294967296 := by omega
  have hmI : (m : Int) < 4294967296 := by omega
  have H1 := Lib.hid fun b W => length11_c n hn63 b W
  have H2 := Lib.hid fun b W => length11_c m hm63 b W
  have f1 := fun W => same16d (lenL n false) (lenL n false) (lenL_len _ _) rfl W
  have f2 := fun W => eq16d (lenL n true) (lenL m true) (lenL_len _ _) (lenL_len _ _) W
  have f3 := fun W => ne16d (lenL n true) (lenL m false) (lenL_len _ _) (lenL_len _ _) W
  rw [lenL_eq hn hm] at f2
  rw [lenL_ne hn hm] at f3
  have F1 := Lib.hid f1
  have F2 := Lib.hid f2
  have F3 := Lib.hid f3
  have hfl := kinds_flip n
  have l1 := lenL_len n true
  have l2 := lenL_len n false
  have hx0 := getD_bound (lenL_lt n true) (by omega) 0
  have Hx := Lib.hid (show bits BinOp.xor IntKind.u8 (((lenL n true).getD 0 0 : Nat) : Int) 1 = (((lenL n true).getD 0 0 ^^^ 1 : Nat) : Int) from u8_xor_nat _ 1 hx0 (by omega))
  clear f1 f2 f3 hn63 hm63
  go_enter Try.func8, Try.ntmps8
  go_wp2_with fail
  refine (H1.out true _).mono ?_
  rintro e w1 ⟨rfl, hb1⟩
  go_wp2_with fail
  refine (H1.out false _).mono ?_
  rintro e w2 ⟨rfl, hb2⟩
  have hbel2 := bCall hb1 hb2 hb1.size
  have A5 := (Blk.new w2 22 (ints .u8 (zeros 16))).alloc (.cells (ints .u8 (zeros 16)) 22)
  have A6 := Blk.new (w2.alloc (.cells (ints .u8 (zeros 16)) 22)) 22 (ints .u8 (zeros 16))
  rw [World.size_alloc] at A6
  have hs2 := hbel2.size
  have hbel3 := bSetRow (bSetRow ((hbel2.alloc hs2 (.cells (ints .u8 (zeros 16)) 22)).alloc (by rw [World.size_alloc]; omega) (.cells (ints .u8 (zeros 16)) 22)) hs2 (ints .u8 (lenL n true))) (show w.heap.size ≤ w2.heap.size + 1 by omega) (ints .u8 (lenL n false))
  have B5 := A5.row (ints .u8 (lenL n true))
  have B6 := A6.rowFar (show w2.heap.size + 1 ≠ w2.heap.size by omega) (ints .u8 (lenL n true))
  have C5 := B5.rowFar (show w2.heap.size ≠ w2.heap.size + 1 by omega) (ints .u8 (lenL n false))
  have C6 := B6.row (ints .u8 (lenL n false))
  have c0 := C5.int (i := 0) (by omega)
  go_wp2_with (first
    | (refine wpList_alloc_ints rfl 22 rfl Try.z22 ?_; (try simp only [Act.put, List.setIfInBounds_toArray, List.set_cons_zero, List.set_cons_succ, World.size_alloc, setRow_size, Nat.add_assoc, Nat.reduceAdd]))
    | (refine wpList_store_ints (k := .u8) (xs := lenL n true) rfl 22 _ _ rfl w2.heap.size rfl rfl A5 (zeros_size _ _) Try.ar22 l1 ?_; (try simp only [Act.put, List.setIfInBounds_toArray, List.set_cons_zero, List.set_cons_succ, World.size_alloc, setRow_size, Nat.add_assoc, Nat.reduceAdd]))
    | (refine wpList_store_ints (k := .u8) (xs := lenL n false) rfl 22 _ _ rfl (w2.heap.size + 1) rfl rfl B6 (zeros_size _ _) Try.ar22 l2 ?_; (try simp only [Act.put, List.setIfInBounds_toArray, List.set_cons_zero, List.set_cons_succ, World.size_alloc, setRow_size, Nat.add_assoc, Nat.reduceAdd]))
    | (refine wpList_store_one rfl 5 _ _ rfl Try.one8 C5 0 ((lenL n true).getD 0 0 ^^^ 1) rfl (congrArg (Value.int IntKind.u8) Hx.out) (by omega) ?_; intro w3 D5 F5; rw [hfl] at D5; have D6 := F5.blk C6 (by omega); have hbel4 := F5.below hbel3 hs2; have f1 := F1.out; (try simp only [Act.put, List.setIfInBounds_toArray, List.set_cons_zero, List.set_cons_succ, World.size_alloc, setRow_size, Nat.add_assoc, Nat.reduceAdd]))
    | (refine wpList_load_ints rfl 22 _ rfl w2.heap.size rfl D5 Try.ar22 l2 ?_; (try simp only [Act.put, List.setIfInBounds_toArray, List.set_cons_zero, List.set_cons_succ, World.size_alloc, setRow_size, Nat.add_assoc, Nat.reduceAdd]))
    | (refine wpList_load_ints rfl 22 _ rfl (w2.heap.size + 1) rfl D6 Try.ar22 l2 ?_; (try simp only [Act.put, List.setIfInBounds_toArray, List.set_cons_zero, List.set_cons_succ, World.size_alloc, setRow_size, Nat.add_assoc, Nat.reduceAdd])))
  refine (H1.out true _).mono ?_
  rintro e w4 ⟨rfl, hb4⟩
  have hbel5 := bCall hbel4 hb4 hbel4.size
  go_wp2_with fail
  refine (H2.out true _).mono ?_
  rintro e w5 ⟨rfl, hb5⟩
  have hbel6 := bCall hbel5 hb5 hbel5.size
  have f2 := F2.out
  clear f1
  have f3 : ∀ W : World, (binOp .neq 22 (.agg (ints .u8 (lenL n true))) (.agg (ints .u8 (lenL m false)))).run Try.prog W = .ok (.bool true) W := F3.out
  by_cases hnm : n = m
  · have hq : ((n : Int) == (m : Int)) = true := by simp [hnm]
    have hq2 : decide (n = m) = true := by simp [hnm]
    rw [hq2] at f2
    have Hnm := Lib.hid hnm
    clear hnm hq2
    go_wp2_with fail
    refine (H1.out true _).mono ?_
    rintro e w6 ⟨rfl, hb6⟩
    have hbel7 := bCall hbel6 hb6 hbel6.size
    go_wp2_with fail
    refine (H2.out false _).mono ?_
    rintro e w7 ⟨rfl, hb7⟩
    have hbel8 := bCall hbel7 hb7 hbel7.size
    go_wp2_with fail
    refine (awake11_c _).mono ?_
    rintro e w8 ⟨rfl, hb8⟩
    have hbel9 := bCall hbel8 hb8 hbel8.size
    go_wp2_with fail
    go_ret
    exact ⟨rfl, hbel9⟩
  · have hq : ((n : Int) == (m : Int)) = false := by simp; omega
    have hq2 : decide (n = m) = false := by simp [hnm]
    rw [hq2] at f2
    clear hnm hq2
    go_wp2_with fail
    refine (H1.out true _).mono ?_
    rintro e w6 ⟨rfl, hb6⟩
    have hbel7 := bCall hbel6 hb6 hbel6.size
    go_wp2_with fail
    refine (H2.out false _).mono ?_
    rintro e w7 ⟨rfl, hb7⟩
    have hbel8 := bCall hbel7 hb7 hbel7.size
    go_wp2_with fail
    refine (awake11_c _).mono ?_
    rintro e w8 ⟨rfl, hb8⟩
    have hbel9 := bCall hbel8 hb8 hbel8.size
    go_wp2_with fail
    go_ret
    exact ⟨rfl, hbel9⟩
end Go.Proofs.Ytckobbddjldflaa
