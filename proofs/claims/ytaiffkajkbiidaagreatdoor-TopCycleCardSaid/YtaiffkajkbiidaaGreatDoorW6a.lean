/- BLAKE2b's lowest functions: sums of two words, turned words. No condition but that words are below 2^64. -/
import Derived.Test.YtaiffkajkbiidaaGreatDoorW16c
import Derived.Laws.Externs
namespace Go.Proofs.YtaiffkajkbiidaaGreatDoor
set_option linter.unusedSimpArgs false
set_option linter.unusedVariables false
set_option linter.unusedSectionVars false
set_option linter.unusedVariables false
open Go.RowKit
theorem add64_r (x y c : Nat) (hc : c ≤ 1) (w : World) :
    (callFunc 73 #[.int .u64 (x : Int), .int .u64 (y : Int), .int .u64 (c : Int)]).run Tryz.prog w = .ok (.value (.tuple #[.int .u64 (((x + y + c) % 18446744073709551616 : Nat) : Int), .int .u64 (((x + y + c) / 18446744073709551616 : Nat) : Int)])) w := by
  rw [run_callFunc_extern Tryz.func73 (by kernel_rfl) (by kernel_rfl) (by kernel_rfl) (e := add64Entry) (by kernel_rfl), run_add64 x y c (by omega) (by omega) (by omega) (by omega)]
  simp only [Result.andThen]
  congr 5 <;> omega
theorem Tryz.arW : IsArr Tryz.prog 149 2 := isStr Tryz.underlying149 (by kernel_rfl)
theorem Tryz.zW : IsZero Tryz.prog 149 2 .u64 := isZero (by kernel_rfl)
set_option maxRecDepth 100000 in
set_option maxHeartbeats 4000000 in
theorem wplusG_c (x0 x1 y0 y1 : Nat) (h0 : x0 < 18446744073709551616) (h1 : x1 < 18446744073709551616) (k0 : y0 < 18446744073709551616) (k1 : y1 < 18446744073709551616) (w : World) :
    Calls Tryz.prog 70 #[.agg (ints .u64 [x0, x1]), .agg (ints .u64 [y0, y1])] w fun e w' => e = .returned (.agg (ints .u64 [(x0 + y0) % 18446744073709551616, (x1 + y1 + (x0 + y0) / 18446744073709551616) % 18446744073709551616])) ∧ Below w.heap.size w w' := by
  have B0 := ((Blk.new w 149 (ints .u64 [x0, x1])).alloc (.cells (ints .u64 [y0, y1]) 149)).alloc (.cells (ints .u64 (zeros 2)) 149)
  have B1 := (Blk.new (w.alloc (.cells (ints .u64 [x0, x1]) 149)) 149 (ints .u64 [y0, y1])).alloc (.cells (ints .u64 (zeros 2)) 149)
  have B2 := Blk.new ((w.alloc (.cells (ints .u64 [x0, x1]) 149)).alloc (.cells (ints .u64 [y0, y1]) 149)) 149 (ints .u64 (zeros 2))
  rw [World.size_alloc] at B1
  rw [World.size_alloc, World.size_alloc] at B2
  simp only [Nat.add_assoc, Nat.reduceAdd] at B2
  have hbel := (((Below.refl w.heap.size w).alloc (Nat.le_refl _) (.cells (ints .u64 [x0, x1]) 149)).alloc (by simp) (.cells (ints .u64 [y0, y1]) 149)).alloc (by simp; omega) (.cells (ints .u64 (zeros 2)) 149)
  have hq : (x0 + y0) / 18446744073709551616 ≤ 1 := by omega
  have a0 := fun W => add64_r x0 y0 0 (by omega) W
  have a1 := fun W => add64_r x1 y1 ((x0 + y0) / 18446744073709551616) hq W
  simp only [Nat.add_zero, show ((0 : Nat) : Int) = 0 from rfl] at a0
  have c0 := B0.int (i := 0) (by simp)
  have c1 := B0.int (i := 1) (by simp)
  have d0 := B1.int (i := 0) (by simp)
  have d1 := B1.int (i := 1) (by simp)
  simp only [List.getD_cons_zero, List.getD_cons_succ] at c0 c1 d0 d1
  obtain ⟨q, Hq⟩ : ∃ q, q = (x0 + y0) / 18446744073709551616 := ⟨_, rfl⟩
  obtain ⟨s, Hs⟩ : ∃ s, s = (x0 + y0) % 18446744073709551616 := ⟨_, rfl⟩
  rw [← Hq, ← Hs] at a0
  rw [← Hq] at a1
  obtain ⟨t, Ht⟩ : ∃ t, t = (x1 + y1 + q) % 18446744073709551616 := ⟨_, rfl⟩
  obtain ⟨u, Hu⟩ : ∃ u, u = (x1 + y1 + q) / 18446744073709551616 := ⟨_, rfl⟩
  rw [← Ht, ← Hu] at a1
  have HQ := Lib.hid Hq
  have HS := Lib.hid Hs
  have HT := Lib.hid Ht
  clear Hq Hs Ht Hu hq
  go_enter Tryz.func70, Tryz.ntmps70
  go_wp2_with (first | (refine wpList_alloc_ints rfl 149 rfl Tryz.zW ?_; (try simp only [Act.put, List.setIfInBounds_toArray, List.set_cons_zero, List.set_cons_succ, World.size_alloc, setRow_size, Nat.add_assoc, Nat.reduceAdd])) | (refine wpList_store_ints (k := .u64) (xs := [s, t]) rfl 149 _ _ rfl (w.heap.size + 2) rfl rfl B2 (zeros_size _ _) Tryz.arW rfl ?_; (try simp only [Act.put, List.setIfInBounds_toArray, List.set_cons_zero, List.set_cons_succ, World.size_alloc, setRow_size, Nat.add_assoc, Nat.reduceAdd])))
  refine ret_ints rfl rfl (B2.row _) Tryz.arW rfl ⟨?_, bSetRow hbel (by omega) _⟩
  rw [HQ.out] at HT
  rw [HS.out, HT.out]
def m64 : Nat := 18446744073709551616
theorem xor64 {a b : Nat} (ha : a < 18446744073709551616) (hb : b < 18446744073709551616) : ∃ n : Nat, n < 18446744073709551616 ∧ bits BinOp.xor IntKind.u64 (a : Int) (b : Int) = (n : Int) :=
  ⟨a ^^^ b, Nat.xor_lt_two_pow (n := 64) ha hb, u64_xor_nat a b ha hb⟩
theorem wrap64e (x : Int) : ∃ n : Nat, n < 18446744073709551616 ∧ IntKind.u64.wrap x = (n : Int) := ⟨(IntKind.u64.wrap x).toNat, by rw [IntKind.wrap_u64]; omega, by rw [IntKind.wrap_u64]; omega⟩
def rotW (x s : Nat) : Nat := (x * 2 ^ s % 18446744073709551616) ||| (x / 2 ^ (64 - s))
theorem rotW_lt {x s : Nat} (hx : x < 18446744073709551616) : rotW x s < 18446744073709551616 :=
  Nat.or_lt_two_pow (n := 64) (Nat.mod_lt _ (by decide)) (Nat.lt_of_le_of_lt (Nat.div_le_self _ _) hx)
theorem or64_e {x y : Nat} {X Y : Int} (hx : x < 18446744073709551616) (hy : y < 18446744073709551616) (hX : X = (x : Int)) (hY : Y = (y : Int)) : Ending.returned (.int .u64 (bits BinOp.or IntKind.u64 X Y)) = Ending.returned (.int .u64 ((x ||| y : Nat) : Int)) := by
  rw [hX, hY, u64_or_nat x y hx hy]
set_option maxHeartbeats 4000000 in
theorem rot64_c (x : Nat) (hx : x < 18446744073709551616) (k : Int) (s : Nat) (hk : (k = -32 ∧ s = 32) ∨ (k = -24 ∧ s = 40) ∨ (k = -16 ∧ s = 48) ∨ (k = -63 ∧ s = 1)) (w : World) :
    Calls Tryz.prog 79 #[.int .u64 (x : Int), .int .i64 k] w fun e w' => e = .returned (.int .u64 (rotW x s : Nat)) ∧ w = w' := by
  rcases hk with ⟨rfl, rfl⟩ | ⟨rfl, rfl⟩ | ⟨rfl, rfl⟩ | ⟨rfl, rfl⟩
  all_goals
    have b0 : bits BinOp.and IntKind.u64 (IntKind.u64.wrap (-32)) 63 = 32 := by decide
    have b1 : bits BinOp.and IntKind.u64 (IntKind.u64.wrap (-24)) 63 = 40 := by decide
    have b2 : bits BinOp.and IntKind.u64 (IntKind.u64.wrap (-16)) 63 = 48 := by decide
    have b3 : bits BinOp.and IntKind.u64 (IntKind.u64.wrap (-63)) 63 = 1 := by decide
    go_enter Tryz.func79, Tryz.ntmps79
    go_wp2
    clear b0 b1 b2 b3
    go_ret
    refine ⟨?_, rfl⟩
  · exact or64_e (x := x * 2 ^ 32 % 18446744073709551616) (y := x / 2 ^ 32) (by omega) (by omega) (by rw [IntKind.wrap_u64]; omega) (by omega)
  · exact or64_e (x := x * 2 ^ 40 % 18446744073709551616) (y := x / 2 ^ 24) (by omega) (by omega) (by rw [IntKind.wrap_u64]; omega) (by omega)
  · exact or64_e (x := x * 2 ^ 48 % 18446744073709551616) (y := x / 2 ^ 16) (by omega) (by omega) (by rw [IntKind.wrap_u64]; omega) (by omega)
  · exact or64_e (x := x * 2 ^ 1 % 18446744073709551616) (y := x / 2 ^ 63) (by omega) (by omega) (by rw [IntKind.wrap_u64]; omega) (by omega)
end Go.Proofs.YtaiffkajkbiidaaGreatDoor
