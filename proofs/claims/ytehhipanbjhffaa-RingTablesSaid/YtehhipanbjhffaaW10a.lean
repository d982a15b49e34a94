/- What ring's functions on numbers answer: doubled, halved, a bit, a sum. No condition but that numbers are below 2^128. -/
import Derived.Test.YtehhipanbjhffaaG10c
import Derived.Test.YtehhipanbjhffaaOct2
namespace Go.Proofs.Ytehhipanbjhffaa
set_option linter.unusedSimpArgs false
set_option linter.unusedVariables false
set_option linter.unusedSectionVars false
set_option linter.unusedVariables false
open Go.RowKit
open Gf (W2 up down R1 D1)
theorem W2_get0 (n : Nat) : (W2 n).getD 0 0 = n % 18446744073709551616 := rfl
theorem W2_get1 (n : Nat) : (W2 n).getD 1 0 = n / 18446744073709551616 := rfl
theorem wrapN (x : Nat) : IntKind.u64.wrap (x : Int) = ((x % 18446744073709551616 : Nat) : Int) := by
  simp [IntKind.wrap, IntKind.bits, IntKind.signed]
theorem xorN {a b : Nat} (ha : a < 18446744073709551616) (hb : b < 18446744073709551616) : bits BinOp.xor IntKind.u64 (a : Int) (b : Int) = ((a ^^^ b : Nat) : Int) := u64_xor_nat a b ha hb
theorem xorN_lt {a b : Nat} (ha : a < 18446744073709551616) (hb : b < 18446744073709551616) : a ^^^ b < 18446744073709551616 := Nat.xor_lt_two_pow (n := 64) ha hb
theorem and1 (a : Nat) (ha : a < 18446744073709551616) : bits BinOp.and IntKind.u64 (a : Int) 1 = ((a % 2 : Nat) : Int) := by
  have h := u64_and_nat a 1 ha (by omega)
  rw [Nat.and_one_is_mod] at h
  exact h
set_option maxHeartbeats 2000000 in
theorem up_c (n : Nat) (hn : n < 2 ^ 128) (w : World) :
    Calls Try.prog 29 #[.agg (ints .u64 (W2 n))] w fun e w' => e = .returned (.agg (ints .u64 (W2 (up R1 n)))) ∧ Below w.heap.size w w' := by
  have hw := Gf.up_words hn
  have h0 : n % 18446744073709551616 < 18446744073709551616 := Nat.mod_lt _ (by omega)
  have h1 : n / 18446744073709551616 < 18446744073709551616 := by omega
  have B0 := (Blk.new w 38 (ints .u64 (W2 n))).alloc (.cells (ints .u64 (zeros 2)) 38)
  have B1 := Blk.new (w.alloc (.cells (ints .u64 (W2 n)) 38)) 38 (ints .u64 (zeros 2))
  rw [World.size_alloc] at B1
  have hbel := ((Below.refl w.heap.size w).alloc (Nat.le_refl _) (.cells (ints .u64 (W2 n)) 38)).alloc (by simp) (.cells (ints .u64 (zeros 2)) 38)
  have c0 := B0.int (i := 0) (by simp [Gf.W2_len])
  have c1 := B0.int (i := 1) (by simp [Gf.W2_len])
  rw [W2_get0] at c0
  rw [W2_get1] at c1
  generalize n % 18446744073709551616 = lo at *
  generalize n / 18446744073709551616 = hi at *
  have e0 : bits BinOp.xor IntKind.u64 (IntKind.u64.wrap ((lo : Int) * 2)) ((hi : Int) / 9223372036854775808) = (((lo * 2 % 18446744073709551616) ^^^ (hi / 9223372036854775808) : Nat) : Int) := by
    rw [show (lo : Int) * 2 = ((lo * 2 : Nat) : Int) by simp, wrapN, show (hi : Int) / 9223372036854775808 = ((hi / 9223372036854775808 : Nat) : Int) by simp, xorN (by omega) (by omega)]
  have e1 : bits BinOp.xor IntKind.u64 (bits BinOp.xor IntKind.u64 (IntKind.u64.wrap ((hi : Int) * 2)) ((lo : Int) / 9223372036854775808)) ((hi : Int) / 9223372036854775808 * 13979173243358019584) = (((hi * 2 % 18446744073709551616) ^^^ (lo / 9223372036854775808) ^^^ (hi / 9223372036854775808 * 13979173243358019584) : Nat) : Int) := by
    rw [show (hi : Int) * 2 = ((hi * 2 : Nat) : Int) by simp, wrapN, show (lo : Int) / 9223372036854775808 = ((lo / 9223372036854775808 : Nat) : Int) by simp, xorN (by omega) (by omega), show (hi : Int) / 9223372036854775808 * 13979173243358019584 = ((hi / 9223372036854775808 * 13979173243358019584 : Nat) : Int) by simp, xorN (xorN_lt (by omega) (by omega)) (by omega)]
  have HE : Hid (Value.agg #[.int .u64 (bits BinOp.xor IntKind.u64 (IntKind.u64.wrap ((lo : Int) * 2)) ((hi : Int) / 9223372036854775808)), .int .u64 (bits BinOp.xor IntKind.u64 (bits BinOp.xor IntKind.u64 (IntKind.u64.wrap ((hi : Int) * 2)) ((lo : Int) / 9223372036854775808)) ((hi : Int) / 9223372036854775808 * 13979173243358019584))] = .agg (ints .u64 (W2 (up R1 n)))) := Lib.hid (by rw [e0, e1, hw]; rfl)
  clear hw e0 e1
  go_enter Try.func29, Try.ntmps29
  go_wp2_with (first | (refine wpList_alloc_ints rfl 38 rfl Try.z38 ?_; (try simp only [Act.put, List.setIfInBounds_toArray, List.set_cons_zero, List.set_cons_succ, World.size_alloc, setRow_size, Nat.add_assoc, Nat.reduceAdd])) | (refine wpList_store_ints rfl 38 _ _ rfl (w.heap.size + 1) (k := .u64) (xs := W2 (up R1 n)) rfl HE.out B1 (zeros_size _ _) Try.ar38 rfl ?_; (try simp only [Act.put, List.setIfInBounds_toArray, List.set_cons_zero, List.set_cons_succ, World.size_alloc, setRow_size, Nat.add_assoc, Nat.reduceAdd])))
  exact ret_ints rfl rfl (B1.row _) Try.ar38 rfl ⟨rfl, bSetRow hbel (by omega) _⟩
set_option maxHeartbeats 2000000 in
theorem down_c (n : Nat) (hn : n < 2 ^ 128) (w : World) :
    Calls Try.prog 41 #[.agg (ints .u64 (W2 n))] w fun e w' => e = .returned (.agg (ints .u64 (W2 (down D1 n)))) ∧ Below w.heap.size w w' := by
  have hw := Gf.down_words hn
  have h0 : n % 18446744073709551616 < 18446744073709551616 := Nat.mod_lt _ (by omega)
  have h1 : n / 18446744073709551616 < 18446744073709551616 := by omega
  have B0 := (Blk.new w 38 (ints .u64 (W2 n))).alloc (.cells (ints .u64 (zeros 2)) 38)
  have B1 := Blk.new (w.alloc (.cells (ints .u64 (W2 n)) 38)) 38 (ints .u64 (zeros 2))
  rw [World.size_alloc] at B1
  have hbel := ((Below.refl w.heap.size w).alloc (Nat.le_refl _) (.cells (ints .u64 (W2 n)) 38)).alloc (by simp) (.cells (ints .u64 (zeros 2)) 38)
  have c0 := B0.int (i := 0) (by simp [Gf.W2_len])
  have c1 := B0.int (i := 1) (by simp [Gf.W2_len])
  rw [W2_get0] at c0
  rw [W2_get1] at c1
  generalize n % 18446744073709551616 = lo at *
  generalize n / 18446744073709551616 = hi at *
  have e0 : bits BinOp.xor IntKind.u64 ((lo : Int) / 2) (IntKind.u64.wrap ((hi : Int) * 9223372036854775808)) = (((lo / 2) ^^^ (hi * 9223372036854775808 % 18446744073709551616) : Nat) : Int) := by
    rw [show (hi : Int) * 9223372036854775808 = ((hi * 9223372036854775808 : Nat) : Int) by simp, wrapN, show (lo : Int) / 2 = ((lo / 2 : Nat) : Int) by simp, xorN (by omega) (by omega)]
  have e1 : bits BinOp.xor IntKind.u64 ((hi : Int) / 2) (IntKind.u64.wrap (bits BinOp.and IntKind.u64 (lo : Int) 1 * 16212958658533785600)) = (((hi / 2) ^^^ (lo % 2 * 16212958658533785600) : Nat) : Int) := by
    rw [and1 lo h0, show ((lo % 2 : Nat) : Int) * 16212958658533785600 = ((lo % 2 * 16212958658533785600 : Nat) : Int) by simp, wrapN, Nat.mod_eq_of_lt (by omega), show (hi : Int) / 2 = ((hi / 2 : Nat) : Int) by simp, xorN (by omega) (by omega)]
  have HE : Hid (Value.agg #[.int .u64 (bits BinOp.xor IntKind.u64 ((lo : Int) / 2) (IntKind.u64.wrap ((hi : Int) * 9223372036854775808))), .int .u64 (bits BinOp.xor IntKind.u64 ((hi : Int) / 2) (IntKind.u64.wrap (bits BinOp.and IntKind.u64 (lo : Int) 1 * 16212958658533785600)))] = .agg (ints .u64 (W2 (down D1 n)))) := Lib.hid (by rw [e0, e1, hw]; rfl)
  clear hw e0 e1
  go_enter Try.func41, Try.ntmps41
  go_wp2_with (first | (refine wpList_alloc_ints rfl 38 rfl Try.z38 ?_; (try simp only [Act.put, List.setIfInBounds_toArray, List.set_cons_zero, List.set_cons_succ, World.size_alloc, setRow_size, Nat.add_assoc, Nat.reduceAdd])) | (refine wpList_store_ints rfl 38 _ _ rfl (w.heap.size + 1) (k := .u64) (xs := W2 (down D1 n)) rfl HE.out B1 (zeros_size _ _) Try.ar38 rfl ?_; (try simp only [Act.put, List.setIfInBounds_toArray, List.set_cons_zero, List.set_cons_succ, World.size_alloc, setRow_size, Nat.add_assoc, Nat.reduceAdd])))
  exact ret_ints rfl rfl (B1.row _) Try.ar38 rfl ⟨rfl, bSetRow hbel (by omega) _⟩
set_option maxHeartbeats 2000000 in
theorem bit_c (n i : Nat) (hn : n < 2 ^ 128) (hi : i < 128) (w : World) :
    Calls Try.prog 28 #[.agg (ints .u64 (W2 n)), .int .i64 i] w fun e w' => e = .returned (.int .u64 (n / 2 ^ i % 2 : Nat)) ∧ Below w.heap.size w w' := by
  have hw := Gf.bit_words (i := i) hn
  have h0 : n % 18446744073709551616 < 18446744073709551616 := Nat.mod_lt _ (by omega)
  have h1 : n / 18446744073709551616 < 18446744073709551616 := by omega
  have B0 := Blk.new w 38 (ints .u64 (W2 n))
  have hbel := (Below.refl w.heap.size w).alloc (Nat.le_refl _) (.cells (ints .u64 (W2 n)) 38)
  have c0 := B0.int (i := 0) (by simp [Gf.W2_len])
  have c1 := B0.int (i := 1) (by simp [Gf.W2_len])
  rw [W2_get0] at c0
  rw [W2_get1] at c1
  generalize n % 18446744073709551616 = lo at *
  generalize n / 18446744073709551616 = hw1 at *
  by_cases h64 : i < 64
  · rw [if_pos h64] at hw
    have HW := Lib.hid hw
    clear hw
    go_enter Try.func28, Try.ntmps28
    go_wp2
    go_ret
    refine ⟨?_, hbel⟩
    have hq : lo / 2 ^ i < 18446744073709551616 := Nat.lt_of_le_of_lt (Nat.div_le_self _ _) h0
    have e : bits BinOp.and IntKind.u64 ((lo : Int) / 2 ^ i) 1 = ((n / 2 ^ i % 2 : Nat) : Int) := by
      rw [show (lo : Int) / 2 ^ i = ((lo / 2 ^ i : Nat) : Int) by simp, and1 _ hq, HW.out]
    exact congrArg (fun z => Ending.returned (.int .u64 z)) e
  · rw [if_neg h64] at hw
    have HW := Lib.hid hw
    clear hw
    have hge : 64 ≤ i := by omega
    go_enter Try.func28, Try.ntmps28
    go_wp2
    go_ret
    refine ⟨?_, hbel⟩
    have hq : hw1 / 2 ^ (i - 64) < 18446744073709551616 := Nat.lt_of_le_of_lt (Nat.div_le_self _ _) h1
    have e : bits BinOp.and IntKind.u64 ((hw1 : Int) / 2 ^ (i - 64)) 1 = ((n / 2 ^ i % 2 : Nat) : Int) := by
      rw [show (hw1 : Int) / 2 ^ (i - 64) = ((hw1 / 2 ^ (i - 64) : Nat) : Int) by simp, and1 _ hq, HW.out]
    exact congrArg (fun z => Ending.returned (.int .u64 z)) e
set_option maxHeartbeats 2000000 in
theorem plus10_c (a b f : Nat) (ha : a < 2 ^ 128) (hb : b < 2 ^ 128) (hf : f ≤ 1) (w : World) :
    Calls Try.prog 27 #[.agg (ints .u64 (W2 a)), .agg (ints .u64 (W2 b)), .int .u64 f] w fun e w' => e = .returned (.agg (ints .u64 (W2 (a ^^^ f * b)))) ∧ Below w.heap.size w w' := by
  have hw := Gf.plus_words a b f hf
  have h0 : a % 18446744073709551616 < 18446744073709551616 := Nat.mod_lt _ (by omega)
  have h1 : a / 18446744073709551616 < 18446744073709551616 := by omega
  have h2 : b % 18446744073709551616 < 18446744073709551616 := Nat.mod_lt _ (by omega)
  have h3 : b / 18446744073709551616 < 18446744073709551616 := by omega
  have B0 := ((Blk.new w 38 (ints .u64 (W2 a))).alloc (.cells (ints .u64 (W2 b)) 38)).alloc (.cells (ints .u64 (zeros 2)) 38)
  have B1 := (Blk.new (w.alloc (.cells (ints .u64 (W2 a)) 38)) 38 (ints .u64 (W2 b))).alloc (.cells (ints .u64 (zeros 2)) 38)
  have B2 := Blk.new ((w.alloc (.cells (ints .u64 (W2 a)) 38)).alloc (.cells (ints .u64 (W2 b)) 38)) 38 (ints .u64 (zeros 2))
  rw [World.size_alloc] at B1
  rw [World.size_alloc, World.size_alloc] at B2
  simp only [Nat.add_assoc, Nat.reduceAdd] at B2
  have hbel := (((Below.refl w.heap.size w).alloc (Nat.le_refl _) (.cells (ints .u64 (W2 a)) 38)).alloc (by simp) (.cells (ints .u64 (W2 b)) 38)).alloc (by simp; omega) (.cells (ints .u64 (zeros 2)) 38)
  have c0 := B0.int (i := 0) (by simp [Gf.W2_len])
  have c1 := B0.int (i := 1) (by simp [Gf.W2_len])
  have d0 := B1.int (i := 0) (by simp [Gf.W2_len])
  have d1 := B1.int (i := 1) (by simp [Gf.W2_len])
  rw [W2_get0] at c0 d0
  rw [W2_get1] at c1 d1
  generalize a % 18446744073709551616 = alo at *
  generalize a / 18446744073709551616 = ahi at *
  generalize b % 18446744073709551616 = blo at *
  generalize b / 18446744073709551616 = bhi at *
  have hf2 : f = 0 ∨ f = 1 := by omega
  have m1 : f * blo < 18446744073709551616 := by rcases hf2 with rfl | rfl <;> omega
  have m2 : f * bhi < 18446744073709551616 := by rcases hf2 with rfl | rfl <;> omega
  have e0 : bits BinOp.xor IntKind.u64 (alo : Int) (IntKind.u64.wrap ((f : Int) * blo)) = ((alo ^^^ (f * blo) : Nat) : Int) := by
    rw [show (f : Int) * blo = ((f * blo : Nat) : Int) by simp, wrapN, Nat.mod_eq_of_lt m1, xorN h0 m1]
  have e1 : bits BinOp.xor IntKind.u64 (ahi : Int) (IntKind.u64.wrap ((f : Int) * bhi)) = ((ahi ^^^ (f * bhi) : Nat) : Int) := by
    rw [show (f : Int) * bhi = ((f * bhi : Nat) : Int) by simp, wrapN, Nat.mod_eq_of_lt m2, xorN h1 m2]
  have HE : Hid (Value.agg #[.int .u64 (bits BinOp.xor IntKind.u64 (alo : Int) (IntKind.u64.wrap ((f : Int) * blo))), .int .u64 (bits BinOp.xor IntKind.u64 (ahi : Int) (IntKind.u64.wrap ((f : Int) * bhi)))] = .agg (ints .u64 (W2 (a ^^^ f * b)))) := Lib.hid (by rw [e0, e1, hw]; rfl)
  clear hw e0 e1 m1 m2 hf2
  go_enter Try.func27, Try.ntmps27
  go_wp2_with (first | (refine wpList_alloc_ints rfl 38 rfl Try.z38 ?_; (try simp only [Act.put, List.setIfInBounds_toArray, List.set_cons_zero, List.set_cons_succ, World.size_alloc, setRow_size, Nat.add_assoc, Nat.reduceAdd])) | (refine wpList_store_ints rfl 38 _ _ rfl (w.heap.size + 2) (k := .u64) (xs := W2 (a ^^^ f * b)) rfl HE.out B2 (zeros_size _ _) Try.ar38 rfl ?_; (try simp only [Act.put, List.setIfInBounds_toArray, List.set_cons_zero, List.set_cons_succ, World.size_alloc, setRow_size, Nat.add_assoc, Nat.reduceAdd])))
  exact ret_ints rfl rfl (B2.row _) Try.ar38 rfl ⟨rfl, bSetRow hbel (by omega) _⟩
end Go.Proofs.Ytehhipanbjhffaa
