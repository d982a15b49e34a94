/- What ring's functions on numbers answer: doubled, halved, a bit, a sum. No condition but that numbers are below 2^128. -/
import Derived.Test.YtaiffkajkbiidaaGreatDoorGA
import Derived.Test.YtaiffkajkbiidaaGreatDoorOA
import Derived.StillTailTactics
import Derived.Deep.MidRow
namespace Go.Proofs.YtaiffkajkbiidaaGreatDoor
set_option linter.unusedSimpArgs false
set_option linter.unusedVariables false
set_option linter.unusedSectionVars false
set_option linter.unusedVariables false
open Go.RowKit
open Gf (W2 up down R1 D1)
theorem W2_get0 (n : Nat) : (W2 n).getD 0 0 = n % 18446744073709551616 := rfl
theorem W2_get1 (n : Nat) : (W2 n).getD 1 0 = n / 18446744073709551616 := rfl
theorem wrapN (x : Nat) : IntKind.u64.wrap (x : Int) = ((x % 18446744073709551616 : Nat) : Int) := by
  simp [IntKind.wrap, IntKind.bits, IntKind.signed]
theorem xorN {a b : Nat} (ha : a < 18446744073709551616) (hb : b < 18446744073709551616) : bits BinOp.xor IntKind.u64 (a : Int) (b : Int) = ((a ^^^ b : Nat) : Int) := u64_xor_nat a b ha hb
theorem xorN_lt {a b : Nat} (ha : a < 18446744073709551616) (hb : b < 18446744073709551616) : a ^^^ b < 18446744073709551616 := Nat.xor_lt_two_pow (n := 64) ha hb
theorem and1 (a : Nat) (ha : a < 18446744073709551616) : bits BinOp.and IntKind.u64 (a : Int) 1 = ((a % 2 : Nat) : Int) := by
  have h := u64_and_nat a 1 ha (by omega)
  rw [Nat.and_one_is_mod] at h
  exact h
set_option maxHeartbeats 2000000 in
theorem up_c (n : Nat) (hn : n < 2 ^ 128) (w : World) :
    Calls Tryz.prog 161 #[.agg (ints .u64 (W2 n))] w fun e w' => e = .returned (.agg (ints .u64 (W2 (up R1 n)))) ∧ Below w.heap.size w w' := by
  have hw := Gf.up_words hn
  have h0 : n % 18446744073709551616 < 18446744073709551616 := Nat.mod_lt _ (by omega)
  have h1 : n / 18446744073709551616 < 18446744073709551616 := by omega
  have B0 := (Blk.new w 149 (ints .u64 (W2 n))).alloc (.cells (ints .u64 (zeros 2)) 149)
  have B1 := Blk.new (w.alloc (.cells (ints .u64 (W2 n)) 149)) 149 (ints .u64 (zeros 2))
  rw [World.size_alloc] at B1
  have hbel := ((Below.refl w.heap.size w).alloc (Nat.le_refl _) (.cells (ints .u64 (W2 n)) 149)).alloc (by simp) (.cells (ints .u64 (zeros 2)) 149)
  have c0 := B0.int (i := 0) (by simp [Gf.W2_len])
  have c1 := B0.int (i := 1) (by simp [Gf.W2_len])
  rw [W2_get0] at c0
  rw [W2_get1] at c1
  generalize n % 18446744073709551616 = lo at *
  generalize n / 18446744073709551616 = hi at *
  have e0 : bits BinOp.xor IntKind.u64 (IntKind.u64.wrap ((lo : Int) * 2)) ((hi : Int) / 9223372036854775808) = (((lo * 2 % 18446744073709551616) ^^^ (hi / 9223372036854775808) : Nat) : Int) := by
    rw [show (lo : Int) * 2 = ((lo * 2 : Nat) : Int) by simp, wrapN, show (hi : Int) / 9223372036854775808 = ((hi / 9223372036854775808 : Nat) : Int) by simp, xorN (by omega) (by omega)]
  have e1 : bits BinOp.xor IntKind.u64 (bits BinOp.xor IntKind.u64 (IntKind.u64.wrap ((hi : Int) * 2)) ((lo : Int) / 9223372036854775808)) ((hi : Int) / 9223372036854775808 * 13979173243358019584) = (((hi * 2 % 18446744073709551616) ^^^ (lo / 9223372036854775808) ^^^ (hi / 9223372036854775808 * 13979173243358019584) : Nat) : Int) := by
    rw [show (hi : Int) * 2 = ((hi * 2 : Nat) : Int) by simp, wrapN, show (lo : Int) / 9223372036854775808 = ((lo / 9223372036854775808 : Nat) : Int) by simp, xorN (by omega) (by omega), show (hi : Int) / 9223372036854775808 * 13979173243358019584 = ((hi / 9223372036854775808 * 13979173243358019584 : Nat) : Int) by simp, xorN (xorN_lt (by omega) (by omega)) (by omega)]
  have HE : Hid (Value.agg #[.int .u64 (bits BinOp.xor IntKind.u64 (IntKind.u64.wrap ((lo : Int) * 2)) ((hi : Int) / 9223372036854775808)), .int .u64 (bits BinOp.xor IntKind.u64 (bits BinOp.xor IntKind.u64 (IntKind.u64.wrap ((hi : Int) * 2)) ((lo : Int) / 9223372036854775808)) ((hi : Int) / 9223372036854775808 * 13979173243358019584))] = .agg (ints .u64 (W2 (up R1 n)))) := Lib.hid (by rw [e0, e1, hw]; rfl)
  clear hw e0 e1
  go_enter Tryz.func161, Tryz.ntmps161
  go_wp2_with (first | (refine wpList_alloc_ints rfl 149 rfl Tryz.z149 ?_; (try simp only [Act.put, List.setIfInBounds_toArray, List.set_cons_zero, List.set_cons_succ, World.size_alloc, setRow_size, Nat.add_assoc, Nat.reduceAdd])) | (refine wpList_store_ints rfl 149 _ _ rfl (w.heap.size + 1) (k := .u64) (xs := W2 (up R1 n)) rfl HE.out B1 (zeros_size _ _) Tryz.ar149 rfl ?_; (try simp only [Act.put, List.setIfInBounds_toArray, List.set_cons_zero, List.set_cons_succ, World.size_alloc, setRow_size, Nat.add_assoc, Nat.reduceAdd])))
  exact ret_ints rfl rfl (B1.row _) Tryz.ar149 rfl ⟨rfl, bSetRow hbel (by omega) _⟩
set_option maxHeartbeats 2000000 in
theorem down_c (n : Nat) (hn : n < 2 ^ 128) (w : World) :
    Calls Tryz.prog 162 #[.agg (ints .u64 (W2 n))] w fun e w' => e = .returned (.agg (ints .u64 (W2 (down D1 n)))) ∧ Below w.heap.size w w' := by
  have hw := Gf.down_words hn
  have h0 : n % 18446744073709551616 < 18446744073709551616 := Nat.mod_lt _ (by omega)
  have h1 : n / 18446744073709551616 < 18446744073709551616 := by omega
  have B0 := (Blk.new w 149 (ints .u64 (W2 n))).alloc (.cells (ints .u64 (zeros 2)) 149)
  have B1 := Blk.new (w.alloc (.cells (ints .u64 (W2 n)) 149)) 149 (ints .u64 (zeros 2))
  rw [World.size_alloc] at B1
  have hbel := ((Below.refl w.heap.size w).alloc (Nat.le_refl _) (.cells (ints .u64 (W2 n)) 149)).alloc (by simp) (.cells (ints .u64 (zeros 2)) 149)
  have c0 := B0.int (i := 0) (by simp [Gf.W2_len])
  have c1 := B0.int (i := 1) (by simp [Gf.W2_len])
  rw [W2_get0] at c0
  rw [W2_get1] at c1
  generalize n % 18446744073709551616 = lo at *
  generalize n / 18446744073709551616 = hi at *
  have e0 : bits BinOp.xor IntKind.u64 ((lo : Int) / 2) (IntKind.u64.wrap ((hi : Int) * 9223372036854775808)) = (((lo / 2) ^^^ (hi * 9223372036854775808 % 18446744073709551616) : Nat) : Int) := by
    rw [show (hi : Int) * 9223372036854775808 = ((hi * 9223372036854775808 : Nat) : Int) by simp, wrapN, show (lo : Int) / 2 = ((lo / 2 : Nat) : Int) by simp, xorN (by omega) (by omega)]
  have e1 : bits BinOp.xor IntKind.u64 ((hi : Int) / 2) (IntKind.u64.wrap (bits BinOp.and IntKind.u64 (lo : Int) 1 * 16212958658533785600)) = (((hi / 2) ^^^ (lo % 2 * 16212958658533785600) : Nat) : Int) := by
    rw [and1 lo h0, show ((lo % 2 : Nat) : Int) * 16212958658533785600 = ((lo % 2 * 16212958658533785600 : Nat) : Int) by simp, wrapN, Nat.mod_eq_of_lt (by omega), show (hi : Int) / 2 = ((hi / 2 : Nat) : Int) by simp, xorN (by omega) (by omega)]
  have HE : Hid (Value.agg #[.int .u64 (bits BinOp.xor IntKind.u64 ((lo : Int) / 2) (IntKind.u64.wrap ((hi : Int) * 9223372036854775808))), .int .u64 (bits BinOp.xor IntKind.u64 ((hi : Int) / 2) (IntKind.u64.wrap (bits BinOp.and IntKind.u64 (lo : Int) 1 * 16212958658533785600)))] = .agg (ints .u64 (W2 (down D1 n)))) := Lib.hid (by rw [e0, e1, hw]; rfl)
  clear hw e0 e1
  go_enter Tryz.func162, Tryz.ntmps162
  go_wp2_with (first | (refine wpList_alloc_ints rfl 149 rfl Tryz.z149 ?_; (try simp only [Act.put, List.setIfInBounds_toArray, List.set_cons_zero, List.set_cons_succ, World.size_alloc, setRow_size, Nat.add_assoc, Nat.reduceAdd])) | (refine wpList_store_ints rfl 149 _ _ rfl (w.heap.size + 1) (k := .u64) (xs := W2 (down D1 n)) rfl HE.out B1 (zeros_size _ _) Tryz.ar149 rfl ?_; (try simp only [Act.put, List.setIfInBounds_toArray, List.set_cons_zero, List.set_cons_succ, World.size_alloc, setRow_size, Nat.add_assoc, Nat.reduceAdd])))
  exact ret_ints rfl rfl (B1.row _) Tryz.ar149 rfl ⟨rfl, bSetRow hbel (by omega) _⟩
set_option maxHeartbeats 2000000 in
theorem bit_c (n i : Nat) (hn : n < 2 ^ 128) (hi : i < 128) (w : World) :
    Calls Tryz.prog 163 #[.agg (ints .u64 (W2 n)), .int .i64 i] w fun e w' => e = .returned (.int .u64 (n / 2 ^ i % 2 : Nat)) ∧ Below w.heap.size w w' := by
  have hw := Gf.bit_words (i := i) hn
  have h0 : n % 18446744073709551616 < 18446744073709551616 := Nat.mod_lt _ (by omega)
  have h1 : n / 18446744073709551616 < 18446744073709551616 := by omega
  have B0 := Blk.new w 149 (ints .u64 (W2 n))
  have hbel := (Below.refl w.heap.size w).alloc (Nat.le_refl _) (.cells (ints .u64 (W2 n)) 149)
  have c0 := B0.int (i := 0) (by simp [Gf.W2_len])
  have c1 := B0.int (i := 1) (by simp [Gf.W2_len])
  rw [W2_get0] at c0
  rw [W2_get1] at c1
  generalize n % 18446744073709551616 = lo at *
  generalize n / 18446744073709551616 = hw1 at *
  by_cases h64 : i < 64
  · rw [if_pos h64] at hw
    have HW := Lib.hid hw
    clear hw
    go_enter Tryz.func163, Tryz.ntmps163
    go_wp2
    go_ret
    refine ⟨?_, hbel⟩
    have hq : lo / 2 ^ i < 18446744073709551616 := Nat.lt_of_le_of_lt (Nat.div_le_self _ _) h0
    have e : bits BinOp.and IntKind.u64 ((lo : Int) / 2 ^ i) 1 = ((n / 2 ^ i % 2 : Nat) : Int) := by
      rw [show (lo : Int) / 2 ^ i = ((lo / 2 ^ i : Nat) : Int) by simp, and1 _ hq, HW.out]
    exact congrArg (fun z => Ending.returned (.int .u64 z)) e
  · rw [if_neg h64] at hw
    have HW := Lib.hid hw
    clear hw
    have hge : 64 ≤ i := by omega
    go_enter Tryz.func163, Tryz.ntmps163
    go_wp2
    go_ret
    refine ⟨?_, hbel⟩
    have hq : hw1 / 2 ^ (i - 64) < 18446744073709551616 := Nat.lt_of_le_of_lt (Nat.div_le_self _ _) h1
    have e : bits BinOp.and IntKind.u64 ((hw1 : Int) / 2 ^ (i - 64)) 1 = ((n / 2 ^ i % 2 : Nat) : Int) := by
      rw [show (hw1 : Int) / 2 ^ (i - 64) = ((hw1 / 2 ^ (i - 64) : Nat) : Int) by simp, and1 _ hq, HW.out]
    exact congrArg (fun z => Ending.returned (.int .u64 z)) e
set_option maxHeartbeats 2000000 in
theorem plus10_c (a b f : Nat) (ha : a < 2 ^ 128) (hb : b < 2 ^ 128) (hf : f ≤ 1) (w : World) :
    Calls Tryz.prog 160 #[.agg (ints .u64 (W2 a)), .agg (ints .u64 (W2 b)), .int .u64 f] w fun e w' => e = .returned (.agg (ints .u64 (W2 (a ^^^ f * b)))) ∧ Below w.heap.size w w' := by
  have hw := Gf.plus_words a b f hf
  have h0 : a % 18446744073709551616 < 18446744073709551616 := Nat.mod_lt _ (by omega)
  have h1 : a / 18446744073709551616 < 18446744073709551616 := by omega
  have h2 : b % 18446744073709551616 < 18446744073709551616 := Nat.mod_lt _ (by omega)
  have h3 : b / 18446744073709551616 < 18446744073709551616 := by omega
  have B0 := ((Blk.new w 149 (ints .u64 (W2 a))).alloc (.cells (ints .u64 (W2 b)) 149)).alloc (.cells (ints .u64 (zeros 2)) 149)
  have B1 := (Blk.new (w.alloc (.cells (ints .u64 (W2 a)) 149)) 149 (ints .u64 (W2 b))).alloc (.cells (ints .u64 (zeros 2)) 149)
  have B2 := Blk.new ((w.alloc (.cells (ints .u64 (W2 a)) 149)).alloc (.cells (ints .u64 (W2 b)) 149)) 149 (ints .u64 (zeros 2))
  rw [World.size_alloc] at B1
  rw [World.size_alloc, World.size_alloc] at B2
  simp only [Nat.add_assoc, Nat.reduceAdd] at B2
  have hbel := (((Below.refl w.heap.size w).alloc (Nat.le_refl _) (.cells (ints .u64 (W2 a)) 149)).alloc (by simp) (.cells (ints .u64 (W2 b)) 149)).alloc (by simp; omega) (.cells (ints .u64 (zeros 2)) 149)
  have c0 := B0.int (i := 0) (by simp [Gf.W2_len])
  have c1 := B0.int (i := 1) (by simp [Gf.W2_len])
  have d0 := B1.int (i := 0) (by simp [Gf.W2_len])
  have d1 := B1.int (i := 1) (by simp [Gf.W2_len])
  rw [W2_get0] at c0 d0
  rw [W2_get1] at c1 d1
  generalize a % 18446744073709551616 = alo at *
  generalize a / 18446744073709551616 = ahi at *
  generalize b % 18446744073709551616 = blo at *
  generalize b / 18446744073709551616 = bhi at *
  have hf2 : f = 0 ∨ f = 1 := by omega
  have m1 : f * blo < 18446744073709551616 := by rcases hf2 with rfl | rfl <;> omega
  have m2 : f * bhi < 18446744073709551616 := by rcases hf2 with rfl | rfl <;> omega
  have e0 : bits BinOp.xor IntKind.u64 (alo : Int) (IntKind.u64.wrap ((f : Int) * blo)) = ((alo ^^^ (f * blo) : Nat) : Int) := by
    rw [show (f : Int) * blo = ((f * blo : Nat) : Int) by simp, wrapN, Nat.mod_eq_of_lt m1, xorN h0 m1]
  have e1 : bits BinOp.xor IntKind.u64 (ahi : Int) (IntKind.u64.wrap ((f : Int) * bhi)) = ((ahi ^^^ (f * bhi) : Nat) : Int) := by
    rw [show (f : Int) * bhi = ((f * bhi : Nat) : Int) by simp, wrapN, Nat.mod_eq_of_lt m2, xorN h1 m2]
  have HE : Hid (Value.agg #[.int .u64 (bits BinOp.xor IntKind.u64 (alo : Int) (IntKind.u64.wrap ((f : Int) * blo))), .int .u64 (bits BinOp.xor IntKind.u64 (ahi : Int) (IntKind.u64.wrap ((f : Int) * bhi)))] = .agg (ints .u64 (W2 (a ^^^ f * b)))) := Lib.hid (by rw [e0, e1, hw]; rfl)
  clear hw e0 e1 m1 m2 hf2
  go_enter Tryz.func160, Tryz.ntmps160
  go_wp2_with (first | (refine wpList_alloc_ints rfl 149 rfl Tryz.z149 ?_; (try simp only [Act.put, List.setIfInBounds_toArray, List.set_cons_zero, List.set_cons_succ, World.size_alloc, setRow_size, Nat.add_assoc, Nat.reduceAdd])) | (refine wpList_store_ints rfl 149 _ _ rfl (w.heap.size + 2) (k := .u64) (xs := W2 (a ^^^ f * b)) rfl HE.out B2 (zeros_size _ _) Tryz.ar149 rfl ?_; (try simp only [Act.put, List.setIfInBounds_toArray, List.set_cons_zero, List.set_cons_succ, World.size_alloc, setRow_size, Nat.add_assoc, Nat.reduceAdd])))
  exact ret_ints rfl rfl (B2.row _) Tryz.ar149 rfl ⟨rfl, bSetRow hbel (by omega) _⟩
end Go.Proofs.YtaiffkajkbiidaaGreatDoor
/- What ring's products and dots answer. No condition but that bytes are below 256. -/
namespace Go.Proofs.YtaiffkajkbiidaaGreatDoor
set_option linter.unusedSimpArgs false
set_option linter.unusedVariables false
set_option linter.unusedSectionVars false
set_option linter.unusedVariables false
open Go.RowKit
open Gf (W2 up down upN downN mulS mul dot dotS R1 D1)
/-- An element's number. -/
def num (bs : List Nat) : Nat := undig 256 bs
/-- A number's sixteen bytes. -/
def elem (n : Nat) : List Nat := dig 256 16 n
theorem elem_len (n : Nat) : (elem n).length = 16 := dig_length _ _ _
theorem elem_lt (n : Nat) : ∀ x ∈ elem n, x < 256 := dig_lt (by omega) _ _
theorem num_lt {bs : List Nat} (hl : bs.length = 16) (hb : ∀ x ∈ bs, x < 256) : num bs < 2 ^ 128 := by
  have := undig_lt bs hb
  rw [hl] at this
  exact this
theorem num_elem {n : Nat} (h : n < 2 ^ 128) : num (elem n) = n := by
  unfold num elem; rw [undig_dig]; exact Nat.mod_eq_of_lt h
theorem elem_num {bs : List Nat} (hl : bs.length = 16) (hb : ∀ x ∈ bs, x < 256) : elem (num bs) = bs := by
  have := dig_undig 256 bs hb
  rw [hl] at this
  exact this
theorem range_getD' {xs : List Nat} {n : Nat} (h : xs.length = n) : (List.range n).map (fun i => xs.getD i 0) = xs := by
  apply List.ext_getElem? fun i => ?_
  by_cases hi : i < n
  · rw [List.getElem?_map, List.getElem?_range hi, getD_lt (by omega)]; rfl
  · rw [List.getElem?_eq_none (by simp; omega), List.getElem?_eq_none (by omega)]
theorem halves {bs : List Nat} (hl : bs.length = 16) (hb : ∀ x ∈ bs, x < 256) : [numAt bs 0 8, numAt bs 8 8] = W2 (num bs) := by
  have h0 : numAt bs 0 8 < 18446744073709551616 := numAt_lt hb 0 8
  have e : num bs = numAt bs 0 8 + 18446744073709551616 * numAt bs 8 8 := by
    have h := range_getD' hl
    have h2 : List.range 16 = List.range 8 ++ (List.range 8).map (8 + ·) := rfl
    rw [h2, List.map_append, List.map_map] at h
    have f1 : (List.range 8).map (fun k => bs.getD (0 + k) 0) = (List.range 8).map (fun i => bs.getD i 0) := List.map_congr_left fun k _ => by rw [Nat.zero_add]
    unfold num numAt
    rw [f1]
    conv => lhs; rw [← h, undig_append]
    simp; rfl
  unfold W2
  rw [e, Nat.add_mul_mod_self_left, Nat.mod_eq_of_lt h0, Nat.add_mul_div_left _ _ (by omega), Nat.div_eq_of_lt h0, Nat.zero_add]
theorem dig_join' (b n m x y : Nat) (hb : 0 < b) (hx : x < b ^ n) : dig b n x ++ dig b m y = dig b (n + m) (x + b ^ n * y) := by
  have h := dig_undig b (dig b n x ++ dig b m y) (fun z hz => (List.mem_append.1 hz).elim (dig_lt hb n x z) (dig_lt hb m y z))
  rw [undig_append, undig_dig, undig_dig, dig_length, Nat.mod_eq_of_lt hx, List.length_append, dig_length, dig_length] at h
  rw [← h, ← dig_mod b (n + m) (x + b ^ n * y)]
  congr 1
  rw [Nat.pow_add, Nat.mod_mul, Nat.add_mul_mod_self_left, Nat.mod_eq_of_lt hx, Nat.add_mul_div_left _ _ (Nat.pow_pos hb), Nat.div_eq_of_lt hx, Nat.zero_add]
theorem loadN_c (a : Option Addr) (c m : Nat) (bs : List Nat) (hb : ∀ x ∈ bs, x < 256) (hl : bs.length = 16) (hm : m = 16) (w : World) (hs : Sl w a .u8 bs) :
    Calls Tryz.prog 108 #[.slice a m c] w fun e w' => e = .returned (.agg (ints .u64 (W2 (num bs)))) ∧ Below w.heap.size w w' := by
  have h := load_c a c bs hb (by rw [hl]; unfold maxLen; omega) w hs
  rw [halves hl hb, hl] at h
  rw [hm]; exact h
theorem bytesN_c (n : Nat) (hn : n < 2 ^ 128) (w : World) :
    Calls Tryz.prog 111 #[.agg (ints .u64 (W2 n))] w fun e w' => e = .returned (.agg (ints .u8 (elem n))) ∧ Below w.heap.size w w' := by
  have h := wbytes_c (n % 18446744073709551616) (n / 18446744073709551616) (Nat.mod_lt _ (by omega)) (by omega) w
  rw [dig_join' 256 8 8 _ _ (by omega) (Nat.mod_lt _ (by omega)), show n % 18446744073709551616 + 256 ^ 8 * (n / 18446744073709551616) = n by omega] at h
  exact h
set_option maxRecDepth 100000 in
set_option maxHeartbeats 4000000 in
theorem dotw_c (x y : Nat) (hx : x < 2 ^ 128) (hy : y < 2 ^ 128) (w : World) :
    Calls Tryz.prog 159 #[.agg (ints .u64 (W2 x)), .agg (ints .u64 (W2 y))] w fun e w' => e = .returned (.agg (ints .u64 (W2 (dot R1 D1 x y)))) ∧ Below w.heap.size w w' := by
  have B0 := (((Blk.new w 149 (ints .u64 (W2 x))).alloc (.cells (ints .u64 (W2 y)) 149)).alloc (.cells (ints .u64 (zeros 2)) 149)).alloc (.cells (ints .u64 (zeros 2)) 149)
  have B1 := ((Blk.new (w.alloc (.cells (ints .u64 (W2 x)) 149)) 149 (ints .u64 (W2 y))).alloc (.cells (ints .u64 (zeros 2)) 149)).alloc (.cells (ints .u64 (zeros 2)) 149)
  have B2 := (Blk.new ((w.alloc (.cells (ints .u64 (W2 x)) 149)).alloc (.cells (ints .u64 (W2 y)) 149)) 149 (ints .u64 (zeros 2))).alloc (.cells (ints .u64 (zeros 2)) 149)
  have B3 := Blk.new (((w.alloc (.cells (ints .u64 (W2 x)) 149)).alloc (.cells (ints .u64 (W2 y)) 149)).alloc (.cells (ints .u64 (zeros 2)) 149)) 149 (ints .u64 (zeros 2))
  rw [World.size_alloc] at B1
  rw [World.size_alloc, World.size_alloc] at B2
  rw [World.size_alloc, World.size_alloc, World.size_alloc] at B3
  simp only [Nat.add_assoc, Nat.reduceAdd] at B2 B3
  have hbel := ((((Below.refl w.heap.size w).alloc (Nat.le_refl _) (.cells (ints .u64 (W2 x)) 149)).alloc (by simp) (.cells (ints .u64 (W2 y)) 149)).alloc (by simp; omega) (.cells (ints .u64 (zeros 2)) 149)).alloc (by simp; omega) (.cells (ints .u64 (zeros 2)) 149)
  go_enter Tryz.func159, Tryz.ntmps159
  go_wp2_with (refine wpList_alloc_ints rfl 149 rfl Tryz.z149 ?_; (try simp only [Act.put, List.setIfInBounds_toArray, List.set_cons_zero, List.set_cons_succ, World.size_alloc, setRow_size, Nat.add_assoc, Nat.reduceAdd]))
  generalize ((((w.alloc (.cells (ints .u64 (W2 x)) 149)).alloc (.cells (ints .u64 (W2 y)) 149)).alloc (.cells (ints .u64 (zeros 2)) 149)).alloc (.cells (ints .u64 (zeros 2)) 149)) = w1 at *
  go_loopw [7] (fun t wr => ∃ i : Nat, i ≤ 128 ∧ t = .int .i64 i ∧ Blk wr w.heap.size 149 (ints .u64 (W2 x)) ∧ Blk wr (w.heap.size + 1) 149 (ints .u64 (W2 y)) ∧ Blk wr (w.heap.size + 2) 149 (ints .u64 (zeros 2)) ∧ Blk wr (w.heap.size + 3) 149 (ints .u64 (W2 (dotS D1 x y i))) ∧ Below w.heap.size w wr) (fun t wr => 128 - (intOf t).toNat)
  case atStart => exact ⟨0, by omega, rfl, B0, B1, B2, by rw [show W2 (dotS D1 x y 0) = zeros 2 by show W2 0 = zeros 2; decide]; exact B3, hbel⟩
  case round =>
    rename_i hrel
    obtain ⟨i, hi, rfl, C0, C1, C2, C3, hbelr⟩ := hrel
    have hS : dotS D1 x y i < 2 ^ 128 := by rw [Gf.dotS_eq Gf.pair1 hx]; exact Gf.downN_lt Gf.pair1.d (Gf.mulS_lt Gf.R1_lt hx y i) i
    by_cases hlt : i < 128
    · have hnx : dotS D1 x y (i + 1) = down D1 (dotS D1 x y i ^^^ y / 2 ^ i % 2 * x) := by
        show down D1 (_ ^^^ _) = _
        rw [Gf.if_bit]
      have HX := Lib.hid hnx
      clear hnx
      generalize dotS D1 x y i = S at *
      have hle := Gf.bit_le y i
      have hT : S ^^^ y / 2 ^ i % 2 * x < 2 ^ 128 := Nat.xor_lt_two_pow hS (by rcases (show y / 2 ^ i % 2 = 0 ∨ y / 2 ^ i % 2 = 1 by omega) with h | h <;> rw [h] <;> simp <;> omega)
      go_wp2
      refine wp_region_last 7 (by kernel_rfl) (by kernel_rfl) (by kernel_rfl) (by kernel_rfl) (fun D act_ W => ∃ u10 u11 u12 u13 u14 u15 u16 u17 : Value, act_ = { tmps := #[.agg (ints .u64 (W2 x)), .agg (ints .u64 (W2 y)), .pointer (some ⟨w.heap.size, 0, none⟩), .pointer (some ⟨w.heap.size + 1, 0, none⟩), .pointer (some ⟨w.heap.size + 2, 0, none⟩), .pointer (some ⟨w.heap.size + 3, 0, none⟩), .int .i64 i, .int .i64 i, .bool (decide ((i : Int) < 128)), .int .i64 i, u10, u11, u12, u13, u14, u15, u16, u17, undef], defers := [] } ∧ Below wr.heap.size wr W ∧ (D 0 → u10 = .agg (ints .u64 (W2 S))) ∧ (D 1 → u11 = .agg (ints .u64 (W2 x))) ∧ (D 2 → u12 = .agg (ints .u64 (W2 y))) ∧ (D 3 → u13 = .int .i64 i) ∧ (D 4 → u14 = .int .u64 ((y / 2 ^ i % 2 : Nat) : Int)) ∧ (D 5 → u15 = .agg (ints .u64 (W2 (S ^^^ y / 2 ^ i % 2 * x)))) ∧ (D 6 → u16 = .agg (ints .u64 (W2 (down D1 (S ^^^ y / 2 ^ i % 2 * x)))))) ?_ ?_ ?_
      · exact ⟨_, _, _, _, _, _, _, _, rfl, ⟨rfl, rfl, rfl, Nat.le_refl _, fun _ _ => rfl⟩, (fun h => h.elim), (fun h => h.elim), (fun h => h.elim), (fun h => h.elim), (fun h => h.elim), (fun h => h.elim), (fun h => h.elim)⟩
      · intro i o hilt hi D act_ W hI hnD hall
        obtain ⟨u10, u11, u12, u13, u14, u15, u16, u17, rfl, hW, f0, f1, f2, f3, f4, f5, f6⟩ := hI
        rcases i with _ | _ | _ | _ | _ | _ | _ | i
        · simp only [Nat.zero_add, Nat.reduceAdd, List.getElem?_toArray, List.getElem?_cons_succ, List.getElem?_cons_zero, Option.some.injEq] at hi
          subst hi
          refine wpOp_load rfl rfl rfl rfl (C3.below' hW) Tryz.ar149 rfl ?_
          exact ⟨_, _, _, _, _, _, _, _, rfl, hW, (fun _ => rfl), (fun h => f1 (h.resolve_left (by decide))), (fun h => f2 (h.resolve_left (by decide))), (fun h => f3 (h.resolve_left (by decide))), (fun h => f4 (h.resolve_left (by decide))), (fun h => f5 (h.resolve_left (by decide))), (fun h => f6 (h.resolve_left (by decide)))⟩
        · simp only [Nat.zero_add, Nat.reduceAdd, List.getElem?_toArray, List.getElem?_cons_succ, List.getElem?_cons_zero, Option.some.injEq] at hi
          subst hi
          refine wpOp_load rfl rfl rfl rfl (C0.below' hW) Tryz.ar149 rfl ?_
          exact ⟨_, _, _, _, _, _, _, _, rfl, hW, (fun h => f0 (h.resolve_left (by decide))), (fun _ => rfl), (fun h => f2 (h.resolve_left (by decide))), (fun h => f3 (h.resolve_left (by decide))), (fun h => f4 (h.resolve_left (by decide))), (fun h => f5 (h.resolve_left (by decide))), (fun h => f6 (h.resolve_left (by decide)))⟩
        · simp only [Nat.zero_add, Nat.reduceAdd, List.getElem?_toArray, List.getElem?_cons_succ, List.getElem?_cons_zero, Option.some.injEq] at hi
          subst hi
          refine wpOp_load rfl rfl rfl rfl (C1.below' hW) Tryz.ar149 rfl ?_
          exact ⟨_, _, _, _, _, _, _, _, rfl, hW, (fun h => f0 (h.resolve_left (by decide))), (fun h => f1 (h.resolve_left (by decide))), (fun _ => rfl), (fun h => f3 (h.resolve_left (by decide))), (fun h => f4 (h.resolve_left (by decide))), (fun h => f5 (h.resolve_left (by decide))), (fun h => f6 (h.resolve_left (by decide)))⟩
        · simp only [Nat.zero_add, Nat.reduceAdd, List.getElem?_toArray, List.getElem?_cons_succ, List.getElem?_cons_zero, Option.some.injEq] at hi
          subst hi
          refine wpOp_value (v := .int .i64 i) rfl rfl rfl ?_
          exact ⟨_, _, _, _, _, _, _, _, rfl, hW, (fun h => f0 (h.resolve_left (by decide))), (fun h => f1 (h.resolve_left (by decide))), (fun h => f2 (h.resolve_left (by decide))), (fun _ => rfl), (fun h => f4 (h.resolve_left (by decide))), (fun h => f5 (h.resolve_left (by decide))), (fun h => f6 (h.resolve_left (by decide)))⟩
        · simp only [Nat.zero_add, Nat.reduceAdd, List.getElem?_toArray, List.getElem?_cons_succ, List.getElem?_cons_zero, Option.some.injEq] at hi
          subst hi
          obtain rfl := f2 (pre_of hall 2 rfl)
          obtain rfl := f3 (pre_of hall 3 rfl)
          refine wpOp_call 163 rfl rfl rfl Tryz.func163 (by kernel_rfl) (by kernel_rfl) (bit_c y i hy hlt W) ?_
          intro W' hW'
          exact ⟨_, _, _, _, _, _, _, _, rfl, bCall hW hW' hW.size, (fun h => f0 (h.resolve_left (by decide))), (fun h => f1 (h.resolve_left (by decide))), (fun h => f2 (h.resolve_left (by decide))), (fun h => f3 (h.resolve_left (by decide))), (fun _ => rfl), (fun h => f5 (h.resolve_left (by decide))), (fun h => f6 (h.resolve_left (by decide)))⟩
        · simp only [Nat.zero_add, Nat.reduceAdd, List.getElem?_toArray, List.getElem?_cons_succ, List.getElem?_cons_zero, Option.some.injEq] at hi
          subst hi
          obtain rfl := f0 (pre_of hall 0 rfl)
          obtain rfl := f1 (pre_of hall 1 rfl)
          obtain rfl := f4 (pre_of hall 4 rfl)
          refine wpOp_call 160 rfl rfl rfl Tryz.func160 (by kernel_rfl) (by kernel_rfl) (plus10_c S x (y / 2 ^ i % 2) hS hx hle W) ?_
          intro W' hW'
          exact ⟨_, _, _, _, _, _, _, _, rfl, bCall hW hW' hW.size, (fun h => f0 (h.resolve_left (by decide))), (fun h => f1 (h.resolve_left (by decide))), (fun h => f2 (h.resolve_left (by decide))), (fun h => f3 (h.resolve_left (by decide))), (fun h => f4 (h.resolve_left (by decide))), (fun _ => rfl), (fun h => f6 (h.resolve_left (by decide)))⟩
        · simp only [Nat.zero_add, Nat.reduceAdd, List.getElem?_toArray, List.getElem?_cons_succ, List.getElem?_cons_zero, Option.some.injEq] at hi
          subst hi
          obtain rfl := f5 (pre_of hall 5 rfl)
          refine wpOp_call 162 rfl rfl rfl Tryz.func162 (by kernel_rfl) (by kernel_rfl) (down_c (S ^^^ y / 2 ^ i % 2 * x) hT W) ?_
          intro W' hW'
          exact ⟨_, _, _, _, _, _, _, _, rfl, bCall hW hW' hW.size, (fun h => f0 (h.resolve_left (by decide))), (fun h => f1 (h.resolve_left (by decide))), (fun h => f2 (h.resolve_left (by decide))), (fun h => f3 (h.resolve_left (by decide))), (fun h => f4 (h.resolve_left (by decide))), (fun h => f5 (h.resolve_left (by decide))), (fun _ => rfl)⟩
        · exfalso; omega
      · rintro D act_ W ⟨u10, u11, u12, u13, u14, u15, u16, u17, rfl, hW, f0, f1, f2, f3, f4, f5, f6⟩ hall
        obtain rfl := f0 (hall 0 (by decide))
        obtain rfl := f1 (hall 1 (by decide))
        obtain rfl := f2 (hall 2 (by decide))
        obtain rfl := f3 (hall 3 (by decide))
        obtain rfl := f4 (hall 4 (by decide))
        obtain rfl := f5 (hall 5 (by decide))
        obtain rfl := f6 (hall 6 (by decide))
        clear f0 f1 f2 f3 f4 f5 f6 hall
        have C0' := C0.below' hW
        have C1' := C1.below' hW
        have C2' := C2.below' hW
        have C3' := C3.below' hW
        have hbel3 := bCall hbelr hW hbelr.size
        have D3 := C3'.row (ints .u64 (W2 (down D1 (S ^^^ y / 2 ^ i % 2 * x))))
        have D0 := C0'.rowFar (show w.heap.size ≠ w.heap.size + 3 by omega) (ints .u64 (W2 (down D1 (S ^^^ y / 2 ^ i % 2 * x))))
        have D1' := C1'.rowFar (show w.heap.size + 1 ≠ w.heap.size + 3 by omega) (ints .u64 (W2 (down D1 (S ^^^ y / 2 ^ i % 2 * x))))
        have D2 := C2'.rowFar (show w.heap.size + 2 ≠ w.heap.size + 3 by omega) (ints .u64 (W2 (down D1 (S ^^^ y / 2 ^ i % 2 * x))))
        have hbel4 := bSetRow hbel3 (show w.heap.size ≤ w.heap.size + 3 by omega) (ints .u64 (W2 (down D1 (S ^^^ y / 2 ^ i % 2 * x))))
        refine wpOp_store rfl rfl rfl rfl rfl C3' rfl Tryz.ar149 rfl ?_
        clear C0' C1' C2' C3' hbel3 C0 C1 C2 C3 hW
        rw [← HX.out] at D0 D1' D2 D3 hbel4 ⊢
        go_wp2
        exact ⟨⟨i + 1, by omega, by go_num, D0, D1', D2, D3, hbel4⟩, by simp [intOf] <;> omega⟩
    · obtain rfl : i = 128 := by omega
      have he : dotS D1 x y 128 = dot R1 D1 x y := Gf.dotS_eq Gf.pair1 hx y 128
      rw [he] at C3
      clear he
      go_wp2_with (first | (refine wpList_load_ints rfl 149 _ rfl (w.heap.size + 3) rfl C3 Tryz.ar149 rfl ?_; (try simp only [Act.put, List.setIfInBounds_toArray, List.set_cons_zero, List.set_cons_succ, World.size_alloc, setRow_size, Nat.add_assoc, Nat.reduceAdd])) | (refine wpList_store_ints rfl 149 _ _ rfl (w.heap.size + 2) rfl rfl C2 (zeros_size _ _) Tryz.ar149 rfl ?_; (try simp only [Act.put, List.setIfInBounds_toArray, List.set_cons_zero, List.set_cons_succ, World.size_alloc, setRow_size, Nat.add_assoc, Nat.reduceAdd])))
      exact ret_ints rfl rfl (C2.row _) Tryz.ar149 rfl ⟨rfl, bSetRow hbelr (by omega) _⟩
end Go.Proofs.YtaiffkajkbiidaaGreatDoor
/- What the statements on the two fields share: a sum of elements, an element doubled, and that the little test says true. No condition but that bytes are below 256. -/
namespace Go.Proofs.YtaiffkajkbiidaaGreatDoor
set_option linter.unusedSimpArgs false
set_option linter.unusedVariables false
set_option linter.unusedSectionVars false
set_option linter.unusedVariables false
open Go.RowKit
open Gf (W2 up down upN downN mulS mul dot dotS R1 D1)
theorem Tryz.eg96 : Tryz.prog.eqGuardType Tryz.prog.depth 96 = false := by kernel_rfl
theorem eq16 (xs ys : List Nat) (hx : xs.length = 16) (hy : ys.length = 16) (W : World) : (binOp .eql 96 (.agg (ints .u8 xs)) (.agg (ints .u8 ys))).run Tryz.prog W = .ok (.bool (xs == ys)) W :=
  run_eql_ints (n := 16) Tryz.underlying96 Tryz.underlying5 Tryz.is5 Tryz.sz5 xs ys hx hy W
theorem same16 (xs ys : List Nat) (hx : xs.length = 16) (h : xs = ys) (W : World) : (binOp .eql 96 (.agg (ints .u8 xs)) (.agg (ints .u8 ys))).run Tryz.prog W = .ok (.bool true) W := by
  subst h; rw [eq16 xs xs hx hx]; simp
theorem diff16 (xs ys : List Nat) (hx : xs.length = 16) (h : xs = ys) (W : World) : (binOp .neq 96 (.agg (ints .u8 xs)) (.agg (ints .u8 ys))).run Tryz.prog W = .ok (.bool false) W := by
  subst h
  rw [run_neq_ints (n := 16) Tryz.underlying96 Tryz.underlying5 Tryz.is5 Tryz.sz5 xs xs hx hx W]
  simp
/-- Two rows of sixteen by exclusive or. -/
def xorL (xs ys : List Nat) : List Nat := (List.range 16).map fun i => xs.getD i 0 ^^^ ys.getD i 0
theorem xorL_len (xs ys : List Nat) : (xorL xs ys).length = 16 := by simp [xorL]
theorem xor8 {a b : Nat} (ha : a < 256) (hb : b < 256) : a ^^^ b < 256 := Nat.xor_lt_two_pow (n := 8) ha hb
theorem xorL_lt {xs ys : List Nat} (hx : ∀ x ∈ xs, x < 256) (hy : ∀ x ∈ ys, x < 256) : ∀ x ∈ xorL xs ys, x < 256 := fun x h => by
  obtain ⟨i, -, rfl⟩ := List.mem_map.1 h
  exact xor8 (getD_bound hx (by omega) i) (getD_bound hy (by omega) i)
def xorK (xs ys : List Nat) (k : Nat) : List Nat := (xorL xs ys).take k ++ xs.drop k
theorem xorK_len {xs ys : List Nat} {k : Nat} (hl : xs.length = 16) (hk : k ≤ 16) : (xorK xs ys k).length = 16 := by simp [xorK, xorL_len, hl]; omega
theorem xorL_getD (xs ys : List Nat) {i : Nat} (hi : i < 16) : (xorL xs ys).getD i 0 = xs.getD i 0 ^^^ ys.getD i 0 := by
  unfold xorL
  rw [List.getD_eq_getElem?_getD, List.getElem?_map, List.getElem?_range hi]; rfl
theorem take_snoc10 {xs : List Nat} {k v : Nat} (hk : k < xs.length) (hv : xs.getD k 0 = v) : xs.take (k + 1) = xs.take k ++ [v] := by
  rw [List.take_add_one, getD_lt hk, hv]; rfl
theorem xorK_get {xs ys : List Nat} {k : Nat} (hl : xs.length = 16) (hk : k < 16) : (xorK xs ys k).getD k 0 = xs.getD k 0 := by
  unfold xorK
  rw [List.getD_eq_getElem?_getD, List.getD_eq_getElem?_getD, List.getElem?_append_right (by simp [xorL_len]; omega), List.getElem?_drop, List.length_take, xorL_len, Nat.min_eq_left (by omega), Nat.sub_self, Nat.add_zero]
theorem xorK_set {xs ys : List Nat} {k : Nat} (hl : xs.length = 16) (hk : k < 16) : (xorK xs ys k).set k (xs.getD k 0 ^^^ ys.getD k 0) = xorK xs ys (k + 1) := by
  unfold xorK
  rw [List.set_append_right _ _ (by simp [xorL_len]; omega), List.length_take, xorL_len, Nat.min_eq_left (by omega), Nat.sub_self, List.drop_eq_getElem_cons (by omega), List.set_cons_zero, take_snoc10 (by rw [xorL_len]; exact hk) (xorL_getD xs ys hk), List.append_assoc]; rfl
theorem u8xor {a b : Nat} (ha : a < 256) (hb : b < 256) : bits BinOp.xor IntKind.u8 (a : Int) (b : Int) = ((a ^^^ b : Nat) : Int) := u8_xor_nat a b ha hb
/-- An element doubled, by the highest bit first. -/
def dblB (xs : List Nat) : List Nat := (List.range 16).map fun i => if i < 15 then (xs.getD i 0 * 2 % 256) ||| (xs.getD (i + 1) 0 / 128) else (xs.getD 15 0 * 2 % 256) ^^^ (xs.getD 0 0 / 128 * 135)
theorem dblB_len (xs : List Nat) : (dblB xs).length = 16 := by simp [dblB]
theorem dblB_getD (xs : List Nat) {i : Nat} (hi : i < 16) : (dblB xs).getD i 0 = if i < 15 then (xs.getD i 0 * 2 % 256) ||| (xs.getD (i + 1) 0 / 128) else (xs.getD 15 0 * 2 % 256) ^^^ (xs.getD 0 0 / 128 * 135) := by
  unfold dblB
  rw [List.getD_eq_getElem?_getD, List.getElem?_map, List.getElem?_range hi]; rfl
set_option maxRecDepth 100000 in
set_option maxHeartbeats 4000000 in
theorem double_c (xs : List Nat) (hl : xs.length = 16) (hb : ∀ x ∈ xs, x < 256) (w : World) :
    Calls Tryz.prog 197 #[.agg (ints .u8 xs)] w fun e w' => e = .returned (.agg (ints .u8 (dblB xs))) ∧ Below w.heap.size w w' := by
  have B0 := ((Blk.new w 96 (ints .u8 xs)).alloc (.cells (ints .u8 (zeros 16)) 96)).alloc (.cells (ints .u8 (zeros 16)) 96)
  have B1 := (Blk.new (w.alloc (.cells (ints .u8 xs) 96)) 96 (ints .u8 (zeros 16))).alloc (.cells (ints .u8 (zeros 16)) 96)
  have B2 := Blk.new ((w.alloc (.cells (ints .u8 xs) 96)).alloc (.cells (ints .u8 (zeros 16)) 96)) 96 (ints .u8 (zeros 16))
  rw [World.size_alloc] at B1
  rw [World.size_alloc, World.size_alloc] at B2
  simp only [Nat.add_assoc, Nat.reduceAdd] at B2
  have hbel := (((Below.refl w.heap.size w).alloc (Nat.le_refl _) (.cells (ints .u8 xs) 96)).alloc (by simp) (.cells (ints .u8 (zeros 16)) 96)).alloc (by simp; omega) (.cells (ints .u8 (zeros 16)) 96)
  have hdl := dblB_len xs
  go_enter Tryz.func197, Tryz.ntmps197
  go_wp2_with (refine wpList_alloc_ints rfl 96 rfl Tryz.z96 ?_; (try simp only [Act.put, List.setIfInBounds_toArray, List.set_cons_zero, List.set_cons_succ, World.size_alloc, setRow_size, Nat.add_assoc, Nat.reduceAdd]))
  generalize (((w.alloc (.cells (ints .u8 xs) 96)).alloc (.cells (ints .u8 (zeros 16)) 96)).alloc (.cells (ints .u8 (zeros 16)) 96)) = w1 at *
  go_loopw [5] (fun t wr => ∃ k : Nat, k ≤ 15 ∧ t = .int .i64 k ∧ Blk wr w.heap.size 96 (ints .u8 xs) ∧ Blk wr (w.heap.size + 1) 96 (ints .u8 (zeros 16)) ∧ Blk wr (w.heap.size + 2) 96 (ints .u8 ((dblB xs).take k ++ zeros (16 - k))) ∧ Below w.heap.size w wr) (fun t wr => 15 - (intOf t).toNat)
  case atStart => exact ⟨0, by omega, rfl, B0, B1, B2, hbel⟩
  case round =>
    rename_i hrel
    obtain ⟨k, hk, rfl, C0, C1, C2, hbelr⟩ := hrel
    have hkl : ((dblB xs).take k ++ zeros (16 - k)).length = 16 := by simp [zeros, hdl]; omega
    by_cases hlt : k < 15
    · have c0 := C0.int (i := k) (by omega)
      have c1 := C0.int (i := k + 1) (by omega)
      have c2 := C2.int (i := k) (by omega)
      have z2 := C2.frozen k
      have vx := getD_bound hb (by omega) k
      have vy := getD_bound hb (by omega) (k + 1)
      have hv := dblB_getD xs (i := k) (by omega)
      rw [if_pos hlt] at hv
      have C2' := C2.intSet k (xs.getD k 0 * 2 % 256 ||| xs.getD (k + 1) 0 / 128)
      rw [take_set hdl (by omega) hv] at C2'
      have HC := Lib.hid C2'
      have hor : bits BinOp.or IntKind.u8 (((xs.getD k 0 : Nat) : Int) * 2 % 256) (((xs.getD (k + 1) 0 : Nat) : Int) / 128) = ((xs.getD k 0 * 2 % 256 ||| xs.getD (k + 1) 0 / 128 : Nat) : Int) := by
        rw [show ((xs.getD k 0 : Nat) : Int) * 2 % 256 = ((xs.getD k 0 * 2 % 256 : Nat) : Int) by simp, show (((xs.getD (k + 1) 0 : Nat) : Int) / 128) = ((xs.getD (k + 1) 0 / 128 : Nat) : Int) by simp, u8_or_nat _ _ (by omega) (by omega)]
      have HX := Lib.hid hor
      clear C2' hv hor hkl
      generalize xs.getD k 0 = x at *
      generalize xs.getD (k + 1) 0 = y at *
      go_wp2
      go_region
      all_goals
        rw [HX.out]
        go_wp2
        exact ⟨⟨k + 1, by omega, by go_num, (C0.far (by first | omega | (simp; done) | (simp; omega)) _).drew, (C1.far (by first | omega | (simp; done) | (simp; omega)) _).drew, HC.out.drew, (hbelr.setCell (by first | omega | (simp; done) | (simp; omega)) _).drew⟩, by simp [intOf] <;> omega⟩
    · obtain rfl : k = 15 := by omega
      have c0 := C0.int (i := 15) (by omega)
      have c1 := C0.int (i := 0) (by omega)
      have c2 := C2.int (i := 15) (by omega)
      have z2 := C2.frozen 15
      have vx := getD_bound hb (by omega) 15
      have vy := getD_bound hb (by omega) 0
      have hv := dblB_getD xs (i := 15) (by omega)
      rw [if_neg (by omega)] at hv
      have C2' := C2.intSet 15 (xs.getD 15 0 * 2 % 256 ^^^ xs.getD 0 0 / 128 * 135)
      rw [take_set hdl (by omega) hv] at C2'
      have he : (dblB xs).take (15 + 1) ++ zeros (16 - (15 + 1)) = dblB xs := by rw [List.take_of_length_le (by omega)]; simp [zeros]
      rw [he] at C2'
      clear hv he hkl
      generalize xs.getD 15 0 = x at *
      generalize xs.getD 0 0 = y at *
      have hxor : bits BinOp.xor IntKind.u8 ((x : Int) * 2 % 256) ((y : Int) / 128 * 135) = ((x * 2 % 256 ^^^ y / 128 * 135 : Nat) : Int) := by
        rw [show (x : Int) * 2 % 256 = ((x * 2 % 256 : Nat) : Int) by simp, show (y : Int) / 128 * 135 = ((y / 128 * 135 : Nat) : Int) by simp, u8xor (by omega) (by omega)]
      rw [← hxor] at C2'
      have C1' := C1.far (p := ⟨w.heap.size + 2, 15, none⟩) (by first | omega | (simp; done) | (simp; omega)) (.int .u8 (bits BinOp.xor IntKind.u8 ((x : Int) * 2 % 256) ((y : Int) / 128 * 135)))
      have hbel2 := hbelr.setCell (p := ⟨w.heap.size + 2, 15, none⟩) (by first | omega | (simp; done) | (simp; omega)) (.int .u8 (bits BinOp.xor IntKind.u8 ((x : Int) * 2 % 256) ((y : Int) / 128 * 135)))
      clear hxor
      go_wp2_with (first | (refine wpList_load_ints rfl 96 _ rfl (w.heap.size + 2) rfl C2' Tryz.ar96 hdl ?_; (try simp only [Act.put, List.setIfInBounds_toArray, List.set_cons_zero, List.set_cons_succ, World.size_alloc, setRow_size, Nat.add_assoc, Nat.reduceAdd])) | (refine wpList_store_ints rfl 96 _ _ rfl (w.heap.size + 1) rfl rfl C1' (zeros_size _ _) Tryz.ar96 hdl ?_; (try simp only [Act.put, List.setIfInBounds_toArray, List.set_cons_zero, List.set_cons_succ, World.size_alloc, setRow_size, Nat.add_assoc, Nat.reduceAdd])))
      exact ret_ints rfl rfl (C1'.row _) Tryz.ar96 hdl ⟨rfl, bSetRow hbel2 (by omega) _⟩
def awA : List Nat := [1, 0, 0, 0, 0, 0, 0, 0, 0, 0, 0, 0, 0, 0, 0, 194]
def awB : List Nat := [7, 0, 0, 9, 0, 0, 0, 0, 0, 0, 0, 0, 0, 0, 0, 0]
def awC : List Nat := [128, 0, 0, 0, 0, 0, 0, 0, 0, 0, 0, 0, 0, 0, 0, 0]
def awD : List Nat := [0, 0, 0, 0, 0, 0, 0, 0, 0, 0, 0, 0, 0, 0, 0, 135]
theorem awA_c : ints .u8 awA = #[.int .u8 1, .int .u8 0, .int .u8 0, .int .u8 0, .int .u8 0, .int .u8 0, .int .u8 0, .int .u8 0, .int .u8 0, .int .u8 0, .int .u8 0, .int .u8 0, .int .u8 0, .int .u8 0, .int .u8 0, .int .u8 194] := by kernel_rfl
theorem awB_c : ints .u8 awB = #[.int .u8 7, .int .u8 0, .int .u8 0, .int .u8 9, .int .u8 0, .int .u8 0, .int .u8 0, .int .u8 0, .int .u8 0, .int .u8 0, .int .u8 0, .int .u8 0, .int .u8 0, .int .u8 0, .int .u8 0, .int .u8 0] := by kernel_rfl
theorem awC_c : ints .u8 awC = #[.int .u8 128, .int .u8 0, .int .u8 0, .int .u8 0, .int .u8 0, .int .u8 0, .int .u8 0, .int .u8 0, .int .u8 0, .int .u8 0, .int .u8 0, .int .u8 0, .int .u8 0, .int .u8 0, .int .u8 0, .int .u8 0] := by kernel_rfl
theorem awD_c : ints .u8 awD = #[.int .u8 0, .int .u8 0, .int .u8 0, .int .u8 0, .int .u8 0, .int .u8 0, .int .u8 0, .int .u8 0, .int .u8 0, .int .u8 0, .int .u8 0, .int .u8 0, .int .u8 0, .int .u8 0, .int .u8 0, .int .u8 135] := by kernel_rfl
theorem aw_dot : elem (dot R1 D1 (num awA) (num awB)) = awB := by
  unfold dot; rw [Gf.mul_fast]; kernel_rfl
theorem aw_dbl : dblB awC = awD := by kernel_rfl
end Go.Proofs.YtaiffkajkbiidaaGreatDoor
/- The walks of RingLaws, RingDots and RingApart. No condition but that bytes are below 256. -/
namespace Go.Proofs.YtaiffkajkbiidaaGreatDoor
set_option linter.unusedSimpArgs false
set_option linter.unusedVariables false
set_option linter.unusedSectionVars false
set_option linter.unusedVariables false
open Go.RowKit
open Gf (W2 up down upN downN mulS mul dot dotS R1 D1)
theorem num_xor {xs ys : List Nat} (hl : xs.length = 16) (hb : ∀ x ∈ xs, x < 256) (hl' : ys.length = 16) (hb' : ∀ x ∈ ys, x < 256) : num (xorL xs ys) = num xs ^^^ num ys := by
  have key : ∀ (n : Nat) (f g : Nat → Nat), (∀ i, f i < 256) → (∀ i, g i < 256) → undig 256 ((List.range n).map fun i => f i ^^^ g i) = undig 256 ((List.range n).map f) ^^^ undig 256 ((List.range n).map g) := by
    intro n
    induction n with
    | zero => intro f g _ _; simp [undig]
    | succ n ih =>
      intro f g hf hg
      rw [List.range_succ, List.map_append, List.map_append, List.map_append, undig_append, undig_append, undig_append, ih f g hf hg]
      simp only [List.length_map, List.length_range, List.map_cons, List.map_nil, undig, Nat.mul_zero, Nat.add_zero]
      have l1 : undig 256 ((List.range n).map f) < 256 ^ n := by
        have := undig_lt ((List.range n).map f) (b := 256) (fun x hx => by obtain ⟨i, -, rfl⟩ := List.mem_map.1 hx; exact hf i)
        rw [List.length_map, List.length_range] at this
        exact this
      have l2 : undig 256 ((List.range n).map g) < 256 ^ n := by
        have := undig_lt ((List.range n).map g) (b := 256) (fun x hx => by obtain ⟨i, -, rfl⟩ := List.mem_map.1 hx; exact hg i)
        rw [List.length_map, List.length_range] at this
        exact this
      generalize undig 256 ((List.range n).map f) = u at *
      generalize undig 256 ((List.range n).map g) = v at *
      have e8 : (256 : Nat) ^ n = 2 ^ (8 * n) := by rw [Nat.pow_mul]
      rw [e8] at l1 l2 ⊢
      rw [Nat.mul_comm _ (f n), Nat.mul_comm _ (g n), Nat.mul_comm _ (f n ^^^ g n), ← Gf.xor_add (8 * n) l1, ← Gf.xor_add (8 * n) l2, ← Gf.xor_add (8 * n) (Nat.xor_lt_two_pow l1 l2), Gf.xor4]
      congr 1
      apply Gf.bit_ext; intro j
      rw [Nat.testBit_xor, Nat.testBit_mul_two_pow, Nat.testBit_mul_two_pow, Nat.testBit_mul_two_pow, Nat.testBit_xor]
      cases decide (8 * n ≤ j) <;> simp
  have h := key 16 (fun i => xs.getD i 0) (fun i => ys.getD i 0) (fun i => getD_bound hb (by omega) i) (fun i => getD_bound hb' (by omega) i)
  rw [range_getD' hl, range_getD' hl'] at h
  exact h
theorem elem_xor {m n : Nat} (hm : m < 2 ^ 128) (hn : n < 2 ^ 128) : xorL (elem m) (elem n) = elem (m ^^^ n) := by
  have h := num_xor (elem_len m) (elem_lt m) (elem_len n) (elem_lt n)
  rw [num_elem hm, num_elem hn] at h
  rw [← h, elem_num (xorL_len _ _) (xorL_lt (elem_lt m) (elem_lt n))]
theorem elem_inj {m n : Nat} (hm : m < 2 ^ 128) (hn : n < 2 ^ 128) (h : elem m = elem n) : m = n := by
  rw [← num_elem hm, ← num_elem hn, h]
def one16 : List Nat := [1, 0, 0, 0, 0, 0, 0, 0, 0, 0, 0, 0, 0, 0, 0, 0]
theorem num_one : num one16 = 1 := by kernel_rfl
theorem num_up : num awA = Gf.upN R1 128 1 := by kernel_rfl
theorem num_zero : num (zeros 16) = 0 := by kernel_rfl
end Go.Proofs.YtaiffkajkbiidaaGreatDoor
/- Plain laws: an element doubled by the highest bit first, byte by byte, is its number doubled modulo x^128 + x^7 + x^2 + x + 1; multiples. No program is spoken of. No condition. -/
namespace Go.Proofs.YtaiffkajkbiidaaGreatDoor
set_option linter.unusedSimpArgs false
set_option linter.unusedVariables false
set_option linter.unusedSectionVars false
set_option linter.unusedVariables false
open Gf (up upN mulS mul)
def R2 : Nat := 135
theorem R2_lt : R2 < 2 ^ 128 := by decide
/-- An element's number by the highest bit first. -/
def bnum (xs : List Nat) : Nat := num xs.reverse
def belem (n : Nat) : List Nat := (elem n).reverse
theorem belem_len (n : Nat) : (belem n).length = 16 := by simp [belem, elem_len]
theorem belem_lt (n : Nat) : ∀ x ∈ belem n, x < 256 := fun x hx => elem_lt n x (by simpa [belem] using hx)
theorem bnum_lt {xs : List Nat} (hl : xs.length = 16) (hb : ∀ x ∈ xs, x < 256) : bnum xs < 2 ^ 128 := num_lt (by simpa using hl) (fun x hx => hb x (by simpa using hx))
theorem bnum_belem {n : Nat} (h : n < 2 ^ 128) : bnum (belem n) = n := by unfold bnum belem; rw [List.reverse_reverse, num_elem h]
theorem belem_bnum {xs : List Nat} (hl : xs.length = 16) (hb : ∀ x ∈ xs, x < 256) : belem (bnum xs) = xs := by
  unfold bnum belem; rw [elem_num (by simpa using hl) (fun x hx => hb x (by simpa using hx)), List.reverse_reverse]
theorem rev_getD {xs : List Nat} (hl : xs.length = 16) {i : Nat} (hi : i < 16) : xs.reverse.getD i 0 = xs.getD (15 - i) 0 := by
  rw [List.getD_eq_getElem?_getD, List.getD_eq_getElem?_getD, List.getElem?_reverse (by omega), hl, show 16 - 1 - i = 15 - i by omega]
theorem elem_getD (n : Nat) {i : Nat} (hi : i < 16) : (elem n).getD i 0 = n / 256 ^ i % 256 := dig_getD 256 16 n i hi
theorem num_digit {xs : List Nat} (hl : xs.length = 16) (hb : ∀ x ∈ xs, x < 256) {i : Nat} (hi : i < 16) : xs.getD i 0 = num xs / 256 ^ i % 256 := by
  rw [← elem_getD (num xs) hi, elem_num hl hb]
theorem belem_getD (n : Nat) {i : Nat} (hi : i < 16) : (belem n).getD i 0 = n / 256 ^ (15 - i) % 256 := by
  unfold belem; rw [rev_getD (elem_len n) hi, elem_getD n (by omega)]
theorem bnum_digit {xs : List Nat} (hl : xs.length = 16) (hb : ∀ x ∈ xs, x < 256) {i : Nat} (hi : i < 16) : xs.getD i 0 = bnum xs / 256 ^ (15 - i) % 256 := by
  rw [← belem_getD _ hi, belem_bnum hl hb]
theorem list_ext16 {xs ys : List Nat} (hl : xs.length = 16) (hl' : ys.length = 16) (h : ∀ i, i < 16 → xs.getD i 0 = ys.getD i 0) : xs = ys := by
  apply List.ext_getElem? fun i => ?_
  by_cases hi : i < 16
  · rw [getD_lt (by omega), getD_lt (by omega), h i hi]
  · rw [List.getElem?_eq_none (by omega), List.getElem?_eq_none (by omega)]
theorem xor_digit (a b j : Nat) : (a ^^^ b) / 256 ^ j % 256 = (a / 256 ^ j % 256) ^^^ (b / 256 ^ j % 256) := by
  rw [show (256 : Nat) ^ j = 2 ^ (8 * j) by rw [Nat.pow_mul], show (256 : Nat) = 2 ^ 8 by decide, ← Nat.shiftRight_eq_div_pow, ← Nat.shiftRight_eq_div_pow, ← Nat.shiftRight_eq_div_pow, Nat.shiftRight_xor_distrib, Nat.xor_mod_two_pow]
theorem dbl_digit (n j : Nat) : 2 * n / 256 ^ (j + 1) % 256 = (n / 256 ^ (j + 1) % 256 * 2 % 256) + n / 256 ^ j % 256 / 128 := by
  have hK : 0 < 256 ^ j := Nat.pow_pos (by omega)
  have e1 : 2 * n / 256 ^ (j + 1) = 2 * n / 256 ^ j / 256 := by rw [Nat.div_div_eq_div_mul, ← Nat.pow_succ]
  have e2 : n / 256 ^ (j + 1) = n / 256 ^ j / 256 := by rw [Nat.div_div_eq_div_mul, ← Nat.pow_succ]
  rw [e1, e2]
  have h := Nat.div_add_mod n (256 ^ j)
  have hr := Nat.mod_lt n hK
  have e3 : 2 * n / 256 ^ j = 2 * (n / 256 ^ j) + 2 * (n % 256 ^ j) / 256 ^ j := by
    conv => lhs; rw [← h]
    rw [Nat.mul_add, ← Nat.mul_assoc, Nat.mul_comm 2 (256 ^ j), Nat.mul_assoc, Nat.mul_add_div hK]
  have h2 : 2 * (n % 256 ^ j) / 256 ^ j < 2 := by
    rw [Nat.div_lt_iff_lt_mul hK]; omega
  rw [e3]
  generalize n / 256 ^ j = m at *
  generalize 2 * (n % 256 ^ j) / 256 ^ j = b at *
  omega
theorem or_small {a b : Nat} (ha : a < 256) (hb : b < 256) : (a * 2 % 256) ||| (b / 128) = a * 2 % 256 + b / 128 := by
  have := Nat.two_pow_add_eq_or_of_lt (i := 1) (b := b / 128) (by omega) (a % 128)
  rw [show 2 ^ 1 * (a % 128) = a * 2 % 256 by omega] at this
  exact this.symm
theorem mod_digit (n j : Nat) (hj : j < 16) : n % 2 ^ 128 / 256 ^ j % 256 = n / 256 ^ j % 256 := by
  have e : (2 : Nat) ^ 128 = 256 ^ j * 256 ^ (16 - j) := by rw [← Nat.pow_add, show j + (16 - j) = 16 by omega]
  rw [e, Nat.mod_mul_right_div_self, show 16 - j = (15 - j) + 1 by omega, Nat.pow_succ, Nat.mul_comm, Nat.mod_mul_right_mod]
theorem top_bit {n : Nat} (h : n < 2 ^ 128) : n / 256 ^ 15 % 256 / 128 = if n.testBit 127 then 1 else 0 := by
  rw [Gf.bit127 n h]
  have : n / 256 ^ 15 % 256 / 128 = n / 18446744073709551616 / 9223372036854775808 := by omega
  rw [this]
  have h2 : n / 18446744073709551616 / 9223372036854775808 = 0 ∨ n / 18446744073709551616 / 9223372036854775808 = 1 := by omega
  rcases h2 with h2 | h2 <;> rw [h2] <;> simp
theorem dblB_up {xs : List Nat} (hl : xs.length = 16) (hb : ∀ x ∈ xs, x < 256) : dblB xs = belem (up R2 (bnum xs)) := by
  have hn := bnum_lt hl hb
  refine list_ext16 (dblB_len xs) (belem_len _) fun i hi => ?_
  rw [dblB_getD xs hi, belem_getD _ hi]
  unfold up
  rw [xor_digit, mod_digit _ _ (by omega)]
  by_cases h : i < 15
  · rw [if_pos h, or_small (getD_bound hb (by omega) _) (getD_bound hb (by omega) _), bnum_digit hl hb (by omega), bnum_digit hl hb (i := i + 1) (by omega), show 15 - i = 15 - (i + 1) + 1 by omega, dbl_digit]
    have e0 : (if (bnum xs).testBit 127 then R2 else 0) / 256 ^ (15 - (i + 1) + 1) % 256 = 0 := by
      have : (if (bnum xs).testBit 127 then R2 else 0) < 256 ^ (15 - (i + 1) + 1) := by
        refine Nat.lt_of_lt_of_le (show _ < 256 ^ 1 by split <;> decide) (Nat.pow_le_pow_right (by omega) (by omega))
      rw [Nat.div_eq_of_lt this]
    rw [e0, Nat.xor_zero]
  · obtain rfl : i = 15 := by omega
    rw [if_neg h, bnum_digit hl hb (i := 15) (by omega), bnum_digit hl hb (i := 0) (by omega), show 15 - 15 = 0 by omega, show 15 - 0 = 15 by omega, top_bit hn, Nat.pow_zero, Nat.div_one, Nat.div_one, Nat.div_one]
    congr 1
    · omega
    · cases (bnum xs).testBit 127 <;> simp [R2]
theorem xorL_rev {xs ys : List Nat} (hl : xs.length = 16) (hl' : ys.length = 16) : (xorL xs ys).reverse = xorL xs.reverse ys.reverse := by
  refine list_ext16 (by simp [xorL_len]) (xorL_len _ _) fun i hi => ?_
  rw [rev_getD (xorL_len _ _) hi, xorL_getD _ _ (by omega), xorL_getD _ _ hi, rev_getD hl hi, rev_getD hl' hi]
theorem bnum_xor {xs ys : List Nat} (hl : xs.length = 16) (hb : ∀ x ∈ xs, x < 256) (hl' : ys.length = 16) (hb' : ∀ x ∈ ys, x < 256) : bnum (xorL xs ys) = bnum xs ^^^ bnum ys := by
  unfold bnum
  rw [xorL_rev hl hl', num_xor (by simpa using hl) (fun x hx => hb x (by simpa using hx)) (by simpa using hl') (fun x hx => hb' x (by simpa using hx))]
theorem belem_xor {m n : Nat} (hm : m < 2 ^ 128) (hn : n < 2 ^ 128) : xorL (belem m) (belem n) = belem (m ^^^ n) := by
  unfold belem
  rw [← xorL_rev (elem_len m) (elem_len n), elem_xor hm hn]
theorem belem_inj {m n : Nat} (hm : m < 2 ^ 128) (hn : n < 2 ^ 128) (h : belem m = belem n) : m = n := by
  rw [← bnum_belem hm, ← bnum_belem hn, h]
end Go.Proofs.YtaiffkajkbiidaaGreatDoor
/- ring.Multiple and what it calls. No condition but that bytes are below 256. -/
namespace Go.Proofs.YtaiffkajkbiidaaGreatDoor
set_option linter.unusedSimpArgs false
set_option linter.unusedVariables false
set_option linter.unusedSectionVars false
set_option linter.unusedVariables false
open Go.RowKit
open Gf (up upN mulS mul)
def sumL (b : Bool) (xs ys : List Nat) : List Nat := if b then xorL xs ys else xs
theorem sumL_len {b : Bool} {xs ys : List Nat} (hl : xs.length = 16) : (sumL b xs ys).length = 16 := by
  cases b
  · exact hl
  · exact xorL_len xs ys
theorem sumL_lt {b : Bool} {xs ys : List Nat} (hx : ∀ x ∈ xs, x < 256) (hy : ∀ x ∈ ys, x < 256) : ∀ x ∈ sumL b xs ys, x < 256 := by
  cases b
  · exact hx
  · exact xorL_lt hx hy
set_option maxRecDepth 100000 in
set_option maxHeartbeats 4000000 in
theorem xorS_c (p q : Nat) (xs ys : List Nat) (hl : xs.length = 16) (hb : ∀ x ∈ xs, x < 256) (hl' : ys.length = 16) (hb' : ∀ x ∈ ys, x < 256) (w : World) (A0 : Blk w p 96 (ints .u8 xs)) (A1 : Blk w q 96 (ints .u8 ys)) :
    Calls Tryz.prog 42 #[.slice (some ⟨p, 0, none⟩) 16 16, .slice (some ⟨q, 0, none⟩) 16 16] w fun e w' => e = .returned (.slice (some ⟨w.heap.size, 0, none⟩) 16 16) ∧ Below w.heap.size w w' ∧ Blk w' w.heap.size 5 (ints .u8 (xorL xs ys)) := by
  have hmk : ∀ W : World, (Instr.makeSlice 23 (.int .i64 16) (.int .i64 16)).run Tryz.prog W = .ok (.slice (some ⟨W.heap.size, 0, none⟩) 16 16) (W.alloc (.cells (ints .u8 (zeros 16)) 5)) := fun _ => by kernel_rfl
  have hxl := xorL_len xs ys
  have hp := A0.lt
  have hq := A1.lt
  go_enter Tryz.func42, Tryz.ntmps42
  go_wp2
  go_loopw [15] (fun t wr => ∃ k : Nat, k ≤ 16 ∧ t = .int .i64 k ∧ Blk wr p 96 (ints .u8 xs) ∧ Blk wr q 96 (ints .u8 ys) ∧ Blk wr w.heap.size 5 (ints .u8 ((xorL xs ys).take k ++ zeros (16 - k))) ∧ Below w.heap.size w wr) (fun t wr => 16 - (intOf t).toNat)
  case atStart => exact ⟨0, by omega, rfl, A0.alloc _, A1.alloc _, Blk.new _ _ _, (Below.refl _ _).alloc (Nat.le_refl _) _⟩
  case round =>
    rename_i hrel
    obtain ⟨k, hk, rfl, C0, C1, C2, hbelr⟩ := hrel
    by_cases hlt : k < 16
    · have hll : ((xorL xs ys).take k ++ zeros (16 - k)).length = 16 := by simp [zeros, hxl]; omega
      have c0 := C0.int (i := k) (by omega)
      have c1 := C1.int (i := k) (by omega)
      have c2 := C2.int (i := k) (by omega)
      have z2 := C2.frozen k
      have vx := getD_bound hb (by omega) k
      have vy := getD_bound hb' (by omega) k
      have hv := xorL_getD xs ys hlt
      have C2' := C2.intSet k (xs.getD k 0 ^^^ ys.getD k 0)
      rw [take_set hxl hlt hv] at C2'
      have HC := Lib.hid C2'
      have HX := Lib.hid (u8xor vx vy)
      clear C2' hll hv
      generalize xs.getD k 0 = x at *
      generalize ys.getD k 0 = y at *
      go_wp2
      go_region
      all_goals
        rw [HX.out]
        go_wp2
        exact ⟨⟨k + 1, by omega, by go_num, (C0.far (by first | omega | (simp; done) | (simp; omega)) _).drew, (C1.far (by first | omega | (simp; done) | (simp; omega)) _).drew, HC.out.drew, (hbelr.setCell (by first | omega | (simp; done) | (simp; omega)) _).drew⟩, by simp [intOf] <;> omega⟩
    · obtain rfl : k = 16 := by omega
      have he : (xorL xs ys).take 16 ++ zeros (16 - 16) = xorL xs ys := by rw [List.take_of_length_le (by omega)]; simp [zeros]
      rw [he] at C2
      go_wp2
      go_ret
      exact ⟨rfl, hbelr, C2⟩
set_option maxRecDepth 100000 in
set_option maxHeartbeats 4000000 in
theorem sum_c (xs ys : List Nat) (b : Bool) (hl : xs.length = 16) (hb : ∀ x ∈ xs, x < 256) (hl' : ys.length = 16) (hb' : ∀ x ∈ ys, x < 256) (w : World) :
    Calls Tryz.prog 196 #[.agg (ints .u8 xs), .agg (ints .u8 ys), .bool b] w fun e w' => e = .returned (.agg (ints .u8 (sumL b xs ys))) ∧ Below w.heap.size w w' := by
  have B0 := ((Blk.new w 96 (ints .u8 xs)).alloc (.cells (ints .u8 ys) 96)).alloc (.cells (ints .u8 (zeros 16)) 96)
  have B1 := (Blk.new (w.alloc (.cells (ints .u8 xs) 96)) 96 (ints .u8 ys)).alloc (.cells (ints .u8 (zeros 16)) 96)
  have B2 := Blk.new ((w.alloc (.cells (ints .u8 xs) 96)).alloc (.cells (ints .u8 ys) 96)) 96 (ints .u8 (zeros 16))
  rw [World.size_alloc] at B1
  rw [World.size_alloc, World.size_alloc] at B2
  simp only [Nat.add_assoc, Nat.reduceAdd] at B2
  have hbel := (((Below.refl w.heap.size w).alloc (Nat.le_refl _) (.cells (ints .u8 xs) 96)).alloc (by simp) (.cells (ints .u8 ys) 96)).alloc (by simp; omega) (.cells (ints .u8 (zeros 16)) 96)
  have hxl := xorL_len xs ys
  cases b
  · have hbel2 := bSetRow hbel (show w.heap.size ≤ w.heap.size + 2 by omega) (ints .u8 xs)
    go_enter Tryz.func196, Tryz.ntmps196
    go_wp2_with (first | (refine wpList_alloc_ints rfl 96 rfl Tryz.z96 ?_; (try simp only [Act.put, List.setIfInBounds_toArray, List.set_cons_zero, List.set_cons_succ, World.size_alloc, setRow_size, Nat.add_assoc, Nat.reduceAdd])) | (refine wpList_load_ints rfl 96 _ rfl w.heap.size rfl B0 Tryz.ar96 hl ?_; (try simp only [Act.put, List.setIfInBounds_toArray, List.set_cons_zero, List.set_cons_succ, World.size_alloc, setRow_size, Nat.add_assoc, Nat.reduceAdd])) | (refine wpList_store_ints rfl 96 _ _ rfl (w.heap.size + 2) rfl rfl B2 (zeros_size _ _) Tryz.ar96 hl ?_; (try simp only [Act.put, List.setIfInBounds_toArray, List.set_cons_zero, List.set_cons_succ, World.size_alloc, setRow_size, Nat.add_assoc, Nat.reduceAdd])))
    exact ret_ints rfl rfl (B2.row _) Tryz.ar96 hl ⟨rfl, hbel2⟩
  · go_enter Tryz.func196, Tryz.ntmps196
    go_wp2_with (refine wpList_alloc_ints rfl 96 rfl Tryz.z96 ?_; (try simp only [Act.put, List.setIfInBounds_toArray, List.set_cons_zero, List.set_cons_succ, World.size_alloc, setRow_size, Nat.add_assoc, Nat.reduceAdd]))
    generalize (((w.alloc (.cells (ints .u8 xs) 96)).alloc (.cells (ints .u8 ys) 96)).alloc (.cells (ints .u8 (zeros 16)) 96)) = w1 at *
    go_still_tail 2, (by kernel_rfl)
    change wpList _ _ _ _ _ w1.drew
    replace B0 := B0.drew
    replace B1 := B1.drew
    replace B2 := B2.drew
    replace hbel := hbel.drew
    generalize w1.drew = w2 at *
    go_wp2_with (fail)
    refine (xorS_c _ _ xs ys hl hb hl' hb' _ B0 B1).mono ?_
    rintro e w3 ⟨rfl, hb3, D3⟩
    have D2 := B2.below' hb3
    have hbel3 := bCall hbel hb3 hbel.size
    have hs := Sl.blk D3
    go_wp2_with (fail)
    have hbk := block_c (some ⟨w2.heap.size, 0, none⟩) 16 (xorL xs ys) _ hs
    rw [hxl] at hbk
    refine hbk.mono ?_
    rintro e w4 ⟨rfl, hb4⟩
    have E2 := D2.below' hb4
    have hbel4 := bCall hbel3 hb4 hbel3.size
    have hbn : blockN (xorL xs ys) = xorL xs ys := by
      refine list_ext16 (blockN_len _) hxl fun i hi => ?_
      unfold blockN
      rw [List.getD_eq_getElem?_getD, List.getElem?_map, List.getElem?_range hi]; rfl
    rw [hbn]
    go_wp2_with (refine wpList_store_ints rfl 96 _ _ rfl (w.heap.size + 2) rfl rfl E2 (zeros_size _ _) Tryz.ar96 hxl ?_; (try simp only [Act.put, List.setIfInBounds_toArray, List.set_cons_zero, List.set_cons_succ, World.size_alloc, setRow_size, Nat.add_assoc, Nat.reduceAdd]))
    exact ret_ints rfl rfl (E2.row _) Tryz.ar96 hxl ⟨rfl, bSetRow hbel4 (by omega) _⟩
end Go.Proofs.YtaiffkajkbiidaaGreatDoor
/- ring.Multiple. No condition but that bytes are below 256 and the number below 2^64. -/
namespace Go.Proofs.YtaiffkajkbiidaaGreatDoor
set_option linter.unusedSimpArgs false
set_option linter.unusedVariables false
set_option linter.unusedSectionVars false
set_option linter.unusedVariables false
open Go.RowKit
open Gf (up upN mulS mul)
theorem mulS_stable (R a n i : Nat) (h : n < 2 ^ i) : ∀ k, mulS R a n (i + k) = mulS R a n i
  | 0 => rfl
  | k + 1 => by
    show mulS R a n (i + k) ^^^ (if n.testBit (i + k) then upN R (i + k) a else 0) = _
    rw [mulS_stable R a n i h k, Nat.testBit_lt_two_pow (Nat.lt_of_lt_of_le h (Nat.pow_le_pow_right (by omega) (by omega)))]
    simp
theorem mul_small (R a n i : Nat) (hi : i ≤ 128) (h : n < 2 ^ i) : mul R a n = mulS R a n i := by
  have := mulS_stable R a n i h (128 - i)
  rw [show i + (128 - i) = 128 by omega] at this
  exact this
theorem sum_true {S X : Nat} (hS : S < 2 ^ 128) (hX : X < 2 ^ 128) : sumL true (belem S) (belem X) = belem (S ^^^ 1 * X) := by
  rw [Nat.one_mul, ← belem_xor hS hX]; rfl
theorem sum_false {S X : Nat} (hS : S < 2 ^ 128) (hX : X < 2 ^ 128) : sumL false (belem S) (belem X) = belem (S ^^^ 0 * X) := by
  rw [Nat.zero_mul, Nat.xor_zero]; rfl
theorem dblB_belem {X : Nat} (hX : X < 2 ^ 128) : dblB (belem X) = belem (up R2 X) := by
  rw [dblB_up (belem_len X) (belem_lt X), bnum_belem hX]
theorem belem_zero : belem 0 = zeros 16 := by decide
set_option maxRecDepth 100000 in
set_option maxHeartbeats 4000000 in
theorem multiple_c (n : Nat) (xs : List Nat) (hn : n < 2 ^ 64) (hl : xs.length = 16) (hb : ∀ x ∈ xs, x < 256) (w : World) :
    Calls Tryz.prog 193 #[.int .u64 n, .agg (ints .u8 xs)] w fun e w' => e = .returned (.agg (ints .u8 (belem (mul R2 (bnum xs) n)))) ∧ Below w.heap.size w w' := by
  have hx := bnum_lt hl hb
  have hxe := belem_bnum hl hb
  have B0 := ((Blk.new w 96 (ints .u8 xs)).alloc (.cells (ints .u8 (zeros 16)) 96)).alloc (.cells (ints .u8 (zeros 16)) 96)
  have B1 := (Blk.new (w.alloc (.cells (ints .u8 xs) 96)) 96 (ints .u8 (zeros 16))).alloc (.cells (ints .u8 (zeros 16)) 96)
  have B2 := Blk.new ((w.alloc (.cells (ints .u8 xs) 96)).alloc (.cells (ints .u8 (zeros 16)) 96)) 96 (ints .u8 (zeros 16))
  rw [World.size_alloc] at B1
  rw [World.size_alloc, World.size_alloc] at B2
  simp only [Nat.add_assoc, Nat.reduceAdd] at B2
  have hbel := (((Below.refl w.heap.size w).alloc (Nat.le_refl _) (.cells (ints .u8 xs) 96)).alloc (by simp) (.cells (ints .u8 (zeros 16)) 96)).alloc (by simp; omega) (.cells (ints .u8 (zeros 16)) 96)
  go_enter Tryz.func193, Tryz.ntmps193
  go_wp2_with (refine wpList_alloc_ints rfl 96 rfl Tryz.z96 ?_; (try simp only [Act.put, List.setIfInBounds_toArray, List.set_cons_zero, List.set_cons_succ, World.size_alloc, setRow_size, Nat.add_assoc, Nat.reduceAdd]))
  generalize (((w.alloc (.cells (ints .u8 xs) 96)).alloc (.cells (ints .u8 (zeros 16)) 96)).alloc (.cells (ints .u8 (zeros 16)) 96)) = w1 at *
  rw [← hxe] at B0
  generalize hxd : bnum xs = x at *
  have Hxd := Lib.hid hxd
  clear hxe hxd
  go_loopw [0] (fun t wr => ∃ i : Nat, i ≤ 64 ∧ t = .int .u64 ((n / 2 ^ i : Nat) : Int) ∧ Blk wr w.heap.size 96 (ints .u8 (belem (upN R2 i x))) ∧ Blk wr (w.heap.size + 1) 96 (ints .u8 (zeros 16)) ∧ Blk wr (w.heap.size + 2) 96 (ints .u8 (belem (mulS R2 x n i))) ∧ Below w.heap.size w wr) (fun t wr => (intOf t).toNat)
  case atStart => exact ⟨0, by omega, by rw [Nat.pow_zero, Nat.div_one], B0, B1, by rw [show belem (mulS R2 x n 0) = zeros 16 from belem_zero]; exact B2, hbel⟩
  case round =>
    rename_i hrel
    obtain ⟨i, hi, rfl, C0, C1, C2, hbelr⟩ := hrel
    have hX := Gf.upN_lt R2_lt hx i
    have hS := Gf.mulS_lt R2_lt hx n i
    have hv64 : n / 2 ^ i < 18446744073709551616 := Nat.lt_of_le_of_lt (Nat.div_le_self _ _) hn
    have hstep : n / 2 ^ (i + 1) = n / 2 ^ i / 2 := by rw [Nat.pow_succ, Nat.div_div_eq_div_mul]
    by_cases hlt : 0 < n / 2 ^ i
    · have hi64 : i < 64 := by
        apply Classical.byContradiction; intro hc
        obtain rfl : i = 64 := by omega
        rw [Nat.div_eq_of_lt hn] at hlt; omega
      have hnx : mulS R2 x n (i + 1) = mulS R2 x n i ^^^ n / 2 ^ i % 2 * upN R2 i x := by
        show mulS R2 x n i ^^^ _ = _
        rw [Gf.if_bit]
      have hux : upN R2 (i + 1) x = up R2 (upN R2 i x) := rfl
      have hand := and1 (n / 2 ^ i) hv64
      have HS := Lib.hid hstep
      clear hstep
      rcases Nat.mod_two_eq_zero_or_one (n / 2 ^ i) with h2 | h2
      · rw [h2] at hand hnx
        have HX := Lib.hid hnx
        have HU := Lib.hid hux
        clear hnx hux
        generalize mulS R2 x n i = S at *
        generalize upN R2 i x = X at *
        generalize n / 2 ^ i = v at *
        have hlS := belem_len S
        have hlX := belem_len X
        have hq : decide ((v : Int) > 0) = true := by simp; omega
        go_wp2_with (first | (refine wpList_load_ints rfl 96 _ rfl (w.heap.size + 2) rfl C2 Tryz.ar96 hlS ?_; (try simp only [Act.put, List.setIfInBounds_toArray, List.set_cons_zero, List.set_cons_succ, World.size_alloc, setRow_size, Nat.add_assoc, Nat.reduceAdd])) | (refine wpList_load_ints rfl 96 _ rfl w.heap.size rfl C0 Tryz.ar96 hlX ?_; (try simp only [Act.put, List.setIfInBounds_toArray, List.set_cons_zero, List.set_cons_succ, World.size_alloc, setRow_size, Nat.add_assoc, Nat.reduceAdd])))
        refine (sum_c (belem S) (belem X) false hlS (belem_lt S) hlX (belem_lt X) _).mono ?_
        rintro e w2 ⟨rfl, hb2⟩
        rw [sum_false hS hX, ← HX.out]
        have hln := belem_len (mulS R2 x n (i + 1))
        have D0 := (C0.below' hb2).rowFar (show w.heap.size ≠ w.heap.size + 2 by omega) (ints .u8 (belem (mulS R2 x n (i + 1))))
        have D1 := (C1.below' hb2).rowFar (show w.heap.size + 1 ≠ w.heap.size + 2 by omega) (ints .u8 (belem (mulS R2 x n (i + 1))))
        have C2' := C2.below' hb2
        have D2 := C2'.row (ints .u8 (belem (mulS R2 x n (i + 1))))
        have hbel2 := bSetRow (bCall hbelr hb2 hbelr.size) (show w.heap.size ≤ w.heap.size + 2 by omega) (ints .u8 (belem (mulS R2 x n (i + 1))))
        have hsz2 : (belem S).length = 16 := hlS
        go_wp2_with (first | (refine wpList_store_ints rfl 96 _ _ rfl (w.heap.size + 2) rfl rfl C2' (by rw [ints_size, hsz2]) Tryz.ar96 hln ?_; (try simp only [Act.put, List.setIfInBounds_toArray, List.set_cons_zero, List.set_cons_succ, World.size_alloc, setRow_size, Nat.add_assoc, Nat.reduceAdd])) | (refine wpList_load_ints rfl 96 _ rfl w.heap.size rfl D0 Tryz.ar96 hlX ?_; (try simp only [Act.put, List.setIfInBounds_toArray, List.set_cons_zero, List.set_cons_succ, World.size_alloc, setRow_size, Nat.add_assoc, Nat.reduceAdd])))
        refine (double_c (belem X) hlX (belem_lt X) _).mono ?_
        rintro e w4 ⟨rfl, hb4⟩
        rw [dblB_belem hX, ← HU.out]
        have hlu := belem_len (upN R2 (i + 1) x)
        have D0' := D0.below' hb4
        have E0 := D0'.row (ints .u8 (belem (upN R2 (i + 1) x)))
        have E1 := (D1.below' hb4).rowFar (show w.heap.size + 1 ≠ w.heap.size by omega) (ints .u8 (belem (upN R2 (i + 1) x)))
        have E2 := (D2.below' hb4).rowFar (show w.heap.size + 2 ≠ w.heap.size by omega) (ints .u8 (belem (upN R2 (i + 1) x)))
        have hbel3 := bSetRow (bCall hbel2 hb4 hbel2.size) (Nat.le_refl w.heap.size) (ints .u8 (belem (upN R2 (i + 1) x)))
        go_wp2_with (refine wpList_store_ints rfl 96 _ _ rfl w.heap.size rfl rfl D0' (by rw [ints_size, hlX]) Tryz.ar96 hlu ?_; (try simp only [Act.put, List.setIfInBounds_toArray, List.set_cons_zero, List.set_cons_succ, World.size_alloc, setRow_size, Nat.add_assoc, Nat.reduceAdd]))
        exact ⟨⟨i + 1, by omega, by rw [HS.out]; go_num, E0, E1, E2, hbel3⟩, by simp [intOf] <;> omega⟩
      · rw [h2] at hand hnx
        have HX := Lib.hid hnx
        have HU := Lib.hid hux
        clear hnx hux
        generalize mulS R2 x n i = S at *
        generalize upN R2 i x = X at *
        generalize n / 2 ^ i = v at *
        have hlS := belem_len S
        have hlX := belem_len X
        have hq : decide ((v : Int) > 0) = true := by simp; omega
        go_wp2_with (first | (refine wpList_load_ints rfl 96 _ rfl (w.heap.size + 2) rfl C2 Tryz.ar96 hlS ?_; (try simp only [Act.put, List.setIfInBounds_toArray, List.set_cons_zero, List.set_cons_succ, World.size_alloc, setRow_size, Nat.add_assoc, Nat.reduceAdd])) | (refine wpList_load_ints rfl 96 _ rfl w.heap.size rfl C0 Tryz.ar96 hlX ?_; (try simp only [Act.put, List.setIfInBounds_toArray, List.set_cons_zero, List.set_cons_succ, World.size_alloc, setRow_size, Nat.add_assoc, Nat.reduceAdd])))
        refine (sum_c (belem S) (belem X) true hlS (belem_lt S) hlX (belem_lt X) _).mono ?_
        rintro e w2 ⟨rfl, hb2⟩
        rw [sum_true hS hX, ← HX.out]
        have hln := belem_len (mulS R2 x n (i + 1))
        have D0 := (C0.below' hb2).rowFar (show w.heap.size ≠ w.heap.size + 2 by omega) (ints .u8 (belem (mulS R2 x n (i + 1))))
        have D1 := (C1.below' hb2).rowFar (show w.heap.size + 1 ≠ w.heap.size + 2 by omega) (ints .u8 (belem (mulS R2 x n (i + 1))))
        have C2' := C2.below' hb2
        have D2 := C2'.row (ints .u8 (belem (mulS R2 x n (i + 1))))
        have hbel2 := bSetRow (bCall hbelr hb2 hbelr.size) (show w.heap.size ≤ w.heap.size + 2 by omega) (ints .u8 (belem (mulS R2 x n (i + 1))))
        have hsz2 : (belem S).length = 16 := hlS
        go_wp2_with (first | (refine wpList_store_ints rfl 96 _ _ rfl (w.heap.size + 2) rfl rfl C2' (by rw [ints_size, hsz2]) Tryz.ar96 hln ?_; (try simp only [Act.put, List.setIfInBounds_toArray, List.set_cons_zero, List.set_cons_succ, World.size_alloc, setRow_size, Nat.add_assoc, Nat.reduceAdd])) | (refine wpList_load_ints rfl 96 _ rfl w.heap.size rfl D0 Tryz.ar96 hlX ?_; (try simp only [Act.put, List.setIfInBounds_toArray, List.set_cons_zero, List.set_cons_succ, World.size_alloc, setRow_size, Nat.add_assoc, Nat.reduceAdd])))
        refine (double_c (belem X) hlX (belem_lt X) _).mono ?_
        rintro e w4 ⟨rfl, hb4⟩
        rw [dblB_belem hX, ← HU.out]
        have hlu := belem_len (upN R2 (i + 1) x)
        have D0' := D0.below' hb4
        have E0 := D0'.row (ints .u8 (belem (upN R2 (i + 1) x)))
        have E1 := (D1.below' hb4).rowFar (show w.heap.size + 1 ≠ w.heap.size by omega) (ints .u8 (belem (upN R2 (i + 1) x)))
        have E2 := (D2.below' hb4).rowFar (show w.heap.size + 2 ≠ w.heap.size by omega) (ints .u8 (belem (upN R2 (i + 1) x)))
        have hbel3 := bSetRow (bCall hbel2 hb4 hbel2.size) (Nat.le_refl w.heap.size) (ints .u8 (belem (upN R2 (i + 1) x)))
        go_wp2_with (refine wpList_store_ints rfl 96 _ _ rfl w.heap.size rfl rfl D0' (by rw [ints_size, hlX]) Tryz.ar96 hlu ?_; (try simp only [Act.put, List.setIfInBounds_toArray, List.set_cons_zero, List.set_cons_succ, World.size_alloc, setRow_size, Nat.add_assoc, Nat.reduceAdd]))
        exact ⟨⟨i + 1, by omega, by rw [HS.out]; go_num, E0, E1, E2, hbel3⟩, by simp [intOf] <;> omega⟩
    · have h0 : n / 2 ^ i = 0 := Nat.eq_zero_of_not_pos hlt
      have hlt2 : n < 2 ^ i := by
        rcases Nat.div_eq_zero_iff.1 h0 with h | h
        · exact absurd h (Nat.ne_of_gt (Nat.two_pow_pos i))
        · exact h
      have hm := mul_small R2 x n i (by omega) hlt2
      rw [← hm] at C2 hS
      rw [h0]
      clear hstep hlt hv64 hm
      have hel := belem_len (mul R2 x n)
      go_wp2_with (first | (refine wpList_load_ints rfl 96 _ rfl (w.heap.size + 2) rfl C2 Tryz.ar96 hel ?_; (try simp only [Act.put, List.setIfInBounds_toArray, List.set_cons_zero, List.set_cons_succ, World.size_alloc, setRow_size, Nat.add_assoc, Nat.reduceAdd])) | (refine wpList_store_ints rfl 96 _ _ rfl (w.heap.size + 1) rfl rfl C1 (zeros_size _ _) Tryz.ar96 hel ?_; (try simp only [Act.put, List.setIfInBounds_toArray, List.set_cons_zero, List.set_cons_succ, World.size_alloc, setRow_size, Nat.add_assoc, Nat.reduceAdd])))
      exact ret_ints rfl rfl (C1.row _) Tryz.ar96 hel ⟨by rw [Hxd.out], bSetRow hbelr (by omega) _⟩
end Go.Proofs.YtaiffkajkbiidaaGreatDoor
/- ring.product. No condition but that bytes are below 256. -/
namespace Go
section
variable {P : Program} {ops : Array Oper} {w : World} {Q : Act → Prop} {rest : List Oper} {o : Oper} {a : Act}
theorem still_run {v : Value} (hw : Region.wanted o (yielded ops a.tmps) = true) (hr : (execOp a.eval o).run P w = .ok (.value v) w) (h : wpStill P ops w Q rest (a.put o.dst v)) : wpStill P ops w Q (o :: rest) a := by
  unfold wpStill
  rw [if_pos hw]
  unfold Oper.still
  rw [hr, Oper.stillUpon_value]
  exact h
end
end Go
namespace Go.Proofs.YtaiffkajkbiidaaGreatDoor
set_option linter.unusedSimpArgs false
set_option linter.unusedVariables false
set_option linter.unusedSectionVars false
set_option linter.unusedVariables false
open Go.RowKit
open Gf (up upN mulS mul)
section
variable {P : Program} {ops : Array Oper} {w : World} {Q : Act → Prop} {rest : List Oper} {o : Oper} {a : Act}
theorem still_load {T g n t : Nat} {k : IntKind} {xs : List Nat} {x : Operand} (hw : Region.wanted o (yielded ops a.tmps) = true) (ho : o.op = .load T x) (hx : a.eval x = .pointer (some ⟨g, 0, none⟩)) (hb : Blk w g t (ints k xs)) (ha : IsArr P T n) (hl : xs.length = n)
    (h : wpStill P ops w Q rest (a.put o.dst (.agg (ints k xs)))) : wpStill P ops w Q (o :: rest) a := by
  obtain ⟨⟨d, h1, hd⟩, h2⟩ := ha
  refine still_run hw ?_ h
  unfold execOp
  simp only [ho, hx, Instr.loadAt, Instr.sureAddr, Sem.run_bind, Sem.run_pure, Result.andThen_ok, run_loadVar_row w g t T _ _ _ hb h1 (by cases d <;> first | rfl | cases hd) (by rw [ints_size, hl]; exact h2)]
end
theorem byte_bit (m r : Nat) (hr : r < 8) : m % 256 / 2 ^ r % 2 = m / 2 ^ r % 2 := by
  have : r = 0 ∨ r = 1 ∨ r = 2 ∨ r = 3 ∨ r = 4 ∨ r = 5 ∨ r = 6 ∨ r = 7 := by omega
  rcases this with h | h | h | h | h | h | h | h <;> subst h <;> omega
theorem bnum_bit {xs : List Nat} (hl : xs.length = 16) (hb : ∀ x ∈ xs, x < 256) (i : Nat) (hi : i < 128) : xs.getD (15 - i / 8) 0 / 2 ^ (i % 8) % 2 = bnum xs / 2 ^ i % 2 := by
  rw [bnum_digit hl hb (i := 15 - i / 8) (by omega), byte_bit _ _ (by omega), show 15 - (15 - i / 8) = i / 8 by omega, Nat.div_div_eq_div_mul, show (256 : Nat) = 2 ^ 8 by decide, ← Nat.pow_mul, ← Nat.pow_add, show 8 * (i / 8) + i % 8 = i by omega]
theorem and1b (a : Nat) (ha : a < 256) : bits BinOp.and IntKind.u8 (a : Int) 1 = ((a % 2 : Nat) : Int) := by
  have h := u8_and_nat a 1 ha (by omega)
  rw [Nat.and_one_is_mod] at h
  exact h
theorem dec1 (v : Nat) : (((v : Nat) : Int) == 1) = decide (v = 1) := by
  rw [Bool.eq_iff_iff, beq_iff_eq, decide_eq_true_eq]
  omega
theorem sum_bit {S X v : Nat} (hS : S < 2 ^ 128) (hX : X < 2 ^ 128) (hv : v < 2) : sumL (decide (v = 1)) (belem S) (belem X) = belem (S ^^^ v * X) := by
  have : v = 0 ∨ v = 1 := by omega
  rcases this with rfl | rfl
  · exact sum_false hS hX
  · exact sum_true hS hX
set_option maxRecDepth 100000 in
set_option maxHeartbeats 4000000 in
theorem product_c (xs ys : List Nat) (hl : xs.length = 16) (hb : ∀ x ∈ xs, x < 256) (hl' : ys.length = 16) (hb' : ∀ x ∈ ys, x < 256) (w : World) :
    Calls Tryz.prog 198 #[.agg (ints .u8 xs), .agg (ints .u8 ys)] w fun e w' => e = .returned (.agg (ints .u8 (belem (mul R2 (bnum xs) (bnum ys))))) ∧ Below w.heap.size w w' := by
  have hx := bnum_lt hl hb
  have hy := bnum_lt hl' hb'
  have hxe := belem_bnum hl hb
  have B0 := (((Blk.new w 96 (ints .u8 xs)).alloc (.cells (ints .u8 ys) 96)).alloc (.cells (ints .u8 (zeros 16)) 96)).alloc (.cells (ints .u8 (zeros 16)) 96)
  have B1 := ((Blk.new (w.alloc (.cells (ints .u8 xs) 96)) 96 (ints .u8 ys)).alloc (.cells (ints .u8 (zeros 16)) 96)).alloc (.cells (ints .u8 (zeros 16)) 96)
  have B2 := (Blk.new ((w.alloc (.cells (ints .u8 xs) 96)).alloc (.cells (ints .u8 ys) 96)) 96 (ints .u8 (zeros 16))).alloc (.cells (ints .u8 (zeros 16)) 96)
  have B3 := Blk.new (((w.alloc (.cells (ints .u8 xs) 96)).alloc (.cells (ints .u8 ys) 96)).alloc (.cells (ints .u8 (zeros 16)) 96)) 96 (ints .u8 (zeros 16))
  rw [World.size_alloc] at B1
  rw [World.size_alloc, World.size_alloc] at B2
  rw [World.size_alloc, World.size_alloc, World.size_alloc] at B3
  simp only [Nat.add_assoc, Nat.reduceAdd] at B2 B3
  have hbel := ((((Below.refl w.heap.size w).alloc (Nat.le_refl _) (.cells (ints .u8 xs) 96)).alloc (by simp) (.cells (ints .u8 ys) 96)).alloc (by simp; omega) (.cells (ints .u8 (zeros 16)) 96)).alloc (by simp; omega) (.cells (ints .u8 (zeros 16)) 96)
  go_enter Tryz.func198, Tryz.ntmps198
  go_wp2_with (refine wpList_alloc_ints rfl 96 rfl Tryz.z96 ?_; (try simp only [Act.put, List.setIfInBounds_toArray, List.set_cons_zero, List.set_cons_succ, World.size_alloc, setRow_size, Nat.add_assoc, Nat.reduceAdd]))
  generalize ((((w.alloc (.cells (ints .u8 xs) 96)).alloc (.cells (ints .u8 ys) 96)).alloc (.cells (ints .u8 (zeros 16)) 96)).alloc (.cells (ints .u8 (zeros 16)) 96)) = w1 at *
  have hbit := fun i hi => bnum_bit hl' hb' i hi
  rw [← hxe] at B0
  generalize hxd : bnum xs = x at *
  have Hxd := Lib.hid hxd
  generalize hyd : bnum ys = y at *
  have Hyd := Lib.hid hyd
  clear hxe hxd hyd
  go_loopw [7] (fun t wr => ∃ i : Nat, i ≤ 128 ∧ t = .int .i64 i ∧ Blk wr w.heap.size 96 (ints .u8 (belem (upN R2 i x))) ∧ Blk wr (w.heap.size + 1) 96 (ints .u8 ys) ∧ Blk wr (w.heap.size + 2) 96 (ints .u8 (zeros 16)) ∧ Blk wr (w.heap.size + 3) 96 (ints .u8 (belem (mulS R2 x y i))) ∧ Below w.heap.size w wr) (fun t wr => 128 - (intOf t).toNat)
  case atStart => exact ⟨0, by omega, rfl, B0, B1, B2, by rw [show belem (mulS R2 x y 0) = zeros 16 from belem_zero]; exact B3, hbel⟩
  case round =>
    rename_i hrel
    obtain ⟨i, hi, rfl, C0, C1, C2, C3, hbelr⟩ := hrel
    have hX := Gf.upN_lt R2_lt hx i
    have hS := Gf.mulS_lt R2_lt hx y i
    by_cases hlt : i < 128
    · have hnx : mulS R2 x y (i + 1) = mulS R2 x y i ^^^ y / 2 ^ i % 2 * upN R2 i x := by
        show mulS R2 x y i ^^^ _ = _
        rw [Gf.if_bit]
      have hux : upN R2 (i + 1) x = up R2 (upN R2 i x) := rfl
      have hbi := hbit i hlt
      rw [← hbi] at hnx
      have c1 := C1.int (i := 15 - i / 8) (by omega)
      have hv8 := getD_bound hb' (by omega) (15 - i / 8)
      have hs8 : ys.getD (15 - i / 8) 0 / 2 ^ (i % 8) < 256 := Nat.lt_of_le_of_lt (Nat.div_le_self _ _) hv8
      have hand := and1b (ys.getD (15 - i / 8) 0 / 2 ^ (i % 8)) hs8
      clear hbi hbit
      generalize ys.getD (15 - i / 8) 0 = b at *
      generalize hqd : i / 8 = q at *
      generalize hrd : i % 8 = r at *
      have hq1 : (i : Int).tdiv 8 = (q : Int) := by rw [Int.tdiv_eq_ediv_of_nonneg (by omega)]; omega
      have hr1 : (i : Int).tmod 8 = (r : Int) := by rw [Int.tmod_eq_emod_of_nonneg (by omega)]; omega
      have hpd : ((15 : Int) - (q : Int)) = ((15 - q : Nat) : Int) := by omega
      have hp : 15 - q < 16 := by omega
      have hr0 : r < 8 := by omega
      have wq : IntKind.i64.wrap (q : Int) = (q : Int) := IntWalk.i64_in _ (by omega)
      have wp : IntKind.i64.wrap ((15 - q : Nat) : Int) = ((15 - q : Nat) : Int) := IntWalk.i64_in _ (by omega)
      have wrr : IntKind.i64.wrap (r : Int) = (r : Int) := IntWalk.i64_in _ (by omega)
      generalize 15 - q = p at *
      have hp1 : (p : Int) < 16 := by omega
      go_wp2
      refine wp_region_still_tail 12 (by kernel_rfl) (by kernel_rfl) ?_
      simp only [List.take_succ_cons, List.take_zero, List.drop_succ_cons, List.drop_zero]
      refine still_load rfl rfl rfl C3.drew Tryz.ar96 (belem_len _) ?_; (try simp only [Act.put, List.setIfInBounds_toArray, List.set_cons_zero, List.set_cons_succ, World.size_alloc, setRow_size, Nat.add_assoc, Nat.reduceAdd])
      refine still_load rfl rfl rfl C0.drew Tryz.ar96 (belem_len _) ?_; (try simp only [Act.put, List.setIfInBounds_toArray, List.set_cons_zero, List.set_cons_succ, World.size_alloc, setRow_size, Nat.add_assoc, Nat.reduceAdd])
      still_step
      still_step
      still_step

      still_step
      still_step
      still_step
      still_step
      repeat still_step
      refine wpStill_nil ?_
      rw [show ((b : Int) / 2 ^ r) = ((b / 2 ^ r : Nat) : Int) by simp, hand, dec1 (b / 2 ^ r % 2)]
      have hv2 : b / 2 ^ r % 2 < 2 := Nat.mod_lt _ (by omega)
      change wpList _ _ _ _ _ wr.drew
      have D0 := C0.drew
      have D1 := C1.drew
      have D2 := C2.drew
      have D3 := C3.drew
      have hbel1 := hbelr.drew
      have HX := Lib.hid hnx
      have HU := Lib.hid hux
      clear hnx hux C0 C1 C2 C3 hbelr hand c1 wq wp wrr hq1 hr1
      generalize wr.drew = w2 at *
      generalize b / 2 ^ r % 2 = v at *
      generalize mulS R2 x y i = S at *
      generalize upN R2 i x = X at *
      have hlS := belem_len S
      have hlX := belem_len X
      go_wp2_with (fail)
      refine (sum_c (belem S) (belem X) (decide (v = 1)) hlS (belem_lt S) hlX (belem_lt X) _).mono ?_
      rintro e w3 ⟨rfl, hb2⟩
      rw [sum_bit hS hX hv2, ← HX.out]
      have hln := belem_len (mulS R2 x y (i + 1))
      have E0 := (D0.below' hb2).rowFar (show w.heap.size ≠ w.heap.size + 3 by omega) (ints .u8 (belem (mulS R2 x y (i + 1))))
      have E1 := (D1.below' hb2).rowFar (show w.heap.size + 1 ≠ w.heap.size + 3 by omega) (ints .u8 (belem (mulS R2 x y (i + 1))))
      have E2 := (D2.below' hb2).rowFar (show w.heap.size + 2 ≠ w.heap.size + 3 by omega) (ints .u8 (belem (mulS R2 x y (i + 1))))
      have D3' := D3.below' hb2
      have E3 := D3'.row (ints .u8 (belem (mulS R2 x y (i + 1))))
      have hbel2 := bSetRow (bCall hbel1 hb2 hbel1.size) (show w.heap.size ≤ w.heap.size + 3 by omega) (ints .u8 (belem (mulS R2 x y (i + 1))))
      go_wp2_with (first | (refine wpList_store_ints rfl 96 _ _ rfl (w.heap.size + 3) rfl rfl D3' (by rw [ints_size, hlS]) Tryz.ar96 hln ?_; (try simp only [Act.put, List.setIfInBounds_toArray, List.set_cons_zero, List.set_cons_succ, World.size_alloc, setRow_size, Nat.add_assoc, Nat.reduceAdd])) | (refine wpList_load_ints rfl 96 _ rfl w.heap.size rfl E0 Tryz.ar96 hlX ?_; (try simp only [Act.put, List.setIfInBounds_toArray, List.set_cons_zero, List.set_cons_succ, World.size_alloc, setRow_size, Nat.add_assoc, Nat.reduceAdd])))
      refine (double_c (belem X) hlX (belem_lt X) _).mono ?_
      rintro e w4 ⟨rfl, hb4⟩
      rw [dblB_belem hX, ← HU.out]
      have hlu := belem_len (upN R2 (i + 1) x)
      have E0' := E0.below' hb4
      have G0 := E0'.row (ints .u8 (belem (upN R2 (i + 1) x)))
      have G1 := (E1.below' hb4).rowFar (show w.heap.size + 1 ≠ w.heap.size by omega) (ints .u8 (belem (upN R2 (i + 1) x)))
      have G2 := (E2.below' hb4).rowFar (show w.heap.size + 2 ≠ w.heap.size by omega) (ints .u8 (belem (upN R2 (i + 1) x)))
      have G3 := (E3.below' hb4).rowFar (show w.heap.size + 3 ≠ w.heap.size by omega) (ints .u8 (belem (upN R2 (i + 1) x)))
      have hbel3 := bSetRow (bCall hbel2 hb4 hbel2.size) (Nat.le_refl w.heap.size) (ints .u8 (belem (upN R2 (i + 1) x)))
      go_wp2_with (refine wpList_store_ints rfl 96 _ _ rfl w.heap.size rfl rfl E0' (by rw [ints_size, hlX]) Tryz.ar96 hlu ?_; (try simp only [Act.put, List.setIfInBounds_toArray, List.set_cons_zero, List.set_cons_succ, World.size_alloc, setRow_size, Nat.add_assoc, Nat.reduceAdd]))
      exact ⟨⟨i + 1, by omega, by go_num, G0, G1, G2, G3, hbel3⟩, by simp [intOf] <;> omega⟩
    · obtain rfl : i = 128 := by omega
      have he : mulS R2 x y 128 = mul R2 x y := rfl
      rw [he] at C3
      have hel := belem_len (mul R2 x y)
      go_wp2_with (first | (refine wpList_load_ints rfl 96 _ rfl (w.heap.size + 3) rfl C3 Tryz.ar96 hel ?_; (try simp only [Act.put, List.setIfInBounds_toArray, List.set_cons_zero, List.set_cons_succ, World.size_alloc, setRow_size, Nat.add_assoc, Nat.reduceAdd])) | (refine wpList_store_ints rfl 96 _ _ rfl (w.heap.size + 2) rfl rfl C2 (zeros_size _ _) Tryz.ar96 hel ?_; (try simp only [Act.put, List.setIfInBounds_toArray, List.set_cons_zero, List.set_cons_succ, World.size_alloc, setRow_size, Nat.add_assoc, Nat.reduceAdd])))
      exact ret_ints rfl rfl (C2.row _) Tryz.ar96 hel ⟨by rw [Hxd.out, Hyd.out], bSetRow hbelr (by omega) _⟩
end Go.Proofs.YtaiffkajkbiidaaGreatDoor
/- ring.Raised. No condition but that bytes are below 256 and the number below 2^63. -/
namespace Go.Proofs.YtaiffkajkbiidaaGreatDoor
set_option linter.unusedSimpArgs false
set_option linter.unusedVariables false
set_option linter.unusedSectionVars false
set_option linter.unusedVariables false
open Go.RowKit
open Gf (up upN mulS mul)
theorem and1i (a : Nat) (ha : a < 9223372036854775808) : bits BinOp.and IntKind.i64 (a : Int) 1 = ((a % 2 : Nat) : Int) := by
  show IntKind.i64.wrap ((BitVec.ofInt 64 (a : Int) &&& BitVec.ofInt 64 ((1 : Nat) : Int)).toNat : Int) = _
  rw [BitVec.toNat_and, ofInt_u64 a (by omega), ofInt_u64 1 (by omega), Nat.and_one_is_mod]
  exact IntWalk.i64_in _ (by omega)
theorem one_lt : 1 < 2 ^ 128 := by decide
theorem up128 : upN R2 128 1 = R2 := by
  rw [← Gf.mul_R R2 R2_lt one_lt, Gf.one_mul R2 R2_lt]
theorem belem_R2 : belem R2 = awD := by decide
theorem mul_up1 {a : Nat} (ha : a < 2 ^ 128) (e : Nat) : mul R2 a (upN R2 e 1) = upN R2 e a := by
  rw [Gf.mul_upN_r R2 R2_lt ha one_lt, Gf.mul_one]
theorem square_up (e : Nat) : mul R2 (upN R2 e 1) (upN R2 e 1) = upN R2 (2 * e) 1 := by
  rw [mul_up1 (Gf.upN_lt R2_lt one_lt e), ← Gf.upN_add, show e + e = 2 * e by omega]
set_option maxRecDepth 100000 in
set_option maxHeartbeats 8000000 in
theorem raised_c (n : Nat) (xs : List Nat) (hn : n < 2 ^ 63) (hl : xs.length = 16) (hb : ∀ x ∈ xs, x < 256) (w : World) :
    Calls Tryz.prog 195 #[.int .i64 n, .agg (ints .u8 xs)] w fun e w' => e = .returned (.agg (ints .u8 (belem (upN R2 n (bnum xs))))) ∧ Below w.heap.size w w' := by
  have hx := bnum_lt hl hb
  have hxe := belem_bnum hl hb
  have B0 := (Blk.new w 96 (ints .u8 xs)).alloc (.cells (ints .u8 (zeros 16)) 96)
  have B1 := Blk.new (w.alloc (.cells (ints .u8 xs) 96)) 96 (ints .u8 (zeros 16))
  rw [World.size_alloc] at B1
  have hbel := ((Below.refl w.heap.size w).alloc (Nat.le_refl _) (.cells (ints .u8 xs) 96)).alloc (by simp) (.cells (ints .u8 (zeros 16)) 96)
  have hxe2 : Hid (belem (bnum xs) = xs) := Lib.hid hxe
  clear hxe
  obtain ⟨x, Hxd⟩ : ∃ x, Hid (bnum xs = x) := ⟨_, Lib.hid rfl⟩
  rw [Hxd.out] at hx
  have hxe3 := hxe2.out
  rw [Hxd.out] at hxe3
  have Hxe := Lib.hid hxe3
  clear hxe3 hxe2
  go_enter Tryz.func195, Tryz.ntmps195
  go_wp2_with (refine wpList_alloc_ints rfl 96 rfl Tryz.z96 ?_; (try simp only [Act.put, List.setIfInBounds_toArray, List.set_cons_zero, List.set_cons_succ, World.size_alloc, setRow_size, Nat.add_assoc, Nat.reduceAdd]))
  obtain ⟨J, HJ, HI⟩ : ∃ J : Act → World → Prop, Hid (∀ (aJ : Act) (w' : World), J aJ w' → ∃ (U : Nat → Value) (v e g A : Nat), aJ = { tmps := #[.int .i64 (v : Int), .agg (ints .u8 xs), undef, .pointer (some ⟨w.heap.size, 0, none⟩), .pointer (some ⟨w.heap.size + 1, 0, none⟩), .pointer (some ⟨g, 0, none⟩), U 6, U 7, U 8, U 9, U 10, U 11, U 12, U 13, U 14, U 15, U 16, U 17, U 18, U 19, U 20, U 21, U 22, U 23, U 24, U 25, U 26, U 27, U 28, U 29, U 30, U 31, U 32], defers := [] } ∧ v < 2 ^ 63 ∧ w.heap.size + 2 ≤ g ∧ A < 2 ^ 128 ∧ upN R2 (e * v) A = upN R2 n x ∧ Blk w' w.heap.size 96 (ints .u8 (belem A)) ∧ Blk w' (w.heap.size + 1) 96 (ints .u8 (zeros 16)) ∧ Blk w' g 96 (ints .u8 (belem (upN R2 e 1))) ∧ Below w.heap.size w w') ∧
      Hid (∀ (T : Array Value) (w' : World), (∃ (v e g A : Nat), T = #[.int .i64 (v : Int), .agg (ints .u8 xs), undef, .pointer (some ⟨w.heap.size, 0, none⟩), .pointer (some ⟨w.heap.size + 1, 0, none⟩), .pointer (some ⟨g, 0, none⟩), T.getD 6 undef, T.getD 7 undef, T.getD 8 undef, T.getD 9 undef, T.getD 10 undef, T.getD 11 undef, T.getD 12 undef, T.getD 13 undef, T.getD 14 undef, T.getD 15 undef, T.getD 16 undef, T.getD 17 undef, T.getD 18 undef, T.getD 19 undef, T.getD 20 undef, T.getD 21 undef, T.getD 22 undef, T.getD 23 undef, T.getD 24 undef, T.getD 25 undef, T.getD 26 undef, T.getD 27 undef, T.getD 28 undef, T.getD 29 undef, T.getD 30 undef, T.getD 31 undef, T.getD 32 undef] ∧ v < 2 ^ 63 ∧ w.heap.size + 2 ≤ g ∧ A < 2 ^ 128 ∧ upN R2 (e * v) A = upN R2 n x ∧ Blk w' w.heap.size 96 (ints .u8 (belem A)) ∧ Blk w' (w.heap.size + 1) 96 (ints .u8 (zeros 16)) ∧ Blk w' g 96 (ints .u8 (belem (upN R2 e 1))) ∧ Below w.heap.size w w') → J { tmps := T, defers := [] } w') :=
    ⟨fun aJ w' => ∃ (U : Nat → Value) (v e g A : Nat), aJ = { tmps := #[.int .i64 (v : Int), .agg (ints .u8 xs), undef, .pointer (some ⟨w.heap.size, 0, none⟩), .pointer (some ⟨w.heap.size + 1, 0, none⟩), .pointer (some ⟨g, 0, none⟩), U 6, U 7, U 8, U 9, U 10, U 11, U 12, U 13, U 14, U 15, U 16, U 17, U 18, U 19, U 20, U 21, U 22, U 23, U 24, U 25, U 26, U 27, U 28, U 29, U 30, U 31, U 32], defers := [] } ∧ v < 2 ^ 63 ∧ w.heap.size + 2 ≤ g ∧ A < 2 ^ 128 ∧ upN R2 (e * v) A = upN R2 n x ∧ Blk w' w.heap.size 96 (ints .u8 (belem A)) ∧ Blk w' (w.heap.size + 1) 96 (ints .u8 (zeros 16)) ∧ Blk w' g 96 (ints .u8 (belem (upN R2 e 1))) ∧ Below w.heap.size w w', Lib.hid fun _ _ hJ => hJ, Lib.hid fun T w' ⟨v, e, g, A, hJ, rJ⟩ => ⟨fun i => T.getD i undef, v, e, g, A, congrArg (fun T => ({ tmps := T, defers := [] } : Act)) hJ, rJ⟩⟩
  obtain ⟨μ, Hμ⟩ : ∃ μ : Act → World → Nat, Hid (∀ a w', μ a w' = (intOf (a.tmps.getD 0 undef)).toNat) := ⟨_, Lib.hid fun _ _ => rfl⟩
  refine wp_scope_mid 0 J μ (by simp only [findLabel]; rfl) ?_ ?_
  · intro a wr hj
    obtain ⟨U, v, e, g, A, rfl, hv, hg, hA, hup, C0, C1, C2, hbelr⟩ := HJ.out _ _ hj
    clear hj
    have hμ := Hμ.out
    clear Hμ
    have hlA := belem_len A
    have hlE := belem_len (upN R2 e 1)
    have hE := Gf.upN_lt R2_lt one_lt e
    by_cases h0 : v = 0
    · subst h0
      rw [Nat.mul_zero] at hup
      replace hup : A = upN R2 n x := hup
      clear hμ
      go_wp2_with (first | (refine wpList_load_ints rfl 96 _ rfl w.heap.size rfl C0 Tryz.ar96 hlA ?_; (try simp only [Act.put, List.setIfInBounds_toArray, List.set_cons_zero, List.set_cons_succ, World.size_alloc, setRow_size, Nat.add_assoc, Nat.reduceAdd])) | (refine wpList_store_ints rfl 96 _ _ rfl (w.heap.size + 1) rfl rfl C1 (zeros_size _ _) Tryz.ar96 hlA ?_; (try simp only [Act.put, List.setIfInBounds_toArray, List.set_cons_zero, List.set_cons_succ, World.size_alloc, setRow_size, Nat.add_assoc, Nat.reduceAdd])))
      simp only [Exit.jump]
      exact ret_ints rfl rfl (C1.row _) Tryz.ar96 hlA ⟨by rw [Hxd.out], bSetRow hbelr (by omega) _⟩
    · have hand := and1i v (by omega)
      have hne : decide ((v : Int) = 0) = false := by simp; omega
      rcases Nat.mod_two_eq_zero_or_one v with h2 | h2
      · rw [h2] at hand
        have Hup2 : Hid (upN R2 (2 * e * (v / 2)) A = upN R2 n x) := Lib.hid (by
          rw [← hup]
          congr 1
          rw [Nat.mul_comm 2 e, Nat.mul_assoc]
          congr 1
          omega)
        clear hup
        go_wp2_with (refine wpList_load_ints rfl 96 _ rfl g rfl C2 Tryz.ar96 hlE ?_; (try simp only [Act.put, List.setIfInBounds_toArray, List.set_cons_zero, List.set_cons_succ, World.size_alloc, setRow_size, Nat.add_assoc, Nat.reduceAdd]))
        refine (product_c _ _ hlE (belem_lt _) hlE (belem_lt _) _).mono ?_
        rintro e3 w5 ⟨rfl, hb5⟩
        rw [bnum_belem hE, square_up]
        have hl2 := belem_len (upN R2 (2 * e) 1)
        have F0 := (C0.below' hb5).rowFar (show w.heap.size ≠ g by omega) (ints .u8 (belem (upN R2 (2 * e) 1)))
        have F1 := (C1.below' hb5).rowFar (show w.heap.size + 1 ≠ g by omega) (ints .u8 (belem (upN R2 (2 * e) 1)))
        have F2' := C2.below' hb5
        have F2 := F2'.row (ints .u8 (belem (upN R2 (2 * e) 1)))
        have hbel5 := bSetRow (bCall hbelr hb5 hbelr.size) (show w.heap.size ≤ g by omega) (ints .u8 (belem (upN R2 (2 * e) 1)))
        go_wp2_with (refine wpList_store_ints rfl 96 _ _ rfl g rfl rfl F2' (by rw [ints_size, hlE]) Tryz.ar96 hl2 ?_; (try simp only [Act.put, List.setIfInBounds_toArray, List.set_cons_zero, List.set_cons_succ, World.size_alloc, setRow_size, Nat.add_assoc, Nat.reduceAdd]))
        go_step3
        refine ⟨rfl, HI.out _ _ ⟨v / 2, 2 * e, g, _, rfl, by omega, hg, hA, Hup2.out, F0, F1, F2, hbel5⟩, ?_⟩
        rw [hμ, hμ]
        simp [intOf]
        omega
      · rw [h2] at hand
        have hA2 := Gf.upN_lt R2_lt hA e
        have Hup2 : Hid (upN R2 (2 * e * (v / 2)) (upN R2 e A) = upN R2 n x) := Lib.hid (by
          rw [← Gf.upN_add, ← hup]
          congr 1
          rw [Nat.mul_comm 2 e, Nat.mul_assoc, ← Nat.mul_succ]
          congr 1
          omega)
        clear hup
        go_wp2_with (first | (refine wpList_load_ints rfl 96 _ rfl w.heap.size rfl C0 Tryz.ar96 hlA ?_; (try simp only [Act.put, List.setIfInBounds_toArray, List.set_cons_zero, List.set_cons_succ, World.size_alloc, setRow_size, Nat.add_assoc, Nat.reduceAdd])) | (refine wpList_load_ints rfl 96 _ rfl g rfl C2 Tryz.ar96 hlE ?_; (try simp only [Act.put, List.setIfInBounds_toArray, List.set_cons_zero, List.set_cons_succ, World.size_alloc, setRow_size, Nat.add_assoc, Nat.reduceAdd])))
        refine (product_c _ _ hlA (belem_lt _) hlE (belem_lt _) _).mono ?_
        rintro e2 w4 ⟨rfl, hb4⟩
        rw [bnum_belem hE, bnum_belem hA, mul_up1 hA]
        have hl1 := belem_len (upN R2 e A)
        have D0' := C0.below' hb4
        have D0 := D0'.row (ints .u8 (belem (upN R2 e A)))
        have D1 := (C1.below' hb4).rowFar (show w.heap.size + 1 ≠ w.heap.size by omega) (ints .u8 (belem (upN R2 e A)))
        have D2 := (C2.below' hb4).rowFar (show g ≠ w.heap.size by omega) (ints .u8 (belem (upN R2 e A)))
        have hbel4 := bSetRow (bCall hbelr hb4 hbelr.size) (Nat.le_refl w.heap.size) (ints .u8 (belem (upN R2 e A)))
        clear C0 C1 C2 hbelr hb4
        go_wp2_with (first | (refine wpList_store_ints rfl 96 _ _ rfl w.heap.size rfl rfl D0' (by rw [ints_size, hlA]) Tryz.ar96 hl1 ?_; (try simp only [Act.put, List.setIfInBounds_toArray, List.set_cons_zero, List.set_cons_succ, World.size_alloc, setRow_size, Nat.add_assoc, Nat.reduceAdd])) | (refine wpList_load_ints rfl 96 _ rfl g rfl D2 Tryz.ar96 hlE ?_; (try simp only [Act.put, List.setIfInBounds_toArray, List.set_cons_zero, List.set_cons_succ, World.size_alloc, setRow_size, Nat.add_assoc, Nat.reduceAdd])))
        refine (product_c _ _ hlE (belem_lt _) hlE (belem_lt _) _).mono ?_
        rintro e3 w5 ⟨rfl, hb5⟩
        rw [bnum_belem hE, square_up]
        have hl2 := belem_len (upN R2 (2 * e) 1)
        have F0 := (D0.below' hb5).rowFar (show w.heap.size ≠ g by omega) (ints .u8 (belem (upN R2 (2 * e) 1)))
        have F1 := (D1.below' hb5).rowFar (show w.heap.size + 1 ≠ g by omega) (ints .u8 (belem (upN R2 (2 * e) 1)))
        have F2' := D2.below' hb5
        have F2 := F2'.row (ints .u8 (belem (upN R2 (2 * e) 1)))
        have hbel5 := bSetRow (bCall hbel4 hb5 hbel4.size) (show w.heap.size ≤ g by omega) (ints .u8 (belem (upN R2 (2 * e) 1)))
        go_wp2_with (refine wpList_store_ints rfl 96 _ _ rfl g rfl rfl F2' (by rw [ints_size, hlE]) Tryz.ar96 hl2 ?_; (try simp only [Act.put, List.setIfInBounds_toArray, List.set_cons_zero, List.set_cons_succ, World.size_alloc, setRow_size, Nat.add_assoc, Nat.reduceAdd]))
        go_step3
        refine ⟨rfl, HI.out _ _ ⟨v / 2, 2 * e, g, _, rfl, by omega, hg, hA2, Hup2.out, F0, F1, F2, hbel5⟩, ?_⟩
        rw [hμ, hμ]
        simp [intOf]
        omega
  · intro hgo
    have hn0 : decide ((n : Int) < 0) = false := by simp
    obtain ⟨m, q, hmq, hm, hr1, hq1⟩ : ∃ m q : Nat, n = 128 * q + m ∧ m < 128 ∧ (n : Int) % 128 = (m : Int) ∧ (n : Int) / 128 = (q : Int) := ⟨n % 128, n / 128, by omega, by omega, by omega, by omega⟩
    have Hnq : Hid (upN R2 (128 * q) (upN R2 m x) = upN R2 n x) := Lib.hid (by rw [← Gf.upN_add, ← hmq])
    have hq63 : q < 2 ^ 63 := by omega
    clear hmq
    go_wp2_with (refine wpList_alloc_ints rfl 96 rfl Tryz.z96 ?_; (try simp only [Act.put, List.setIfInBounds_toArray, List.set_cons_zero, List.set_cons_succ, World.size_alloc, setRow_size, Nat.add_assoc, Nat.reduceAdd]))
    generalize ((w.alloc (.cells (ints .u8 xs) 96)).alloc (.cells (ints .u8 (zeros 16)) 96)) = w1 at *
    go_loopw [11] (fun t wr => ∃ i : Nat, i ≤ m ∧ t = .int .i64 i ∧ Blk wr w.heap.size 96 (ints .u8 (belem (upN R2 i x))) ∧ Blk wr (w.heap.size + 1) 96 (ints .u8 (zeros 16)) ∧ Below w.heap.size w wr) (fun t wr => m - (intOf t).toNat)
    case atStart => exact ⟨0, by omega, rfl, by rw [show belem (upN R2 0 x) = xs from Hxe.out]; exact B0, B1, hbel⟩
    case round =>
      rename_i hrel
      obtain ⟨i, hi, rfl, C0, C1, hbelr⟩ := hrel
      have hX := Gf.upN_lt R2_lt hx i
      by_cases hlt : i < m
      · have hux : upN R2 (i + 1) x = up R2 (upN R2 i x) := rfl
        have HU := Lib.hid hux
        clear hux
        generalize upN R2 i x = X at *
        have hlX := belem_len X
        go_wp2_with (refine wpList_load_ints rfl 96 _ rfl w.heap.size rfl C0 Tryz.ar96 hlX ?_; (try simp only [Act.put, List.setIfInBounds_toArray, List.set_cons_zero, List.set_cons_succ, World.size_alloc, setRow_size, Nat.add_assoc, Nat.reduceAdd]))
        refine (double_c (belem X) hlX (belem_lt X) _).mono ?_
        rintro e w4 ⟨rfl, hb4⟩
        rw [dblB_belem hX, ← HU.out]
        have hlu := belem_len (upN R2 (i + 1) x)
        have D0' := C0.below' hb4
        have D0 := D0'.row (ints .u8 (belem (upN R2 (i + 1) x)))
        have D1 := (C1.below' hb4).rowFar (show w.heap.size + 1 ≠ w.heap.size by omega) (ints .u8 (belem (upN R2 (i + 1) x)))
        have hbel3 := bSetRow (bCall hbelr hb4 hbelr.size) (Nat.le_refl w.heap.size) (ints .u8 (belem (upN R2 (i + 1) x)))
        go_wp2_with (refine wpList_store_ints rfl 96 _ _ rfl w.heap.size rfl rfl D0' (by rw [ints_size, hlX]) Tryz.ar96 hlu ?_; (try simp only [Act.put, List.setIfInBounds_toArray, List.set_cons_zero, List.set_cons_succ, World.size_alloc, setRow_size, Nat.add_assoc, Nat.reduceAdd]))
        exact ⟨⟨i + 1, by omega, by go_num, D0, D1, hbel3⟩, by simp [intOf] <;> omega⟩
      · obtain rfl : i = m := by omega
        have l1 := C1.lt
        have D0 := C0.alloc (.cells (ints .u8 (zeros 16)) 96)
        have D1 := C1.alloc (.cells (ints .u8 (zeros 16)) 96)
        have D2 := Blk.new wr 96 (ints .u8 (zeros 16))
        have E0 := D0.rowFar (show w.heap.size ≠ wr.heap.size by omega) (ints .u8 awD)
        have E1 := D1.rowFar (show w.heap.size + 1 ≠ wr.heap.size by omega) (ints .u8 awD)
        have E2 := D2.row (ints .u8 awD)
        have hbel2 := bSetRow (hbelr.alloc hbelr.size (.cells (ints .u8 (zeros 16)) 96)) hbelr.size (ints .u8 awD)
        have hal : awD.length = 16 := rfl
        have HA := Lib.hid (show Value.agg #[.int .u8 0, .int .u8 0, .int .u8 0, .int .u8 0, .int .u8 0, .int .u8 0, .int .u8 0, .int .u8 0, .int .u8 0, .int .u8 0, .int .u8 0, .int .u8 0, .int .u8 0, .int .u8 0, .int .u8 0, .int .u8 135] = .agg (ints .u8 awD) by rw [awD_c])
        clear C0 C1 D0 D1
        go_wp2_with (first | (refine wpList_alloc_ints rfl 96 rfl Tryz.z96 ?_; (try simp only [Act.put, List.setIfInBounds_toArray, List.set_cons_zero, List.set_cons_succ, World.size_alloc, setRow_size, Nat.add_assoc, Nat.reduceAdd])) | (refine wpList_store_ints rfl 96 _ _ rfl wr.heap.size (k := .u8) (xs := awD) rfl HA.out D2 (zeros_size _ _) Tryz.ar96 hal ?_; (try simp only [Act.put, List.setIfInBounds_toArray, List.set_cons_zero, List.set_cons_succ, World.size_alloc, setRow_size, Nat.add_assoc, Nat.reduceAdd])))
        refine wp_label ?_
        rename_i hK
        refine hK _ _ ?_
        refine hgo _ _ (HI.out _ _ ⟨q, 128, wr.heap.size, upN R2 i x, rfl, hq63, by omega, hX, Hnq.out, E0, E1, ?_, hbel2⟩)
        rw [up128, belem_R2]; exact E2
end Go.Proofs.YtaiffkajkbiidaaGreatDoor
/- ring.Make. No condition but that bytes are below 256. -/
namespace Go.Proofs.YtaiffkajkbiidaaGreatDoor
set_option linter.unusedSimpArgs false
set_option linter.unusedVariables false
set_option linter.unusedSectionVars false
set_option linter.unusedVariables false
open Go.RowKit
open Gf (W2 up down upN downN mulS mul dot dotS R1 D1)
def tabV (X c n : Nat) : Nat := if n < c then mul R1 X n else 0
def tabL (X c : Nat) : List Nat := (List.range 32).map fun i => if i % 2 = 0 then tabV X c (i / 2) % 18446744073709551616 else tabV X c (i / 2) / 18446744073709551616
theorem tabL_len (X c : Nat) : (tabL X c).length = 32 := by simp [tabL]
theorem tabL_get (X c : Nat) {i : Nat} (hi : i < 32) : (tabL X c)[i]? = some (if i % 2 = 0 then tabV X c (i / 2) % 18446744073709551616 else tabV X c (i / 2) / 18446744073709551616) := by
  unfold tabL
  rw [List.getElem?_map, List.getElem?_range hi]; rfl
theorem tabL_lo (X c : Nat) {n : Nat} (hn : n < 16) : (tabL X c).getD (2 * n) 0 = tabV X c n % 18446744073709551616 := by
  rw [List.getD_eq_getElem?_getD, tabL_get X c (by omega), if_pos (by omega), show 2 * n / 2 = n by omega]; rfl
theorem tabL_hi (X c : Nat) {n : Nat} (hn : n < 16) : (tabL X c).getD (2 * n + 1) 0 = tabV X c n / 18446744073709551616 := by
  rw [List.getD_eq_getElem?_getD, tabL_get X c (by omega), if_neg (by omega), show (2 * n + 1) / 2 = n by omega]; rfl
theorem tab_set (X c : Nat) (hc : c < 16) : ((tabL X c).set (2 * c) (mul R1 X c % 18446744073709551616)).set (2 * c + 1) (mul R1 X c / 18446744073709551616) = tabL X (c + 1) := by
  apply List.ext_getElem? fun j => ?_
  have hv : tabV X (c + 1) c = mul R1 X c := by unfold tabV; rw [if_pos (by omega)]
  by_cases hj : j < 32
  · rw [List.getElem?_set, List.getElem?_set, tabL_get _ _ hj, tabL_get _ _ hj]
    by_cases h1 : 2 * c + 1 = j
    · rw [if_pos h1, if_pos (by simp [tabL_len]; omega), ← h1, if_neg (by omega), show (2 * c + 1) / 2 = c by omega, hv]
    · rw [if_neg h1]
      by_cases h2 : 2 * c = j
      · rw [if_pos h2, if_pos (by simp [tabL_len]; omega), ← h2, if_pos (by omega), show 2 * c / 2 = c by omega, hv]
      · rw [if_neg h2]
        have : tabV X c (j / 2) = tabV X (c + 1) (j / 2) := by
          unfold tabV
          by_cases h3 : j / 2 < c
          · rw [if_pos h3, if_pos (by omega)]
          · rw [if_neg h3, if_neg (by omega)]
        rw [this]
  · rw [List.getElem?_eq_none (by simp [tabL_len]; omega), List.getElem?_eq_none (by simp [tabL_len]; omega)]
theorem tab_start (X : Nat) : tabL X 1 = zeros 32 := by
  apply List.ext_getElem? fun j => ?_
  have h0 : ∀ n, tabV X 1 n = 0 := fun n => by
    unfold tabV
    by_cases h : n < 1
    · rw [if_pos h, show n = 0 by omega]; exact (Gf.mul_lin_r R1 X).zero
    · rw [if_neg h]
  by_cases hj : j < 32
  · rw [tabL_get _ _ hj, h0]
    unfold zeros
    rw [List.getElem?_replicate, if_pos hj]
    simp
  · rw [List.getElem?_eq_none (by rw [tabL_len]; omega), List.getElem?_eq_none (by simp [zeros]; omega)]
/-- The table's next entry. -/
theorem tab_next (X k i : Nat) (hk : k < 4) (hi : i < 2 ^ k) : mul R1 X (2 ^ k + i) = tabV X (2 ^ k + i) i ^^^ 1 * upN R1 k X := by
  have h1 : 2 ^ k + i = 2 ^ k ^^^ i := by
    have : ∀ k, k < 4 → ∀ i, i < 2 ^ k → 2 ^ k + i = 2 ^ k ^^^ i := by decide
    exact this k hk i hi
  have h2 : mul R1 X (2 ^ k ^^^ i) = mul R1 X (2 ^ k) ^^^ mul R1 X i := Gf.mul_lin_r R1 X (2 ^ k) i
  unfold tabV
  rw [if_pos (by omega), h1, h2, Gf.mul_pow R1 X (by omega), Nat.one_mul, Nat.xor_comm]
theorem tabV_lt (X c n : Nat) (hX : X < 2 ^ 128) : tabV X c n < 2 ^ 128 := by
  unfold tabV
  split
  · exact Gf.mul_lt Gf.R1_lt hX n
  · exact Nat.two_pow_pos _
end Go.Proofs.YtaiffkajkbiidaaGreatDoor
