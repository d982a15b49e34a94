/- What prime.Low and prime.Of answer, and the reference's Of. No condition but that parts fit 32 bits. -/
import Derived.Test.YtolfngmpoafaaaaW7b
import Derived.Test.YtolfngmpoafaaaaW7f
import Derived.Test.YtolfngmpoafaaaaOA
namespace Go.Proofs.Ytolfngmpoafaaaa
set_option linter.unusedSimpArgs false
set_option linter.unusedVariables false
set_option linter.unusedSectionVars false
set_option linter.unusedVariables false
open Go.RowKit
theorem or_add {a b : Nat} (i : Nat) (ha : a < 2 ^ i) (h : a + b * 2 ^ i < 18446744073709551616) : bits BinOp.or IntKind.u64 (a : Int) ((b * 2 ^ i : Nat) : Int) = ((a + b * 2 ^ i : Nat) : Int) := by
  rw [u64_or_nat a _ (by omega) (by omega)]
  have := Nat.two_pow_add_eq_or_of_lt (i := i) (b := a) ha b
  rw [Nat.or_comm, Nat.mul_comm b, ← this, Nat.add_comm]
theorem dig_join (b n m x y : Nat) (hb : 0 < b) (hx : x < b ^ n) : dig b n x ++ dig b m y = dig b (n + m) (x + b ^ n * y) := by
  have h := dig_undig b (dig b n x ++ dig b m y) (fun z hz => (List.mem_append.1 hz).elim (dig_lt hb n x z) (dig_lt hb m y z))
  rw [undig_append, undig_dig, undig_dig, dig_length, Nat.mod_eq_of_lt hx, List.length_append, dig_length, dig_length] at h
  rw [← h, ← dig_mod b (n + m) (x + b ^ n * y)]
  congr 1
  rw [Nat.pow_add, Nat.mod_mul, Nat.add_mul_mod_self_left, Nat.mod_eq_of_lt hx, Nat.add_mul_div_left _ _ (Nat.pow_pos hb), Nat.div_eq_of_lt hx, Nat.zero_add]
theorem lo_word {a b c : Nat} (va : a < 67108864) (vb : b < 67108864) (vc : c < 67108864) : bits BinOp.or IntKind.u64 (bits BinOp.or IntKind.u64 (a : Int) ((b : Int) * 67108864)) (IntKind.u64.wrap ((c : Int) * 4503599627370496)) = ((a + b * 67108864 + c % 4096 * 4503599627370496 : Nat) : Int) := by
  have e1 : bits BinOp.or IntKind.u64 (a : Int) ((b : Int) * 67108864) = ((a + b * 67108864 : Nat) : Int) := by
    have := or_add (a := a) (b := b) 26 (by omega) (by omega)
    simpa using this
  have e2 : IntKind.u64.wrap ((c : Int) * 4503599627370496) = ((c % 4096 * 2 ^ 52 : Nat) : Int) := by
    simp [IntKind.wrap, IntKind.bits, IntKind.signed]; omega
  rw [e1, e2, or_add 52 (by omega) (by omega)]
theorem hi_word {c d e : Nat} (vc : c < 67108864) (vd : d < 67108864) (ve : e < 67108864) : bits BinOp.or IntKind.u64 (bits BinOp.or IntKind.u64 ((c : Int) / 4096) ((d : Int) * 16384)) (IntKind.u64.wrap ((e : Int) * 1099511627776)) = ((c / 4096 + d * 16384 + e % 16777216 * 1099511627776 : Nat) : Int) := by
  have e1 : bits BinOp.or IntKind.u64 ((c : Int) / 4096) ((d : Int) * 16384) = ((c / 4096 + d * 16384 : Nat) : Int) := by
    have := or_add (a := c / 4096) (b := d) 14 (by omega) (by omega)
    simpa using this
  have e2 : IntKind.u64.wrap ((e : Int) * 1099511627776) = ((e % 16777216 * 2 ^ 40 : Nat) : Int) := by
    simp [IntKind.wrap, IntKind.bits, IntKind.signed]; omega
  rw [e1, e2, or_add 40 (by omega) (by omega)]
theorem low_bytes {a b c d e : Nat} (va : a < 67108864) (vb : b < 67108864) (vc : c < 67108864) (vd : d < 67108864) (ve : e < 67108864) : dig 256 8 (a + b * 67108864 + c % 4096 * 4503599627370496) ++ dig 256 8 (c / 4096 + d * 16384 + e % 16777216 * 1099511627776) = dig 256 16 (val [a, b, c, d, e]) := by
  rw [dig_join 256 8 8 _ _ (by omega) (by omega), ← dig_mod 256 16 (val [a, b, c, d, e])]
  congr 1
  have : val [a, b, c, d, e] = a + 67108864 * (b + 67108864 * (c + 67108864 * (d + 67108864 * e))) := rfl
  rw [this]
  omega
set_option maxRecDepth 100000 in
set_option maxHeartbeats 2000000 in
theorem low_c (xs : List Nat) (hl : xs.length = 5) (hb : ∀ x ∈ xs, x < 2 ^ 32) (w : World) :
    Calls Try.prog 59 #[.agg (ints .u32 xs)] w fun e w' => e = .returned (.agg (ints .u8 (dig 256 16 (val xs % pp)))) ∧ Below w.heap.size w w' := by
  have B0 := (Blk.new w 83 (ints .u32 xs)).alloc (.cells (ints .u8 (zeros 16)) 35)
  have B1 := Blk.new (w.alloc (.cells (ints .u32 xs) 83)) 35 (ints .u8 (zeros 16))
  rw [World.size_alloc] at B1
  have hbel := ((Below.refl w.heap.size w).alloc (Nat.le_refl _) (.cells (ints .u32 xs) 83)).alloc (by simp) (.cells (ints .u8 (zeros 16)) 35)
  have hnl := numOf_len (val xs)
  have hnb := numOf_lt (val xs)
  have hvn := val_numOf (val xs)
  go_enter Try.func59, Try.ntmps59
  go_wp2_with (first | (refine wpList_alloc_ints rfl 35 rfl Try.z35 ?_; (try simp only [Act.put, List.setIfInBounds_toArray, List.set_cons_zero, List.set_cons_succ, World.size_alloc, setRow_size, Nat.add_assoc, Nat.reduceAdd])) | (refine wpList_load_ints rfl 83 _ rfl w.heap.size rfl B0 Try.ar83 hl ?_; (try simp only [Act.put, List.setIfInBounds_toArray, List.set_cons_zero, List.set_cons_succ, World.size_alloc, setRow_size, Nat.add_assoc, Nat.reduceAdd])))
  refine (form_c xs hl hb _).mono ?_
  rintro e w1 ⟨rfl, hb1⟩
  have hbel1 := bCall hbel hb1 hbel.size
  go_wp2_with (fail)
  refine (loose_c (numOf (val xs)) hnl (fun x hx => Nat.lt_trans (hnb x hx) (by omega)) _).mono ?_
  rintro e w2 ⟨rfl, hb2⟩
  have hbel2 := bCall hbel1 hb2 hbel1.size
  have C1 := (B1.below' hb1).below' hb2
  have L0 := Blk.new w2 101 (ints .u64 (zeros 5))
  have L1 := L0.row (ints .u64 (numOf (val xs)))
  have C2 := (C1.alloc (.cells (ints .u64 (zeros 5)) 101)).rowFar (show w.heap.size + 1 ≠ w2.heap.size by have := C1.lt; omega) (ints .u64 (numOf (val xs)))
  have hbel3 := bSetRow (hbel2.alloc hbel2.size (.cells (ints .u64 (zeros 5)) 101)) hbel2.size (ints .u64 (numOf (val xs)))
  clear B0 B1 C1 hbel hbel1 hbel2
  obtain ⟨a, b, c, d, e, hn⟩ := list5 hnl
  have HN := Lib.hid hn
  have c0 := L1.int (i := 0) (by omega)
  have c1 := L1.int (i := 1) (by omega)
  have c2 := L1.int (i := 2) (by omega)
  have c3 := L1.int (i := 3) (by omega)
  have c4 := L1.int (i := 4) (by omega)
  rw [show (numOf (val xs)).getD 0 0 = a by rw [hn]; rfl] at c0
  rw [show (numOf (val xs)).getD 1 0 = b by rw [hn]; rfl] at c1
  rw [show (numOf (val xs)).getD 2 0 = c by rw [hn]; rfl] at c2
  rw [show (numOf (val xs)).getD 3 0 = d by rw [hn]; rfl] at c3
  rw [show (numOf (val xs)).getD 4 0 = e by rw [hn]; rfl] at c4
  rw [hn] at hnb hvn
  clear hn
  have va := hnb a (by simp)
  have vb := hnb b (by simp)
  have vc := hnb c (by simp)
  have vd := hnb d (by simp)
  have ve := hnb e (by simp)
  have HV := Lib.hid hvn
  clear hnb hvn
  go_wp2_with (first | (refine wpList_alloc_ints rfl 101 rfl Try.z101 ?_; (try simp only [Act.put, List.setIfInBounds_toArray, List.set_cons_zero, List.set_cons_succ, World.size_alloc, setRow_size, Nat.add_assoc, Nat.reduceAdd])) | (refine wpList_store_ints rfl 101 _ _ rfl w2.heap.size (k := .u64) rfl rfl L0 (zeros_size _ _) Try.ar101 hnl ?_; (try simp only [Act.put, List.setIfInBounds_toArray, List.set_cons_zero, List.set_cons_succ, World.size_alloc, setRow_size, Nat.add_assoc, Nat.reduceAdd])))
  rw [lo_word va vb vc, hi_word vc vd ve]
  refine (wbytes_c (a + b * 67108864 + c % 4096 * 4503599627370496) (c / 4096 + d * 16384 + e % 16777216 * 1099511627776) (by omega) (by omega) _).mono ?_
  rintro e1 w3 ⟨rfl, hb3⟩
  have C3 := C2.below' hb3
  have hbel4 := bCall hbel3 hb3 hbel3.size
  rw [low_bytes va vb vc vd ve, HV.out]
  have hdl : (dig 256 16 (val xs % pp)).length = 16 := dig_length _ _ _
  go_wp2_with (refine wpList_store_ints rfl 35 _ _ rfl (w.heap.size + 1) rfl rfl C3 (zeros_size _ _) Try.ar35 hdl ?_; (try simp only [Act.put, List.setIfInBounds_toArray, List.set_cons_zero, List.set_cons_succ, World.size_alloc, setRow_size, Nat.add_assoc, Nat.reduceAdd]))
  exact ret_ints rfl rfl (C3.row _) Try.ar35 hdl ⟨rfl, bSetRow hbel4 (by omega) _⟩
/-- Sixteen bytes, and a number of times 2^128. -/
def ofN (bs : List Nat) (high : Nat) : Nat := le bs + 340282366920938463463374607431768211456 * high
theorem le_halves {bs : List Nat} (hl : bs.length = 16) : le bs = numAt bs 0 8 + 18446744073709551616 * numAt bs 8 8 := by
  have e : bs = (List.range 8).map (fun k => bs.getD (0 + k) 0) ++ (List.range 8).map (fun k => bs.getD (8 + k) 0) := by
    have h := range_getD hl
    have h2 : List.range 16 = List.range 8 ++ (List.range 8).map (8 + ·) := rfl
    rw [h2, List.map_append, List.map_map] at h
    have f1 : (List.range 8).map (fun k => bs.getD (0 + k) 0) = (List.range 8).map (fun i => bs.getD i 0) := List.map_congr_left fun k _ => by rw [Nat.zero_add]
    rw [f1]
    exact h.symm
  unfold le numAt
  conv => lhs; rw [e, undig_append]
  simp
theorem part2 {lo hi : Nat} (h0 : lo < 18446744073709551616) (h1 : hi < 18446744073709551616) : bits BinOp.and IntKind.u64 (bits BinOp.or IntKind.u64 ((lo : Int) / 4503599627370496) (IntKind.u64.wrap ((hi : Int) * 4096))) 67108863 = ((lo / 4503599627370496 + hi % 16384 * 4096 : Nat) : Int) := by
  have e2 : IntKind.u64.wrap ((hi : Int) * 4096) = ((hi % 4503599627370496 * 2 ^ 12 : Nat) : Int) := by
    simp [IntKind.wrap, IntKind.bits, IntKind.signed]; omega
  have e1 : ((lo : Int) / 4503599627370496) = ((lo / 4503599627370496 : Nat) : Int) := by simp
  rw [e1, e2, or_add 12 (by omega) (by omega), and26 _ (by omega)]
  congr 1
  omega
theorem part4 {hi h : Nat} (h1 : hi < 18446744073709551616) (h2 : h < 4294967296) : bits BinOp.or IntKind.u64 ((hi : Int) / 1099511627776) ((h : Int) * 16777216) = ((hi / 1099511627776 + h * 16777216 : Nat) : Int) := by
  have e1 : ((hi : Int) / 1099511627776) = ((hi / 1099511627776 : Nat) : Int) := by simp
  rw [e1]
  have := or_add (a := hi / 1099511627776) (b := h) 24 (by omega) (by omega)
  simpa using this
set_option maxRecDepth 100000 in
set_option maxHeartbeats 2000000 in
theorem of_c (bs : List Nat) (hl : bs.length = 16) (hb : ∀ x ∈ bs, x < 256) (high : Nat) (hh : high < 4294967296) (w : World) :
    Calls Try.prog 48 #[.agg (ints .u8 bs), .int .u32 high] w fun e w' => e = .returned (.agg (ints .u32 (numOf (ofN bs high)))) ∧ Below w.heap.size w w' := by
  have B0 := (Blk.new w 35 (ints .u8 bs)).alloc (.cells (ints .u32 (zeros 5)) 83)
  have B1 := Blk.new (w.alloc (.cells (ints .u8 bs) 35)) 83 (ints .u32 (zeros 5))
  rw [World.size_alloc] at B1
  have hbel := ((Below.refl w.heap.size w).alloc (Nat.le_refl _) (.cells (ints .u8 bs) 35)).alloc (by simp) (.cells (ints .u32 (zeros 5)) 83)
  have hlo : numAt bs 0 8 < 18446744073709551616 := numAt_lt hb 0 8
  have hhi : numAt bs 8 8 < 18446744073709551616 := numAt_lt hb 8 8
  have hhalf := le_halves hl
  have hld := load_c (some ⟨w.heap.size, 0, none⟩) 16 bs hb (by rw [hl]; unfold maxLen; omega) _ (Sl.blk B0)
  rw [hl] at hld
  have HL := Lib.hid hld
  have HH := Lib.hid hhalf
  clear hld hhalf
  go_enter Try.func48, Try.ntmps48
  go_wp2_with (refine wpList_alloc_ints rfl 83 rfl Try.z83 ?_; (try simp only [Act.put, List.setIfInBounds_toArray, List.set_cons_zero, List.set_cons_succ, World.size_alloc, setRow_size, Nat.add_assoc, Nat.reduceAdd]))
  refine (HL.out).mono ?_
  rintro e w1 ⟨rfl, hb1⟩
  have hbel1 := bCall hbel hb1 hbel.size
  have C1 := B1.below' hb1
  have L0 := Blk.new w1 30 (ints .u64 (zeros 2))
  have L1 := L0.row (ints .u64 [numAt bs 0 8, numAt bs 8 8])
  have C2 := (C1.alloc (.cells (ints .u64 (zeros 2)) 30)).rowFar (show w.heap.size + 1 ≠ w1.heap.size by have := C1.lt; omega) (ints .u64 [numAt bs 0 8, numAt bs 8 8])
  have hbel3 := bSetRow (hbel1.alloc hbel1.size (.cells (ints .u64 (zeros 2)) 30)) hbel1.size (ints .u64 [numAt bs 0 8, numAt bs 8 8])
  have c0 := L1.int (i := 0) (by simp)
  have c1 := L1.int (i := 1) (by simp)
  simp only [List.getD_cons_zero, List.getD_cons_succ] at c0 c1
  clear B0 B1 C1 hbel hbel1 HL
  go_wp2_with (first | (refine wpList_alloc_ints rfl 30 rfl Try.z30 ?_; (try simp only [Act.put, List.setIfInBounds_toArray, List.set_cons_zero, List.set_cons_succ, World.size_alloc, setRow_size, Nat.add_assoc, Nat.reduceAdd])) | (refine wpList_store_ints rfl 30 _ _ rfl w1.heap.size (k := .u64) (xs := [numAt bs 0 8, numAt bs 8 8]) rfl rfl L0 (zeros_size _ _) Try.ar30 rfl ?_; (try simp only [Act.put, List.setIfInBounds_toArray, List.set_cons_zero, List.set_cons_succ, World.size_alloc, setRow_size, Nat.add_assoc, Nat.reduceAdd])))
  have g0 : bits BinOp.and IntKind.u64 ((numAt bs 0 8 : Nat) : Int) 67108863 = ((numAt bs 0 8 % 67108864 : Nat) : Int) := and26 _ (by omega)
  have g1 : bits BinOp.and IntKind.u64 (((numAt bs 0 8 : Nat) : Int) / 67108864) 67108863 = ((numAt bs 0 8 / 67108864 % 67108864 : Nat) : Int) := by
    rw [show ((numAt bs 0 8 : Nat) : Int) / 67108864 = ((numAt bs 0 8 / 67108864 : Nat) : Int) by simp]; exact and26 _ (by omega)
  have g3 : bits BinOp.and IntKind.u64 (((numAt bs 8 8 : Nat) : Int) / 16384) 67108863 = ((numAt bs 8 8 / 16384 % 67108864 : Nat) : Int) := by
    rw [show ((numAt bs 8 8 : Nat) : Int) / 16384 = ((numAt bs 8 8 / 16384 : Nat) : Int) by simp]; exact and26 _ (by omega)
  rw [g0, g1, part2 hlo hhi, g3, part4 hhi hh]
  clear g0 g1 g3
  have hvx : val [numAt bs 0 8 % 67108864, numAt bs 0 8 / 67108864 % 67108864, numAt bs 0 8 / 4503599627370496 + numAt bs 8 8 % 16384 * 4096, numAt bs 8 8 / 16384 % 67108864, numAt bs 8 8 / 1099511627776 + high * 16777216] = ofN bs high := by
    unfold ofN
    rw [HH.out]
    generalize numAt bs 0 8 = x at *
    generalize numAt bs 8 8 = y at *
    show x % 67108864 + 67108864 * (x / 67108864 % 67108864 + 67108864 * (x / 4503599627370496 + y % 16384 * 4096 + 67108864 * (y / 16384 % 67108864 + 67108864 * (y / 1099511627776 + high * 16777216 + 67108864 * 0)))) = _
    omega
  have hlt : ∀ z ∈ [numAt bs 0 8 % 67108864, numAt bs 0 8 / 67108864 % 67108864, numAt bs 0 8 / 4503599627370496 + numAt bs 8 8 % 16384 * 4096, numAt bs 8 8 / 16384 % 67108864, numAt bs 8 8 / 1099511627776 + high * 16777216], z < 2 ^ 60 := by
    generalize numAt bs 0 8 = x at *
    generalize numAt bs 8 8 = y at *
    intro z hz
    simp only [List.mem_cons, List.not_mem_nil, or_false] at hz
    rcases hz with rfl | rfl | rfl | rfl | rfl <;> omega
  have htd := tidy_c _ rfl hlt
  rw [hvx] at htd
  refine (htd _).mono ?_
  rintro e w3 ⟨rfl, hb3⟩
  have C3 := C2.below' hb3
  have hbel4 := bCall hbel3 hb3 hbel3.size
  clear hvx hlt htd HH
  have hnl := numOf_len (ofN bs high)
  go_wp2_with (refine wpList_store_ints rfl 83 _ _ rfl (w.heap.size + 1) rfl rfl C3 (zeros_size _ _) Try.ar83 hnl ?_; (try simp only [Act.put, List.setIfInBounds_toArray, List.set_cons_zero, List.set_cons_succ, World.size_alloc, setRow_size, Nat.add_assoc, Nat.reduceAdd]))
  exact ret_ints rfl rfl (C3.row _) Try.ar83 hnl ⟨rfl, bSetRow hbel4 (by omega) _⟩
theorem sum4 (h : Nat) (hh : h < 4294967296) : dig 256 4 h = [h % 256, h / 256 % 256, h / 65536 % 256, h / 16777216 % 256] := by
  simp only [dig, Nat.div_div_eq_div_mul, Nat.reduceMul]
set_option maxRecDepth 100000 in
set_option maxHeartbeats 2000000 in
theorem rof_c (bs : List Nat) (hl : bs.length = 16) (hb : ∀ x ∈ bs, x < 256) (high : Nat) (hh : high < 4294967296) (w : World) :
    Calls Try.prog 63 #[.agg (ints .u8 bs), .int .u32 high] w fun e w' => e = .returned (.agg (ints .u8 (restOf (ofN bs high % pp)))) ∧ Below w.heap.size w w' := by
  have B0 := ((Blk.new w 35 (ints .u8 bs)).alloc (.cells (ints .u8 (zeros 17)) 91)).alloc (.cells #[] 5)
  have B1 := (Blk.new (w.alloc (.cells (ints .u8 bs) 35)) 91 (ints .u8 (zeros 17))).alloc (.cells #[] 5)
  rw [World.size_alloc] at B1
  have hbel := (((Below.refl w.heap.size w).alloc (Nat.le_refl _) (.cells (ints .u8 bs) 35)).alloc (by simp) (.cells (ints .u8 (zeros 17)) 91)).alloc (by simp; omega) (.cells #[] 5)
  have hO := Own.made (B := w.heap.size + 2) (k := .u8) (xs := []) (Blk.new' (w := (w.alloc (.cells (ints .u8 bs) 35)).alloc (.cells (ints .u8 (zeros 17)) 91)) (t := 5) (cs := #[]) (n := w.heap.size + 2) (by simp)) (Nat.le_refl _) (by simp [maxLen])
  have hsl := Sl.blk B0
  have HL := Lib.hid hl
  have hsz : ([] : List Nat).length + bs.length < 2 ^ 40 := by rw [hl]; decide
  have hl4 : (dig 256 4 high).length = 4 := dig_length _ _ _
  clear hl
  go_enter Try.func63, Try.ntmps63
  go_wp2_with (first | (refine wpList_alloc_ints rfl 91 rfl Try.z91 ?_; (try simp only [Act.put, List.setIfInBounds_toArray, List.set_cons_zero, List.set_cons_succ, World.size_alloc, setRow_size, Nat.add_assoc, Nat.reduceAdd])) | (refine wpList_append_sl (s := .tmp 7) (x := .tmp 8) (xs := []) (zs := bs) rfl rfl Try.underlying22 u8_inf rfl (by omega) rfl hO rfl HL.out.symm (by intro h; cases h) hsl hsz (by first | omega | (simp; done) | (simp; omega)) ?_; intro v1 w2 hown1 hgr1; rw [List.nil_append] at hown1; have C1 := B1.grownOwn hgr1 hO (by omega); have hbel1 := bGrown hbel hgr1 hbel.size hO (by omega); have hs2 := hgr1.size))
  simp only [World.size_alloc] at hs2
  simp only [Nat.add_assoc, Nat.reduceAdd]
  go_loopw [5, 6] (fun v t wr => ∃ k : Nat, k ≤ 4 ∧ t = .int .i64 k ∧ Own wr (w.heap.size + 2) 5 .u8 v (bs ++ (dig 256 4 high).take k) ∧ Blk wr (w.heap.size + 1) 91 (ints .u8 (zeros 17)) ∧ w.heap.size + 2 ≤ wr.heap.size ∧ Below w.heap.size w wr) (fun v t wr => 4 - (intOf t).toNat)
  case atStart => exact ⟨0, by omega, rfl, by rw [List.take_zero, List.append_nil]; exact hown1, C1, by omega, hbel1⟩
  case round =>
    rename_i hrel
    obtain ⟨k, hk, rfl, hown, D1, hs3, hbelr⟩ := hrel
    by_cases hlt : k < 4
    · have hv : (dig 256 4 high).getD k 0 = high / 256 ^ k % 256 := dig_getD 256 4 high k hlt
      have ht := take_snoc (by rw [hl4]; exact hlt) hv
      have hsz1 : (bs ++ (dig 256 4 high).take k).length < 2 ^ 40 := by simp [HL.out]; omega
      have HT := Lib.hid ht
      have Hv := Lib.hid hv
      clear ht hv
      have hsb := shr_byte high k
      have hq : high / 256 ^ k % 256 < 256 := Nat.mod_lt _ (by omega)
      go_wp2_with (first | (refine wpList_append_one (n := high / 256 ^ k % 256) rfl rfl Try.underlying22 u8_inf rfl (by omega) rfl (hown.alloc _) rfl (by simp) hsz1 (by simp; omega) ?_; intro v' w' hown' hgr; (try simp only [Act.put, List.setIfInBounds_toArray, List.set_cons_zero, List.set_cons_succ, World.size_alloc, setRow_size, Nat.add_assoc, Nat.reduceAdd])))
      refine ⟨⟨k + 1, by omega, by go_num, ?_, (D1.alloc _).grownOwn hgr (hown.alloc _) (by omega), ?_, bGrown (hbelr.alloc hbelr.size _) hgr (by simp; omega) (hown.alloc _) (by omega)⟩, by simp [intOf] <;> omega⟩
      · rw [HT.out, ← List.append_assoc]; exact hown'
      · have := hgr.size; simp at this; omega
    · obtain rfl : k = 4 := by omega
      have he : (dig 256 4 high).take 4 = dig 256 4 high := List.take_of_length_le (by omega)
      rw [he] at hown
      clear he
      obtain ⟨a2, c2, rfl, hsl2, -, -⟩ := hown.sl
      have hby : ∀ x ∈ bs ++ dig 256 4 high, x < 256 := fun x hx => (List.mem_append.1 hx).elim (hb x) (dig_lt (by omega) _ _ x)
      have hlt2 : (bs ++ dig 256 4 high).length < 2 ^ 40 := by simp [HL.out]
      have hle : le (bs ++ dig 256 4 high) = ofN bs high := by
        unfold ofN le
        rw [undig_append, HL.out, undig_dig, Nat.mod_eq_of_lt hh]
      have hdv := divide_c a2 c2 (bs ++ dig 256 4 high) hby hlt2 wr hsl2
      rw [hle] at hdv
      have HD := Lib.hid hdv
      obtain ⟨m, hm⟩ : ∃ m, (bs ++ dig 256 4 high).length = m := ⟨_, rfl⟩
      rw [hm] at HD ⊢
      clear hle hdv hby hlt2 hsl2 hown hm
      go_wp2_with (fail)
      refine (HD.out).mono ?_
      rintro e w3 ⟨rfl, hb3⟩
      have E1 := D1.below' hb3
      have hbel3 := bCall hbelr hb3 hbelr.size
      have hrl := restOf_len (ofN bs high % pp)
      go_wp2_with (refine wpList_store_ints rfl 91 _ _ rfl (w.heap.size + 1) rfl rfl E1 (zeros_size _ _) Try.ar91 hrl ?_; (try simp only [Act.put, List.setIfInBounds_toArray, List.set_cons_zero, List.set_cons_succ, World.size_alloc, setRow_size, Nat.add_assoc, Nat.reduceAdd]))
      exact ret_ints rfl rfl (E1.row _) Try.ar91 hrl ⟨rfl, bSetRow hbel3 (by omega) _⟩
end Go.Proofs.Ytolfngmpoafaaaa
