/- adhash: Head. No condition but that bytes are below 256 and the length fits. -/
import Derived.Test.YtolfngmpoafaaaaW12b
namespace Go.Proofs.Ytolfngmpoafaaaa
set_option linter.unusedSimpArgs false
set_option linter.unusedVariables false
set_option linter.unusedSectionVars false
set_option linter.unusedVariables false
open Go.RowKit
set_option maxRecDepth 100000 in
set_option maxHeartbeats 8000000 in
theorem head12_c (g gw : Nat) (key tweak : List Nat) (hkb : ∀ x ∈ key, x < 256) (htb : ∀ x ∈ tweak, x < 256) (htl : tweak.length < 2 ^ 30) (z : Int) (n : Nat) (hn : n < 2 ^ 63) (hz : z = (n : Int) ∨ z < 0 ∧ n = 0) (a : Option Addr) (c : Nat) (hc : tweak.length ≤ c) (w : World) (hK : IsK w g gw key) (hs0 : Sl w a .u8 tweak) :
    Calls Try.prog 12 #[.pointer (some ⟨g, 0, none⟩), .slice a tweak.length c, .int .i64 z] w fun e w' => e = .returned (.agg (ints .u64 (W12 (headN (blockN key) tweak n)))) ∧ Below w.heap.size w w' := by
  have B0 := Blk.new w 30 (ints .u64 (zeros 2))
  have hbel := (Below.refl w.heap.size w).alloc (Nat.le_refl _) (.cells (ints .u64 (zeros 2)) 30)
  have K1 := hK.below hbel
  have hs1 := hs0.below hbel
  have htk := blockN_len key
  have htkb := blockN_lt hkb
  have hw1 : IntKind.u64.wrap (n : Int) = (n : Int) := by rw [IntKind.wrap_u64]; omega
  have hw2 : IntKind.u64.wrap ((n : Int) * 8) = ((8 * n % 18446744073709551616 : Nat) : Int) := by rw [IntKind.wrap_u64]; omega
  have hlo : 8 * n % 18446744073709551616 < 18446744073709551616 := by omega
  have hhi : 8 * n / 18446744073709551616 % 18446744073709551616 < 18446744073709551616 := by omega
  have hwb := fun W => wbytes_c _ _ hlo hhi W
  rw [W12_bytes] at hwb
  have HWB := Lib.hid hwb
  clear hwb
  have e1 : 8 * (n : Int) % 18446744073709551616 = ((8 * n % 18446744073709551616 : Nat) : Int) := by omega
  have e2 : (n : Int) / 2305843009213693952 = ((8 * n / 18446744073709551616 % 18446744073709551616 : Nat) : Int) := by omega
  have E1 := Lib.hid e1
  have E2 := Lib.hid e2
  clear e1 e2
  have hmb : ∀ x ∈ dig 256 16 (8 * n), x < 256 := dig_lt (by omega) _ _
  have hml : (dig 256 16 (8 * n)).length = 16 := dig_length _ _ _
  rcases hz with rfl | ⟨hz0, hn0⟩
  · have hd0 : decide ((n : Int) < 0) = false := by simp
    have hge : (0 : Int) ≤ (n : Int) := by omega
    go_enter Try.func12, Try.ntmps12
    go_wp2_with (refine wpList_alloc_ints rfl 30 rfl Try.zW ?_; (try simp only [Act.put, List.setIfInBounds_toArray, List.set_cons_zero, List.set_cons_succ, World.size_alloc, setRow_size, Nat.add_assoc, Nat.reduceAdd]))
    rw [E1.out, E2.out]
    generalize (w.alloc (.cells (ints .u64 (zeros 2)) 30)) = w1 at *
    refine (HWB.out _).mono ?_
    rintro e w2 ⟨rfl, hb2⟩
    have hz2 := hb2.size
    have hl1 := B0.lt
    have Z := Blk.new w2 35 (ints .u8 (zeros 16))
    have T := Z.row (ints .u8 (dig 256 16 (8 * n)))
    have C0 := ((B0.below' hb2).alloc (.cells (ints .u8 (zeros 16)) 35)).rowFar (show w.heap.size ≠ w2.heap.size by omega) (ints .u8 (dig 256 16 (8 * n)))
    have hb3 : Below w1.heap.size w1 ((w2.alloc (.cells (ints .u8 (zeros 16)) 35)).setRow w2.heap.size (ints .u8 (dig 256 16 (8 * n)))) := bSetRow (hb2.alloc hz2 (.cells (ints .u8 (zeros 16)) 35)) hz2 (ints .u8 (dig 256 16 (8 * n)))
    have K3 := K1.below hb3
    have hs3 := hs1.below hb3
    have hbel3 := bCall hbel hb3 hbel.size
    have KT := K3.1
    rw [kyC_t] at KT
    go_wp2_with (first | (refine wpList_alloc_ints rfl 35 rfl Try.z35 ?_; (try simp only [Act.put, List.setIfInBounds_toArray, List.set_cons_zero, List.set_cons_succ, World.size_alloc, setRow_size, Nat.add_assoc, Nat.reduceAdd])) | (refine wpList_store_ints (k := .u8) (xs := dig 256 16 (8 * n)) rfl 35 _ _ rfl w2.heap.size rfl rfl Z (zeros_size _ _) Try.ar35 hml ?_; (try simp only [Act.put, List.setIfInBounds_toArray, List.set_cons_zero, List.set_cons_succ, World.size_alloc, setRow_size, Nat.add_assoc, Nat.reduceAdd])) | (refine wpList_load_part (old := vals .u8 (blockN key)) rfl 35 _ rfl 0 rfl KT rfl Try.ar35 (by rw [vals_len]; exact htk) ?_; (try simp only [Act.put, List.setIfInBounds_toArray, List.set_cons_zero, List.set_cons_succ, World.size_alloc, setRow_size, Nat.add_assoc, Nat.reduceAdd])))
    generalize ((w2.alloc (.cells (ints .u8 (zeros 16)) 35)).setRow w2.heap.size (ints .u8 (dig 256 16 (8 * n)))) = w3 at *
    have hT3 := T.lt
    have hC3 := C0.lt
    refine (new8_c (blockN key) htk htkb _).mono ?_
    rintro e w4 ⟨gs, rfl, hgs, hS, hb4⟩
    have T4 := T.below' hb4
    have C4 := C0.below' hb4
    have hs4 := hs3.below hb4
    have hbel4 := bCall hbel3 hb4 hbel3.size
    go_wp2_with fail
    have hwr := write8_c gs (blockN key) [] (dig 256 16 (8 * n)) hmb (by decide) (by rw [hml]; omega) (some ⟨w2.heap.size, 0, none⟩) 16 (by rw [hml]; omega) (fun _ p hp => by cases hp; show w2.heap.size ≠ gs; omega) w4 hS (Sl.blk T4)
    rw [hml] at hwr
    refine hwr.mono ?_
    rintro e w5 ⟨rfl, hS5, hch5⟩
    have C5 := hch5.blk C4 (by omega)
    have hs5 := hch5.sl' hs4 (ANe.of_sl hs3 hgs)
    have hbel5 := hch5.below hbel4 (by omega) hbel4.size
    rw [List.nil_append] at hS5
    go_wp2_with fail
    refine (write8_c gs (blockN key) _ tweak htb (by rw [hml]; omega) (by omega) a c hc (ANe.of_sl hs3 hgs) _ hS5 hs5).mono ?_
    rintro e w6 ⟨rfl, hS6, hch6⟩
    have C6 := hch6.blk C5 (by omega)
    have hbel6 := hch6.below hbel5 (by omega) hbel5.size
    go_wp2_with fail
    refine (number12_c gs (blockN key) _ (fun x hx => (List.mem_append.1 hx).elim (hmb x) (htb x)) _ hS6).mono ?_
    rintro e w7 ⟨rfl, hb7⟩
    have C7 := C6.below' hb7
    have hbel7 := bCall hbel6 hb7 hbel6.size
    go_wp2_with (refine wpList_store_ints (k := .u64) (xs := W12 (polyA (blockN key) (dig 256 16 (8 * n) ++ tweak))) rfl 30 _ _ rfl w.heap.size rfl rfl C7 (zeros_size _ _) Try.arW (W12_len _) ?_; (try simp only [Act.put, List.setIfInBounds_toArray, List.set_cons_zero, List.set_cons_succ, World.size_alloc, setRow_size, Nat.add_assoc, Nat.reduceAdd]))
    exact ret_ints rfl rfl (C7.row _) Try.arW (W12_len _) ⟨rfl, bSetRow hbel7 (Nat.le_refl _) _⟩
  · have q1 : 8 * n % 18446744073709551616 = 0 := by omega
    have q2 : 8 * n / 18446744073709551616 % 18446744073709551616 = 0 := by omega
    have hwb0 := HWB.out
    rw [q1, q2] at hwb0
    have HW0 := Lib.hid hwb0
    clear hwb0 q1 q2 hw1 hw2 hlo hhi E1 E2 HWB hn0
    have hge : ¬ (0 : Int) ≤ z := by omega
    go_enter Try.func12, Try.ntmps12
    go_wp2_with (refine wpList_alloc_ints rfl 30 rfl Try.zW ?_; (try simp only [Act.put, List.setIfInBounds_toArray, List.set_cons_zero, List.set_cons_succ, World.size_alloc, setRow_size, Nat.add_assoc, Nat.reduceAdd]))
    rw [show max z 0 = 0 by omega]
    simp only [Int.zero_mul, Int.zero_ediv]
    generalize (w.alloc (.cells (ints .u64 (zeros 2)) 30)) = w1 at *
    refine (HW0.out _).mono ?_
    rintro e w2 ⟨rfl, hb2⟩
    have hz2 := hb2.size
    have hl1 := B0.lt
    have Z := Blk.new w2 35 (ints .u8 (zeros 16))
    have T := Z.row (ints .u8 (dig 256 16 (8 * n)))
    have C0 := ((B0.below' hb2).alloc (.cells (ints .u8 (zeros 16)) 35)).rowFar (show w.heap.size ≠ w2.heap.size by omega) (ints .u8 (dig 256 16 (8 * n)))
    have hb3 : Below w1.heap.size w1 ((w2.alloc (.cells (ints .u8 (zeros 16)) 35)).setRow w2.heap.size (ints .u8 (dig 256 16 (8 * n)))) := bSetRow (hb2.alloc hz2 (.cells (ints .u8 (zeros 16)) 35)) hz2 (ints .u8 (dig 256 16 (8 * n)))
    have K3 := K1.below hb3
    have hs3 := hs1.below hb3
    have hbel3 := bCall hbel hb3 hbel.size
    have KT := K3.1
    rw [kyC_t] at KT
    go_wp2_with (first | (refine wpList_alloc_ints rfl 35 rfl Try.z35 ?_; (try simp only [Act.put, List.setIfInBounds_toArray, List.set_cons_zero, List.set_cons_succ, World.size_alloc, setRow_size, Nat.add_assoc, Nat.reduceAdd])) | (refine wpList_store_ints (k := .u8) (xs := dig 256 16 (8 * n)) rfl 35 _ _ rfl w2.heap.size rfl rfl Z (zeros_size _ _) Try.ar35 hml ?_; (try simp only [Act.put, List.setIfInBounds_toArray, List.set_cons_zero, List.set_cons_succ, World.size_alloc, setRow_size, Nat.add_assoc, Nat.reduceAdd])) | (refine wpList_load_part (old := vals .u8 (blockN key)) rfl 35 _ rfl 0 rfl KT rfl Try.ar35 (by rw [vals_len]; exact htk) ?_; (try simp only [Act.put, List.setIfInBounds_toArray, List.set_cons_zero, List.set_cons_succ, World.size_alloc, setRow_size, Nat.add_assoc, Nat.reduceAdd])))
    generalize ((w2.alloc (.cells (ints .u8 (zeros 16)) 35)).setRow w2.heap.size (ints .u8 (dig 256 16 (8 * n)))) = w3 at *
    have hT3 := T.lt
    have hC3 := C0.lt
    refine (new8_c (blockN key) htk htkb _).mono ?_
    rintro e w4 ⟨gs, rfl, hgs, hS, hb4⟩
    have T4 := T.below' hb4
    have C4 := C0.below' hb4
    have hs4 := hs3.below hb4
    have hbel4 := bCall hbel3 hb4 hbel3.size
    go_wp2_with fail
    have hwr := write8_c gs (blockN key) [] (dig 256 16 (8 * n)) hmb (by decide) (by rw [hml]; omega) (some ⟨w2.heap.size, 0, none⟩) 16 (by rw [hml]; omega) (fun _ p hp => by cases hp; show w2.heap.size ≠ gs; omega) w4 hS (Sl.blk T4)
    rw [hml] at hwr
    refine hwr.mono ?_
    rintro e w5 ⟨rfl, hS5, hch5⟩
    have C5 := hch5.blk C4 (by omega)
    have hs5 := hch5.sl' hs4 (ANe.of_sl hs3 hgs)
    have hbel5 := hch5.below hbel4 (by omega) hbel4.size
    rw [List.nil_append] at hS5
    go_wp2_with fail
    refine (write8_c gs (blockN key) _ tweak htb (by rw [hml]; omega) (by omega) a c hc (ANe.of_sl hs3 hgs) _ hS5 hs5).mono ?_
    rintro e w6 ⟨rfl, hS6, hch6⟩
    have C6 := hch6.blk C5 (by omega)
    have hbel6 := hch6.below hbel5 (by omega) hbel5.size
    go_wp2_with fail
    refine (number12_c gs (blockN key) _ (fun x hx => (List.mem_append.1 hx).elim (hmb x) (htb x)) _ hS6).mono ?_
    rintro e w7 ⟨rfl, hb7⟩
    have C7 := C6.below' hb7
    have hbel7 := bCall hbel6 hb7 hbel6.size
    go_wp2_with (refine wpList_store_ints (k := .u64) (xs := W12 (polyA (blockN key) (dig 256 16 (8 * n) ++ tweak))) rfl 30 _ _ rfl w.heap.size rfl rfl C7 (zeros_size _ _) Try.arW (W12_len _) ?_; (try simp only [Act.put, List.setIfInBounds_toArray, List.set_cons_zero, List.set_cons_succ, World.size_alloc, setRow_size, Nat.add_assoc, Nat.reduceAdd]))
    exact ret_ints rfl rfl (C7.row _) Try.arW (W12_len _) ⟨rfl, bSetRow hbel7 (Nat.le_refl _) _⟩
set_option maxRecDepth 100000 in
set_option maxHeartbeats 2000000 in
theorem headNil12_c (v u : Value) (w : World) :
    Calls Try.prog 12 #[.pointer none, v, u] w fun e w' => e = .returned (.agg (ints .u64 (W12 0))) ∧ Below w.heap.size w w' := by
  have B0 := Blk.new w 30 (ints .u64 (zeros 2))
  have hbel := (Below.refl w.heap.size w).alloc (Nat.le_refl _) (.cells (ints .u64 (zeros 2)) 30)
  go_enter Try.func12, Try.ntmps12
  go_wp2_with (first | (refine wpList_alloc_ints rfl 30 rfl Try.zW ?_; (try simp only [Act.put, List.setIfInBounds_toArray, List.set_cons_zero, List.set_cons_succ, World.size_alloc, setRow_size, Nat.add_assoc, Nat.reduceAdd])) | (refine wpList_store_ints (k := .u64) (xs := W12 0) rfl 30 _ _ rfl w.heap.size rfl rfl B0 (zeros_size _ _) Try.arW rfl ?_; (try simp only [Act.put, List.setIfInBounds_toArray, List.set_cons_zero, List.set_cons_succ, World.size_alloc, setRow_size, Nat.add_assoc, Nat.reduceAdd])))
  exact ret_ints rfl rfl (B0.row _) Try.arW rfl ⟨rfl, bSetRow hbel (Nat.le_refl _) _⟩
end Go.Proofs.Ytolfngmpoafaaaa
