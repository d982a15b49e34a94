/- What the reference of layer 7 answers: its prime, comparing and subtracting numbers in bytes. No condition but that bytes are below 256. -/
import Derived.Test.YtolfngmpoafaaaaOA
import Derived.Test.YtolfngmpoafaaaaR7
import Derived.BigQuiet
namespace Go.Proofs.Ytolfngmpoafaaaa
set_option linter.unusedSimpArgs false
set_option linter.unusedVariables false
set_option linter.unusedSectionVars false
set_option linter.unusedVariables false
open Go.RowKit

theorem setrep (n k v : Nat) (xs : List Nat) (hl : xs.length = n) (hk : k < n) (f : Nat → List Nat) (h : f k = xs) (hs : f (k + 1) = xs.set k v) : f (k + 1) = (f k).set k v := by rw [h, hs]
/-- The bytes of the prime behind k places. -/
def primeN : Nat → List Nat
  | 0 => (zeros 17).set 0 251
  | k + 1 => (primeN k).set (k + 1) 255
theorem primeN_len (k : Nat) : (primeN k).length = 17 := by
  induction k with
  | zero => simp [primeN, zeros]
  | succ k ih => simp [primeN, ih]
theorem primeN_end : (primeN 15).set 16 3 = restOf pp := by decide
set_option maxHeartbeats 400000 in
theorem prime_c (w : World) :
    Calls Try.prog 74 #[] w fun e w' => e = .returned (.agg (ints .u8 (restOf pp))) ∧ Below w.heap.size w w' := by
  go_enter Try.func74, Try.ntmps74
  have B0 := (Blk.new w 91 (ints .u8 (zeros 17))).alloc (.cells (ints .u8 (zeros 17)) 91)
  have B1 := Blk.new (w.alloc (.cells (ints .u8 (zeros 17)) 91)) 91 (ints .u8 (zeros 17))
  have hbel := ((Below.refl w.heap.size w).alloc (Nat.le_refl _) (.cells (ints .u8 (zeros 17)) 91)).alloc (by simp) (.cells (ints .u8 (zeros 17)) 91)
  rw [World.size_alloc] at B1
  have hc := B1.int (i := 0) (by simp [zeros])
  have hz := B1.frozen 0
  go_wp2_with (first | (refine wpList_alloc_ints rfl 91 rfl Try.z91 ?_; (try simp only [Act.put, List.setIfInBounds_toArray, List.set_cons_zero, List.set_cons_succ, World.size_alloc, setRow_size, Nat.add_assoc, Nat.reduceAdd])))
  go_loopw [2] (fun t wr => ∃ k : Nat, k ≤ 15 ∧ t = .int .i64 ((k : Int) + 1) ∧ Blk wr w.heap.size 91 (ints .u8 (zeros 17)) ∧ Blk wr (w.heap.size + 1) 91 (ints .u8 (primeN k)) ∧ Below w.heap.size w wr) (fun t wr => 17 - (intOf t).toNat)
  case atStart =>
    have e : (ints .u8 (zeros 17)).setIfInBounds 0 (.int .u8 251) = ints .u8 (primeN 0) := ints_set _ _ 0 251
    rw [e]
    exact ⟨0, by omega, rfl, (Blk.new _ _ _).alloc _, Blk.new' (by simp), ((Below.refl _ _).alloc (Nat.le_refl _) _).alloc (by simp) _⟩
  case round =>
    rename_i hrel
    obtain ⟨k, hk, rfl, C0, C1, hbelr⟩ := hrel
    have hpl := primeN_len k
    by_cases hlt : k < 15
    · have c1 := C1.int (i := k + 1) (by omega)
      have z1 := C1.frozen (k + 1)
      have C1' := C1.intSet (k + 1) 255
      clear hpl
      go_wp2
      go_roundw
      case rel => exact ⟨k + 1, by omega, by go_num, C0.far (by simp) _, C1', hbelr.setCell (by simp) _⟩
      case measure => simp [intOf]; omega
    · obtain rfl : k = 15 := by omega
      have c1 := C1.int (i := 16) (by omega)
      have z1 := C1.frozen 16
      have C1' := C1.intSet 16 3
      rw [primeN_end] at C1'
      have C0' := C0.far (p := ⟨w.heap.size + 1, 16, none⟩) (by simp) (.int .u8 3)
      clear hpl
      go_wp2_with (first | (refine wpList_load_ints rfl 91 _ rfl (w.heap.size + 1) rfl C1' Try.ar91 (restOf_len _) ?_; (try simp only [Act.put, List.setIfInBounds_toArray, List.set_cons_zero, List.set_cons_succ, World.size_alloc, setRow_size, Nat.add_assoc, Nat.reduceAdd])) | (refine wpList_store_ints rfl 91 _ _ rfl _ rfl rfl C0' (zeros_size _ _) Try.ar91 (restOf_len _) ?_; (try simp only [Act.put, List.setIfInBounds_toArray, List.set_cons_zero, List.set_cons_succ, World.size_alloc, setRow_size, Nat.add_assoc, Nat.reduceAdd])))
      refine ret_ints rfl rfl (C0'.row _) Try.ar91 (restOf_len _) ⟨rfl, ?_⟩
      exact bSetRow (hbelr.setCell (by simp) _) (by simp) _

set_option maxHeartbeats 800000 in
theorem less_c (xs ys : List Nat) (hl : xs.length = 17) (hb : ∀ x ∈ xs, x < 256) (hl' : ys.length = 17) (hb' : ∀ x ∈ ys, x < 256) (w : World) :
    Calls Try.prog 75 #[.agg (ints .u8 xs), .agg (ints .u8 ys)] w fun e w' => e = .returned (.bool (decide (le xs < le ys))) ∧ Below w.heap.size w w' := by
  go_enter Try.func75, Try.ntmps75
  go_wp2
  go_loopw [5] (fun t wr => ∃ k : Nat, k ≤ 17 ∧ t = .int .i64 ((k : Int) - 1) ∧ Hid (∀ j, k ≤ j → j < xs.length → xs.getD j 0 = ys.getD j 0) ∧ Blk wr w.heap.size 91 (ints .u8 xs) ∧ Blk wr (w.heap.size + 1) 91 (ints .u8 ys) ∧ Below w.heap.size w wr) (fun t wr => (intOf t + 1).toNat)
  case atStart => exact ⟨17, by omega, rfl, fun j h1 h2 => by omega, heap_alloc2_old _ _ _, heap_alloc2_new _ _ _, ((Below.refl _ _).alloc (Nat.le_refl _) _).alloc (by simp) _⟩
  case round =>
    rename_i hrel
    obtain ⟨k, hk, rfl, He, C0, C1, hbelr⟩ := hrel
    rcases k with _ | k
    · have hsame := less_same (hl.trans hl'.symm) He.out
      have e0 : ((0 : Nat) : Int) - 1 = -1 := rfl
      rw [e0]
      go_wp2
      go_ret
      refine ⟨?_, hbelr⟩
      rw [hsame]; rfl
    · have e1 : ((k + 1 : Nat) : Int) - 1 = (k : Int) := by omega
      rw [e1]
      have c0 := C0.int (i := k) (by omega)
      have c1 := C1.int (i := k) (by omega)
      have hat : xs.getD k 0 ≠ ys.getD k 0 → decide (xs.getD k 0 < ys.getD k 0) = decide (le xs < le ys) := less_at (hl.trans hl'.symm) (by omega) hb hb' He.out
      by_cases hne : xs.getD k 0 = ys.getD k 0
      · have He2 : Hid (∀ j, k ≤ j → j < xs.length → xs.getD j 0 = ys.getD j 0) := fun j h1 h2 => by
          rcases Nat.eq_or_lt_of_le h1 with rfl | h
          · exact hne
          · exact He.out j h h2
        rw [hne] at c0
        clear hne hat e1
        generalize ys.getD k 0 = y at *
        go_wp2
        go_quiet (fail)
        go_wp2
        exact ⟨⟨k, by omega, rfl, He2, C0.drewN nq, C1.drewN nq, bDrewN hbelr nq⟩, by simp [intOf] <;> omega⟩
      · have hat' := hat hne
        have hne' : ((xs.getD k 0 : Nat) : Int) ≠ ((ys.getD k 0 : Nat) : Int) := by omega
        have Hat := Lib.hid hat'
        clear hat hat' hne e1
        generalize xs.getD k 0 = x at *
        generalize ys.getD k 0 = y at *
        go_wp2
        go_quiet (fail)
        go_wp2
        go_quiet (fail)
        go_wp2
        go_ret
        refine ⟨?_, bDrewN (bDrewN hbelr _) _⟩
        rw [← Hat.out]
        simp

set_option maxHeartbeats 800000 in
theorem minus_c (xs ys : List Nat) (hl : xs.length = 17) (hb : ∀ x ∈ xs, x < 256) (hl' : ys.length = 17) (hb' : ∀ x ∈ ys, x < 256) (hle : le ys ≤ le xs) (w : World) :
    Calls Try.prog 76 #[.agg (ints .u8 xs), .agg (ints .u8 ys)] w fun e w' => e = .returned (.agg (ints .u8 (restOf (le xs - le ys)))) ∧ Below w.heap.size w w' := by
  go_enter Try.func76, Try.ntmps76
  have hrest := Lib.hid (subN_rest hl hl' hb hb' hle)
  go_wp2_with (first | (refine wpList_alloc_ints rfl 91 rfl Try.z91 ?_; (try simp only [Act.put, List.setIfInBounds_toArray, List.set_cons_zero, List.set_cons_succ, World.size_alloc, setRow_size, Nat.add_assoc, Nat.reduceAdd])))
  go_loopw [5, 6] (fun c t wr => ∃ k : Nat, k ≤ 17 ∧ t = .int .i64 k ∧ c = .int .i64 (subN xs ys k).1 ∧ Blk wr w.heap.size 91 (ints .u8 (subN xs ys k).2) ∧ Blk wr (w.heap.size + 1) 91 (ints .u8 ys) ∧ Blk wr (w.heap.size + 2) 91 (ints .u8 (zeros 17)) ∧ Below w.heap.size w wr) (fun c t wr => 17 - (intOf t).toNat)
  case atStart => exact ⟨0, by omega, rfl, rfl, ((Blk.new _ _ _).alloc _).alloc _, (Blk.new' (by simp)).alloc _, Blk.new' (by simp), (((Below.refl _ _).alloc (Nat.le_refl _) _).alloc (by simp) _).alloc (by simp; omega) _⟩
  case round =>
    rename_i hrel
    obtain ⟨k, hk, rfl, rfl, C0, C1, C2, hbelr⟩ := hrel
    obtain ⟨s1, s2, s3, s4, -⟩ := subN_spec (hl.trans hl'.symm) hb hb' k (by omega)
    by_cases hlt : k < 17
    · have c0 := C0.int (i := k) (by omega)
      rw [s3 k (Nat.le_refl _)] at c0
      have c1 := C1.int (i := k) (by omega)
      have z0 := C0.frozen k
      have vx := getD_bound hb (by omega) k
      have vy := getD_bound hb' (by omega) k
      have C0' := C0.intSet k ((256 + xs.getD k 0 - ys.getD k 0 - (subN xs ys k).1) % 256)
      have HS : Hid (subN xs ys (k + 1) = (1 - (256 + xs.getD k 0 - ys.getD k 0 - (subN xs ys k).1) / 256, (subN xs ys k).2.set k ((256 + xs.getD k 0 - ys.getD k 0 - (subN xs ys k).1) % 256))) := rfl
      generalize xs.getD k 0 = x at *
      generalize ys.getD k 0 = y at *
      generalize (subN xs ys k).1 = b at *
      generalize (subN xs ys k).2 = s at *
      clear s1 s3 s4
      have en : (256 : Int) + x - y - b = ((256 + x - y - b : Nat) : Int) := by omega
      have En := Lib.hid en
      clear en
      go_wp2
      go_quiet (fail)
      rw [En.out]
      have hn : 256 + x - y - b < 512 := by omega
      generalize 256 + x - y - b = n at *
      have eq1 : (1 : Int) - (n : Int) / 256 = ((1 - n / 256 : Nat) : Int) := by omega
      have Eq1 := Lib.hid eq1
      clear eq1 En
      go_wp2
      refine ⟨⟨k + 1, by omega, by go_num, ?_, ?_, (C1.drewN nq).far (by simp) _, (C2.drewN nq).far (by simp) _, (bDrewN hbelr nq).setCell (by simp) _⟩, by simp [intOf] <;> omega⟩
      · rw [HS.out, Eq1.out]
      · rw [HS.out]
        exact C0'
    · obtain rfl : k = 17 := by omega
      rw [hrest.out] at C0
      clear s1 s2 s3 s4
      go_wp2_with (first | (refine wpList_load_ints rfl 91 _ rfl w.heap.size rfl C0 Try.ar91 (restOf_len _) ?_; (try simp only [Act.put, List.setIfInBounds_toArray, List.set_cons_zero, List.set_cons_succ, World.size_alloc, setRow_size, Nat.add_assoc, Nat.reduceAdd])) | (refine wpList_store_ints rfl 91 _ _ rfl _ rfl rfl C2 (zeros_size _ _) Try.ar91 (restOf_len _) ?_; (try simp only [Act.put, List.setIfInBounds_toArray, List.set_cons_zero, List.set_cons_succ, World.size_alloc, setRow_size, Nat.add_assoc, Nat.reduceAdd])))
      refine ret_ints rfl rfl (C2.row _) Try.ar91 (restOf_len _) ⟨rfl, ?_⟩
      exact bSetRow hbelr (by simp) _
end Go.Proofs.Ytolfngmpoafaaaa

