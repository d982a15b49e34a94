/- The walk of poly's functions. No condition but that bytes are below 256. -/
import Derived.Test.YtolfngmpoafaaaaP8
import Derived.Test.YtolfngmpoafaaaaKit11
namespace Go.Proofs.Ytolfngmpoafaaaa
set_option linter.unusedSimpArgs false
set_option linter.unusedVariables false
set_option linter.unusedSectionVars false
set_option linter.unusedVariables false
open Go.RowKit
/-- A key clamped so far. -/
def clK (k1 k2 : Nat) (key : List Nat) : List Nat := (List.range 16).map fun j => if j % 4 = 3 ∧ j < k1 then key.getD j 0 % 16 else if (j = 4 ∨ j = 8 ∨ j = 12) ∧ j < k2 then key.getD j 0 / 4 * 4 else key.getD j 0
theorem clK_len (k1 k2 : Nat) (key : List Nat) : (clK k1 k2 key).length = 16 := by simp [clK]
theorem clK_set1 (key : List Nat) : ∀ m, m < 4 → (clK (4 * m) 0 key).set (4 * m + 3) (key.getD (4 * m + 3) 0 % 16) = clK (4 * (m + 1)) 0 key
  | 0, _ => rfl
  | 1, _ => rfl
  | 2, _ => rfl
  | 3, _ => rfl
  | m + 4, h => by omega
theorem clK_set2 (key : List Nat) : ∀ m, m < 3 → (clK 16 (4 * m + 4) key).set (4 * m + 4) (key.getD (4 * m + 4) 0 / 4 * 4) = clK 16 (4 * (m + 1) + 4) key
  | 0, _ => rfl
  | 1, _ => rfl
  | 2, _ => rfl
  | m + 3, h => by omega
theorem clK_get1 (key : List Nat) : ∀ m, m < 4 → (clK (4 * m) 0 key).getD (4 * m + 3) 0 = key.getD (4 * m + 3) 0
  | 0, _ => rfl
  | 1, _ => rfl
  | 2, _ => rfl
  | 3, _ => rfl
  | m + 4, h => by omega
theorem clK_get2 (key : List Nat) : ∀ m, m < 3 → (clK 16 (4 * m + 4) key).getD (4 * m + 4) 0 = key.getD (4 * m + 4) 0
  | 0, _ => rfl
  | 1, _ => rfl
  | 2, _ => rfl
  | m + 3, h => by omega
theorem clK_all (key : List Nat) : clK 16 16 key = clampL key := rfl
theorem clK_mid (key : List Nat) : clK 16 0 key = clK 16 4 key := rfl
theorem clK_zero {key : List Nat} (h : key.length = 16) : clK 0 0 key = key := by
  match key, h with
  | [a, b, c, d, e, f, g, i, j, k, l, m, n, o, p, q], _ => rfl
theorem and15 {x : Nat} (h : x < 256) : x &&& 15 = x % 16 := Nat.and_two_pow_sub_one_eq_mod x 4
theorem and252 : ∀ x, x < 256 → x &&& 252 = x / 4 * 4 := by decide +kernel
theorem u8and15 {x : Nat} (h : x < 256) : bits BinOp.and IntKind.u8 (x : Int) 15 = ((x % 16 : Nat) : Int) := by rw [← and15 h]; exact u8_and_nat x 15 h (by omega)
theorem u8and252 {x : Nat} (h : x < 256) : bits BinOp.and IntKind.u8 (x : Int) 252 = ((x / 4 * 4 : Nat) : Int) := by rw [← and252 x h]; exact u8_and_nat x 252 h (by omega)
set_option maxRecDepth 100000 in
set_option maxHeartbeats 4000000 in
theorem clamp_c (key : List Nat) (hl : key.length = 16) (hb : ∀ x ∈ key, x < 256) (w : World) :
    Calls Try.prog 49 #[.agg (ints .u8 key)] w fun e w' => e = .returned (.agg (ints .u8 (clampL key))) ∧ Below w.heap.size w w' := by
  have B0 := (Blk.new w 35 (ints .u8 key)).alloc (.cells (ints .u8 (zeros 16)) 35)
  have B1 := Blk.new (w.alloc (.cells (ints .u8 key) 35)) 35 (ints .u8 (zeros 16))
  rw [World.size_alloc] at B1
  have hbel := ((Below.refl w.heap.size w).alloc (Nat.le_refl _) (.cells (ints .u8 key) 35)).alloc (by simp) (.cells (ints .u8 (zeros 16)) 35)
  go_enter Try.func49, Try.ntmps49
  go_wp2_with (refine wpList_alloc_ints rfl 35 rfl Try.z35 ?_; (try simp only [Act.put, List.setIfInBounds_toArray, List.set_cons_zero, List.set_cons_succ, World.size_alloc, setRow_size, Nat.add_assoc, Nat.reduceAdd]))
  generalize ((w.alloc (.cells (ints .u8 key) 35)).alloc (.cells (ints .u8 (zeros 16)) 35)) = w1 at *
  go_loopw [3] (fun t wr => ∃ m : Nat, m ≤ 4 ∧ t = .int .i64 ((4 * m + 3 : Nat) : Int) ∧ Blk wr w.heap.size 35 (ints .u8 (clK (4 * m) 0 key)) ∧ Blk wr (w.heap.size + 1) 35 (ints .u8 (zeros 16)) ∧ Below w.heap.size w wr) (fun t wr => 20 - (intOf t).toNat)
  case atStart => exact ⟨0, by omega, rfl, by rw [Nat.mul_zero, clK_zero hl]; exact B0, B1, hbel⟩
  case round =>
    obtain ⟨m, hm, rfl, C0, C1, hbelr⟩ := hrel
    clear B0 B1 hbel
    by_cases hlt : m < 4
    · have hkl := clK_len (4 * m) 0 key
      have c0 := C0.int (i := 4 * m + 3) (by omega)
      have z0 := C0.frozen (4 * m + 3)
      rw [clK_get1 key m hlt] at c0
      have vx := getD_bound hb (by omega) (4 * m + 3)
      have C0' := C0.intSet (4 * m + 3) (key.getD (4 * m + 3) 0 % 16)
      rw [clK_set1 key m hlt] at C0'
      have HC := Lib.hid C0'
      have hand := u8and15 vx
      have HX := Lib.hid hand
      clear C0' hkl hand
      generalize key.getD (4 * m + 3) 0 = x at *
      have hd : decide (((4 * m + 3 : Nat) : Int) < 16) = true := by simp; omega
      obtain ⟨i, hi⟩ : ∃ i, i = 4 * m + 3 := ⟨_, rfl⟩
      rw [← hi] at c0 z0 HC hd ⊢
      have hi16 : i < 16 := by omega
      have HI := Lib.hid hi
      clear hi
      go_wp2
      rw [show (x : Int) % 16 = ((x % 16 : Nat) : Int) by omega]
      exact ⟨⟨m + 1, by omega, congrArg (Value.int .i64) (by have := HI.out; omega), HC.out, C1.far (by first | omega | (simp; done) | (simp; omega)) _, hbelr.setCell (by first | omega | (simp; done) | (simp; omega)) _⟩, by simp [intOf]; omega⟩
    · obtain rfl : m = 4 := by omega
      clear hlt
      have C0' : Blk wr w.heap.size 35 (ints .u8 (clK 16 (4 * 0 + 4) key)) := C0
      go_wp2
      go_loopw [4] (fun t wr => ∃ m : Nat, m ≤ 3 ∧ t = .int .i64 ((4 * m + 4 : Nat) : Int) ∧ Blk wr w.heap.size 35 (ints .u8 (clK 16 (4 * m + 4) key)) ∧ Blk wr (w.heap.size + 1) 35 (ints .u8 (zeros 16)) ∧ Below w.heap.size w wr) (fun t wr => 20 - (intOf t).toNat)
      case atStart => exact ⟨0, by omega, rfl, C0', C1, hbelr⟩
      case round =>
        obtain ⟨m, hm, rfl, D0, D1, hbel2⟩ := hrel
        clear C0 C0' C1 hbelr
        by_cases hlt : m < 3
        · have hkl := clK_len 16 (4 * m + 4) key
          have c0 := D0.int (i := 4 * m + 4) (by omega)
          have z0 := D0.frozen (4 * m + 4)
          rw [clK_get2 key m hlt] at c0
          have vx := getD_bound hb (by omega) (4 * m + 4)
          have C0' := D0.intSet (4 * m + 4) (key.getD (4 * m + 4) 0 / 4 * 4)
          rw [clK_set2 key m hlt] at C0'
          have HC := Lib.hid C0'
          have hand := u8and252 vx
          clear C0' hkl
          generalize key.getD (4 * m + 4) 0 = x at *
          have hd : decide (((4 * m + 4 : Nat) : Int) < 16) = true := by simp; omega
          obtain ⟨i, hi⟩ : ∃ i, i = 4 * m + 4 := ⟨_, rfl⟩
          rw [← hi] at c0 z0 HC hd ⊢
          have hi16 : i < 16 := by omega
          have HI := Lib.hid hi
          have HX := Lib.hid hand
          clear hi hand
          go_wp2
          rw [HX.out]
          exact ⟨⟨m + 1, by omega, congrArg (Value.int .i64) (by have := HI.out; omega), HC.out, D1.far (by first | omega | (simp; done) | (simp; omega)) _, hbel2.setCell (by first | omega | (simp; done) | (simp; omega)) _⟩, by simp [intOf]; omega⟩
        · obtain rfl : m = 3 := by omega
          clear hlt
          have D0' : Blk wr w.heap.size 35 (ints .u8 (clampL key)) := D0
          have hcl := clampL_len key
          clear D0
          go_wp2_with (first | (refine wpList_load_ints rfl 35 _ rfl w.heap.size rfl D0' Try.ar35 hcl ?_; (try simp only [Act.put, List.setIfInBounds_toArray, List.set_cons_zero, List.set_cons_succ, World.size_alloc, setRow_size, Nat.add_assoc, Nat.reduceAdd])) | (refine wpList_store_ints rfl 35 _ _ rfl (w.heap.size + 1) rfl rfl D1 (zeros_size _ _) Try.ar35 hcl ?_; (try simp only [Act.put, List.setIfInBounds_toArray, List.set_cons_zero, List.set_cons_succ, World.size_alloc, setRow_size, Nat.add_assoc, Nat.reduceAdd])))
          exact ret_ints rfl rfl (D1.row _) Try.ar35 hcl ⟨rfl, bSetRow hbel2 (by omega) _⟩
end Go.Proofs.Ytolfngmpoafaaaa
