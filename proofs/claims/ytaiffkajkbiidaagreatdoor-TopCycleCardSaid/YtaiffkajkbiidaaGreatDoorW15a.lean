/- Sums of blocks (ezkey.plus, eztiny.plus). No condition but that bytes are below 256. -/
import Derived.Test.YtaiffkajkbiidaaGreatDoorW3c
import Derived.Test.YtaiffkajkbiidaaGreatDoorWA
namespace Go.Proofs.YtaiffkajkbiidaaGreatDoor
set_option linter.unusedSimpArgs false
set_option linter.unusedVariables false
set_option linter.unusedSectionVars false
set_option linter.unusedVariables false
open Go.RowKit
/-- A block with so many blocks by exclusive or. -/
def xorsN (b : List Nat) (ks : List (List Nat)) : List Nat := ks.foldl xorL b
theorem xorsN_len : ∀ (ks : List (List Nat)) (b : List Nat), b.length = 16 → (xorsN b ks).length = 16
  | [], b, h => h
  | k :: ks, b, h => xorsN_len ks _ (xorL_len b k)
theorem xorsN_lt : ∀ (ks : List (List Nat)) (b : List Nat), (∀ x ∈ b, x < 256) → (∀ k ∈ ks, ∀ x ∈ k, x < 256) → ∀ x ∈ xorsN b ks, x < 256
  | [], b, h, _ => h
  | k :: ks, b, h, hk => xorsN_lt ks _ (xorL_lt h (hk k List.mem_cons_self)) fun k' h' => hk k' (List.mem_cons_of_mem _ h')
theorem xorK_zero (x k : List Nat) : xorK x k 0 = x := by simp [xorK]
theorem xorK_full {x k : List Nat} (hx : x.length = 16) : xorK x k 16 = xorL x k := by
  unfold xorK
  rw [List.take_of_length_le (by rw [xorL_len]; omega), List.drop_of_length_le (by omega), List.append_nil]
set_option maxRecDepth 100000 in
set_option maxHeartbeats 8000000 in
theorem ezplus_c (gk c : Nat) (b : List Nat) (ks : List (List Nat)) (hb : b.length = 16) (hbb : ∀ x ∈ b, x < 256) (hk : ∀ k ∈ ks, k.length = 16) (hkb : ∀ k ∈ ks, ∀ x ∈ k, x < 256) (hn : ks.length < 2 ^ 31) (w : World) (hK : Sl w (some ⟨gk, 0, none⟩) .u8 ks.flatten) :
    Calls Tryz.prog 191 #[.agg (ints .u8 b), .slice (some ⟨gk, 0, none⟩) ks.length c] w fun e w' => e = .returned (.agg (ints .u8 (xorsN b ks))) ∧ Below w.heap.size w w' := by
  obtain ⟨m, HM⟩ : ∃ m, Hid (ks.length = m) := ⟨_, Lib.hid rfl⟩
  rw [HM.out] at hn ⊢
  have A0 := (Blk.new w 96 (ints .u8 b)).alloc (.cells (ints .u8 (zeros 16)) 96)
  have A1 := Blk.new (w.alloc (.cells (ints .u8 b) 96)) 96 (ints .u8 (zeros 16))
  rw [World.size_alloc] at A1
  have hbel0 := ((Below.refl w.heap.size w).alloc (Nat.le_refl _) (.cells (ints .u8 b) 96)).alloc (by simp) (.cells (ints .u8 (zeros 16)) 96)
  go_enter Tryz.func191, Tryz.ntmps191
  go_wp2_with (first | (refine wpList_alloc_ints rfl 96 rfl Tryz.z96 ?_; (try simp only [Act.put, List.setIfInBounds_toArray, List.set_cons_zero, List.set_cons_succ, World.size_alloc, setRow_size, Nat.add_assoc, Nat.reduceAdd])))
  generalize ((w.alloc (.cells (ints .u8 b) 96)).alloc (.cells (ints .u8 (zeros 16)) 96)) = w0 at *
  go_loopw [10] (fun t wr => ∃ i : Nat, i ≤ m ∧ t = .int .i64 (i : Int) ∧ Blk wr w.heap.size 96 (ints .u8 (xorsN b (ks.take i))) ∧ Blk wr (w.heap.size + 1) 96 (ints .u8 (zeros 16)) ∧ Below w.heap.size w wr) (fun t wr => m - (intOf t).toNat)
  case atStart => exact ⟨0, by omega, rfl, A0, A1, hbel0⟩
  case round =>
    clear A0 A1 hbel0
    obtain ⟨i, hi, rfl, A0, A1, hbel⟩ := hrel
    have hln := xorsN_len (ks.take i) b hb
    have hlb := xorsN_lt (ks.take i) b hbb fun k h => hkb k (List.mem_of_mem_take h)
    by_cases hlt : i < m
    · have hd : decide ((i : Int) < (m : Int)) = true := by simp; omega
      have hik : i < ks.length := by rw [HM.out]; exact hlt
      have hS := slFlat (hK.below hbel) hk hik
      have hk16 : (ks.getD i []).length = 16 := getD_prop (p := fun k => k.length = 16) hk hik
      have hkb16 : ∀ x ∈ ks.getD i [], x < 256 := getD_prop (p := fun k => ∀ x ∈ k, x < 256) hkb hik
      have HF : Hid (xorsN b (ks.take (i + 1)) = xorL (xorsN b (ks.take i)) (ks.getD i [])) := Lib.hid (foldl_take _ _ _ _ hik)
      have hii : (i : Int) < (m : Int) := by omega
      generalize ks.getD i [] = k at *
      generalize xorsN b (ks.take i) = x at *
      have hkne : k ≠ [] := fun e => by rw [e] at hk16; simp at hk16
      have K0 := A0.alloc (.cells (ints .u8 (zeros 16)) 96)
      have K1 := A1.alloc (.cells (ints .u8 (zeros 16)) 96)
      have K2 := Blk.new wr 96 (ints .u8 (zeros 16))
      have hl1 := A1.lt
      have M0 := K0.rowFar (show w.heap.size ≠ wr.heap.size by omega) (ints .u8 k)
      have M1 := K1.rowFar (show w.heap.size + 1 ≠ wr.heap.size by omega) (ints .u8 k)
      have M2 := K2.row (ints .u8 k)
      have hbel2 := bSetRow (hbel.alloc hbel.size (.cells (ints .u8 (zeros 16)) 96)) hbel.size (ints .u8 k)
      clear A0 A1 hbel K0 K1
      go_wp2_with (first
        | (refine wpList_valG rfl (run_loadSl rfl rfl hS Tryz.ar96 hk16 hkne) ?_; (try simp only [Act.put, List.setIfInBounds_toArray, List.set_cons_zero, List.set_cons_succ, World.size_alloc, setRow_size, Nat.add_assoc, Nat.reduceAdd]))
        | (refine wpList_alloc_ints rfl 96 rfl Tryz.z96 ?_; (try simp only [Act.put, List.setIfInBounds_toArray, List.set_cons_zero, List.set_cons_succ, World.size_alloc, setRow_size, Nat.add_assoc, Nat.reduceAdd]))
        | (refine wpList_store_ints rfl 96 _ _ rfl wr.heap.size rfl rfl K2 (zeros_size _ _) Tryz.ar96 hk16 ?_; (try simp only [Act.put, List.setIfInBounds_toArray, List.set_cons_zero, List.set_cons_succ, World.size_alloc, setRow_size, Nat.add_assoc, Nat.reduceAdd])))
      generalize ((wr.alloc (.cells (ints .u8 (zeros 16)) 96)).setRow wr.heap.size (ints .u8 k)) = w2 at *
      have hnb : w.heap.size + 1 < wr.heap.size := hl1
      clear K2 hS
      generalize wr.heap.size = nb at *
      go_loopw [14] (fun t wr' => ∃ q : Nat, q ≤ 16 ∧ t = .int .i64 (q : Int) ∧ Blk wr' w.heap.size 96 (ints .u8 (xorK x k q)) ∧ Blk wr' (w.heap.size + 1) 96 (ints .u8 (zeros 16)) ∧ Blk wr' nb 96 (ints .u8 k) ∧ Below w.heap.size w wr') (fun t wr' => 16 - (intOf t).toNat)
      case atStart => exact ⟨0, by omega, rfl, by rw [xorK_zero]; exact M0, M1, M2, hbel2⟩
      case round =>
        clear M0 M1 M2 hbel2
        obtain ⟨q, hq, rfl, M0, M1, M2, hbel2⟩ := hrel
        by_cases hlq : q < 16
        · have hd2 : decide ((q : Int) < 16) = true := by simp; omega
          have hxl := xorK_len (ys := k) hln hq
          have c0 := M0.int (i := q) (by omega)
          rw [xorK_get hln hlq] at c0
          have c1 := M2.int (i := q) (by omega)
          have z0 := M0.frozen q
          have hqi : (q : Int) < 16 := by omega
          have M0' := M0.intSet q (x.getD q 0 ^^^ k.getD q 0)
          rw [xorK_set hln hlq] at M0'
          have HX := Lib.hid (u8xor (getD_bound hlb (by decide) q) (getD_bound hkb16 (by decide) q))
          have P0 := Lib.hid M0'.drew
          have P1 := (M1.far (p := ⟨w.heap.size, q, none⟩) (show w.heap.size + 1 ≠ w.heap.size by omega) (.int .u8 ((x.getD q 0 ^^^ k.getD q 0 : Nat) : Int))).drew
          have P2 := (M2.far (p := ⟨w.heap.size, q, none⟩) (show nb ≠ w.heap.size by omega) (.int .u8 ((x.getD q 0 ^^^ k.getD q 0 : Nat) : Int))).drew
          have hbel3 := (hbel2.setCell (p := ⟨w.heap.size, q, none⟩) (Nat.le_refl _) (.int .u8 ((x.getD q 0 ^^^ k.getD q 0 : Nat) : Int))).drew
          have R0 := Lib.hid P1
          have R1 := Lib.hid P2
          have R2 := Lib.hid hbel3
          clear M0 M1 M2 M0' P1 P2 hbel2 hbel3 hxl
          generalize x.getD q 0 = xv at *
          generalize k.getD q 0 = kv at *
          go_wp2_with fail
          go_region
          rw [HX.out]
          go_wp2_with fail
          exact ⟨⟨q + 1, by omega, by go_num, P0.out, R0.out, R1.out, R2.out⟩, by simp [intOf] <;> omega⟩
        · obtain rfl : q = 16 := by omega
          have hd2 : decide (((16 : Nat) : Int) < 16) = false := by simp
          rw [xorK_full hln] at M0
          go_wp2_with fail
          exact ⟨⟨i + 1, by omega, by go_num, by rw [HF.out]; exact M0, M1, hbel2⟩, by simp [intOf] <;> omega⟩
    · obtain rfl : i = m := by omega
      have hd : decide ((i : Int) < (i : Int)) = false := by simp
      have he : ks.take i = ks := List.take_of_length_le (by rw [HM.out]; omega)
      rw [he] at A0 hln
      clear he
      go_wp2_with (first | (refine wpList_load_ints rfl 96 _ rfl _ rfl A0 Tryz.ar96 hln ?_; (try simp only [Act.put, List.setIfInBounds_toArray, List.set_cons_zero, List.set_cons_succ, World.size_alloc, setRow_size, Nat.add_assoc, Nat.reduceAdd])) | (refine wpList_store_ints rfl 96 _ _ rfl _ rfl rfl A1 (zeros_size _ _) Tryz.ar96 hln ?_; (try simp only [Act.put, List.setIfInBounds_toArray, List.set_cons_zero, List.set_cons_succ, World.size_alloc, setRow_size, Nat.add_assoc, Nat.reduceAdd])))
      refine ret_ints rfl rfl (A1.row _) Tryz.ar96 hln ⟨rfl, ?_⟩
      exact bSetRow hbel (by omega) _
set_option maxRecDepth 100000 in
set_option maxHeartbeats 8000000 in
theorem tinyplus_c (gk c : Nat) (ks : List (List Nat)) (hk : ∀ k ∈ ks, k.length = 16) (hkb : ∀ k ∈ ks, ∀ x ∈ k, x < 256) (hn : ks.length < 2 ^ 31) (w : World) (hK : Sl w (some ⟨gk, 0, none⟩) .u8 ks.flatten) :
    Calls Tryz.prog 186 #[.slice (some ⟨gk, 0, none⟩) ks.length c] w fun e w' => e = .returned (.agg (ints .u8 (xorsN (zeros 16) ks))) ∧ Below w.heap.size w w' := by
  obtain ⟨m, HM⟩ : ∃ m, Hid (ks.length = m) := ⟨_, Lib.hid rfl⟩
  rw [HM.out] at hn ⊢
  have hb : (zeros 16).length = 16 := zeros_len _
  have hbb : ∀ x ∈ zeros 16, x < 256 := fun x hx => by unfold zeros at hx; rw [List.mem_replicate] at hx; omega
  have A1 := (Blk.new w 96 (ints .u8 (zeros 16))).alloc (.cells (ints .u8 (zeros 16)) 96)
  have A0 := Blk.new (w.alloc (.cells (ints .u8 (zeros 16)) 96)) 96 (ints .u8 (zeros 16))
  rw [World.size_alloc] at A0
  have hbel0 := ((Below.refl w.heap.size w).alloc (Nat.le_refl _) (.cells (ints .u8 (zeros 16)) 96)).alloc (by simp) (.cells (ints .u8 (zeros 16)) 96)
  go_enter Tryz.func186, Tryz.ntmps186
  go_wp2_with (first | (refine wpList_alloc_ints rfl 96 rfl Tryz.z96 ?_; (try simp only [Act.put, List.setIfInBounds_toArray, List.set_cons_zero, List.set_cons_succ, World.size_alloc, setRow_size, Nat.add_assoc, Nat.reduceAdd])))
  generalize ((w.alloc (.cells (ints .u8 (zeros 16)) 96)).alloc (.cells (ints .u8 (zeros 16)) 96)) = w0 at *
  go_loopw [9] (fun t wr => ∃ i : Nat, i ≤ m ∧ t = .int .i64 (i : Int) ∧ Blk wr (w.heap.size + 1) 96 (ints .u8 (xorsN (zeros 16) (ks.take i))) ∧ Blk wr w.heap.size 96 (ints .u8 (zeros 16)) ∧ Below w.heap.size w wr) (fun t wr => m - (intOf t).toNat)
  case atStart => exact ⟨0, by omega, rfl, A0, A1, hbel0⟩
  case round =>
    clear A0 A1 hbel0
    obtain ⟨i, hi, rfl, A0, A1, hbel⟩ := hrel
    have hln := xorsN_len (ks.take i) (zeros 16) hb
    have hlb := xorsN_lt (ks.take i) (zeros 16) hbb fun k h => hkb k (List.mem_of_mem_take h)
    by_cases hlt : i < m
    · have hd : decide ((i : Int) < (m : Int)) = true := by simp; omega
      have hik : i < ks.length := by rw [HM.out]; exact hlt
      have hS := slFlat (hK.below hbel) hk hik
      have hk16 : (ks.getD i []).length = 16 := getD_prop (p := fun k => k.length = 16) hk hik
      have hkb16 : ∀ x ∈ ks.getD i [], x < 256 := getD_prop (p := fun k => ∀ x ∈ k, x < 256) hkb hik
      have HF : Hid (xorsN (zeros 16) (ks.take (i + 1)) = xorL (xorsN (zeros 16) (ks.take i)) (ks.getD i [])) := Lib.hid (foldl_take _ _ _ _ hik)
      have hii : (i : Int) < (m : Int) := by omega
      generalize ks.getD i [] = k at *
      generalize xorsN (zeros 16) (ks.take i) = x at *
      have hkne : k ≠ [] := fun e => by rw [e] at hk16; simp at hk16
      have K0 := A0.alloc (.cells (ints .u8 (zeros 16)) 96)
      have K1 := A1.alloc (.cells (ints .u8 (zeros 16)) 96)
      have K2 := Blk.new wr 96 (ints .u8 (zeros 16))
      have hl1 := A0.lt
      have M0 := K0.rowFar (show w.heap.size + 1 ≠ wr.heap.size by omega) (ints .u8 k)
      have M1 := K1.rowFar (show w.heap.size ≠ wr.heap.size by omega) (ints .u8 k)
      have M2 := K2.row (ints .u8 k)
      have hbel2 := bSetRow (hbel.alloc hbel.size (.cells (ints .u8 (zeros 16)) 96)) hbel.size (ints .u8 k)
      clear A0 A1 hbel K0 K1
      go_wp2_with (first
        | (refine wpList_valG rfl (run_loadSl rfl rfl hS Tryz.ar96 hk16 hkne) ?_; (try simp only [Act.put, List.setIfInBounds_toArray, List.set_cons_zero, List.set_cons_succ, World.size_alloc, setRow_size, Nat.add_assoc, Nat.reduceAdd]))
        | (refine wpList_alloc_ints rfl 96 rfl Tryz.z96 ?_; (try simp only [Act.put, List.setIfInBounds_toArray, List.set_cons_zero, List.set_cons_succ, World.size_alloc, setRow_size, Nat.add_assoc, Nat.reduceAdd]))
        | (refine wpList_store_ints rfl 96 _ _ rfl wr.heap.size rfl rfl K2 (zeros_size _ _) Tryz.ar96 hk16 ?_; (try simp only [Act.put, List.setIfInBounds_toArray, List.set_cons_zero, List.set_cons_succ, World.size_alloc, setRow_size, Nat.add_assoc, Nat.reduceAdd])))
      generalize ((wr.alloc (.cells (ints .u8 (zeros 16)) 96)).setRow wr.heap.size (ints .u8 k)) = w2 at *
      have hnb : w.heap.size + 1 < wr.heap.size := hl1
      clear K2 hS
      generalize wr.heap.size = nb at *
      go_loopw [13] (fun t wr' => ∃ q : Nat, q ≤ 16 ∧ t = .int .i64 (q : Int) ∧ Blk wr' (w.heap.size + 1) 96 (ints .u8 (xorK x k q)) ∧ Blk wr' w.heap.size 96 (ints .u8 (zeros 16)) ∧ Blk wr' nb 96 (ints .u8 k) ∧ Below w.heap.size w wr') (fun t wr' => 16 - (intOf t).toNat)
      case atStart => exact ⟨0, by omega, rfl, by rw [xorK_zero]; exact M0, M1, M2, hbel2⟩
      case round =>
        clear M0 M1 M2 hbel2
        obtain ⟨q, hq, rfl, M0, M1, M2, hbel2⟩ := hrel
        by_cases hlq : q < 16
        · have hd2 : decide ((q : Int) < 16) = true := by simp; omega
          have hxl := xorK_len (ys := k) hln hq
          have c0 := M0.int (i := q) (by omega)
          rw [xorK_get hln hlq] at c0
          have c1 := M2.int (i := q) (by omega)
          have z0 := M0.frozen q
          have hqi : (q : Int) < 16 := by omega
          have M0' := M0.intSet q (x.getD q 0 ^^^ k.getD q 0)
          rw [xorK_set hln hlq] at M0'
          have HX := Lib.hid (u8xor (getD_bound hlb (by decide) q) (getD_bound hkb16 (by decide) q))
          have P0 := Lib.hid M0'.drew
          have P1 := (M1.far (p := ⟨w.heap.size + 1, q, none⟩) (show w.heap.size ≠ w.heap.size + 1 by omega) (.int .u8 ((x.getD q 0 ^^^ k.getD q 0 : Nat) : Int))).drew
          have P2 := (M2.far (p := ⟨w.heap.size + 1, q, none⟩) (show nb ≠ w.heap.size + 1 by omega) (.int .u8 ((x.getD q 0 ^^^ k.getD q 0 : Nat) : Int))).drew
          have hbel3 := (hbel2.setCell (p := ⟨w.heap.size + 1, q, none⟩) (by show w.heap.size ≤ w.heap.size + 1; omega) (.int .u8 ((x.getD q 0 ^^^ k.getD q 0 : Nat) : Int))).drew
          have R0 := Lib.hid P1
          have R1 := Lib.hid P2
          have R2 := Lib.hid hbel3
          clear M0 M1 M2 M0' P1 P2 hbel2 hbel3 hxl
          generalize x.getD q 0 = xv at *
          generalize k.getD q 0 = kv at *
          go_wp2_with fail
          go_region
          rw [HX.out]
          go_wp2_with fail
          exact ⟨⟨q + 1, by omega, by go_num, P0.out, R0.out, R1.out, R2.out⟩, by simp [intOf] <;> omega⟩
        · obtain rfl : q = 16 := by omega
          have hd2 : decide (((16 : Nat) : Int) < 16) = false := by simp
          rw [xorK_full hln] at M0
          go_wp2_with fail
          exact ⟨⟨i + 1, by omega, by go_num, by rw [HF.out]; exact M0, M1, hbel2⟩, by simp [intOf] <;> omega⟩
    · obtain rfl : i = m := by omega
      have hd : decide ((i : Int) < (i : Int)) = false := by simp
      have he : ks.take i = ks := List.take_of_length_le (by rw [HM.out]; omega)
      rw [he] at A0 hln
      clear he
      go_wp2_with (first | (refine wpList_load_ints rfl 96 _ rfl _ rfl A0 Tryz.ar96 hln ?_; (try simp only [Act.put, List.setIfInBounds_toArray, List.set_cons_zero, List.set_cons_succ, World.size_alloc, setRow_size, Nat.add_assoc, Nat.reduceAdd])) | (refine wpList_store_ints rfl 96 _ _ rfl _ rfl rfl A1 (zeros_size _ _) Tryz.ar96 hln ?_; (try simp only [Act.put, List.setIfInBounds_toArray, List.set_cons_zero, List.set_cons_succ, World.size_alloc, setRow_size, Nat.add_assoc, Nat.reduceAdd])))
      refine ret_ints rfl rfl (A1.row _) Tryz.ar96 hln ⟨rfl, ?_⟩
      exact bSetRow hbel (Nat.le_refl _) _
end Go.Proofs.YtaiffkajkbiidaaGreatDoor
