/- So many rounds of AES. No condition but that bytes are below 256. -/
import Derived.Test.YtaiffkajkbiidaaGreatDoorW3b
import Derived.Test.YtaiffkajkbiidaaGreatDoorFlat
namespace Go.Proofs.YtaiffkajkbiidaaGreatDoor
set_option linter.unusedSimpArgs false
set_option linter.unusedVariables false
set_option linter.unusedSectionVars false
set_option linter.unusedVariables false
open Go.RowKit
theorem flat_getD {ks : List (List Nat)} (hl : ∀ k ∈ ks, k.length = 16) {i j : Nat} (hi : i < ks.length) (hj : j < 16) : ks.flatten.getD (16 * i + j) 0 = (ks.getD i []).getD j 0 := by
  rw [← blk_flat hl i hi]
  unfold blk
  rw [List.getD_eq_getElem?_getD, List.getD_eq_getElem?_getD, List.getElem?_take, if_pos hj, List.getElem?_drop]
/-- One block of a row of blocks. -/
theorem slFlat {w : World} {g : Nat} {ks : List (List Nat)} (h : Sl w (some ⟨g, 0, none⟩) .u8 ks.flatten) (hl : ∀ k ∈ ks, k.length = 16) {i : Nat} (hi : i < ks.length) : Sl w (some ⟨g, i * 16, none⟩) .u8 (ks.getD i []) := fun hne => by
  have hfl := flat16 hl
  have h16 : (ks.getD i []).length = 16 := getD_prop (p := fun k => k.length = 16) hl hi
  obtain ⟨g', off, e, hg, hc⟩ := h (fun e => by rw [e] at hfl; simp at hfl; omega)
  cases e
  refine ⟨g, i * 16, rfl, hg, fun j hj => ?_⟩
  have h1 := hc (16 * i + j) (by rw [hfl]; omega)
  rw [Nat.zero_add, flat_getD hl hi (by omega), Nat.mul_comm] at h1
  exact h1
/-- A block through so many rounds. -/
def rdsN (L b : List Nat) (ks : List (List Nat)) : List Nat := ks.foldl (rdN L) b
theorem rdsN_len (L : List Nat) : ∀ (ks : List (List Nat)) (b : List Nat), b.length = 16 → (rdsN L b ks).length = 16
  | [], b, h => h
  | k :: ks, b, h => rdsN_len L ks _ (rdN_len L b k)
theorem rdsN_lt (L : List Nat) : ∀ (ks : List (List Nat)) (b : List Nat), (∀ x ∈ b, x < 256) → ∀ x ∈ rdsN L b ks, x < 256
  | [], b, h => h
  | k :: ks, b, h => rdsN_lt L ks _ (rdN_lt L b k)
theorem foldl_take {α β : Type} (f : α → β → α) (a : α) (d : β) (l : List β) {i : Nat} (hi : i < l.length) : (l.take (i + 1)).foldl f a = f ((l.take i).foldl f a) (l.getD i d) := by
  rw [List.take_add_one, List.getElem?_eq_getElem hi, List.foldl_append, List.getD_eq_getElem?_getD, List.getElem?_eq_getElem hi]; rfl
set_option maxRecDepth 100000 in
set_option maxHeartbeats 8000000 in
theorem rounds_c (g gb gk : Nat) (L b : List Nat) (ks : List (List Nat)) (hL : ∀ x ∈ L, x < 256) (hb : b.length = 16) (hbb : ∀ x ∈ b, x < 256) (hk : ∀ k ∈ ks, k.length = 16) (hkb : ∀ k ∈ ks, ∀ x ∈ k, x < 256) (hn : ks.length < 2 ^ 31) (w : World) (hT : TbI w g gb L 1024) (hK : Sl w (some ⟨gk, 0, none⟩) .u8 ks.flatten) (c : Nat) :
    Calls Tryz.prog 50 #[.pointer (some ⟨g, 0, none⟩), .agg (ints .u8 b), .slice (some ⟨gk, 0, none⟩) ks.length c] w fun e w' => e = .returned (.agg (ints .u8 (rdsN L b ks))) ∧ Below w.heap.size w w' := by
  obtain ⟨m, HM⟩ : ∃ m, Hid (ks.length = m) := ⟨_, Lib.hid rfl⟩
  rw [HM.out] at hn ⊢
  have A0 := (Blk.new w 96 (ints .u8 b)).alloc (.cells (ints .u8 (zeros 16)) 96)
  have A1 := Blk.new (w.alloc (.cells (ints .u8 b) 96)) 96 (ints .u8 (zeros 16))
  rw [World.size_alloc] at A1
  have hbel0 := ((Below.refl w.heap.size w).alloc (Nat.le_refl _) (.cells (ints .u8 b) 96)).alloc (by simp) (.cells (ints .u8 (zeros 16)) 96)
  go_enter Tryz.func50, Tryz.ntmps50
  go_wp2_with (first | (refine wpList_alloc_ints rfl 96 rfl Tryz.z96 ?_; (try simp only [Act.put, List.setIfInBounds_toArray, List.set_cons_zero, List.set_cons_succ, World.size_alloc, setRow_size, Nat.add_assoc, Nat.reduceAdd])))
  generalize ((w.alloc (.cells (ints .u8 b) 96)).alloc (.cells (ints .u8 (zeros 16)) 96)) = w0 at *
  go_loopw [14] (fun t wr => ∃ i : Nat, i ≤ m ∧ t = .int .i64 (i : Int) ∧ Blk wr w.heap.size 96 (ints .u8 (rdsN L b (ks.take i))) ∧ Blk wr (w.heap.size + 1) 96 (ints .u8 (zeros 16)) ∧ Below w.heap.size w wr) (fun t wr => m - (intOf t).toNat)
  case atStart => exact ⟨0, by omega, rfl, A0, A1, hbel0⟩
  case round =>
    clear A0 A1 hbel0
    obtain ⟨i, hi, rfl, A0, A1, hbel⟩ := hrel
    have hln := rdsN_len L (ks.take i) b hb
    have hlb := rdsN_lt L (ks.take i) b hbb
    by_cases hlt : i < m
    · have hd : decide ((i : Int) < (m : Int)) = true := by simp; omega
      have hik : i < ks.length := by rw [HM.out]; exact hlt
      have hS := slFlat (hK.below hbel) hk hik
      have hk16 : (ks.getD i []).length = 16 := getD_prop (p := fun k => k.length = 16) hk hik
      have hkb16 : ∀ x ∈ ks.getD i [], x < 256 := getD_prop (p := fun k => ∀ x ∈ k, x < 256) hkb hik
      have HF : Hid (rdsN L b (ks.take (i + 1)) = rdN L (rdsN L b (ks.take i)) (ks.getD i [])) := Lib.hid (foldl_take _ _ _ _ hik)
      have hii : (i : Int) < (m : Int) := by omega
      generalize ks.getD i [] = k at *
      generalize rdsN L b (ks.take i) = x at *
      have hkne : k ≠ [] := fun e => by rw [e] at hk16; simp at hk16
      have K0 := A0.alloc (.cells (ints .u8 (zeros 16)) 96)
      have K1 := A1.alloc (.cells (ints .u8 (zeros 16)) 96)
      have K2 := Blk.new wr 96 (ints .u8 (zeros 16))
      have hl1 := A1.lt
      have M0 := K0.rowFar (show w.heap.size ≠ wr.heap.size by omega) (ints .u8 k)
      have M1 := K1.rowFar (show w.heap.size + 1 ≠ wr.heap.size by omega) (ints .u8 k)
      have M2 := K2.row (ints .u8 k)
      have hbel2 := bSetRow (hbel.alloc hbel.size (.cells (ints .u8 (zeros 16)) 96)) hbel.size (ints .u8 k)
      clear A0 A1 hbel K0 K1
      go_wp2_with (first
        | (refine wpList_valG rfl (run_loadSl rfl rfl hS Tryz.ar96 hk16 hkne) ?_; (try simp only [Act.put, List.setIfInBounds_toArray, List.set_cons_zero, List.set_cons_succ, World.size_alloc, setRow_size, Nat.add_assoc, Nat.reduceAdd]))
        | (refine wpList_alloc_ints rfl 96 rfl Tryz.z96 ?_; (try simp only [Act.put, List.setIfInBounds_toArray, List.set_cons_zero, List.set_cons_succ, World.size_alloc, setRow_size, Nat.add_assoc, Nat.reduceAdd]))
        | (refine wpList_store_ints rfl 96 _ _ rfl wr.heap.size rfl rfl K2 (zeros_size _ _) Tryz.ar96 hk16 ?_; (try simp only [Act.put, List.setIfInBounds_toArray, List.set_cons_zero, List.set_cons_succ, World.size_alloc, setRow_size, Nat.add_assoc, Nat.reduceAdd]))
        | (refine wpList_load_ints rfl 96 _ rfl w.heap.size rfl M0 Tryz.ar96 hln ?_; (try simp only [Act.put, List.setIfInBounds_toArray, List.set_cons_zero, List.set_cons_succ, World.size_alloc, setRow_size, Nat.add_assoc, Nat.reduceAdd]))
        | (refine wpList_load_ints rfl 96 _ rfl wr.heap.size rfl M2 Tryz.ar96 hk16 ?_; (try simp only [Act.put, List.setIfInBounds_toArray, List.set_cons_zero, List.set_cons_succ, World.size_alloc, setRow_size, Nat.add_assoc, Nat.reduceAdd])))
      refine (round_c g gb L x k hL hln hlb hk16 hkb16 _ (hT.below hbel2)).mono ?_
      rintro e w3 ⟨rfl, hb3⟩
      have N0 := M0.below' hb3
      have N1 := M1.below' hb3
      have hbel3 := bCall hbel2 hb3 hbel2.size
      have hrl := rdN_len L x k
      clear M0 M1 M2 hbel2 hb3 K2
      go_wp2_with (refine wpList_store_ints rfl 96 _ _ rfl w.heap.size rfl rfl N0 (by rw [ints_size]; exact hln) Tryz.ar96 hrl ?_; (try simp only [Act.put, List.setIfInBounds_toArray, List.set_cons_zero, List.set_cons_succ, World.size_alloc, setRow_size, Nat.add_assoc, Nat.reduceAdd]))
      exact ⟨⟨i + 1, by omega, by go_num, by rw [HF.out]; exact N0.row _, N1.rowFar (by omega) _, bSetRow hbel3 (Nat.le_refl _) _⟩, by simp [intOf] <;> omega⟩
    · obtain rfl : i = m := by omega
      have hd : decide ((i : Int) < (i : Int)) = false := by simp
      have he : ks.take i = ks := List.take_of_length_le (by rw [HM.out]; omega)
      rw [he] at A0 hln
      clear he
      go_wp2_with (first | (refine wpList_load_ints rfl 96 _ rfl _ rfl A0 Tryz.ar96 hln ?_; (try simp only [Act.put, List.setIfInBounds_toArray, List.set_cons_zero, List.set_cons_succ, World.size_alloc, setRow_size, Nat.add_assoc, Nat.reduceAdd])) | (refine wpList_store_ints rfl 96 _ _ rfl _ rfl rfl A1 (zeros_size _ _) Tryz.ar96 hln ?_; (try simp only [Act.put, List.setIfInBounds_toArray, List.set_cons_zero, List.set_cons_succ, World.size_alloc, setRow_size, Nat.add_assoc, Nat.reduceAdd])))
      refine ret_ints rfl rfl (A1.row _) Tryz.ar96 hln ⟨rfl, ?_⟩
      exact bSetRow hbel (by omega) _
end Go.Proofs.YtaiffkajkbiidaaGreatDoor
