/- What nh.Words and its reference answer: the words of a key. No condition but that the row is no longer than a slice may be. -/
import Derived.Test.YtolfngmpoafaaaaOA
import Derived.Test.YtolfngmpoafaaaaRows
namespace Go.Proofs.Ytolfngmpoafaaaa
set_option linter.unusedSimpArgs false
set_option linter.unusedVariables false
set_option linter.unusedSectionVars false
set_option linter.unusedVariables false
open Go.RowKit
/-- The words of a key. -/
def wordsN (key : List Nat) : List Nat := (List.range 268).map fun i => numAt key (4 * i) 4
theorem wordsN_len (key : List Nat) : (wordsN key).length = 268 := by simp [wordsN]
theorem wordsN_lt {key : List Nat} (hb : ∀ x ∈ key, x < 256) : ∀ x ∈ wordsN key, x < 4294967296 := fun x hx => by
  obtain ⟨i, -, rfl⟩ := List.mem_map.1 hx
  exact numAt_lt hb _ 4
theorem wordsN_getD (key : List Nat) {i : Nat} (hi : i < 268) : (wordsN key).getD i 0 = numAt key (4 * i) 4 := by
  unfold wordsN
  rw [List.getD_eq_getElem?_getD, List.getElem?_map, List.getElem?_range hi]; rfl
set_option maxHeartbeats 1000000 in
theorem words_no (a : Option Addr) (c n : Nat) (h : n ≠ 1072) (hn : n < 2 ^ 40) (w : World) :
    Calls Try.prog 19 #[.slice a n c] w fun e w' => e = .returned (.tuple #[.slice none 0 0, .int .i64 2]) ∧ w = w' := by
  have q : ((n : Int) != 1072) = true := by simp; omega
  go_enter Try.func19, Try.ntmps19
  go_wp2
  go_ret2
  exact ⟨rfl, rfl⟩
set_option maxRecDepth 100000 in
set_option maxHeartbeats 1000000 in
theorem words_c (a : Option Addr) (c : Nat) (key : List Nat) (hb : ∀ x ∈ key, x < 256) (hl : key.length = 1072) (w : World) (hs : Sl w a .u8 key) :
    Calls Try.prog 19 #[.slice a key.length c] w fun e w' => e = .returned (.tuple #[.slice (some ⟨w.heap.size, 0, none⟩) 268 268, .int .i64 0]) ∧ Blk w' w.heap.size 71 (ints .u32 (wordsN key)) ∧ Below w.heap.size w w' := by
  have hmk : ∀ W : World, (Instr.makeSlice 43 (.int .i64 268) (.int .i64 268)).run Try.prog W = .ok (.slice (some ⟨W.heap.size, 0, none⟩) 268 268) (W.alloc (.cells (ints .u32 (zeros 268)) 71)) := fun _ => by kernel_rfl
  have hlm : key.length ≤ maxLen := by unfold maxLen; omega
  have hw := wordsN_len key
  rw [hl]
  have hwd := fun p z hz hp W0 hs0 => word_at a c key hb hlm p z hz hp W0 hs0
  rw [hl] at hwd
  have HWD := Lib.hid hwd
  clear hwd
  go_enter Try.func19, Try.ntmps19
  go_wp2
  go_loopw [12] (fun t wr => ∃ k : Nat, k ≤ 268 ∧ t = .int .i64 k ∧ Blk wr w.heap.size 71 (ints .u32 ((wordsN key).take k ++ zeros (268 - k))) ∧ Below w.heap.size w wr) (fun t wr => 268 - (intOf t).toNat)
  case atStart => exact ⟨0, by omega, rfl, Blk.new _ _ _, (Below.refl _ _).alloc (Nat.le_refl _) _⟩
  case round =>
    rename_i hrel
    obtain ⟨k, hk, rfl, C0, hbel⟩ := hrel
    by_cases hlt : k < 268
    · go_wp2_with (fail)
      refine (HWD.out (4 * k) (4 * (k : Int)) (by omega) (by omega) _ (hs.below hbel)).mono ?_
      rintro e w1 ⟨rfl, hb1⟩
      have D0 := C0.below' hb1
      have hbel1 := bCall hbel hb1 hbel.size
      have hv := wordsN_getD key hlt
      have hll : ((wordsN key).take k ++ zeros (268 - k)).length = 268 := by simp [zeros, hw]; omega
      have c0 := D0.int (i := k) (by omega)
      have z0 := D0.frozen k
      have D0' := D0.intSet k (numAt key (4 * k) 4)
      rw [take_set hw hlt hv] at D0'
      have HD := Lib.hid D0'
      clear D0' hll hv C0 hbel hb1
      go_wp2
      exact ⟨⟨k + 1, by omega, by go_num, HD.out, hbel1.setCell (by first | omega | (simp; done) | (simp; omega)) _⟩, by simp [intOf] <;> omega⟩
    · obtain rfl : k = 268 := by omega
      have he : (wordsN key).take 268 ++ zeros (268 - 268) = wordsN key := by rw [List.take_of_length_le (by omega)]; simp [zeros]
      rw [he] at C0
      clear he
      go_wp2
      go_ret2
      exact ⟨rfl, C0, hbel⟩
theorem u32_inf : (Try.prog.info? 71).map (fun i => (i.zero, i.size, i.bytes)) = some (some (.int .u32 0), 1, 4) := by kernel_rfl
set_option maxHeartbeats 1000000 in
theorem rwords_no (a : Option Addr) (c n : Nat) (h : n ≠ 1072) (hn : n < 2 ^ 40) (w : World) :
    Calls Try.prog 36 #[.slice a n c] w fun e w' => e = .returned (.tuple #[.slice none 0 0, .int .i64 2]) ∧ w = w' := by
  have q : ((n : Int) != 1072) = true := by simp; omega
  go_enter Try.func36, Try.ntmps36
  go_wp2
  go_ret2
  exact ⟨rfl, rfl⟩
set_option maxRecDepth 100000 in
set_option maxHeartbeats 1000000 in
theorem rwords_c (a : Option Addr) (c : Nat) (key : List Nat) (hb : ∀ x ∈ key, x < 256) (hl : key.length = 1072) (w : World) (hs : Sl w a .u8 key) :
    Calls Try.prog 36 #[.slice a key.length c] w fun e w' => ∃ v, e = .returned (.tuple #[v, .int .i64 0]) ∧ Own w' w.heap.size 71 .u32 v (wordsN key) ∧ Below w.heap.size w w' := by
  have hlm : key.length ≤ maxLen := by unfold maxLen; omega
  have hw := wordsN_len key
  rw [hl]
  have hwd := fun p z hz hp W0 hs0 => number_at a c key hb hlm p 4 z hz hp (by omega) W0 hs0
  rw [hl] at hwd
  have HWD := Lib.hid hwd
  clear hwd
  go_enter Try.func36, Try.ntmps36
  go_wp2
  go_loopw [4, 5] (fun v t wr => ∃ k : Nat, k ≤ 268 ∧ t = .int .i64 k ∧ Own wr w.heap.size 71 .u32 v ((wordsN key).take k) ∧ Below w.heap.size w wr) (fun v t wr => 268 - (intOf t).toNat)
  case atStart => exact ⟨0, by omega, rfl, Own.nil _ _ _ _, Below.refl _ _⟩
  case round =>
    rename_i hrel
    obtain ⟨k, hk, rfl, hown, hbel⟩ := hrel
    by_cases hlt : k < 268
    · have hnl : numAt key (4 * k) 4 < 4294967296 := numAt_lt hb _ 4
      have ht := take_snoc (by rw [hw]; exact hlt) (wordsN_getD key hlt)
      have hsz : ((wordsN key).take k).length < 2 ^ 40 := by simp; omega
      have HT := Lib.hid ht
      clear ht
      go_wp2_with (fail)
      refine (HWD.out (4 * k) (4 * (k : Int)) (by omega) (by omega) _ (hs.below hbel)).mono ?_
      rintro e w1 ⟨rfl, rfl⟩
      go_wp2_with (first | (refine wpList_append_one (n := numAt key (4 * k) 4) rfl rfl Try.underlying43 u32_inf rfl (by omega) rfl (hown.alloc _) rfl (by simp) hsz (Nat.le_trans hbel.size (by simp)) ?_; intro v' w' hown' hgr; (try simp only [Act.put, List.setIfInBounds_toArray, List.set_cons_zero, List.set_cons_succ, World.size_alloc, setRow_size, Nat.add_assoc, Nat.reduceAdd])))
      refine ⟨⟨k + 1, by omega, by go_num, ?_, bGrown (hbel.alloc hbel.size _) hgr (Nat.le_trans hbel.size (by simp)) (hown.alloc _) (Nat.le_refl _)⟩, by simp [intOf] <;> omega⟩
      rw [HT.out]; exact hown'
    · obtain rfl : k = 268 := by omega
      have he : (wordsN key).take 268 = wordsN key := List.take_of_length_le (by omega)
      rw [he] at hown
      clear he
      go_wp2
      go_ret2
      exact ⟨_, rfl, hown, hbel⟩
end Go.Proofs.Ytolfngmpoafaaaa
