/- Chapter 22: the reference's Encode and Strings, vector.Strings. No condition but that rows are short. -/
import Derived.Test.YthfkfbabjfogeaaKit13
import Derived.Test.YthfkfbabjfogeaaL22a
import Derived.Deep.Cut
import Derived.Deep.CutRange
import Derived.Deep.DeepCutAuto
namespace Go.Proofs.Ythfkfbabjfogeaa
set_option linter.unusedSimpArgs false
set_option linter.unusedVariables false
set_option linter.unusedSectionVars false
set_option linter.unusedVariables false
open Go.RowKit
/-- The first of AEZ's strings; all of them. -/
def st16 (t : Nat) : List Nat := (zeros 16).set 15 (8 * t)
def strC (t : Nat) (xs : List Nat) (xss : List (List Nat)) : List (List Nat) := st16 t :: xs :: xss
theorem putL_snoc {xss : List (List Nat)} {i : Nat} (hi : i < xss.length) {N : Nat} (hN : (xss.getD i []).length = N) {D : List Nat} : D ++ putL (xss.take (i + 1)) = D ++ putL (xss.take i) ++ dig 256 8 N ++ xss.getD i [] := by
  rw [putL_take hi, pcB, hN]; simp
set_option maxRecDepth 100000 in
set_option maxHeartbeats 8000000 in
theorem rEncode22_c (t : Nat) (xs : List Nat) (xss : List (List Nat)) (a1 a2 : Option Addr) (c1 c2 : Nat) (ht : t ≤ 16) (hxs : xs.length ≤ 10000) (hm : xss.length ≤ 10000) (hl : (putL xss).length < 2 ^ 30) (hn1 : a1 = none → c1 = 0) (w : World) (h1 : Sl w a1 .u8 xs) (h2 : SlS w a2 xss) :
    Calls Try.prog 16 #[.int .i64 t, .slice a1 xs.length c1, .slice a2 xss.length c2] w fun e w' => ∃ v, e = .returned v ∧ Own w' w.heap.size 5 .u8 v (encC t xs xss) ∧ Below w.heap.size w w' := by
  obtain ⟨m, HM⟩ : ∃ m, Hid (xss.length = m) := ⟨_, Lib.hid rfl⟩
  obtain ⟨q, HQ⟩ : ∃ q, Hid (xs.length = q) := ⟨_, Lib.hid rfl⟩
  rw [HM.out] at hm ⊢
  rw [HQ.out] at hxs ⊢
  have hT := Own.made (B := w.heap.size) (Blk.new w 5 (ints .u8 [t])) (by omega) (by simp [maxLen])
  have hbel1 := (Below.refl w.heap.size w).alloc (Nat.le_refl _) (.cells (ints .u8 [t]) 5)
  have hTI : ints .u8 [t] = #[.int .u8 (t : Int)] := rfl
  rw [hTI] at hT hbel1
  clear hTI
  have hw8 : (t : Int) % 256 = (t : Int) := by omega
  go_enter Try.func16, Try.ntmps16
  go_wp2_with fail
  refine (put_c m 8 (by omega) (by omega) _).mono ?_
  rintro e w2 ⟨v2, rfl, hown2, hb2⟩
  have hT2 := hT.below hb2
  have hbel2 := bCall hbel1 hb2 hbel1.size
  obtain ⟨av, cv, rfl, hslv, -, -, hnv⟩ := hown2.slz
  have hl8 : ∀ n, (dig 256 8 n).length = 8 := fun n => dig_length _ _ _
  rw [hl8]
  have hz2 := hbel2.size
  go_wp2_with (refine wpList_append_sl (zs := dig 256 8 m) rfl rfl Try.underlying22 Try.inf8 rfl (by omega) rfl hT2 rfl (hl8 m).symm hnv hslv (by rw [hl8]; simp) hz2 ?_; intro v3 w3 hown3 hgr3; have hbel3 := bGrown hbel2 hgr3 hz2 hT2 (Nat.le_refl _); clear hT2 hgr3)
  have hz3 := hbel3.size
  clear hT hbel1 hb2 hown2 hslv hbel2 hz2
  refine (put_c q 8 (by omega) (by omega) _).mono ?_
  rintro e w4 ⟨v4, rfl, hown4, hb4⟩
  have hown3' := hown3.below hb4
  have hbel4 := bCall hbel3 hb4 hz3
  have hz4 := hbel4.size
  obtain ⟨aw, cw, rfl, hslw, -, -, hnw⟩ := hown4.slz
  rw [hl8]
  go_wp2_with (first | (refine wpList_append_sl (zs := dig 256 8 q) rfl rfl Try.underlying22 Try.inf8 rfl (by omega) rfl hown3' rfl (hl8 q).symm hnw hslw (by simp) hz4 ?_; intro v5 w5 hown5 hgr5; have hbel5 := bGrown hbel4 hgr5 hz4 hown3' (Nat.le_refl _); have hz5 := hbel5.size; have h15 := h1.below hbel5; clear hgr5 hown3'; (try simp only [Act.put, List.setIfInBounds_toArray, List.set_cons_zero, List.set_cons_succ, World.size_alloc, setRow_size, Nat.add_assoc, Nat.reduceAdd])) | (refine wpList_append_sl (zs := xs) rfl rfl Try.underlying22 Try.inf8 rfl (by omega) rfl hown5 rfl HQ.out.symm hn1 h15 (by simp [HQ.out]; omega) hz5 ?_; intro v6 w6 hown6 hgr6; have hbel6 := bGrown hbel5 hgr6 hz5 hown5 (Nat.le_refl _); clear hgr6; (try simp only [Act.put, List.setIfInBounds_toArray, List.set_cons_zero, List.set_cons_succ, World.size_alloc, setRow_size, Nat.add_assoc, Nat.reduceAdd])))
  clear hown3 hbel3 hz3 hb4 hbel4 hz4 hown4 hslw hown5 hbel5 hz5 h15
  have HD : Hid (encC t xs xss = ([t] ++ dig 256 8 m ++ dig 256 8 q ++ xs) ++ putL xss) := Lib.hid (by unfold encC pcB; rw [HM.out, HQ.out]; simp)
  have hDl : ([t] ++ dig 256 8 m ++ dig 256 8 q ++ xs).length < 2 ^ 20 := by simp [HQ.out]; omega
  generalize [t] ++ dig 256 8 m ++ dig 256 8 q ++ xs = D at *
  go_loopw [7, 8] (fun v t wr => ∃ i : Nat, i ≤ m ∧ t = .int .i64 (i : Int) ∧ Own wr w.heap.size 5 .u8 v (D ++ putL (xss.take i)) ∧ Below w.heap.size w wr) (fun v t wr => m - (intOf t).toNat)
  case atStart => exact ⟨0, by omega, rfl, by rw [List.take_zero, putL_nil, List.append_nil]; exact hown6, hbel6⟩
  case round =>
    clear hown6 hbel6
    obtain ⟨i, hi, rfl, hown, hbel⟩ := hrel
    by_cases hlt : i < m
    · have hlx : i < xss.length := by rw [HM.out]; exact hlt
      obtain ⟨g, off, ai, ci, rfl, hg, hc0, hsl, hnil⟩ := h2 i hlx
      have hc := (hbel.cell (p := ⟨g, off + i, none⟩) hg).trans hc0
      have hln : (D ++ putL (xss.take i)).length + (8 + (xss.getD i []).length) < 2 ^ 32 := by
        have h1 : putL xss = putL (xss.take (i + 1)) ++ putL (xss.drop (i + 1)) := by
          unfold putL
          rw [← List.flatten_append, ← List.map_append, List.take_append_drop]
        have h2 := congrArg List.length h1
        rw [putL_take hlx, List.length_append, List.length_append, pcB_len] at h2
        rw [List.length_append]
        omega
      have hd0 : decide ((i : Int) < (m : Int)) = true := by simp; omega
      have hBr : w.heap.size ≤ wr.heap.size := hbel.size
      have HPT := Lib.hid (fun (N : Nat) (hN : (xss.getD i []).length = N) => putL_snoc hlx hN (D := D))
      generalize xss.getD i [] = b at *
      generalize D ++ putL (xss.take i) = E at *
      obtain ⟨N, HN⟩ : ∃ N, Hid (b.length = N) := ⟨_, Lib.hid rfl⟩
      rw [HN.out] at hc hln hc0
      have HC := Lib.hid hc0
      clear hc0 h2
      go_wp2_with fail
      refine (put_c N 8 (by omega) (by omega) _).mono ?_
      rintro e w1 ⟨v1, rfl, hown1, hb1⟩
      have hown' := hown.below hb1
      have hbel1 := bCall hbel hb1 hbel.size
      have hz1 := hbel1.size
      obtain ⟨aw, cw, rfl, hslw, -, -, hnw⟩ := hown1.slz
      rw [hl8]
      have hd1 := hg
      clear hc hown hbel hown1
      go_wp2_with (first | (refine wpList_append_sl (zs := dig 256 8 N) rfl rfl Try.underlying22 Try.inf8 rfl (by omega) rfl hown' rfl (hl8 N).symm hnw hslw (by rw [hl8]; omega) hz1 ?_; intro v5 w5 hown5 hgr5; have hbel5 := bGrown hbel1 hgr5 hz1 hown' (Nat.le_refl _); have hz5 := hbel5.size; have hc5 := (hbel5.cell (p := ⟨g, off + i, none⟩) hg).trans HC.out; have hsl5 := hsl.below hbel5; clear hgr5 hown'; (try simp only [Act.put, List.setIfInBounds_toArray, List.set_cons_zero, List.set_cons_succ, World.size_alloc, setRow_size, Nat.add_assoc, Nat.reduceAdd])) | (refine wpList_append_sl (zs := b) rfl rfl Try.underlying22 Try.inf8 rfl (by omega) rfl hown5 rfl HN.out.symm hnil hsl5 (by rw [List.length_append, hl8, HN.out]; omega) hz5 ?_; intro v6 w6 hown6 hgr6; have hbel6 := bGrown hbel5 hgr6 hz5 hown5 (Nat.le_refl _); clear hgr6; (try simp only [Act.put, List.setIfInBounds_toArray, List.set_cons_zero, List.set_cons_succ, World.size_alloc, setRow_size, Nat.add_assoc, Nat.reduceAdd])))
      exact ⟨⟨i + 1, by omega, by go_num, by rw [HPT.out N HN.out]; exact hown6, hbel6⟩, by simp [intOf] <;> omega⟩
    · obtain rfl : i = m := by omega
      have he : xss.take i = xss := List.take_of_length_le (by rw [HM.out]; omega)
      rw [he] at hown
      have hd0 : decide ((i : Int) < (i : Int)) = false := by simp
      clear he
      rw [← HD.out] at hown
      go_wp2_with fail
      go_ret
      exact ⟨_, rfl, hown, hbel⟩
theorem elTwo {w : World} {nb : Option Nat} {u v : Value} {x y : List Nat} (h1 : ElS w nb u x) (h2 : ElS w nb v y) : ∀ i, i < [x, y].length → ElS w nb ([u, v].getD i undef) (([x, y] : List (List Nat)).getD i [])
  | 0, _ => h1
  | 1, _ => h2
  | i + 2, h => by simp at h; omega
theorem st16_len (t : Nat) : (st16 t).length = 16 := by unfold st16; rw [List.length_set, zeros_len]
theorem zeros16_z : ints .u8 (zeros 16) = Array.replicate 16 (.int .u8 0) := by kernel_rfl
theorem strs_take {t : Nat} {xs : List Nat} {xss : List (List Nat)} {i : Nat} (hi : i < xss.length) : strC t xs (xss.take i) ++ [xss.getD i []] = strC t xs (xss.take (i + 1)) := by
  unfold strC
  rw [List.take_add_one, List.getElem?_eq_getElem hi, List.getD_eq_getElem?_getD, List.getElem?_eq_getElem hi]; rfl
set_option maxRecDepth 100000 in
set_option maxHeartbeats 8000000 in
theorem strings22_c (t : Nat) (xs : List Nat) (xss : List (List Nat)) (a1 a2 : Option Addr) (c1 c2 : Nat) (ht : t ≤ 16) (hxs : xs.length ≤ 10000) (hxl : xs.length ≤ c1) (hm : xss.length ≤ 10000) (hal : ∀ x ∈ xss, x.length ≤ 100) (hn1 : a1 = none → c1 = 0) (w : World) (h1 : Sl w a1 .u8 xs) (h2 : SlS w a2 xss) :
    Calls Try.prog 15 #[.int .i64 t, .slice a1 xs.length c1, .slice a2 xss.length c2] w fun e w' => ∃ v, e = .returned (.tuple #[v, .int .i64 0]) ∧ OwnS w' w.heap.size v (strC t xs xss) ∧ Below w.heap.size w w' := by
  have hr := right_c (t : Int)
  have he : (0 : Int) ≤ t ∧ (t : Int) ≤ 16 := by omega
  rw [if_pos he] at hr
  clear he
  have hw1 : (t : Int) * 8 % 256 = ((8 * t : Nat) : Int) := by omega
  have hw2 : 8 * (t : Int) % 256 = ((8 * t : Nat) : Int) := by omega
  go_enter Try.func15, Try.ntmps15
  go_wp2_with fail
  refine (hr _).mono ?_
  rintro e w1 ⟨rfl, rfl⟩
  clear hr
  have hmk : ∀ W : World, (Instr.makeSlice 22 (.int .i64 16) (.int .i64 16)).run Try.prog W = .ok (.slice (some ⟨W.heap.size, 0, none⟩) 16 16) (W.alloc (.cells (ints .u8 (zeros 16)) 5)) := fun _ => by kernel_rfl
  have HI : (ints .u8 (zeros 16)).setIfInBounds 15 (.int .u8 (8 * (t : Int))) = ints .u8 (st16 t) := by
    unfold st16 ints
    rw [List.map_set]
    simp
  have O1 := Own.made (B := w.heap.size) (Blk.new w 5 (ints .u8 (st16 t))) (Nat.le_refl _) (by rw [st16_len]; simp [maxLen])
  rw [st16_len] at O1
  have hbel1 := (Below.refl w.heap.size w).alloc (Nat.le_refl _) (.cells (ints .u8 (st16 t)) 5)
  have cz : (w.alloc (.cells (ints .u8 (zeros 16)) 5)).cell? ⟨w.heap.size, 15, none⟩ = some (.int .u8 0) := by rw [(Blk.new w 5 (ints .u8 (zeros 16))).cell]; kernel_rfl
  go_upto_region 6 with fail
  clear cz HI hw1 hw2
  generalize (w.alloc (.cells (ints .u8 (st16 t)) 5)) = w1 at *
  have hs1 := h1.below hbel1
  obtain ⟨m, HM⟩ : ∃ m, Hid (xss.length = m) := ⟨_, Lib.hid rfl⟩
  rw [HM.out] at hm ⊢
  go_wp2_with fail
  refine (clone_c a1 c1 xs hn1 (by omega) _ hs1).mono ?_
  rintro e w2 ⟨v2, rfl, hown2, hb2⟩
  obtain ⟨av2, cv2, rfl, -, -, -, -⟩ := hown2.slz
  have O2 := O1.below hb2
  have hbel2 := bCall hbel1 hb2 hbel1.size
  have hb3 := (Below.refl w2.heap.size w2).alloc (Nat.le_refl _) (.cells [Value.slice (some ⟨w.heap.size, 0, none⟩) 16 16, .slice av2 xs.length cv2].toArray 22)
  have B3 := Blk.new w2 22 [Value.slice (some ⟨w.heap.size, 0, none⟩) 16 16, .slice av2 xs.length cv2].toArray
  have hbel3 := hbel2.alloc hbel2.size (.cells [Value.slice (some ⟨w.heap.size, 0, none⟩) 16 16, .slice av2 xs.length cv2].toArray 22)
  have OS := OwnS.made (B := w.heap.size) (xss := [st16 t, xs]) B3 hbel2.size rfl (by simp [maxLen]) (elTwo (ElS.ofOwn (O2.below hb3) fun g hg => by injection hg with hg; subst hg; exact ⟨_, B3⟩) (ElS.ofOwn (hown2.below hb3) fun g hg => by injection hg with hg; subst hg; exact ⟨_, B3⟩))
  clear O1 O2 hown2 hb2 hb3 B3 hbel2 hbel1
  go_wp2_with fail
  go_wp2_with fail
  generalize (w2.alloc (.cells #[Value.slice (some ⟨w.heap.size, 0, none⟩) 16 16, .slice av2 xs.length cv2] 22)) = w3 at *
  go_loopw [10, 30] (fun v t' wr => ∃ i : Nat, i ≤ m ∧ t' = .int .i64 (i : Int) ∧ OwnS wr w.heap.size v (strC t xs (xss.take i)) ∧ Below w.heap.size w wr) (fun v t' wr => m - (intOf t').toNat)
  case atStart => exact ⟨0, by omega, rfl, OS, hbel3⟩
  case round =>
    clear OS hbel3
    obtain ⟨i, hi, rfl, hown, hbel⟩ := hrel
    by_cases hlt : i < m
    · have hlx : i < xss.length := by rw [HM.out]; exact hlt
      obtain ⟨g, off, ai, ci, rfl, hg, hc0, hsl, hnil⟩ := h2 i hlx
      have hc := (hbel.cell (p := ⟨g, off + i, none⟩) hg).trans hc0
      have hsl1 := hsl.below hbel
      have hb31 := hal _ (getD_memL hlx)
      have HS := Lib.hid (strs_take (t := t) (xs := xs) hlx)
      have hd0 : decide ((i : Int) < (m : Int)) = true := by simp; omega
      have hsl8 : (strC t xs (xss.take i)).length ≤ i + 2 := by unfold strC; simp; omega
      generalize strC t xs (xss.take i) = E at *
      generalize xss.getD i [] = b at *
      clear hc0 hsl h2
      go_wp2_with fail
      refine (clone_c ai ci b hnil (by omega) _ hsl1).mono ?_
      rintro e w5 ⟨v5, rfl, hown5, hb5⟩
      obtain ⟨av5, cv5, rfl, -, -, -, -⟩ := hown5.slz
      have hS5 := hown.below hb5
      have hbel5 := bCall hbel hb5 hbel.size
      have hb6 := (Below.refl w5.heap.size w5).alloc (Nat.le_refl _) (.cells [Value.slice av5 b.length cv5].toArray 22)
      have hS6 := hS5.below hb6
      have B6 := Blk.new w5 22 [Value.slice av5 b.length cv5].toArray
      have hbel6 := hbel5.alloc hbel5.size (.cells [Value.slice av5 b.length cv5].toArray 22)
      have E6 := ElS.ofOwn (hown5.below hb6) hS6.nb
      have hE6 : ∀ i, i < [b].length → ∃ g off u, some (⟨w5.heap.size, 0, none⟩ : Addr) = some ⟨g, off, none⟩ ∧ (w5.alloc (.cells [Value.slice av5 b.length cv5].toArray 22)).cell? ⟨g, off + i, none⟩ = some u ∧ ElS (w5.alloc (.cells [Value.slice av5 b.length cv5].toArray 22)) u10.ownBlock u (([b] : List (List Nat)).getD i []) := by
        intro i hi
        obtain rfl : i = 0 := by simp at hi; omega
        exact ⟨_, 0, .slice av5 b.length cv5, rfl, by rw [B6.cell]; rfl, E6⟩
      clear hown hS5 hown5 hsl1 hc hbel hbel5 hb5 E6 B6
      go_wp2_with (refine wpList_append_S (yss := [b]) rfl rfl rfl hS6 rfl rfl (fun h => by cases h) hE6 (by simp; omega) hbel6.size ?_; intro v7 w7 hown7 hgr7; have hbel7 := hbel6.grown hgr7 hbel6.size hS6.ge_; clear hgr7)
      exact ⟨⟨i + 1, by omega, by go_num, by rw [← HS.out]; exact hown7, hbel7⟩, by simp [intOf] <;> omega⟩
    · obtain rfl : i = m := by omega
      have he : xss.take i = xss := List.take_of_length_le (by rw [HM.out]; omega)
      rw [he] at hown
      have hd0 : decide ((i : Int) < (i : Int)) = false := by simp
      clear he
      go_wp2_with fail
      go_ret2
      exact ⟨_, rfl, hown, hbel⟩
set_option maxHeartbeats 4000000 in
theorem stringsBad_c (z : Int) (u1 u2 : Value) (hz : ¬ (0 ≤ z ∧ z ≤ 16)) (w : World) :
    Calls Try.prog 15 #[.int .i64 z, u1, u2] w fun e w' => e = .returned (.tuple #[.slice none 0 0, .int .i64 4]) ∧ w = w' := by
  have hr := right_c z
  rw [if_neg hz] at hr
  clear hz
  go_enter Try.func15, Try.ntmps15
  go_wp2_with fail
  refine (hr _).mono ?_
  rintro e w1 ⟨rfl, rfl⟩
  clear hr
  go_wp2_with fail
  go_ret2
  exact ⟨rfl, rfl⟩
set_option maxRecDepth 100000 in
set_option maxHeartbeats 8000000 in
theorem rStrings22_c (t : Nat) (xs : List Nat) (xss : List (List Nat)) (a1 a2 : Option Addr) (c1 c2 : Nat) (ht : t ≤ 16) (hm : xss.length ≤ 10000) (hn1 : a1 = none → c1 = 0) (hn2 : a2 = none → c2 = 0) (w : World) (h1 : Sl w a1 .u8 xs) (h2 : SlS w a2 xss) :
    Calls Try.prog 18 #[.int .i64 t, .slice a1 xs.length c1, .slice a2 xss.length c2] w fun e w' => ∃ v, e = .returned v ∧ OwnS w' w.heap.size v (strC t xs xss) ∧ Below w.heap.size w w' := by
  have hw1 : (t : Int) * 8 % 256 = ((8 * t : Nat) : Int) := by omega
  have hw2 : 8 * (t : Int) % 256 = ((8 * t : Nat) : Int) := by omega
  have hmk : ∀ W : World, (Instr.makeSlice 22 (.int .i64 16) (.int .i64 16)).run Try.prog W = .ok (.slice (some ⟨W.heap.size, 0, none⟩) 16 16) (W.alloc (.cells (ints .u8 (zeros 16)) 5)) := fun _ => by kernel_rfl
  have HI : (ints .u8 (zeros 16)).setIfInBounds 15 (.int .u8 (8 * (t : Int))) = ints .u8 (st16 t) := by
    unfold st16 ints
    rw [List.map_set]
    simp
  have O1 := Own.made (B := w.heap.size) (Blk.new w 5 (ints .u8 (st16 t))) (Nat.le_refl _) (by rw [st16_len]; simp [maxLen])
  rw [st16_len] at O1
  have hbel1 := (Below.refl w.heap.size w).alloc (Nat.le_refl _) (.cells (ints .u8 (st16 t)) 5)
  have hz1 : (w.alloc (.cells (ints .u8 (st16 t)) 5)).heap.size = w.heap.size + 1 := World.size_alloc _ _
  have cz : (w.alloc (.cells (ints .u8 (zeros 16)) 5)).cell? ⟨w.heap.size, 15, none⟩ = some (.int .u8 0) := by rw [(Blk.new w 5 (ints .u8 (zeros 16))).cell]; kernel_rfl
  go_enter Try.func18, Try.ntmps18
  go_upto_region 3 with fail
  clear cz HI hw1 hw2
  generalize (w.alloc (.cells (ints .u8 (st16 t)) 5)) = w1 at *
  have hb2 := (Below.refl w1.heap.size w1).alloc (Nat.le_refl _) (.cells [Value.slice (some ⟨w.heap.size, 0, none⟩) 16 16, .slice a1 xs.length c1].toArray 22)
  have hbel2 := hbel1.alloc hbel1.size (.cells [Value.slice (some ⟨w.heap.size, 0, none⟩) 16 16, .slice a1 xs.length c1].toArray 22)
  have B2 := Blk.new w1 22 [Value.slice (some ⟨w.heap.size, 0, none⟩) 16 16, .slice a1 xs.length c1].toArray
  have OS : OwnS (w1.alloc (.cells #[Value.slice (some ⟨w.heap.size, 0, none⟩) 16 16, .slice a1 xs.length c1] 22)) w.heap.size (.slice (some ⟨w1.heap.size, 0, none⟩) 2 2) [st16 t, xs] := OwnS.made (B := w.heap.size) (xss := [st16 t, xs]) B2 hbel1.size rfl (by simp [maxLen]) (elTwo (ElS.ofOwn (O1.below hb2) fun g hg => by injection hg with hg; subst hg; exact ⟨_, B2⟩) (ElS.old h1 hn1 hbel2 fun g hg => by injection hg with hg; omega))
  have hE : ∀ i, i < xss.length → ∃ g off u, a2 = some ⟨g, off, none⟩ ∧ (w1.alloc (.cells #[Value.slice (some ⟨w.heap.size, 0, none⟩) 16 16, .slice a1 xs.length c1] 22)).cell? ⟨g, off + i, none⟩ = some u ∧ ElS (w1.alloc (.cells #[Value.slice (some ⟨w.heap.size, 0, none⟩) 16 16, .slice a1 xs.length c1] 22)) (Value.slice (some ⟨w1.heap.size, 0, none⟩) 2 2).ownBlock u (xss.getD i []) := by
    intro i hi
    obtain ⟨g, off, ai, ci, q1, q2, q3, q4, q5⟩ := h2 i hi
    exact ⟨g, off, _, q1, (hbel2.cell (p := ⟨g, off + i, none⟩) q2).trans q3, ElS.old q4 q5 hbel2 fun g hg => by injection hg with hg; simp at hg; omega⟩
  have hll : [st16 t, xs].length + xss.length < 2 ^ 40 := by simp; omega
  have HM : Hid ([st16 t, xs] ++ xss = strC t xs xss) := Lib.hid rfl
  clear O1 hb2 B2 h1 h2 hbel1
  rw [hz1] at OS hE
  go_wp2_with (refine wpList_append_S (v := .slice (some ⟨w.heap.size + 1, 0, none⟩) 2 2) (yss := xss) rfl rfl rfl OS rfl rfl hn2 hE hll hbel2.size ?_; intro v7 w7 hown7 hgr7; rw [HM.out] at hown7; have hbel7 := hbel2.grown hgr7 hbel2.size OS.ge_; clear hgr7)
  go_ret
  exact ⟨_, rfl, hown7, hbel7⟩
end Go.Proofs.Ythfkfbabjfogeaa
