/- Chapter 22: right, put, Encode, few. No condition but that rows are shorter than 2^31. -/
import Derived.Test.YthfkfbabjfogeaaKit12
import Derived.Test.YthfkfbabjfogeaaP22
import Derived.Test.YthfkfbabjfogeaaRow5
import Derived.StillTailTactics
import Derived.Deep.Cut
import Derived.Deep.CutRange
import Derived.Deep.DeepCutAuto
namespace Go.Proofs.Ythfkfbabjfogeaa
set_option linter.unusedSimpArgs false
set_option linter.unusedVariables false
set_option linter.unusedSectionVars false
set_option linter.unusedVariables false
open Go.RowKit
set_option maxHeartbeats 800000 in
theorem right_c (z : Int) (w : World) : Calls Try.prog 21 #[.int .i64 z] w fun e w' => e = .returned (.int .i64 (if 0 ≤ z ∧ z ≤ 16 then 0 else 4)) ∧ w = w' := by
  by_cases h0 : z < 0
  · have hn : ¬ (0 ≤ z ∧ z ≤ 16) := by omega
    rw [if_neg hn]
    clear hn
    go_enter Try.func21, Try.ntmps21
    go_wp2
    go_ret
    exact ⟨rfl, rfl⟩
  · by_cases h1 : z > 16
    · have hn : ¬ (0 ≤ z ∧ z ≤ 16) := by omega
      rw [if_neg hn]
      clear hn
      go_enter Try.func21, Try.ntmps21
      go_wp2
      go_ret
      exact ⟨rfl, rfl⟩
    · have hn : 0 ≤ z ∧ z ≤ 16 := by omega
      rw [if_pos hn]
      clear hn
      go_enter Try.func21, Try.ntmps21
      go_wp2
      go_ret
      exact ⟨rfl, rfl⟩
set_option maxHeartbeats 800000 in
theorem rRight_c (z : Int) (w : World) : Calls Try.prog 11 #[.int .i64 z] w fun e w' => e = .returned (.bool (decide (0 ≤ z ∧ z ≤ 16))) ∧ w = w' := by
  by_cases h0 : z ≥ 0
  · by_cases h1 : z ≤ 16
    · rw [decide_eq_true (show 0 ≤ z ∧ z ≤ 16 by omega)]
      go_enter Try.func11, Try.ntmps11
      go_wp2
      go_ret
      exact ⟨rfl, rfl⟩
    · rw [decide_eq_false (show ¬ (0 ≤ z ∧ z ≤ 16) by omega)]
      go_enter Try.func11, Try.ntmps11
      go_wp2
      go_ret
      exact ⟨rfl, rfl⟩
  · rw [decide_eq_false (show ¬ (0 ≤ z ∧ z ≤ 16) by omega)]
    go_enter Try.func11, Try.ntmps11
    go_wp2
    go_ret
    exact ⟨rfl, rfl⟩
theorem slThree {w : World} {a1 a2 a3 : Option Addr} {c1 c2 c3 : Nat} {x y z : List Nat} (h1 : Sl w a1 .u8 x) (h2 : Sl w a2 .u8 y) (h3 : Sl w a3 .u8 z) (n1 : a1 = none → c1 = 0) (n2 : a2 = none → c2 = 0) (n3 : a3 = none → c3 = 0) :
    ∀ i, i < [x, y, z].length → ∃ ai ci, [Value.slice a1 x.length c1, .slice a2 y.length c2, .slice a3 z.length c3][i]? = some (.slice ai (([x, y, z] : List (List Nat)).getD i []).length ci) ∧ Sl w ai .u8 (([x, y, z] : List (List Nat)).getD i []) ∧ (ai = none → ci = 0)
  | 0, _ => ⟨a1, c1, rfl, h1, n1⟩
  | 1, _ => ⟨a2, c2, rfl, h2, n2⟩
  | 2, _ => ⟨a3, c3, rfl, h3, n3⟩
  | i + 3, h => by simp at h; omega
set_option maxRecDepth 100000 in
set_option maxHeartbeats 8000000 in
theorem put22_c (A : List Nat) (xss : List (List Nat)) (a : Option Addr) (c B : Nat) (v : Value) (hm : xss.length < 2 ^ 31) (hl : A.length + (putL xss).length < 2 ^ 31) (w : World) (hB : B ≤ w.heap.size) (hown : Own w B 5 .u8 v A) (hs : SlS w a xss) :
    Calls Try.prog 23 #[v, .slice a xss.length c] w fun e w' => ∃ v', e = .returned v' ∧ Own w' B 5 .u8 v' (A ++ putL xss) ∧ Below w.heap.size w w' := by
  obtain ⟨m, HM⟩ : ∃ m, Hid (xss.length = m) := ⟨_, Lib.hid rfl⟩
  rw [HM.out] at hm ⊢
  go_enter Try.func23, Try.ntmps23
  go_wp2
  go_loopw [0, 10] (fun v t wr => ∃ i : Nat, i ≤ m ∧ t = .int .i64 (i : Int) ∧ Own wr B 5 .u8 v (A ++ putL (xss.take i)) ∧ Below w.heap.size w wr) (fun v t wr => m - (intOf t).toNat)
  case atStart => exact ⟨0, by omega, rfl, by rw [List.take_zero, putL_nil, List.append_nil]; exact hown, Below.refl _ _⟩
  case round =>
    clear hown
    obtain ⟨i, hi, rfl, hown, hbel⟩ := hrel
    by_cases hlt : i < m
    · have hlx : i < xss.length := by rw [HM.out]; exact hlt
      have hs1 := hs.below hbel
      obtain ⟨g, off, ai, ci, rfl, hg, hc, hsl, hnil⟩ := hs1 i hlx
      have HPT := Lib.hid (putL_take hlx)
      have hln : (A ++ putL (xss.take i)).length + (8 + (xss.getD i []).length) < 2 ^ 31 := by
        have h1 : putL xss = putL (xss.take (i + 1)) ++ putL (xss.drop (i + 1)) := by
          unfold putL
          rw [← List.flatten_append, ← List.map_append, List.take_append_drop]
        have h2 := congrArg List.length h1
        rw [HPT.out, List.length_append, List.length_append, pcB_len] at h2
        rw [List.length_append]
        omega
      have hd0 : decide ((i : Int) < (m : Int)) = true := by simp; omega
      have hBr : B ≤ wr.heap.size := Nat.le_trans hB hbel.size
      generalize xss.getD i [] = b at *
      obtain ⟨D, HD⟩ : ∃ D, Hid (A ++ putL (xss.take i) = D) := ⟨_, Lib.hid rfl⟩
      rw [HD.out] at hown hln
      have hN : b.length < 18446744073709551616 := by omega
      have HL : Hid (D.length + (8 + b.length) < 2 ^ 31) := Lib.hid hln
      obtain ⟨N, HN⟩ : ∃ N, Hid (b.length = N) := ⟨_, Lib.hid rfl⟩
      rw [HN.out] at hc hN
      clear hs1 hln
      go_wp2_with fail
      refine (putLong_c N hN _).mono ?_
      rintro e w1 ⟨rfl, hb1⟩
      have hown1 := hown.below hb1
      have hbel1 := bCall hbel hb1 hbel.size
      have hsl1 := hsl.below hb1
      have hz1 := hb1.size
      have hV := Blk.new w1 46 (ints .u8 (zeros 8))
      have hBl : (dig 256 8 N).length = 8 := dig_length _ _ _
      have hV2 := hV.row (ints .u8 (dig 256 8 N))
      have hb2 : Below w1.heap.size w1 ((w1.alloc (.cells (ints .u8 (zeros 8)) 46)).setRow w1.heap.size (ints .u8 (dig 256 8 N))) := bSetRow ((Below.refl w1.heap.size w1).alloc (Nat.le_refl _) (.cells (ints .u8 (zeros 8)) 46)) (Nat.le_refl _) (ints .u8 (dig 256 8 N))
      have hown2 := hown1.below hb2
      have hsl2 := hsl1.below hb2
      have hbel2 := bCall hbel1 hb2 hbel1.size
      obtain ⟨av, cv, rfl, hslv, -, -, hnv⟩ := hown2.slz
      clear hown hown1 hsl hsl1 hbel hbel1 hown2
      obtain ⟨K, HK⟩ : ∃ K, Hid (D.length = K) := ⟨_, Lib.hid rfl⟩
      rw [HK.out]
      go_wp2_with (first | (refine wpList_alloc_ints rfl 46 rfl Try.z46 ?_; (try simp only [Act.put, List.setIfInBounds_toArray, List.set_cons_zero, List.set_cons_succ, World.size_alloc, setRow_size, Nat.add_assoc, Nat.reduceAdd])) | (refine wpList_store_ints rfl 46 _ _ rfl w1.heap.size (k := .u8) (xs := dig 256 8 N) rfl rfl hV (zeros_size _ _) Try.ar46 hBl ?_; (try simp only [Act.put, List.setIfInBounds_toArray, List.set_cons_zero, List.set_cons_succ, World.size_alloc, setRow_size, Nat.add_assoc, Nat.reduceAdd])))
      have hz2 : ((w1.alloc (.cells (ints .u8 (zeros 8)) 46)).setRow w1.heap.size (ints .u8 (dig 256 8 N))).heap.size = w1.heap.size + 1 := by rw [setRow_size, World.size_alloc]
      clear hV
      generalize ((w1.alloc (.cells (ints .u8 (zeros 8)) 46)).setRow w1.heap.size (ints .u8 (dig 256 8 N))) = w2 at *
      refine (concat_c (some ⟨w1.heap.size + 1, 0, none⟩) 3 [D, dig 256 8 N, b] (show 3 < 2 ^ 31 by omega) (by have := HL.out; have := HN.out; simp; omega) _ ?_).mono ?_
      · rw [← hz2]
        have hb3 := (Below.refl w2.heap.size w2).alloc (Nat.le_refl _) (.cells [Value.slice av K cv, .slice (some ⟨w1.heap.size, 0, none⟩) 8 8, .slice ai N ci].toArray 22)
        have h3 := slThree (hslv.below hb3) ((Sl.blk hV2).below hb3) (hsl2.below hb3) (c1 := cv) (c2 := 8) (c3 := ci) hnv (fun h => by cases h) hnil
        rw [HK.out, HN.out, hBl] at h3
        exact slS_of (Blk.new w2 22 [Value.slice av K cv, .slice (some ⟨w1.heap.size, 0, none⟩) 8 8, .slice ai N ci].toArray) h3
      · rintro e w3 ⟨v3, rfl, hown3, hb3⟩
        have hbel3 := bCall (hbel2.alloc hbel2.size (.cells #[Value.slice av K cv, .slice (some ⟨w1.heap.size, 0, none⟩) 8 8, .slice ai N ci] 22)) hb3 (by rw [World.size_alloc]; have := hbel2.size; omega)
        have hown4 := hown3.mono (B' := B) (by rw [World.size_alloc]; omega)
        have HE : Hid ([D, dig 256 8 N, b].flatten = A ++ putL (xss.take (i + 1))) := Lib.hid (by
          rw [HPT.out, ← HD.out, ← HN.out]
          simp [pcB])
        rw [HE.out] at hown4
        clear hown3 hb3 hslv hsl2 hV2
        go_wp2_with fail
        exact ⟨⟨i + 1, by omega, by go_num, hown4, hbel3⟩, by simp [intOf] <;> omega⟩
    · obtain rfl : i = m := by omega
      have he : xss.take i = xss := List.take_of_length_le (by rw [HM.out]; omega)
      rw [he] at hown
      have hd0 : decide ((i : Int) < (i : Int)) = false := by simp
      clear he
      go_wp2_with fail
      go_ret
      exact ⟨_, rfl, hown, hbel⟩
theorem slOne {w : World} {a1 : Option Addr} {c1 : Nat} {x : List Nat} (h1 : Sl w a1 .u8 x) (n1 : a1 = none → c1 = 0) :
    ∀ i, i < [x].length → ∃ ai ci, [Value.slice a1 x.length c1][i]? = some (.slice ai (([x] : List (List Nat)).getD i []).length ci) ∧ Sl w ai .u8 (([x] : List (List Nat)).getD i []) ∧ (ai = none → ci = 0)
  | 0, _ => ⟨a1, c1, rfl, h1, n1⟩
  | i + 1, h => by simp at h
set_option maxRecDepth 100000 in
set_option maxHeartbeats 8000000 in
theorem encode22_c (t : Nat) (xs : List Nat) (xss : List (List Nat)) (a1 a2 : Option Addr) (c1 c2 : Nat) (ht : t ≤ 16) (hxs : xs.length ≤ 10000) (hm : xss.length ≤ 10000) (hl : (putL xss).length < 2 ^ 30) (hn1 : a1 = none → c1 = 0) (w : World) (h1 : Sl w a1 .u8 xs) (h2 : SlS w a2 xss) :
    Calls Try.prog 12 #[.int .i64 t, .slice a1 xs.length c1, .slice a2 xss.length c2] w fun e w' => ∃ v, e = .returned (.tuple #[v, .int .i64 0]) ∧ Own w' w.heap.size 5 .u8 v (encC t xs xss) ∧ Below w.heap.size w w' := by
  have hr := right_c (t : Int)
  have he : (0 : Int) ≤ t ∧ (t : Int) ≤ 16 := by omega
  rw [if_pos he] at hr
  clear he
  have HL := Lib.hid hl
  obtain ⟨m, HM⟩ : ∃ m, Hid (xss.length = m) := ⟨_, Lib.hid rfl⟩
  have HE : Hid (([t] ++ dig 256 8 m ++ putL [xs]) ++ putL xss = encC t xs xss) := Lib.hid (by unfold encC; rw [HM.out, putL_one])
  rw [HM.out] at hm ⊢
  go_enter Try.func12, Try.ntmps12
  go_wp2_with fail
  refine (hr _).mono ?_
  rintro e w1 ⟨rfl, rfl⟩
  clear hr
  go_wp2_with fail
  refine (putLong_c m (by omega) _).mono ?_
  rintro e w1 ⟨rfl, hb1⟩
  have hz1 := hb1.size
  have hV := Blk.new w1 46 (ints .u8 (zeros 8))
  have hBl : (dig 256 8 m).length = 8 := dig_length _ _ _
  have hV2 := hV.row (ints .u8 (dig 256 8 m))
  have hbel2 : Below w.heap.size w ((w1.alloc (.cells (ints .u8 (zeros 8)) 46)).setRow w1.heap.size (ints .u8 (dig 256 8 m))) := bSetRow (hb1.alloc hz1 (.cells (ints .u8 (zeros 8)) 46)) hz1 (ints .u8 (dig 256 8 m))
  have hz2 : ((w1.alloc (.cells (ints .u8 (zeros 8)) 46)).setRow w1.heap.size (ints .u8 (dig 256 8 m))).heap.size = w1.heap.size + 1 := by rw [setRow_size, World.size_alloc]
  go_upto_region 5 with (first | (refine wpList_alloc_ints rfl 46 rfl Try.z46 ?_; (try simp only [Act.put, List.setIfInBounds_toArray, List.set_cons_zero, List.set_cons_succ, World.size_alloc, setRow_size, Nat.add_assoc, Nat.reduceAdd])) | (refine wpList_store_ints rfl 46 _ _ rfl w1.heap.size (k := .u8) (xs := dig 256 8 m) rfl rfl hV (zeros_size _ _) Try.ar46 hBl ?_; (try simp only [Act.put, List.setIfInBounds_toArray, List.set_cons_zero, List.set_cons_succ, World.size_alloc, setRow_size, Nat.add_assoc, Nat.reduceAdd])))
  clear hV
  generalize ((w1.alloc (.cells (ints .u8 (zeros 8)) 46)).setRow w1.heap.size (ints .u8 (dig 256 8 m))) = w2 at *
  have hT := Own.made (B := w.heap.size) (Blk.new w2 5 (ints .u8 [t])) (by omega) (by simp [maxLen])
  have hTI : ints .u8 [t] = #[.int .u8 (t : Int)] := rfl
  have hbel3 := hbel2.alloc hbel2.size (.cells (ints .u8 [t]) 5)
  have hV3 := hV2.alloc (.cells (ints .u8 [t]) 5)
  have hz3 : (w2.alloc (.cells (ints .u8 [t]) 5)).heap.size = w1.heap.size + 2 := by rw [World.size_alloc, hz2]
  rw [hTI] at hT hbel3 hV3 hz3
  rw [hz2] at hT
  clear hTI
  have hw8 : (t : Int) % 256 = (t : Int) := by omega
  have hS := Sl.blk hV3
  have hlt1 : w1.heap.size < w.heap.size + (w1.heap.size + 1) := by omega
  clear hV2 hV3
  go_wp2_with (refine wpList_append_sl (zs := dig 256 8 m) rfl rfl Try.underlying22 Try.inf8 rfl (by omega) rfl hT rfl hBl.symm (fun h => by cases h) hS (by simp) (by rw [hz3]; omega) ?_; intro v4 w4 hown4 hgr4; have hbel4 := bGrown hbel3 hgr4 (by rw [hz3]; omega) hT (Nat.le_refl _); have hz4 := hgr4.size; rw [hz3] at hz4; clear hgr4 hT hS hbel3)
  have hs4 := h1.below hbel4
  have hb5 := (Below.refl w4.heap.size w4).alloc (Nat.le_refl _) (.cells [Value.slice a1 xs.length c1].toArray 22)
  have hbel5 := hbel4.alloc hbel4.size (.cells [Value.slice a1 xs.length c1].toArray 22)
  have hS5 := slS_of (Blk.new w4 22 [Value.slice a1 xs.length c1].toArray) (slOne (hs4.below hb5) hn1)
  have hp1 := fun h => put22_c ([t] ++ dig 256 8 m) [xs] (some ⟨w4.heap.size, 0, none⟩) 1 w.heap.size v4 (by simp) h _ hbel5.size (hown4.below hb5) hS5
  refine (hp1 (by rw [putL_one, pcB_len, List.length_append, hBl]; simp; omega)).mono ?_
  rintro e w6 ⟨v6, rfl, hown6, hb6⟩
  clear hp1
  have hbel6 := bCall hbel5 hb6 hbel5.size
  have hS6 := h2.below hbel6
  have hp2 := fun h => put22_c ([t] ++ dig 256 8 m ++ putL [xs]) xss a2 c2 w.heap.size v6 (by rw [HM.out]; omega) h _ hbel6.size hown6 hS6
  rw [HM.out, HE.out] at hp2
  go_wp2_with fail
  refine (hp2 (by rw [putL_one, List.length_append, pcB_len, List.length_append, hBl]; simp; omega)).mono ?_
  rintro e w7 ⟨v7, rfl, hown7, hb7⟩
  have hbel7 := bCall hbel6 hb7 hbel6.size
  clear hp2
  go_wp2_with fail
  go_ret2
  exact ⟨_, rfl, hown7, hbel7⟩
set_option maxHeartbeats 4000000 in
theorem encodeBad_c (z : Int) (u1 u2 : Value) (hz : ¬ (0 ≤ z ∧ z ≤ 16)) (w : World) :
    Calls Try.prog 12 #[.int .i64 z, u1, u2] w fun e w' => e = .returned (.tuple #[.slice none 0 0, .int .i64 4]) ∧ w = w' := by
  have hr := right_c z
  rw [if_neg hz] at hr
  clear hz
  go_enter Try.func12, Try.ntmps12
  go_wp2_with fail
  refine (hr _).mono ?_
  rintro e w1 ⟨rfl, rfl⟩
  clear hr
  go_wp2_with fail
  go_ret2
  exact ⟨rfl, rfl⟩
set_option maxRecDepth 100000 in
set_option maxHeartbeats 4000000 in
theorem few22_c (z : Int) (xs : List Nat) (xss : List (List Nat)) (a1 a2 : Option Addr) (c1 c2 : Nat) (hlm : xss.length ≤ 9223372036854775807) (hln : xs.length ≤ 9223372036854775807) (w : World) (hs0 : SlS w a2 xss) :
    Calls Try.prog 10 #[.agg (ctxC z a1 a2 c1 c2 xs xss)] w fun e w' => ∃ b, e = .returned (.bool b) ∧ (b = true → (∀ xs ∈ xss, xs.length ≤ 100) ∧ xss.length ≤ 20 ∧ xs.length ≤ 100) ∧ Below w.heap.size w w' := by
  have B1 := Blk.new w 25 (ctxC z a1 a2 c1 c2 xs xss)
  have hbel := (Below.refl w.heap.size w).alloc (Nat.le_refl _) (.cells (ctxC z a1 a2 c1 c2 xs xss) 25)
  have k1 : (w.alloc (.cells (ctxC z a1 a2 c1 c2 xs xss) 25)).cell? ⟨w.heap.size, 1, none⟩ = some (.slice a1 xs.length c1) := by rw [B1.cell]; rfl
  have k2 : (w.alloc (.cells (ctxC z a1 a2 c1 c2 xs xss) 25)).cell? ⟨w.heap.size, 2, none⟩ = some (.slice a2 xss.length c2) := by rw [B1.cell]; rfl
  have hs1 := hs0.below hbel
  obtain ⟨n, HN⟩ : ∃ n, Hid (xss.length = n) := ⟨_, Lib.hid rfl⟩
  obtain ⟨q, HQ⟩ : ∃ q, Hid (xs.length = q) := ⟨_, Lib.hid rfl⟩
  rw [HN.out] at hlm k2 ⊢
  rw [HQ.out] at hln k1 ⊢
  go_enter Try.func10, Try.ntmps10
  go_wp2
  generalize (w.alloc (.cells (ctxC z a1 a2 c1 c2 xs xss) 25)) = w1 at *
  go_loopw [3] (fun t wr => ∃ i : Nat, i ≤ n ∧ t = .int .i64 (i : Int) ∧ (∀ j, j < i → (xss.getD j []).length ≤ 100) ∧ wr = w1) (fun t wr => n - (intOf t).toNat)
  case atStart => exact ⟨0, by omega, rfl, fun j hj => by omega, rfl⟩
  case round =>
    obtain ⟨i, hi, rfl, hall, rfl⟩ := hrel
    by_cases hlt : i < n
    · have hlx : i < xss.length := by rw [HN.out]; exact hlt
      obtain ⟨g, off, ai, ci, rfl, hg, hc1, hsl, hnil⟩ := hs1 i hlx
      have hd1 : decide ((i : Int) < (n : Int)) = true := by simp; omega
      have HA : Hid (∀ k, k = (xss.getD i []).length → k ≤ 100 → ∀ j, j < i + 1 → (xss.getD j []).length ≤ 100) := Lib.hid fun k hk h j hj => by
        by_cases e : j = i
        · subst e; omega
        · exact hall j (by omega)
      clear hall hsl
      obtain ⟨k, hk⟩ : ∃ k, k = (xss.getD i []).length := ⟨_, rfl⟩
      rw [← hk] at hc1
      have HK := Lib.hid hk
      clear hk
      by_cases h100 : k ≤ 100
      · have hd2 : decide ((k : Int) > 100) = false := by simp; omega
        go_wp2
        exact ⟨⟨i + 1, by omega, by go_num, HA.out k HK.out h100, trivial⟩, by simp [intOf] <;> omega⟩
      · have hd2 : decide ((k : Int) > 100) = true := by simp; omega
        go_wp2
        go_ret
        exact ⟨false, rfl, (fun h => by cases h), hbel⟩
    · obtain rfl : i = n := by omega
      have hd1 : decide ((i : Int) < (i : Int)) = false := by simp
      have hall' : ∀ xs ∈ xss, xs.length ≤ 100 := fun xs hxs => by
        obtain ⟨j, hj, rfl⟩ := List.mem_iff_getElem.1 hxs
        have := hall j (by rw [← HN.out]; exact hj)
        rwa [List.getD_eq_getElem?_getD, List.getElem?_eq_getElem hj] at this
      have HALL := Lib.hid hall'
      clear hall hall'
      by_cases h20 : q ≤ 100
      · have hd2 : decide ((q : Int) ≤ 100) = true := by simp; omega
        go_wp2
        go_ret
        refine ⟨_, rfl, fun h => ⟨HALL.out, ?_, h20⟩, hbel⟩
        simp at h
        omega
      · have hd2 : decide ((q : Int) ≤ 100) = false := by simp; omega
        go_wp2
        go_ret
        exact ⟨false, rfl, (fun h => by cases h), hbel⟩
section
variable {P : Program} {ops : Array Oper} {o : Oper} {a : Act} {w : World}
theorem wpStill_val {Q : Act → Prop} {rest : List Oper} {v : Value} (hw : Region.wanted o (yielded ops a.tmps) = true) (hr : (execOp a.eval o).run P w = .ok (.value v) w) (h : wpStill P ops w Q rest (a.put o.dst v)) : wpStill P ops w Q (o :: rest) a :=
  wpStill_step fun K hK => by
    rw [if_pos hw]
    unfold Oper.still
    rw [hr, Oper.stillUpon_value]
    exact hK _ h
theorem run_neqsOp {T T' : TypeId} {x y : Operand} {s t : ByteArray} {b : Bool} (ho : o.op = .binOp .neq T x y T') (hx : a.eval x = .string s) (hy : a.eval y = .string t) (hb : (s.toList == t.toList) = b) :
    (execOp a.eval o).run P w = .ok (.value (.bool (!b))) w := by
  have hg : (eqGuard .neq T x y (.string s) (.string t)).run P w = .ok () w := by simp [eqGuard, Sem.run_bind]
  have hr : (binOp .neq T (.string s) (.string t)).run P w = .ok (.bool (!(s.toList == t.toList))) w := by
    simp [binOp, Op.stringOp, beq_toListBytes]
  unfold execOp
  simp only [ho, hx, hy, Sem.run_bind, Sem.run_pure, Result.andThen_ok, hg, hr, hb]
end
theorem str_falseN {xs ys : List Nat} (hx : ∀ x ∈ xs, x < 256) (hy : ∀ y ∈ ys, y < 256) (h : xs ≠ ys) : ((strN xs).toList == (strN ys).toList) = false := by
  rw [strEq hx hy]; simpa using h
theorem getD_memL {xss : List (List Nat)} {i : Nat} (h : i < xss.length) : xss.getD i [] ∈ xss := by
  rw [List.getD_eq_getElem?_getD, List.getElem?_eq_getElem h]; exact List.getElem_mem h
set_option maxRecDepth 100000 in
set_option maxHeartbeats 8000000 in
theorem sameS_c (xss yss : List (List Nat)) (a b : Option Addr) (c d : Nat) (hx : xss.length ≤ 9223372036854775807) (hy : yss.length ≤ 9223372036854775807) (bx : ∀ xs ∈ xss, ∀ x ∈ xs, x < 256) (by_ : ∀ xs ∈ yss, ∀ x ∈ xs, x < 256) (w : World) (hs : SlS w a xss) (ht : SlS w b yss) :
    Calls Try.prog 17 #[.slice a xss.length c, .slice b yss.length d] w fun e w' => e = .returned (.bool (decide (xss = yss))) ∧ Below w.heap.size w w' := by
  by_cases hl : xss.length = yss.length
  · obtain ⟨n, HN⟩ : ∃ n, Hid (xss.length = n) := ⟨_, Lib.hid rfl⟩
    have HM : Hid (yss.length = n) := Lib.hid (hl.symm.trans HN.out)
    have HQ : Hid (∀ b : Bool, (b = true ↔ xss = yss) → b = decide (xss = yss)) := Lib.hid fun b hb => by
      rw [Bool.eq_iff_iff, hb, decide_eq_true_iff]
    clear hl
    rw [HN.out, HM.out]
    rw [HN.out] at hx
    have hd3 : ((n : Int) != (n : Int)) = false := by simp
    clear hy
    generalize decide (xss = yss) = R at *
    go_enter Try.func17, Try.ntmps17
    go_wp2
    go_loopw [5] (fun t wr => ∃ i : Nat, i ≤ n ∧ t = .int .i64 (i : Int) ∧ (∀ j, j < i → xss.getD j [] = yss.getD j []) ∧ Below w.heap.size w wr) (fun t wr => n - (intOf t).toNat)
    case atStart => exact ⟨0, by omega, rfl, fun j hj => by omega, Below.refl _ _⟩
    case round =>
      obtain ⟨i, hi, rfl, hall, hbel⟩ := hrel
      by_cases hlt : i < n
      · have hlx : i < xss.length := by rw [HN.out]; exact hlt
        have hly : i < yss.length := by rw [HM.out]; exact hlt
        obtain ⟨g, off, ai, ci, rfl, hg, hc1, hsl, hnil⟩ := (hs.below hbel) i hlx
        obtain ⟨g', off', ai', ci', rfl, hg', hc1', hsl', hnil'⟩ := (ht.below hbel) i hly
        have hd1 : decide ((i : Int) < (n : Int)) = true := by simp; omega
        have b1 := bx _ (getD_memL hlx)
        have b2 := by_ _ (getD_memL hly)
        have HA := Lib.hid hall
        clear hall
        by_cases he : xss.getD i [] = yss.getD i []
        · have st : ((strN (xss.getD i [])).toList == (strN (yss.getD i [])).toList) = true := strEq_same he
          have HE := Lib.hid he
          clear he
          have HA2 : Hid (∀ j, j < i + 1 → xss.getD j [] = yss.getD j []) := Lib.hid fun j hj => by
            by_cases e : j = i
            · subst e; exact HE.out
            · exact HA.out j (by omega)
          generalize xss.getD i [] = x at hsl st hc1
          generalize yss.getD i [] = y at hsl' st hc1'
          go_upto_region 6 with fail
          refine wp_region_still_tail 10 (by kernel_rfl) (by kernel_rfl) ?_
          simp only [List.take_succ_cons, List.take_zero, List.drop_succ_cons, List.drop_zero]
          iterate 4 still_step
          refine wpStill_val rfl (run_convSl Try.underlying22 Try.underlying5 Try.underlying9 rfl rfl hsl) ?_
          iterate 4 still_step
          refine wpStill_val rfl (run_convSl Try.underlying22 Try.underlying5 Try.underlying9 rfl rfl hsl') ?_
          refine wpStill_nil ?_
          change wpList _ _ _ _ _ wr.drew
          refine wpList_valG rfl (run_neqsOp rfl rfl rfl st) ?_
          clear st hsl hsl'
          (try simp only [Act.put, List.setIfInBounds_toArray, List.set_cons_zero, List.set_cons_succ, World.size_alloc, setRow_size, Nat.add_assoc, Nat.reduceAdd])
          go_wp2
          exact ⟨⟨i + 1, by omega, by go_num, HA2.out, hbel.drew⟩, by simp [intOf] <;> omega⟩
        · have st : ((strN (xss.getD i [])).toList == (strN (yss.getD i [])).toList) = false := str_falseN b1 b2 he
          have HF := Lib.hid (HQ.out false ⟨fun h => by (cases h), fun h => absurd (by rw [h]) he⟩)
          clear he
          generalize xss.getD i [] = x at hsl st hc1
          generalize yss.getD i [] = y at hsl' st hc1'
          go_upto_region 6 with fail
          refine wp_region_still_tail 10 (by kernel_rfl) (by kernel_rfl) ?_
          simp only [List.take_succ_cons, List.take_zero, List.drop_succ_cons, List.drop_zero]
          iterate 4 still_step
          refine wpStill_val rfl (run_convSl Try.underlying22 Try.underlying5 Try.underlying9 rfl rfl hsl) ?_
          iterate 4 still_step
          refine wpStill_val rfl (run_convSl Try.underlying22 Try.underlying5 Try.underlying9 rfl rfl hsl') ?_
          refine wpStill_nil ?_
          change wpList _ _ _ _ _ wr.drew
          refine wpList_valG rfl (run_neqsOp rfl rfl rfl st) ?_
          clear st hsl hsl'
          (try simp only [Act.put, List.setIfInBounds_toArray, List.set_cons_zero, List.set_cons_succ, World.size_alloc, setRow_size, Nat.add_assoc, Nat.reduceAdd])
          go_wp2
          go_ret
          exact ⟨by rw [← HF.out]; rfl, hbel.drew⟩
      · obtain rfl : i = n := by omega
        have hd1 : decide ((i : Int) < (i : Int)) = false := by simp
        have HF := Lib.hid (HQ.out true ⟨fun _ => List.ext_getElem? fun j => by
          by_cases hj : j < i
          · have h1 := hall j hj
            rw [List.getD_eq_getElem?_getD, List.getD_eq_getElem?_getD, List.getElem?_eq_getElem (by rw [HN.out]; exact hj), List.getElem?_eq_getElem (by rw [HM.out]; exact hj)] at h1
            rw [List.getElem?_eq_getElem (by rw [HN.out]; exact hj), List.getElem?_eq_getElem (by rw [HM.out]; exact hj)]
            exact congrArg some h1
          · rw [List.getElem?_eq_none (by rw [HN.out]; omega), List.getElem?_eq_none (by rw [HM.out]; omega)], fun _ => rfl⟩)
        clear hall
        go_wp2
        go_ret
        exact ⟨by rw [← HF.out]; rfl, hbel⟩
  · rw [decide_eq_false (fun h => hl (by rw [h]))]
    have hd3 : ((xss.length : Int) != (yss.length : Int)) = true := by simp; omega
    generalize xss.length = n at *
    generalize yss.length = m at *
    go_enter Try.func17, Try.ntmps17
    go_wp2
    go_ret
    exact ⟨rfl, Below.refl _ _⟩
theorem run_cells {P : Program} {o : Oper} {a : Act} {w : World} {T e g i : Nat} {x : Operand} {v : Value} (ho : o.op = .load T x) (hx : a.eval x = .pointer (some ⟨g, i, none⟩)) (hT : P.underlying T = some (.slice e)) (hc : w.cell? ⟨g, i, none⟩ = some v) :
    (execOp a.eval o).run P w = .ok (.value v) w := by
  unfold execOp
  simp only [ho, hx, Instr.loadAt, Instr.sureAddr, Sem.run_bind, Sem.run_pure, Result.andThen_ok]
  simp [loadVar, isAgg, run_underlying hT, hc, go_sem]
set_option maxRecDepth 100000 in
set_option maxHeartbeats 8000000 in
theorem same22_c (z z' : Int) (xs ys : List Nat) (xss yss : List (List Nat)) (a1 a2 b1 b2 : Option Addr) (c1 c2 d1 d2 : Nat) (hz : (Lit.int .i64 z).wf = true) (hz' : (Lit.int .i64 z').wf = true) (hx : xss.length ≤ 9223372036854775807) (hy : yss.length ≤ 9223372036854775807) (bx : ∀ xs ∈ xss, ∀ x ∈ xs, x < 256) (by_ : ∀ xs ∈ yss, ∀ x ∈ xs, x < 256) (nx : ∀ x ∈ xs, x < 256) (ny : ∀ x ∈ ys, x < 256) (w : World) (s1 : Sl w a1 .u8 xs) (s2 : Sl w b1 .u8 ys) (hs : SlS w a2 xss) (ht : SlS w b2 yss) :
    Calls Try.prog 13 #[.agg (ctxC z a1 a2 c1 c2 xs xss), .agg (ctxC z' b1 b2 d1 d2 ys yss)] w fun e w' => e = .returned (.bool (decide (z = z' ∧ xs = ys ∧ xss = yss))) ∧ Below w.heap.size w w' := by
  have B1 := (Blk.new w 25 (ctxC z a1 a2 c1 c2 xs xss)).alloc (.cells (ctxC z' b1 b2 d1 d2 ys yss) 25)
  have B2 := Blk.new (w.alloc (.cells (ctxC z a1 a2 c1 c2 xs xss) 25)) 25 (ctxC z' b1 b2 d1 d2 ys yss)
  rw [World.size_alloc] at B2
  have hbel := ((Below.refl w.heap.size w).alloc (Nat.le_refl _) (.cells (ctxC z a1 a2 c1 c2 xs xss) 25)).alloc (by simp) (.cells (ctxC z' b1 b2 d1 d2 ys yss) 25)
  have HQ : Hid (∀ b : Bool, (b = true ↔ z = z' ∧ xs = ys ∧ xss = yss) → b = decide (z = z' ∧ xs = ys ∧ xss = yss)) := Lib.hid fun b hb => by
    rw [Bool.eq_iff_iff, hb, decide_eq_true_iff]
  generalize decide (z = z' ∧ xs = ys ∧ xss = yss) = R at *
  have k0 : ((w.alloc (.cells (ctxC z a1 a2 c1 c2 xs xss) 25)).alloc (.cells (ctxC z' b1 b2 d1 d2 ys yss) 25)).cell? ⟨w.heap.size, 0, none⟩ = some (.int .i64 z) := by rw [B1.cell]; rfl
  have k1 : ((w.alloc (.cells (ctxC z a1 a2 c1 c2 xs xss) 25)).alloc (.cells (ctxC z' b1 b2 d1 d2 ys yss) 25)).cell? ⟨w.heap.size, 1, none⟩ = some (.slice a1 xs.length c1) := by rw [B1.cell]; rfl
  have k2 : ((w.alloc (.cells (ctxC z a1 a2 c1 c2 xs xss) 25)).alloc (.cells (ctxC z' b1 b2 d1 d2 ys yss) 25)).cell? ⟨w.heap.size, 2, none⟩ = some (.slice a2 xss.length c2) := by rw [B1.cell]; rfl
  have k3 : ((w.alloc (.cells (ctxC z a1 a2 c1 c2 xs xss) 25)).alloc (.cells (ctxC z' b1 b2 d1 d2 ys yss) 25)).cell? ⟨w.heap.size + 1, 0, none⟩ = some (.int .i64 z') := by rw [B2.cell]; rfl
  have k4 : ((w.alloc (.cells (ctxC z a1 a2 c1 c2 xs xss) 25)).alloc (.cells (ctxC z' b1 b2 d1 d2 ys yss) 25)).cell? ⟨w.heap.size + 1, 1, none⟩ = some (.slice b1 ys.length d1) := by rw [B2.cell]; rfl
  have k5 : ((w.alloc (.cells (ctxC z a1 a2 c1 c2 xs xss) 25)).alloc (.cells (ctxC z' b1 b2 d1 d2 ys yss) 25)).cell? ⟨w.heap.size + 1, 2, none⟩ = some (.slice b2 yss.length d2) := by rw [B2.cell]; rfl
  have S1 := s1.below hbel
  have S2 := s2.below hbel
  have S3 := hs.below hbel
  have S4 := ht.below hbel
  have e1 := run_str (P := Try.prog) Try.underlying22 Try.underlying5 Try.underlying9 (c := c1) rfl S1
  have e2 := run_str (P := Try.prog) Try.underlying22 Try.underlying5 Try.underlying9 (c := d1) rfl S2
  go_enter Try.func13, Try.ntmps13
  go_upto_region 1 with fail
  clear B1 B2
  generalize ((w.alloc (.cells (ctxC z a1 a2 c1 c2 xs xss) 25)).alloc (.cells (ctxC z' b1 b2 d1 d2 ys yss) 25)) = w1 at *
  by_cases hzz : z = z'
  · by_cases hxx : xs = ys
    · have st : ((strN xs).toList == (strN ys).toList) = true := strEq_same hxx
      have hd0 : (z == z') = true := by simp [hzz]
      have HR := Lib.hid (HQ.out (decide (xss = yss)) (by simp [hzz, hxx]))
      clear hxx hzz
      go_wp2_with fail
      refine (sameS_c xss yss a2 b2 c2 d2 hx hy bx by_ _ S3 S4).mono ?_
      rintro e w2 ⟨rfl, hb2⟩
      rw [HR.out]
      clear e1 e2
      go_wp2_with fail
      go_ret
      exact ⟨rfl, bCall hbel hb2 hbel.size⟩
    · have st : ((strN xs).toList == (strN ys).toList) = false := str_falseN nx ny hxx
      have hd0 : (z == z') = true := by simp [hzz]
      have HR := Lib.hid (HQ.out false ⟨fun h => (by cases h), fun h => absurd h.2.1 hxx⟩)
      clear hxx hzz
      go_wp2
      go_ret
      exact ⟨by rw [← HR.out]; rfl, hbel⟩
  · have hd0 : (z == z') = false := by simp [hzz]
    have HR := Lib.hid (HQ.out false ⟨fun h => (by cases h), fun h => absurd h.1 hzz⟩)
    clear hzz
    go_wp2
    go_ret
    exact ⟨by rw [← HR.out]; rfl, hbel⟩
def en22 : List Nat := [16, 0, 0, 0, 0, 0, 0, 0, 0, 1, 0, 0, 0, 0, 0, 0, 0, 7]
theorem en22_c : encC 16 [7] [] = en22 := by decide
set_option maxRecDepth 100000 in
set_option maxHeartbeats 8000000 in
theorem awake22_c (w : World) : Calls Try.prog 14 #[] w fun e w' => e = .returned (.bool true) ∧ Below w.heap.size w w' := by
  have hbel := (Below.refl w.heap.size w).alloc (Nat.le_refl _) (.cells #[.int .u8 7] 5)
  have h7 : Sl (w.alloc (.cells #[.int .u8 7] 5)) (some ⟨w.heap.size, 0, none⟩) .u8 [7] := Sl.blk (Blk.new w 5 (ints .u8 [7]))
  go_enter Try.func14, Try.ntmps14
  go_wp2_with fail
  have henc := encode22_c 16 [7] [] (some ⟨w.heap.size, 0, none⟩) none 1 0 (by omega) (by simp) (by simp) (by simp [putL]) (fun h => by cases h) (w.alloc (.cells #[.int .u8 7] 5)) h7 (fun i hi => by simp at hi)
  rw [en22_c] at henc
  refine henc.mono ?_
  rintro e w2 ⟨v, rfl, hown, hb2⟩
  have hbel2 := bCall hbel hb2 hbel.size
  obtain ⟨g, c, rfl, -, hg, hsl, -, -⟩ := hown.sl2 (by simp [en22])
  have d0 := hsl.eq (i := 0) (by decide)
  have d9 := hsl.eq (i := 9) (by decide)
  have d17 := hsl.eq (i := 17) (by decide)
  rw [show en22.getD 0 0 = 16 from rfl, Nat.zero_add] at d0
  rw [show en22.getD 9 0 = 1 from rfl, Nat.zero_add] at d9
  rw [show en22.getD 17 0 = 7 from rfl, Nat.zero_add] at d17
  rw [show en22.length = 18 from rfl]
  clear henc hown hsl
  go_wp2
  go_ret
  exact ⟨rfl, hbel2⟩
end Go.Proofs.Ythfkfbabjfogeaa
