/- The walk of wringerref08's functions, and of wringerlaw08's helpers. No condition but that bytes are below 256 and rows shorter than 2^31. -/
import Derived.Test.YtolfngmpoafaaaaW8f
namespace Go.Proofs.Ytolfngmpoafaaaa
set_option linter.unusedSimpArgs false
set_option linter.unusedVariables false
set_option linter.unusedSectionVars false
set_option linter.unusedVariables false
open Go.RowKit
/-- A key clamped so far. -/
def clR (k : Nat) (key : List Nat) : List Nat := (List.range 16).map fun j => if j < k then clampB j (key.getD j 0) else key.getD j 0
theorem clR_len (k : Nat) (key : List Nat) : (clR k key).length = 16 := by simp [clR]
theorem clR_zero {key : List Nat} (h : key.length = 16) : clR 0 key = key := by
  match key, h with
  | [a, b, c, d, e, f, g, i, j, k, l, m, n, o, p, q], _ => rfl
theorem clR_all (key : List Nat) : clR 16 key = clampL key := by
  apply List.map_congr_left
  intro i hi
  rw [if_pos (List.mem_range.1 hi)]
theorem clR_get (key : List Nat) {k : Nat} (hk : k < 16) : (clR k key).getD k 0 = key.getD k 0 := by
  unfold clR
  rw [List.getD_eq_getElem?_getD, List.getElem?_map, List.getElem?_range hk, Option.map_some, if_neg (by omega)]; rfl
theorem clR_set (key : List Nat) {k v : Nat} (hk : k < 16) (hv : v = clampB k (key.getD k 0)) : (clR k key).set k v = clR (k + 1) key := by
  subst hv
  apply List.ext_getElem? fun j => ?_
  by_cases hj : j < 16
  · by_cases e : k = j
    · subst e
      rw [List.getElem?_set_self (by rw [clR_len]; exact hk)]
      unfold clR
      rw [List.getElem?_map, List.getElem?_range hk, Option.map_some, if_pos (by omega)]
    · rw [List.getElem?_set_ne e]
      unfold clR
      rw [List.getElem?_map, List.getElem?_map, List.getElem?_range hj, Option.map_some, Option.map_some]
      by_cases h : j < k
      · rw [if_pos h, if_pos (by omega)]
      · rw [if_neg h, if_neg (by omega)]
  · rw [List.getElem?_eq_none (by simp [clR_len]; omega), List.getElem?_eq_none (by simp [clR_len]; omega)]
theorem clR_skip (key : List Nat) {k : Nat} (hk : k < 16) (hv : clampB k (key.getD k 0) = key.getD k 0) : clR k key = clR (k + 1) key := by
  rw [← clR_set key hk rfl, hv, ← clR_get key hk]
  apply List.ext_getElem? fun j => ?_
  by_cases e : k = j
  · subst e
    rw [List.getElem?_set_self (by rw [clR_len]; exact hk), getD_lt (by rw [clR_len]; exact hk)]
  · rw [List.getElem?_set_ne e]
set_option maxRecDepth 100000 in
set_option maxHeartbeats 8000000 in
theorem rclamp_c (key : List Nat) (hl : key.length = 16) (hb : ∀ x ∈ key, x < 256) (w : World) :
    Calls Try.prog 64 #[.agg (ints .u8 key)] w fun e w' => e = .returned (.agg (ints .u8 (clampL key))) ∧ Below w.heap.size w w' := by
  have B0 := (Blk.new w 35 (ints .u8 key)).alloc (.cells (ints .u8 (zeros 16)) 35)
  have B1 := Blk.new (w.alloc (.cells (ints .u8 key) 35)) 35 (ints .u8 (zeros 16))
  rw [World.size_alloc] at B1
  have hbel := ((Below.refl w.heap.size w).alloc (Nat.le_refl _) (.cells (ints .u8 key) 35)).alloc (by simp) (.cells (ints .u8 (zeros 16)) 35)
  go_enter Try.func64, Try.ntmps64
  go_wp2_with (refine wpList_alloc_ints rfl 35 rfl Try.z35 ?_; (try simp only [Act.put, List.setIfInBounds_toArray, List.set_cons_zero, List.set_cons_succ, World.size_alloc, setRow_size, Nat.add_assoc, Nat.reduceAdd]))
  generalize ((w.alloc (.cells (ints .u8 key) 35)).alloc (.cells (ints .u8 (zeros 16)) 35)) = w1 at *
  go_loopw [3] (fun t wr => ∃ i : Nat, i ≤ 16 ∧ t = .int .i64 (i : Int) ∧ Blk wr w.heap.size 35 (ints .u8 (clR i key)) ∧ Blk wr (w.heap.size + 1) 35 (ints .u8 (zeros 16)) ∧ Below w.heap.size w wr) (fun t wr => 16 - (intOf t).toNat)
  case atStart => exact ⟨0, by omega, rfl, by rw [clR_zero hl]; exact B0, B1, hbel⟩
  case round =>
    obtain ⟨i, hi, rfl, C0, C1, hbelr⟩ := hrel
    clear B0 B1 hbel
    by_cases hlt : i < 16
    · have hkl := clR_len i key
      have c0 := C0.int (i := i) (by omega)
      have z0 := C0.frozen i
      rw [clR_get key hlt] at c0
      have vx := getD_bound hb (by omega) i
      have HS : Hid (∀ v, v = clampB i (key.getD i 0) → Blk (wr.setCell ⟨w.heap.size, i, none⟩ (.int .u8 v)) w.heap.size 35 (ints .u8 (clR (i + 1) key))) := Lib.hid fun v hv => by
        have := C0.intSet i v
        rwa [clR_set key hlt hv] at this
      have HK : Hid (clampB i (key.getD i 0) = key.getD i 0 → Blk wr w.heap.size 35 (ints .u8 (clR (i + 1) key))) := Lib.hid fun hv => by
        rw [← clR_skip key hlt hv]; exact C0
      clear hkl hi
      obtain ⟨j, hj⟩ : ∃ j, j = i + 1 := ⟨_, rfl⟩
      rw [← hj] at HS HK
      have HJ := Lib.hid hj
      clear hj
      generalize key.getD i 0 = x at *
      have hcases : i = 3 ∨ i = 7 ∨ i = 11 ∨ i = 15 ∨ i = 4 ∨ i = 8 ∨ i = 12 ∨ i = 0 ∨ i = 1 ∨ i = 2 ∨ i = 5 ∨ i = 6 ∨ i = 9 ∨ i = 10 ∨ i = 13 ∨ i = 14 := by omega
      rcases hcases with rfl | rfl | rfl | rfl | rfl | rfl | rfl | rfl | rfl | rfl | rfl | rfl | rfl | rfl | rfl | rfl
      all_goals go_wp2
      all_goals first
        | (rw [show (x : Int) % 16 = ((x % 16 : Nat) : Int) by omega]; exact ⟨⟨j, by have := HJ.out; omega, by rw [HJ.out]; rfl, HS.out _ rfl, C1.far (by first | omega | (simp; done) | (simp; omega)) _, hbelr.setCell (by first | omega | (simp; done) | (simp; omega)) _⟩, by simp [intOf]⟩)
        | (rw [show (x : Int) / 4 * 4 = ((x / 4 * 4 : Nat) : Int) by omega]; exact ⟨⟨j, by have := HJ.out; omega, by rw [HJ.out]; rfl, HS.out _ rfl, C1.far (by first | omega | (simp; done) | (simp; omega)) _, hbelr.setCell (by first | omega | (simp; done) | (simp; omega)) _⟩, by simp [intOf]⟩)
        | exact ⟨⟨j, by have := HJ.out; omega, by rw [HJ.out]; rfl, HK.out rfl, C1, hbelr⟩, by simp [intOf]⟩
    · obtain rfl : i = 16 := by omega
      clear hlt
      rw [clR_all] at C0
      have hcl := clampL_len key
      go_wp2_with (first | (refine wpList_load_ints rfl 35 _ rfl w.heap.size rfl C0 Try.ar35 hcl ?_; (try simp only [Act.put, List.setIfInBounds_toArray, List.set_cons_zero, List.set_cons_succ, World.size_alloc, setRow_size, Nat.add_assoc, Nat.reduceAdd])) | (refine wpList_store_ints rfl 35 _ _ rfl (w.heap.size + 1) rfl rfl C1 (zeros_size _ _) Try.ar35 hcl ?_; (try simp only [Act.put, List.setIfInBounds_toArray, List.set_cons_zero, List.set_cons_succ, World.size_alloc, setRow_size, Nat.add_assoc, Nat.reduceAdd])))
      exact ret_ints rfl rfl (C1.row _) Try.ar35 hcl ⟨rfl, bSetRow hbelr (by omega) _⟩
theorem rp_step (r v c : Nat) (hr : r < pp) (hv : v < pp) : restOf (((le (restOf ((le (restOf v) + le (restOf (c % pp))) % pp))) * le (restOf (r % pp))) % pp) = restOf ((v + c) * r % pp) := by
  have h17 := pp_lt17
  rw [le_restOf (v := v) (by omega), le_restOf (v := c % pp) (by have := Nat.mod_lt c pp_pos; omega), le_restOf (v := (v + c % pp) % pp) (by have := Nat.mod_lt (v + c % pp) pp_pos; omega), le_restOf (v := r % pp) (by have := Nat.mod_lt r pp_pos; omega)]
  rw [Nat.add_mod v (c % pp), Nat.mod_mod, ← Nat.add_mod, ← Nat.mul_mod]
theorem chunk_take (bs : List Nat) (i : Nat) : chunkN bs i = le ((bs.drop (16 * i)).take 16 ++ [1]) := rfl
set_option maxRecDepth 100000 in
set_option maxHeartbeats 8000000 in
theorem rvalue8_c (key b : List Nat) (hl : key.length = 16) (hb : ∀ x ∈ key, x < 256) (hbb : ∀ x ∈ b, x < 256) (hbl : b.length < 2 ^ 31) (ad : Option Addr) (c : Nat) (w : World) (hs0 : Sl w ad .u8 b) :
    Calls Try.prog 52 #[.agg (ints .u8 key), .slice ad b.length c] w fun e w' => e = .returned (.agg (ints .u8 (restOf (polyA key b)))) ∧ Below w.heap.size w w' := by
  have K0 := (Blk.new w 35 (ints .u8 key)).alloc (.cells (ints .u8 (zeros 17)) 91)
  have R0 := Blk.new (w.alloc (.cells (ints .u8 key) 35)) 91 (ints .u8 (zeros 17))
  rw [World.size_alloc] at R0
  have hbel := ((Below.refl w.heap.size w).alloc (Nat.le_refl _) (.cells (ints .u8 key) 35)).alloc (by simp) (.cells (ints .u8 (zeros 17)) 91)
  have hs1 := hs0.below hbel
  have hof := fun W => rof_c (clampL key) (clampL_len key) (clampL_lt hb) 0 (by omega) W
  have HBY : Hid (restOf (ofN (clampL key) 0 % pp) = restOf (byN key % pp)) := Lib.hid rfl
  go_enter Try.func52, Try.ntmps52
  go_wp2_with (first | (refine wpList_alloc_ints rfl 91 rfl Try.z91 ?_; (try simp only [Act.put, List.setIfInBounds_toArray, List.set_cons_zero, List.set_cons_succ, World.size_alloc, setRow_size, Nat.add_assoc, Nat.reduceAdd])) | (refine wpList_load_ints rfl 35 _ rfl w.heap.size rfl K0 Try.ar35 hl ?_; (try simp only [Act.put, List.setIfInBounds_toArray, List.set_cons_zero, List.set_cons_succ, World.size_alloc, setRow_size, Nat.add_assoc, Nat.reduceAdd])))
  generalize ((w.alloc (.cells (ints .u8 key) 35)).alloc (.cells (ints .u8 (zeros 17)) 91)) = w1 at *
  have hr0 := R0.lt
  refine (rclamp_c key hl hb _).mono ?_
  rintro e w2 ⟨rfl, hb2⟩
  have R2 := R0.below' hb2
  have hs2 := hs1.below hb2
  have hbel2 := bCall hbel hb2 hbel.size
  clear K0 R0 hs1 hbel
  go_wp2_with fail
  refine (hof _).mono ?_
  rintro e w3 ⟨rfl, hb3⟩
  rw [HBY.out]
  have hz3 := hb3.size
  have hr2 := R2.lt
  have Y4 := Blk.new w3 91 (ints .u8 (zeros 17))
  have Y5 := (Y4.row (ints .u8 (restOf (byN key % pp)))).alloc (.cells (ints .u8 (zeros 17)) 91)
  have R3 := (((R2.below' hb3).alloc (.cells (ints .u8 (zeros 17)) 91)).rowFar (show w.heap.size + 1 ≠ w3.heap.size by omega) (ints .u8 (restOf (byN key % pp)))).alloc (.cells (ints .u8 (zeros 17)) 91)
  have V5 := Blk.new ((w3.alloc (.cells (ints .u8 (zeros 17)) 91)).setRow w3.heap.size (ints .u8 (restOf (byN key % pp)))) 91 (ints .u8 (zeros 17))
  rw [setRow_size, World.size_alloc] at V5
  have hbel5 := (bSetRow ((bCall hbel2 hb3 hbel2.size).alloc (by have := hbel2.size; omega) (.cells (ints .u8 (zeros 17)) 91)) (show w.heap.size ≤ w3.heap.size by omega) (ints .u8 (restOf (byN key % pp)))).alloc (by rw [setRow_size, World.size_alloc]; omega) (.cells (ints .u8 (zeros 17)) 91)
  have hs5 := hs0.below (hbel5)
  go_wp2_with (first | (refine wpList_alloc_ints rfl 91 rfl Try.z91 ?_; (try simp only [Act.put, List.setIfInBounds_toArray, List.set_cons_zero, List.set_cons_succ, World.size_alloc, setRow_size, Nat.add_assoc, Nat.reduceAdd])) | (refine wpList_store_ints (k := .u8) (xs := restOf (byN key % pp)) rfl 91 _ _ rfl w3.heap.size rfl rfl Y4 (zeros_size _ _) Try.ar91 (restOf_len _) ?_; (try simp only [Act.put, List.setIfInBounds_toArray, List.set_cons_zero, List.set_cons_succ, World.size_alloc, setRow_size, Nat.add_assoc, Nat.reduceAdd])))
  generalize (((w3.alloc (.cells (ints .u8 (zeros 17)) 91)).setRow w3.heap.size (ints .u8 (restOf (byN key % pp)))).alloc (.cells (ints .u8 (zeros 17)) 91)) = w5 at *
  have hw3 : w.heap.size + 1 < w3.heap.size := by omega
  have hv5 := V5.lt
  clear hb3 hz3 hs2 hbel2 hb2 R2 hr2 hr0 Y4
  generalize w3.heap.size = y at *
  obtain ⟨N, HN⟩ : ∃ N, Hid (b.length = N) := ⟨_, Lib.hid rfl⟩
  rw [HN.out] at hbl ⊢
  have HA : Hid (restOf (polyA key b) = restOf (polyV (byN key) 0 b (chunks N))) := Lib.hid (by unfold polyA; rw [HN.out])
  have hby := byN_lt hb
  have hpy : restOf (polyV (byN key) 0 b 0) = zeros 17 := by show restOf (0 % pp) = _; decide
  obtain ⟨r, HR⟩ : ∃ r, Hid (byN key = r) := ⟨_, Lib.hid rfl⟩
  rw [HR.out] at hby hpy Y5 HA ⊢
  have hchk : N ≤ 16 * chunks N ∧ 16 * chunks N < N + 16 := by unfold chunks; omega
  generalize chunks N = M at *
  go_loopw [7] (fun t wr => ∃ i : Nat, i ≤ M ∧ t = .int .i64 ((16 * i : Nat) : Int) ∧ Blk wr y 91 (ints .u8 (restOf (r % pp))) ∧ Blk wr (y + 1) 91 (ints .u8 (restOf (polyV r 0 b i))) ∧ Blk wr (w.heap.size + 1) 91 (ints .u8 (zeros 17)) ∧ Below w.heap.size w wr) (fun t wr => N + 16 - (intOf t).toNat)
  case atStart => exact ⟨0, by omega, rfl, Y5, by rw [hpy]; exact V5, R3, hbel5⟩
  case round =>
    obtain ⟨i, hi, rfl, C0, C1, C2, hbelr⟩ := hrel
    clear Y5 R3 V5 hbel5 hs5 hv5 hpy
    by_cases hlt : i < M
    · have hlt16 : 16 * i < N := by omega
      have hd0 : decide (((16 * i : Nat) : Int) < (N : Int)) = true := by simp; omega
      have hsr := hs0.below hbelr
      have hsz := C1.lt
      obtain ⟨s, Hs⟩ : ∃ s, Hid (16 * i = s) := ⟨_, Lib.hid rfl⟩
      have HCH := Lib.hid (show chunkN b i = le ((b.drop s).take 16 ++ [1]) by rw [← Hs.out]; rfl)
      have HV := Lib.hid (polyV_succ r 0 b i)
      have HI1 : Hid (16 * (i + 1) = s + 16) := Lib.hid (by have := Hs.out; omega)
      have hpl := polyV_lt r 0 b i
      rw [Hs.out] at hd0 hlt16 ⊢
      have hST : restOf (le (restOf ((le (restOf (polyV r 0 b i)) + le (restOf (chunkN b i % pp))) % pp)) * le (restOf (r % pp)) % pp) = restOf (polyV r 0 b (i + 1)) := by rw [polyV_succ]; exact rp_step r _ _ hby hpl
      rw [HCH.out] at hST
      have HST := Lib.hid hST
      clear hST
      generalize polyV r 0 b i = V at *
      have hl1 := restOf_len V
      have hl0 := restOf_len (r % pp)
      obtain ⟨B, HB⟩ : ∃ B, Hid (B = wr.heap.size) := ⟨_, Lib.hid rfl⟩
      rw [← HB.out] at hsz
      go_wp2
      go_loopw [8, 9] (fun v t wx => ∃ j : Nat, j ≤ 16 ∧ s + j ≤ N ∧ t = .int .i64 ((s + j : Nat) : Int) ∧ Own wx B 5 .u8 v ((b.drop s).take j) ∧ B ≤ wx.heap.size ∧ Blk wx y 91 (ints .u8 (restOf (r % pp))) ∧ Blk wx (y + 1) 91 (ints .u8 (restOf V)) ∧ Blk wx (w.heap.size + 1) 91 (ints .u8 (zeros 17)) ∧ Below w.heap.size w wx) (fun v t wx => s + 16 - (intOf t).toNat)
      case atStart => exact ⟨0, by omega, by omega, rfl, Own.nil _ _ _ _, by rw [HB.out]; omega, C0, C1, C2, hbelr⟩
      case round =>
        obtain ⟨j, hj, hjN, rfl, hown, hBx, D0, D1, D2, hbelx⟩ := hrel
        clear C0 C1 C2 hbelr hsr
        have hwB : w.heap.size ≤ B := by omega
        by_cases hgo : s + j < N ∧ j < 16
        · obtain ⟨hg1, hg2⟩ := hgo
          obtain ⟨gb, off, rfl, hgb, hcell⟩ := hs0.at_ (i := s + j) (by rw [HN.out]; exact hg1)
          have hcell := (hbelx.cell (p := ⟨gb, off + (s + j), none⟩) hgb).trans hcell
          have hx := getD_bound hbb (by omega) (s + j)
          have Htk : Hid ((b.drop s).take (j + 1) = (b.drop s).take j ++ [b.getD (s + j) 0]) := Lib.hid (by
            rw [List.take_add_one, List.getElem?_drop, getD_lt (by rw [HN.out]; exact hg1)]; rfl)
          have hll : ((b.drop s).take j).length < 2 ^ 40 := by rw [List.length_take]; omega
          generalize b.getD (s + j) 0 = x at *
          generalize (b.drop s).take j = os at *
          obtain ⟨p, hp⟩ : ∃ p, p = s + j := ⟨_, rfl⟩
          have hd1 : decide ((p : Int) < (N : Int)) = true := by simp; omega
          have hd2 : decide ((p : Int) < (s : Int) + 16) = true := by simp; omega
          rw [← hp] at hcell hg1 hjN ⊢
          have Hp := Lib.hid hp
          clear hp
          go_wp2_with (refine wpList_append_one (n := x) rfl rfl Try.underlying22 u8_inf rfl (by omega) rfl (hown.alloc _) rfl (by simp) hll (by simp; omega) ?_; intro v' w' hown' hgr; have hbel' := bGrown (hbelx.alloc hbelx.size (.cells #[.int .u8 x] 5)) hgr (by simp; omega) (hown.alloc _) hwB; have E0 := (D0.alloc (.cells #[.int .u8 x] 5)).grownOwn hgr (hown.alloc _) (by omega); have E1 := (D1.alloc (.cells #[.int .u8 x] 5)).grownOwn hgr (hown.alloc _) (by omega); have E2 := (D2.alloc (.cells #[.int .u8 x] 5)).grownOwn hgr (hown.alloc _) (by omega); have hsz' := hgr.size; (try simp only [Act.put, List.setIfInBounds_toArray, List.set_cons_zero, List.set_cons_succ, World.size_alloc, setRow_size, Nat.add_assoc, Nat.reduceAdd]))
          exact ⟨⟨j + 1, by omega, by have := Hp.out; omega, by have := Hp.out; go_num, by rw [Htk.out]; exact hown', by simp at hsz'; omega, E0, E1, E2, hbel'⟩, by have := Hp.out; simp [intOf] <;> omega⟩
        · have htk : Hid ((b.drop s).take j = (b.drop s).take 16) := Lib.hid (by
            by_cases h16 : j = 16
            · rw [h16]
            · rw [List.take_of_length_le (by rw [List.length_drop, HN.out]; omega), List.take_of_length_le (by rw [List.length_drop, HN.out]; omega)])
          rw [htk.out] at hown
          have hll : ((b.drop s).take 16).length < 2 ^ 31 := by rw [List.length_take]; omega
          have hcb : ∀ x ∈ (b.drop s).take 16 ++ [1], x < 256 := fun x hx => by
            rcases List.mem_append.1 hx with hx | hx
            · exact hbb x (List.mem_of_mem_drop (List.mem_of_mem_take hx))
            · obtain rfl := List.mem_singleton.1 hx; omega
          have hcl : ((b.drop s).take 16 ++ [1]).length < 2 ^ 40 := by rw [List.length_append]; simp; omega
          obtain ⟨os, hos⟩ : ∃ os, os = (b.drop s).take 16 := ⟨_, rfl⟩
          rw [← hos] at hown hll hcb hcl HST
          clear hos htk
          obtain ⟨p, hp⟩ : ∃ p, p = s + j := ⟨_, rfl⟩
          have hps : p ≤ s + 16 := by omega
          have hgo' : N ≤ p ∨ p < N ∧ p = s + 16 := by omega
          rw [← hp] at hjN ⊢
          clear hp hgo hj
          have hll40 : os.length < 2 ^ 40 := by omega
          have hown1 := hown.alloc (.cells #[.int .u8 1] 5)
          have hbel1 := hbelx.alloc hbelx.size (.cells #[.int .u8 1] 5)
          have E0 := D0.alloc (.cells #[.int .u8 1] 5)
          have E1 := D1.alloc (.cells #[.int .u8 1] 5)
          have E2 := D2.alloc (.cells #[.int .u8 1] 5)
          rcases hgo' with hge | ⟨hlp, hge⟩
          · have hd1 : decide ((p : Int) < (N : Int)) = false := by simp; omega
            have hn1 : ¬ p < N := by omega
            clear hown hbelx D0 D1 D2
            go_wp2_with (refine wpList_append_one (n := 1) rfl rfl Try.underlying22 u8_inf rfl (by omega) rfl hown1 rfl (by simp) hll40 (by simp; omega) ?_; intro v' w' hown' hgr; have hbel' := bGrown hbel1 hgr (by simp; omega) hown1 hwB; have F0 := E0.grownOwn hgr hown1 (by omega); have F1 := E1.grownOwn hgr hown1 (by omega); have F2 := E2.grownOwn hgr hown1 (by omega); (try simp only [Act.put, List.setIfInBounds_toArray, List.set_cons_zero, List.set_cons_succ, World.size_alloc, setRow_size, Nat.add_assoc, Nat.reduceAdd]))
            obtain ⟨av, cv, rfl, hslv, -, -⟩ := hown'.sl
            refine wp_region_last2 6 (by kernel_rfl) (by kernel_rfl) (by kernel_rfl) (by kernel_rfl) (fun D act_ W => ∃ u42 u43 u44 u45 u46 u47 : Value, act_ = { tmps := #[.agg (ints .u8 key), .slice ad N c, .pointer (some ⟨w.heap.size, 0, none⟩), undef, .pointer (some ⟨w.heap.size + 1, 0, none⟩), .pointer (some ⟨y, 0, none⟩), .pointer (some ⟨y + 1, 0, none⟩), .int .i64 (s : Int), .slice av (os ++ [1]).length cv, .int .i64 (p : Int), .agg (ints .u8 key), .agg (ints .u8 (clampL key)), .agg (ints .u8 (restOf (r % pp))), .int .i64 (s : Int), .slice ad N c, .int .i64 (N : Int), .bool true, u17, u18, .int .i64 (s : Int), .int .i64 (p : Int), .slice ad N c, .int .i64 (N : Int), .bool false, .bool false, undef, undef, undef, undef, .bool false, u30, u31, u32, u33, u34, u35, u36, u37, u38, u8, .slice (some ⟨wr.heap.size, 0, none⟩) 1 1, .slice av (os ++ [1]).length cv, u42, u43, u44, u45, u46, u47, undef], defers := [] } ∧ Below w'.heap.size w' W ∧ (D 0 → u42 = .agg (ints .u8 (restOf V))) ∧ (D 1 → u43 = .slice av (os ++ [1]).length cv) ∧ (D 2 → u44 = .agg (ints .u8 (restOf (le (os ++ [1]) % pp)))) ∧ (D 3 → u45 = .agg (ints .u8 (restOf ((le (restOf V) + le (restOf (le (os ++ [1]) % pp))) % pp)))) ∧ (D 4 → u46 = .agg (ints .u8 (restOf (r % pp)))) ∧ (D 5 → u47 = .agg (ints .u8 (restOf (le (restOf ((le (restOf V) + le (restOf (le (os ++ [1]) % pp))) % pp)) * le (restOf (r % pp)) % pp))))) ?_ ?_ ?_
            · exact ⟨_, _, _, _, _, _, rfl, ⟨rfl, rfl, rfl, Nat.le_refl _, fun _ _ => rfl⟩, (fun h => h.elim), (fun h => h.elim), (fun h => h.elim), (fun h => h.elim), (fun h => h.elim), (fun h => h.elim)⟩
            · intro i o hilt hi D act_ W hI hnD hall
              obtain ⟨u42, u43, u44, u45, u46, u47, rfl, hW, f0, f1, f2, f3, f4, f5⟩ := hI
              rcases i with _ | _ | _ | _ | _ | _ | i
              · simp only [Nat.zero_add, Nat.reduceAdd, List.getElem?_toArray, List.getElem?_cons_succ, List.getElem?_cons_zero, Option.some.injEq] at hi
                subst hi
                refine wpOp_load rfl rfl rfl rfl (F1.below' hW) Try.ar91 hl1 ?_
                exact ⟨_, _, _, _, _, _, rfl, hW, (fun _ => rfl), (fun h => f1 (rl h)), (fun h => f2 (rl h)), (fun h => f3 (rl h)), (fun h => f4 (rl h)), (fun h => f5 (rl h))⟩
              · simp only [Nat.zero_add, Nat.reduceAdd, List.getElem?_toArray, List.getElem?_cons_succ, List.getElem?_cons_zero, Option.some.injEq] at hi
                subst hi
                refine wpOp_value (v := .slice av (os ++ [1]).length cv) rfl rfl rfl ?_
                exact ⟨_, _, _, _, _, _, rfl, hW, (fun h => f0 (rl h)), (fun _ => rfl), (fun h => f2 (rl h)), (fun h => f3 (rl h)), (fun h => f4 (rl h)), (fun h => f5 (rl h))⟩
              · simp only [Nat.zero_add, Nat.reduceAdd, List.getElem?_toArray, List.getElem?_cons_succ, List.getElem?_cons_zero, Option.some.injEq] at hi
                subst hi
                obtain rfl := f1 (pre_of hall 1 rfl)
                refine wpOp_call 67 rfl rfl rfl Try.func67 (by kernel_rfl) (by kernel_rfl) (divide_c av cv (os ++ [1]) hcb hcl W (hslv.below hW)) ?_
                intro W' hW'
                exact ⟨_, _, _, _, _, _, rfl, bCall hW hW' hW.size, (fun h => f0 (rl h)), (fun h => f1 (rl h)), (fun _ => rfl), (fun h => f3 (rl h)), (fun h => f4 (rl h)), (fun h => f5 (rl h))⟩
              · simp only [Nat.zero_add, Nat.reduceAdd, List.getElem?_toArray, List.getElem?_cons_succ, List.getElem?_cons_zero, Option.some.injEq] at hi
                subst hi
                obtain rfl := f0 (pre_of hall 0 rfl)
                obtain rfl := f2 (pre_of hall 2 rfl)
                refine wpOp_call 66 rfl rfl rfl Try.func66 (by kernel_rfl) (by kernel_rfl) (rplus_c _ _ (restOf_len _) (restOf_lt _) (restOf_len _) (restOf_lt _) W) ?_
                intro W' hW'
                exact ⟨_, _, _, _, _, _, rfl, bCall hW hW' hW.size, (fun h => f0 (rl h)), (fun h => f1 (rl h)), (fun h => f2 (rl h)), (fun _ => rfl), (fun h => f4 (rl h)), (fun h => f5 (rl h))⟩
              · simp only [Nat.zero_add, Nat.reduceAdd, List.getElem?_toArray, List.getElem?_cons_succ, List.getElem?_cons_zero, Option.some.injEq] at hi
                subst hi
                refine wpOp_load rfl rfl rfl rfl (F0.below' hW) Try.ar91 hl0 ?_
                exact ⟨_, _, _, _, _, _, rfl, hW, (fun h => f0 (rl h)), (fun h => f1 (rl h)), (fun h => f2 (rl h)), (fun h => f3 (rl h)), (fun _ => rfl), (fun h => f5 (rl h))⟩
              · simp only [Nat.zero_add, Nat.reduceAdd, List.getElem?_toArray, List.getElem?_cons_succ, List.getElem?_cons_zero, Option.some.injEq] at hi
                subst hi
                obtain rfl := f3 (pre_of hall 3 rfl)
                obtain rfl := f4 (pre_of hall 4 rfl)
                refine wpOp_call 65 rfl rfl rfl Try.func65 (by kernel_rfl) (by kernel_rfl) (rtimes_c _ _ (restOf_len _) (restOf_lt _) (restOf_len _) (restOf_lt _) W) ?_
                intro W' hW'
                exact ⟨_, _, _, _, _, _, rfl, bCall hW hW' hW.size, (fun h => f0 (rl h)), (fun h => f1 (rl h)), (fun h => f2 (rl h)), (fun h => f3 (rl h)), (fun h => f4 (rl h)), (fun _ => rfl)⟩
              · exfalso; omega
            · rintro D act_ W ⟨u42, u43, u44, u45, u46, u47, rfl, hW, f0, f1, f2, f3, f4, f5⟩ hall
              obtain rfl := f0 (hall 0 (by decide))
              obtain rfl := f1 (hall 1 (by decide))
              obtain rfl := f2 (hall 2 (by decide))
              obtain rfl := f3 (hall 3 (by decide))
              obtain rfl := f4 (hall 4 (by decide))
              obtain rfl := f5 (hall 5 (by decide))
              clear f0 f1 f2 f3 f4 f5 hall
              rw [HST.out]
              have G1 := F1.below' hW
              have G0 := (F0.below' hW).rowFar (show y ≠ y + 1 by omega) (ints .u8 (restOf (polyV r 0 b (i + 1))))
              have G2 := (F2.below' hW).rowFar (show w.heap.size + 1 ≠ y + 1 by omega) (ints .u8 (restOf (polyV r 0 b (i + 1))))
              have hbel6 := bSetRow (bCall hbel' hW hbel'.size) (show w.heap.size ≤ y + 1 by omega) (ints .u8 (restOf (polyV r 0 b (i + 1))))
              refine wpOp_store rfl rfl rfl rfl rfl G1 ((ints_size _ _).trans hl1) Try.ar91 (restOf_len _) ?_
              have G1' := G1.row (ints .u8 (restOf (polyV r 0 b (i + 1))))
              go_wp2
              exact ⟨⟨i + 1, by omega, by rw [HI1.out]; go_num, G0, G1', G2, hbel6⟩, by simp [intOf] <;> omega⟩
          · have hd1 : decide ((p : Int) < (N : Int)) = true := by simp; omega
            have hd2 : decide ((p : Int) < (s : Int) + 16) = false := by simp; omega
            have hn1 : ¬ p < s + 16 := by omega
            clear hown hbelx D0 D1 D2 hge
            go_wp2_with (refine wpList_append_one (n := 1) rfl rfl Try.underlying22 u8_inf rfl (by omega) rfl hown1 rfl (by simp) hll40 (by simp; omega) ?_; intro v' w' hown' hgr; have hbel' := bGrown hbel1 hgr (by simp; omega) hown1 hwB; have F0 := E0.grownOwn hgr hown1 (by omega); have F1 := E1.grownOwn hgr hown1 (by omega); have F2 := E2.grownOwn hgr hown1 (by omega); (try simp only [Act.put, List.setIfInBounds_toArray, List.set_cons_zero, List.set_cons_succ, World.size_alloc, setRow_size, Nat.add_assoc, Nat.reduceAdd]))
            obtain ⟨av, cv, rfl, hslv, -, -⟩ := hown'.sl
            refine wp_region_last2 6 (by kernel_rfl) (by kernel_rfl) (by kernel_rfl) (by kernel_rfl) (fun D act_ W => ∃ u42 u43 u44 u45 u46 u47 : Value, act_ = { tmps := #[.agg (ints .u8 key), .slice ad N c, .pointer (some ⟨w.heap.size, 0, none⟩), undef, .pointer (some ⟨w.heap.size + 1, 0, none⟩), .pointer (some ⟨y, 0, none⟩), .pointer (some ⟨y + 1, 0, none⟩), .int .i64 (s : Int), .slice av (os ++ [1]).length cv, .int .i64 (p : Int), .agg (ints .u8 key), .agg (ints .u8 (clampL key)), .agg (ints .u8 (restOf (r % pp))), .int .i64 (s : Int), .slice ad N c, .int .i64 (N : Int), .bool true, u17, u18, .int .i64 (s : Int), .int .i64 (p : Int), .slice ad N c, .int .i64 (N : Int), .bool true, .bool true, .int .i64 (p : Int), .int .i64 (s : Int), .int .i64 ((s : Int) + 16), .bool false, .bool false, u30, u31, u32, u33, u34, u35, u36, u37, u38, u8, .slice (some ⟨wr.heap.size, 0, none⟩) 1 1, .slice av (os ++ [1]).length cv, u42, u43, u44, u45, u46, u47, undef], defers := [] } ∧ Below w'.heap.size w' W ∧ (D 0 → u42 = .agg (ints .u8 (restOf V))) ∧ (D 1 → u43 = .slice av (os ++ [1]).length cv) ∧ (D 2 → u44 = .agg (ints .u8 (restOf (le (os ++ [1]) % pp)))) ∧ (D 3 → u45 = .agg (ints .u8 (restOf ((le (restOf V) + le (restOf (le (os ++ [1]) % pp))) % pp)))) ∧ (D 4 → u46 = .agg (ints .u8 (restOf (r % pp)))) ∧ (D 5 → u47 = .agg (ints .u8 (restOf (le (restOf ((le (restOf V) + le (restOf (le (os ++ [1]) % pp))) % pp)) * le (restOf (r % pp)) % pp))))) ?_ ?_ ?_
            · exact ⟨_, _, _, _, _, _, rfl, ⟨rfl, rfl, rfl, Nat.le_refl _, fun _ _ => rfl⟩, (fun h => h.elim), (fun h => h.elim), (fun h => h.elim), (fun h => h.elim), (fun h => h.elim), (fun h => h.elim)⟩
            · intro i o hilt hi D act_ W hI hnD hall
              obtain ⟨u42, u43, u44, u45, u46, u47, rfl, hW, f0, f1, f2, f3, f4, f5⟩ := hI
              rcases i with _ | _ | _ | _ | _ | _ | i
              · simp only [Nat.zero_add, Nat.reduceAdd, List.getElem?_toArray, List.getElem?_cons_succ, List.getElem?_cons_zero, Option.some.injEq] at hi
                subst hi
                refine wpOp_load rfl rfl rfl rfl (F1.below' hW) Try.ar91 hl1 ?_
                exact ⟨_, _, _, _, _, _, rfl, hW, (fun _ => rfl), (fun h => f1 (rl h)), (fun h => f2 (rl h)), (fun h => f3 (rl h)), (fun h => f4 (rl h)), (fun h => f5 (rl h))⟩
              · simp only [Nat.zero_add, Nat.reduceAdd, List.getElem?_toArray, List.getElem?_cons_succ, List.getElem?_cons_zero, Option.some.injEq] at hi
                subst hi
                refine wpOp_value (v := .slice av (os ++ [1]).length cv) rfl rfl rfl ?_
                exact ⟨_, _, _, _, _, _, rfl, hW, (fun h => f0 (rl h)), (fun _ => rfl), (fun h => f2 (rl h)), (fun h => f3 (rl h)), (fun h => f4 (rl h)), (fun h => f5 (rl h))⟩
              · simp only [Nat.zero_add, Nat.reduceAdd, List.getElem?_toArray, List.getElem?_cons_succ, List.getElem?_cons_zero, Option.some.injEq] at hi
                subst hi
                obtain rfl := f1 (pre_of hall 1 rfl)
                refine wpOp_call 67 rfl rfl rfl Try.func67 (by kernel_rfl) (by kernel_rfl) (divide_c av cv (os ++ [1]) hcb hcl W (hslv.below hW)) ?_
                intro W' hW'
                exact ⟨_, _, _, _, _, _, rfl, bCall hW hW' hW.size, (fun h => f0 (rl h)), (fun h => f1 (rl h)), (fun _ => rfl), (fun h => f3 (rl h)), (fun h => f4 (rl h)), (fun h => f5 (rl h))⟩
              · simp only [Nat.zero_add, Nat.reduceAdd, List.getElem?_toArray, List.getElem?_cons_succ, List.getElem?_cons_zero, Option.some.injEq] at hi
                subst hi
                obtain rfl := f0 (pre_of hall 0 rfl)
                obtain rfl := f2 (pre_of hall 2 rfl)
                refine wpOp_call 66 rfl rfl rfl Try.func66 (by kernel_rfl) (by kernel_rfl) (rplus_c _ _ (restOf_len _) (restOf_lt _) (restOf_len _) (restOf_lt _) W) ?_
                intro W' hW'
                exact ⟨_, _, _, _, _, _, rfl, bCall hW hW' hW.size, (fun h => f0 (rl h)), (fun h => f1 (rl h)), (fun h => f2 (rl h)), (fun _ => rfl), (fun h => f4 (rl h)), (fun h => f5 (rl h))⟩
              · simp only [Nat.zero_add, Nat.reduceAdd, List.getElem?_toArray, List.getElem?_cons_succ, List.getElem?_cons_zero, Option.some.injEq] at hi
                subst hi
                refine wpOp_load rfl rfl rfl rfl (F0.below' hW) Try.ar91 hl0 ?_
                exact ⟨_, _, _, _, _, _, rfl, hW, (fun h => f0 (rl h)), (fun h => f1 (rl h)), (fun h => f2 (rl h)), (fun h => f3 (rl h)), (fun _ => rfl), (fun h => f5 (rl h))⟩
              · simp only [Nat.zero_add, Nat.reduceAdd, List.getElem?_toArray, List.getElem?_cons_succ, List.getElem?_cons_zero, Option.some.injEq] at hi
                subst hi
                obtain rfl := f3 (pre_of hall 3 rfl)
                obtain rfl := f4 (pre_of hall 4 rfl)
                refine wpOp_call 65 rfl rfl rfl Try.func65 (by kernel_rfl) (by kernel_rfl) (rtimes_c _ _ (restOf_len _) (restOf_lt _) (restOf_len _) (restOf_lt _) W) ?_
                intro W' hW'
                exact ⟨_, _, _, _, _, _, rfl, bCall hW hW' hW.size, (fun h => f0 (rl h)), (fun h => f1 (rl h)), (fun h => f2 (rl h)), (fun h => f3 (rl h)), (fun h => f4 (rl h)), (fun _ => rfl)⟩
              · exfalso; omega
            · rintro D act_ W ⟨u42, u43, u44, u45, u46, u47, rfl, hW, f0, f1, f2, f3, f4, f5⟩ hall
              obtain rfl := f0 (hall 0 (by decide))
              obtain rfl := f1 (hall 1 (by decide))
              obtain rfl := f2 (hall 2 (by decide))
              obtain rfl := f3 (hall 3 (by decide))
              obtain rfl := f4 (hall 4 (by decide))
              obtain rfl := f5 (hall 5 (by decide))
              clear f0 f1 f2 f3 f4 f5 hall
              rw [HST.out]
              have G1 := F1.below' hW
              have G0 := (F0.below' hW).rowFar (show y ≠ y + 1 by omega) (ints .u8 (restOf (polyV r 0 b (i + 1))))
              have G2 := (F2.below' hW).rowFar (show w.heap.size + 1 ≠ y + 1 by omega) (ints .u8 (restOf (polyV r 0 b (i + 1))))
              have hbel6 := bSetRow (bCall hbel' hW hbel'.size) (show w.heap.size ≤ y + 1 by omega) (ints .u8 (restOf (polyV r 0 b (i + 1))))
              refine wpOp_store rfl rfl rfl rfl rfl G1 ((ints_size _ _).trans hl1) Try.ar91 (restOf_len _) ?_
              have G1' := G1.row (ints .u8 (restOf (polyV r 0 b (i + 1))))
              go_wp2
              exact ⟨⟨i + 1, by omega, by rw [HI1.out]; go_num, G0, G1', G2, hbel6⟩, by simp [intOf] <;> omega⟩
    · obtain rfl : i = M := by omega
      have hl1 := restOf_len (polyV r 0 b i)
      have hn0 : ¬ 16 * i < N := by omega
      clear hchk hlt hi
      generalize 16 * i = s at *
      have hd0 : decide ((s : Int) < (N : Int)) = false := by simp; omega
      go_wp2_with (first | (refine wpList_load_ints rfl 91 _ rfl (y + 1) rfl C1 Try.ar91 hl1 ?_; (try simp only [Act.put, List.setIfInBounds_toArray, List.set_cons_zero, List.set_cons_succ, World.size_alloc, setRow_size, Nat.add_assoc, Nat.reduceAdd])) | (refine wpList_store_ints (k := .u8) (xs := restOf (polyV r 0 b i)) rfl 91 _ _ rfl (w.heap.size + 1) rfl rfl C2 (zeros_size _ _) Try.ar91 hl1 ?_; (try simp only [Act.put, List.setIfInBounds_toArray, List.set_cons_zero, List.set_cons_succ, World.size_alloc, setRow_size, Nat.add_assoc, Nat.reduceAdd])))
      exact ret_ints rfl rfl (C2.row _) Try.ar91 hl1 ⟨by rw [HA.out], bSetRow hbelr (by omega) _⟩
end Go.Proofs.Ytolfngmpoafaaaa
