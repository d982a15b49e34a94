/- The walk of VectorCut. No condition but what a context's cells are. -/
import Derived.Test.YthfkfbabjfogeaaL22e
namespace Go.Proofs.Ythfkfbabjfogeaa
set_option linter.unusedSimpArgs false
set_option linter.unusedVariables false
set_option linter.unusedSectionVars false
set_option linter.unusedVariables false
open Go.RowKit
theorem putL_mem : ∀ {xss : List (List Nat)} {x : List Nat}, x ∈ xss → x.length ≤ (putL xss).length
  | [], x, h => by cases h
  | y :: xss, x, h => by
    rw [putL_cons, List.length_append, pcB_len]
    rcases List.mem_cons.1 h with rfl | h
    · omega
    · have := putL_mem h
      omega
/-- A context's row with something behind it is none. -/
theorem decC_more {t : Nat} {n r : List Nat} {ad : List (List Nat)} (hn : n.length < 256 ^ 8) (ha : ∀ xs ∈ ad, xs.length < 256 ^ 8) (hl : ad.length < 256 ^ 8) (hr : r ≠ []) : decC (encC t n ad ++ r) = none := by
  have e : encC t n ad ++ r = [t] ++ (dig 256 8 ad.length ++ (pcB n ++ (putL ad ++ r))) := by unfold encC; simp
  have h1 : numAt (encC t n ad ++ r) 1 8 = ad.length := by rw [e]; exact numAt_dig hl [t] _
  have h9 : (encC t n ad ++ r).drop 9 = pcB n ++ (putL ad ++ r) := by
    rw [e, ← List.append_assoc, List.drop_left' (by simp)]
  unfold decC
  split
  · rfl
  rw [h1, h9, decP_pcB hn]
  simp only []
  rw [decL_putL ha]
  cases r with
  | nil => exact absurd rfl hr
  | cons _ _ => rfl
/-- A context's row that is cut is none. -/
theorem decC_cut {t k : Nat} {n : List Nat} {ad : List (List Nat)} (ht : t ≤ 16) (hn : n.length ≤ 100) (ha : ∀ xs ∈ ad, xs.length ≤ 100) (hl : ad.length ≤ 20) (bn : ∀ x ∈ n, x < 256) (ba : ∀ xs ∈ ad, ∀ x ∈ xs, x < 256) (hk : k < (encC t n ad).length) : decC ((encC t n ad).take k) = none := by
  have hL := encC_len (t := t) hn ha hl
  have hd := decC_enc ht (len256 hn) (fun xs h => len256 (ha xs h)) (len256 (by omega : ad.length ≤ 100))
  have hlt := encC_lt (t := t) (by omega) bn ba
  generalize encC t n ad = b at *
  match hc : decC (b.take k) with
  | none => rfl
  | some (t', n', ad') =>
    obtain ⟨he, -⟩ := decC_some (fun y hy => hlt y (List.mem_of_mem_take hy)) hc
    have hlen := congrArg List.length he
    rw [encC_is, List.length_take] at hlen
    have hge := putL_ge ad'
    have h8 : 2300 < 256 ^ 8 := by decide
    have hb : b = encC t' n' ad' ++ b.drop k := by rw [← he, List.take_append_drop]
    rw [hb, decC_more (by omega) (fun xs h => by have := putL_mem h; omega) (by omega) (fun h => by have := congrArg List.length h; rw [List.length_drop, List.length_nil] at this; omega)] at hd
    cases hd
theorem room_ {w w' : World} {o : Obj} {row : Option Nat} (h : (w.alloc o).grownBy w' row) (o' : Obj) : w.heap.size ≤ (w'.alloc o').heap.size := by
  have h1 := h.size
  rw [World.size_alloc] at h1
  rw [World.size_alloc]
  omega
set_option maxRecDepth 100000 in
set_option maxHeartbeats 40000000 in
theorem vectorCut_c (z : Int) (xs : List Nat) (xss : List (List Nat)) (a1 a2 : Option Addr) (c1 c2 at_ : Nat) (hat : at_ < 65536) (w : World) (X : Ctx w z a1 a2 c1 c2 xs xss) :
    Calls Try.prog 9 #[.agg (ctxC z a1 a2 c1 c2 xs xss), .int .u16 (at_ : Int)] w fun e w' => e = .returned (.bool true) ∧ Below w.heap.size w w' := by
  have hmx : maxLen ≤ 9223372036854775807 := by decide
  have B1 := Blk.new w 25 (ctxC z a1 a2 c1 c2 xs xss)
  have hbel := (Below.refl w.heap.size w).alloc (Nat.le_refl _) (.cells (ctxC z a1 a2 c1 c2 xs xss) 25)
  have hx63 : xss.length ≤ 9223372036854775807 := by have := X.l2; have := X.m2; omega
  have hx64 : xs.length ≤ 9223372036854775807 := by have := X.l1; have := X.m1; omega
  have X1 := X.below hbel
  clear hmx X
  go_enter Try.func9, Try.ntmps9
  go_upto_region 1 with fail
  generalize (w.alloc (.cells (ctxC z a1 a2 c1 c2 xs xss) 25)) = w1 at *
  go_wp2_with (refine wpList_valG rfl (run_loadBlk rfl rfl B1 Try.arC rfl) ?_; (try simp only [Act.put, List.setIfInBounds_toArray, List.set_cons_zero, List.set_cons_succ, World.size_alloc, setRow_size, Nat.add_assoc, Nat.reduceAdd]))
  refine (few22_c z xs xss a1 a2 c1 c2 hx63 hx64 _ X1.s2).mono ?_
  rintro e w3 ⟨bb, rfl, hbb, hb2⟩
  have C1 := B1.below' hb2
  have hbel3 := bCall hbel hb2 hbel.size
  have X3 := X1.below hb2
  clear B1 hbel X1 hb2
  cases bb
  · go_wp2
    go_ret
    exact ⟨rfl, hbel3⟩
  obtain ⟨hx100, hx20, hxl⟩ := hbb rfl
  clear hbb hx63 hx64
  have k0 : w3.cell? ⟨w.heap.size, 0, none⟩ = some (.int .i64 z) := by rw [C1.cell]; rfl
  have k1 : w3.cell? ⟨w.heap.size, 1, none⟩ = some (.slice a1 xs.length c1) := by rw [C1.cell]; rfl
  have k2 : w3.cell? ⟨w.heap.size, 2, none⟩ = some (.slice a2 xss.length c2) := by rw [C1.cell]; rfl
  go_wp2_with fail
  refine (rRight_c z _).mono ?_
  rintro e w4 ⟨rfl, rfl⟩
  by_cases hz : ¬ (0 ≤ z ∧ z ≤ 16)
  · rw [decide_eq_false hz]
    clear hz
    go_wp2
    go_ret
    exact ⟨rfl, hbel3⟩
  replace hz := Classical.not_not.1 hz
  rw [decide_eq_true hz]
  go_upto_region 3 with fail
  obtain ⟨t, rfl⟩ : ∃ t : Nat, z = t := ⟨z.toNat, by omega⟩
  have ht : t ≤ 16 := by omega
  clear hz
  go_wp2_with fail
  refine (encode22_c t xs xss a1 a2 c1 c2 ht (by omega) (by omega) (putL_30 hx100 hx20) X3.n1 _ X3.s1 X3.s2).mono ?_
  rintro e w4 ⟨v4, rfl, hown4, hb4⟩
  have hbel4 := bCall hbel3 hb4 hbel3.size
  have HC := Lib.hid fun k => decC_cut (k := k) ht hxl hx100 hx20 X3.b1 X3.b2
  have HM := Lib.hid fun r => decC_more (t := t) (r := r) (len256 hxl) (fun xs h => len256 (hx100 xs h)) (len256 (by omega : xss.length ≤ 100))
  have hlt := encC_lt (t := t) (by omega) X3.b1 X3.b2
  have hL := encC_len (t := t) hxl hx100 hx20
  have hL2 := encC_is t xs xss
  have hpos : 0 < (encC t xs xss).length := by omega
  clear C1 k0 k1 k2 hbel3 X3 hb4 hx100 hx20 hxl ht hL2
  obtain ⟨a4, c4, rfl, S4, hl4, hm4, hn4⟩ := hown4.slz
  generalize encC t xs xss = b at *
  obtain ⟨N, HN⟩ : ∃ N, Hid (b.length = N) := ⟨_, Lib.hid rfl⟩
  rw [HN.out] at hL hpos hl4 HC ⊢
  have hk : at_ % N < N := Nat.mod_lt _ hpos
  obtain ⟨k, Hk⟩ : ∃ k, Hid (at_ % N = k) := ⟨_, Lib.hid rfl⟩
  have hne : ((N : Int) == 0) = false := by simp; omega
  have hrm : (at_ : Int).tmod (N : Int) = (k : Int) := by rw [← Hk.out]; exact Int.ofNat_tmod at_ N ▸ rfl
  rw [Hk.out] at hk
  clear hown4
  go_wp2_with (refine wpList_sliceHi (n := k) rfl rfl Try.underlying22 Try.s15 rfl rfl (by omega) S4 ?_; intro ad2 hsl2 hnn; (try simp only [Act.put, List.setIfInBounds_toArray, List.set_cons_zero, List.set_cons_succ, World.size_alloc, setRow_size, Nat.add_assoc, Nat.reduceAdd]))
  have hkl : (b.take k).length = k := by rw [List.length_take, HN.out]; omega
  have HD := decode22_c ad2 c4 (b.take k) (fun x hx => hlt x (List.mem_of_mem_take hx)) (by omega) (by omega) w4 hsl2
  rw [hkl, HC.out k hk] at HD
  refine HD.mono ?_
  clear HD
  rintro e w5 ⟨hb5, (⟨-, rfl⟩ | ⟨t', x, xs', a1', c1', a2', c2', h0, -⟩)⟩
  rotate_left
  · cases h0
  have hbel5 := bCall hbel4 hb5 hbel4.size
  have S5 := S4.below hb5
  clear hkl hne hrm hsl2 hnn S4 hb5
  have E6 : Own (w5.alloc (.cells #[] 5)) w5.heap.size 5 .u8 (.slice (some ⟨w5.heap.size, 0, none⟩) 0 0) [] := Own.made (xs := []) (Blk.new w5 5 (ints .u8 [])) (Nat.le_refl _) (by simp)
  have hb6 := (Below.refl w5.heap.size w5).alloc (Nat.le_refl _) (.cells #[] 5)
  have hbel6 := hbel5.alloc hbel5.size (.cells #[] 5)
  have S6 := S5.below hb6
  obtain ⟨r, Hr⟩ : ∃ r, Hid (at_ % 256 = r) := ⟨_, Lib.hid rfl⟩
  have hrw : (at_ : Int) % 256 = (r : Int) := by rw [← Hr.out]; omega
  have hr256 : r < 256 := by rw [← Hr.out]; omega
  clear S5
  go_wp2_with (first
    | (refine wpList_append_sl (zs := b) rfl rfl Try.underlying22 Try.inf8 rfl (by omega) rfl E6 rfl HN.out.symm hn4 S6 (by simp; rw [HN.out]; omega) (by simp) ?_; intro v7 w7 hown7 hgr7; rw [List.nil_append] at hown7; have hbel7 := bGrown hbel6 hgr7 hbel6.size E6 hbel5.size; have hb8 := (Below.refl w7.heap.size w7).alloc (Nat.le_refl _) (.cells (ints .u8 [r]) 5); have O8 := hown7.below hb8; have hbel8 := hbel7.alloc hbel7.size (.cells (ints .u8 [r]) 5); have Z8 : Sl (w7.alloc (.cells (ints .u8 [r]) 5)) (some ⟨w7.heap.size, 0, none⟩) .u8 [r] := Sl.blk (Blk.new w7 5 (ints .u8 [r])); have hz8 := room_ hgr7 (.cells (ints .u8 [r]) 5); (try simp only [Act.put, List.setIfInBounds_toArray, List.set_cons_zero, List.set_cons_succ, World.size_alloc, setRow_size, Nat.add_assoc, Nat.reduceAdd]))
    | (refine wpList_append_sl (zs := [r]) rfl rfl Try.underlying22 Try.inf8 rfl (by omega) rfl O8 rfl rfl (fun h => by cases h) Z8 (by simp; rw [HN.out]; omega) hz8 ?_; intro v9 w9 hown9 hgr9; have hbel9 := bGrown hbel8 hgr9 hbel8.size O8 hbel5.size; (try simp only [Act.put, List.setIfInBounds_toArray, List.set_cons_zero, List.set_cons_succ, World.size_alloc, setRow_size, Nat.add_assoc, Nat.reduceAdd])))
  have hlt9 : ∀ x ∈ b ++ [r], x < 256 := fun x hx => (List.mem_append.1 hx).elim (hlt x) fun h => by rw [List.mem_singleton.1 h]; exact hr256
  have hln9 : (b ++ [r]).length < 2 ^ 31 := by rw [List.length_append, HN.out]; simp; omega
  obtain ⟨a9, c9, rfl, S9, hl9, -, -⟩ := hown9.slz
  have HD := decode22_c a9 c9 (b ++ [r]) hlt9 hln9 hl9 w9 S9
  rw [HM.out [r] (by simp)] at HD
  refine HD.mono ?_
  clear HD
  rintro e wA ⟨hbA, (⟨-, rfl⟩ | ⟨t', x, xs', a1', c1', a2', c2', h0, -⟩)⟩
  rotate_left
  · cases h0
  have hbelA := bCall hbel9 hbA hbel9.size
  clear hlt9 hln9 hl9 S9 hgr7 hgr9 hown7 hown9 O8 Z8 S6 E6
  go_wp2_with fail
  refine (awake22_c _).mono ?_
  rintro e wB ⟨rfl, hbB⟩
  go_wp2
  go_ret
  exact ⟨rfl, bCall hbelA hbB hbelA.size⟩
end Go.Proofs.Ythfkfbabjfogeaa
