/- The walk of VectorBack. No condition but what a context's cells are. -/
import Derived.Test.YthfkfbabjfogeaaL22d
namespace Go.Proofs.Ythfkfbabjfogeaa
set_option linter.unusedSimpArgs false
set_option linter.unusedVariables false
set_option linter.unusedSectionVars false
set_option linter.unusedVariables false
open Go.RowKit
theorem len256 {n : Nat} (h : n ≤ 100) : n < 256 ^ 8 := Nat.lt_of_le_of_lt h (by decide)
set_option maxRecDepth 100000 in
set_option maxHeartbeats 40000000 in
theorem vectorBack_c (z : Int) (xs : List Nat) (xss : List (List Nat)) (a1 a2 : Option Addr) (c1 c2 : Nat) (w : World) (X : Ctx w z a1 a2 c1 c2 xs xss) :
    Calls Try.prog 7 #[.agg (ctxC z a1 a2 c1 c2 xs xss)] w fun e w' => e = .returned (.bool true) ∧ Below w.heap.size w w' := by
  have hmx : maxLen ≤ 9223372036854775807 := by decide
  have B1 := Blk.new w 25 (ctxC z a1 a2 c1 c2 xs xss)
  have hbel := (Below.refl w.heap.size w).alloc (Nat.le_refl _) (.cells (ctxC z a1 a2 c1 c2 xs xss) 25)
  have hx63 : xss.length ≤ 9223372036854775807 := by have := X.l2; have := X.m2; omega
  have hx64 : xs.length ≤ 9223372036854775807 := by have := X.l1; have := X.m1; omega
  have X1 := X.below hbel
  clear hmx X
  go_enter Try.func7, Try.ntmps7
  go_upto_region 1 with fail
  generalize (w.alloc (.cells (ctxC z a1 a2 c1 c2 xs xss) 25)) = w1 at *
  go_wp2_with (refine wpList_valG rfl (run_loadBlk rfl rfl B1 Try.arC rfl) ?_; (try simp only [Act.put, List.setIfInBounds_toArray, List.set_cons_zero, List.set_cons_succ, World.size_alloc, setRow_size, Nat.add_assoc, Nat.reduceAdd]))
  refine (few22_c z xs xss a1 a2 c1 c2 hx63 hx64 _ X1.s2).mono ?_
  rintro e w3 ⟨bb, rfl, hbb, hb2⟩
  have C1 := B1.below' hb2
  have hbel3 := bCall hbel hb2 hbel.size
  have X3 := X1.below hb2
  clear B1 hbel X1 hb2
  cases bb
  · go_wp2
    go_ret
    exact ⟨rfl, hbel3⟩
  obtain ⟨hx100, hx20, hxl⟩ := hbb rfl
  clear hbb hx63 hx64
  have k0 : w3.cell? ⟨w.heap.size, 0, none⟩ = some (.int .i64 z) := by rw [C1.cell]; rfl
  have k1 : w3.cell? ⟨w.heap.size, 1, none⟩ = some (.slice a1 xs.length c1) := by rw [C1.cell]; rfl
  have k2 : w3.cell? ⟨w.heap.size, 2, none⟩ = some (.slice a2 xss.length c2) := by rw [C1.cell]; rfl
  go_wp2_with fail
  refine (rRight_c z _).mono ?_
  rintro e w4 ⟨rfl, rfl⟩
  by_cases hz : ¬ (0 ≤ z ∧ z ≤ 16)
  · rw [decide_eq_false hz]
    clear hz
    go_wp2
    go_ret
    exact ⟨rfl, hbel3⟩
  replace hz := Classical.not_not.1 hz
  rw [decide_eq_true hz]
  go_upto_region 3 with fail
  obtain ⟨t, rfl⟩ : ∃ t : Nat, z = t := ⟨z.toNat, by omega⟩
  have ht : t ≤ 16 := by omega
  clear hz
  go_wp2_with fail
  refine (encode22_c t xs xss a1 a2 c1 c2 ht (by omega) (by omega) (putL_30 hx100 hx20) X3.n1 _ X3.s1 X3.s2).mono ?_
  rintro e w4 ⟨v4, rfl, hown4, hb4⟩
  have B1 := C1.below' hb4
  have hbel4 := bCall hbel3 hb4 hbel3.size
  have X4 := X3.below hb4
  clear C1 k0 k1 k2 hbel3 X3 hb4
  obtain ⟨a4, c4, rfl, S4, hl4, -, -⟩ := hown4.slz
  have HD := decode22_c a4 c4 (encC t xs xss) (encC_lt (by omega) X4.b1 X4.b2) (by have := encC_len (t := t) hxl hx100 hx20; omega) hl4 w4 S4
  rw [decC_enc ht (len256 hxl) (fun xs h => len256 (hx100 xs h)) (len256 (by omega))] at HD
  clear hown4 S4 hl4
  go_wp2_with fail
  refine HD.mono ?_
  clear HD
  rintro e w5 ⟨hb5, (⟨h0, -⟩ | ⟨t', x, xs', a1', c1', a2', c2', h0, rfl, S1, S2, hn1, hn2⟩)⟩
  · cases h0
  injection h0 with h0
  injection h0 with h1 h2
  injection h2 with h2 h3
  subst h1 h2 h3
  have C1 := B1.below' hb5
  have hbel5 := bCall hbel4 hb5 hbel4.size
  have X5 := X4.below hb5
  have HS := Lib.hid (same22_c (t : Int) (t : Int) xs xs xss xss a1 a2 a1' a2' c1 c2 c1' c2' X5.wf X5.wf (by omega) (by omega) X5.b2 X5.b2 X5.b1 X5.b1 w5 X5.s1 S1 X5.s2 S2)
  rw [decide_eq_true (⟨rfl, rfl, rfl⟩ : (t : Int) = t ∧ xs = xs ∧ xss = xss)] at HS
  clear B1 X4 hbel4 hb5
  go_wp2_with (refine wpList_valG rfl (run_loadBlk rfl rfl C1 Try.arC rfl) ?_; (try simp only [Act.put, List.setIfInBounds_toArray, List.set_cons_zero, List.set_cons_succ, World.size_alloc, setRow_size, Nat.add_assoc, Nat.reduceAdd]))
  refine HS.out.mono ?_
  clear HS
  rintro e w6 ⟨rfl, hb6⟩
  have hbel6 := bCall hbel5 hb6 hbel5.size
  go_wp2_with fail
  refine (awake22_c _).mono ?_
  rintro e w7 ⟨rfl, hb7⟩
  go_wp2
  go_ret
  exact ⟨rfl, bCall hbel6 hb7 hbel6.size⟩
end Go.Proofs.Ythfkfbabjfogeaa
