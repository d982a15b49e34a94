/- That a number is in form, and the walk of PrimeRing. No condition but that parts fit 32 bits. -/
import Derived.Test.YtoijnilbcmdmeaaL7b
namespace Go.Proofs.Ytoijnilbcmdmeaa
set_option linter.unusedSimpArgs false
set_option linter.unusedVariables false
set_option linter.unusedSectionVars false
set_option linter.unusedVariables false
open Go.RowKit
theorem numOf_form (v : Nat) : ¬ ((numOf v).drop 1 = [67108863, 67108863, 67108863, 67108863] ∧ 67108858 < (numOf v).getD 0 0) := by
  intro ⟨h1, h2⟩
  have hl := numOf_len v
  have hv := val_numOf v
  have hp : v % pp < pp := Nat.mod_lt _ pp_pos
  generalize numOf v = ns at *
  obtain ⟨a, b, c, d, e, rfl⟩ := list5 hl
  simp only [List.drop_succ_cons, List.drop_zero, List.cons.injEq, and_true] at h1
  obtain ⟨rfl, rfl, rfl, rfl⟩ := h1
  simp only [List.getD_cons_zero] at h2
  have h3 : val [a, 67108863, 67108863, 67108863, 67108863] = a + 67108864 * (67108863 + 67108864 * (67108863 + 67108864 * (67108863 + 67108864 * 67108863))) := rfl
  rw [h3] at hv
  generalize v % pp = r at *
  unfold pp at hp
  omega
set_option maxRecDepth 100000 in
set_option maxHeartbeats 4000000 in
theorem formed_c (ns : List Nat) (hl : ns.length = 5) (hb : ∀ x ∈ ns, x < 67108864) (hn : ¬ (ns.drop 1 = [67108863, 67108863, 67108863, 67108863] ∧ 67108858 < ns.getD 0 0)) (w : World) :
    Calls Try.prog 45 #[.agg (ints .u32 ns)] w fun e w' => e = .returned (.bool true) ∧ Below w.heap.size w w' := by
  have HN := Lib.hid hn
  clear hn
  have B0 := Blk.new w 28 (ints .u32 ns)
  have hbel := (Below.refl w.heap.size w).alloc (Nat.le_refl _) (.cells (ints .u32 ns) 28)
  go_enter Try.func45, Try.ntmps45
  go_wp2
  generalize (w.alloc (.cells (ints .u32 ns) 28)) = w0 at *
  go_loopw [3] (fun t wr => ∃ k : Nat, k ≤ 5 ∧ t = .int .i64 k ∧ wr = w0) (fun t wr => 5 - (intOf t).toNat)
  case atStart => exact ⟨0, by omega, rfl, rfl⟩
  case round =>
    rename_i hrel
    obtain ⟨k, hk, rfl, rfl⟩ := hrel
    by_cases hlt : k < 5
    · have c0 := B0.int (i := k) (by omega)
      have vx := getD_bound hb (by omega) k
      generalize ns.getD k 0 = x at *
      have q : decide ((67108864 : Int) ≤ (x : Int)) = false := by simp; omega
      clear hb hl B0
      go_wp2
      exact ⟨⟨k + 1, by omega, by go_num, trivial⟩, by simp [intOf] <;> omega⟩
    · obtain rfl : k = 5 := by omega
      obtain ⟨a, b, c, d, e, rfl⟩ := list5 hl
      have c0 := B0.int (i := 0) (by simp)
      have c1 := B0.int (i := 1) (by simp)
      have c2 := B0.int (i := 2) (by simp)
      have c3 := B0.int (i := 3) (by simp)
      have c4 := B0.int (i := 4) (by simp)
      simp only [List.getD_cons_zero, List.getD_cons_succ] at c0 c1 c2 c3 c4
      have hn := HN.out
      clear HN
      simp only [List.drop_succ_cons, List.drop_zero, List.cons.injEq, and_true, List.getD_cons_zero] at hn
      simp only [List.mem_cons, forall_eq_or_imp] at hb
      obtain ⟨ha, hb1, hc1, hd1, he1, -⟩ := hb
      clear B0
      by_cases hall : b = 67108863 ∧ c = 67108863 ∧ d = 67108863 ∧ e = 67108863
      · obtain ⟨rfl, rfl, rfl, rfl⟩ := hall
        have ha' : (a : Int) < 67108859 := by
          have : ¬ 67108858 < a := fun h => hn ⟨⟨rfl, rfl, rfl, rfl⟩, h⟩
          omega
        have q : decide ((a : Int) < 67108859) = true := by simp; omega
        clear hn
        go_wp2
        go_ret
        exact ⟨rfl, hbel⟩
      · have hcase : ((b : Int) == 67108863) = false ∨ (((b : Int) == 67108863) = true ∧ ((c : Int) == 67108863) = false) ∨ (((b : Int) == 67108863) = true ∧ ((c : Int) == 67108863) = true ∧ ((d : Int) == 67108863) = false) ∨ (((b : Int) == 67108863) = true ∧ ((c : Int) == 67108863) = true ∧ ((d : Int) == 67108863) = true ∧ ((e : Int) == 67108863) = false) := by
          simp only [beq_eq_false_iff_ne, beq_iff_eq, ne_eq]; omega
        clear hn hall
        rcases hcase with h | ⟨h, h'⟩ | ⟨h, h', h''⟩ | ⟨h, h', h'', h'''⟩
        all_goals
          go_wp2
          go_ret
          exact ⟨rfl, hbel⟩
theorem numDiff (xs ys : List Nat) (hx : xs.length = 5) (h : xs = ys) (W : World) : (binOp .neq 28 (.agg (ints .u32 xs)) (.agg (ints .u32 ys))).run Try.prog W = .ok (.bool false) W := by
  subst h
  rw [run_neq_ints (n := 5) Try.underlying28 Try.underlying22 Try.is22 Try.sz22 xs xs hx hx W]
  simp
end Go.Proofs.Ytoijnilbcmdmeaa
