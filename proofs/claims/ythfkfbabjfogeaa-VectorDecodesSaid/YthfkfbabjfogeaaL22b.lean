/- The walk of VectorStrings. No condition but what a context's cells are. -/
import Derived.Test.YthfkfbabjfogeaaW22b
import Derived.Deep.Cut
import Derived.Deep.CutRange
import Derived.Deep.DeepCutAuto
namespace Go.Proofs.Ythfkfbabjfogeaa
set_option linter.unusedSimpArgs false
set_option linter.unusedVariables false
set_option linter.unusedSectionVars false
set_option linter.unusedVariables false
open Go.RowKit
theorem st16_inj {t u : Nat} (h : st16 t = st16 u) : t = u := by
  have := congrArg (fun l => l.getD 15 0) h
  simp only [st16, List.getD_eq_getElem?_getD] at this
  rw [List.getElem?_set_self (by rw [zeros_len]; omega), List.getElem?_set_self (by rw [zeros_len]; omega)] at this
  simp at this
  omega
theorem strC_iff {t u : Nat} {n m : List Nat} {ad bd : List (List Nat)} : decide (strC t n ad = strC u m bd) = decide ((t : Int) = u ∧ n = m ∧ ad = bd) := by
  rw [Bool.eq_iff_iff, decide_eq_true_iff, decide_eq_true_iff]
  unfold strC
  rw [List.cons.injEq, List.cons.injEq]
  exact ⟨fun ⟨h1, h2⟩ => ⟨by rw [st16_inj h1], h2⟩, fun ⟨h1, h2⟩ => ⟨by rw [show t = u by omega], h2⟩⟩
theorem st16_lt {t : Nat} (ht : t ≤ 16) : ∀ x ∈ st16 t, x < 256 := fun x hx => by
  unfold st16 at hx
  rcases List.mem_or_eq_of_mem_set hx with h | h
  · unfold zeros at h
    rw [List.mem_replicate] at h
    omega
  · omega
theorem strC_lt {t : Nat} {n : List Nat} {ad : List (List Nat)} (ht : t ≤ 16) (hn : ∀ x ∈ n, x < 256) (ha : ∀ xs ∈ ad, ∀ x ∈ xs, x < 256) : ∀ xs ∈ strC t n ad, ∀ x ∈ xs, x < 256 := fun xs hxs => by
  unfold strC at hxs
  rcases List.mem_cons.1 hxs with rfl | hxs
  · exact st16_lt ht
  · rcases List.mem_cons.1 hxs with rfl | hxs
    · exact hn
    · exact ha xs hxs
section
variable {P : Program} {o : Oper} {a : Act}
theorem run_eqNat22 (w : World) (n : Nat) {T T' : TypeId} {x y : Operand} (ho : o.op = .binOp .eql T x y T') (hx : a.eval x = .int .i64 ((n : Nat) : Int) := by rfl) (hy : a.eval y = .int .i64 ((n : Nat) : Int) := by rfl) : (execOp a.eval o).run P w = .ok (.value (.bool true)) w := by
  have hg : (eqGuard .eql T x y (.int .i64 (n : Int)) (.int .i64 (n : Int))).run P w = .ok () w := by simp [eqGuard, Sem.run_bind]
  unfold execOp
  simp only [ho, hx, hy, Sem.run_bind, Sem.run_pure, Result.andThen_ok, hg]
  simp [binOp, go_sem]
theorem run_lenSl {e n c : Nat} {ad : Option Addr} {x : Operand} {T : TypeId} (w : World) (hT : P.underlying T = some (.slice e)) (ho : o.op = .call { callee := .builtin .len, args := #[x], argTypes := #[T] }) (hx : a.eval x = .slice ad n c) (hm : n < 2 ^ 62) :
    (execOp a.eval o).run P w = .ok (.value (.int .i64 (n : Int))) w := by
  have hr : ∀ ty, (Builtin.len_ #[T] ty #[.slice ad n c]).run P w = .ok (.int .i64 (n : Int)) w := fun ty => by
    have hw : IntKind.i64.wrap (n : Int) = n := by rw [IntKind.wrap_i64]; omega
    simp [Builtin.len_, run_underlying hT, goInt, hw]
  unfold execOp
  simp only [ho, resolve, invoke, builtin, Sem.run_bind, Sem.run_pure, Result.andThen_ok, List.map_toArray, List.map_cons, List.map_nil, hx, hr]
end
set_option maxRecDepth 100000 in
set_option maxHeartbeats 40000000 in
theorem vectorStrings_c (z z' : Int) (xs ys : List Nat) (xss yss : List (List Nat)) (a1 a2 b1 b2 : Option Addr) (c1 c2 d1 d2 : Nat) (w : World) (X : Ctx w z a1 a2 c1 c2 xs xss) (Y : Ctx w z' b1 b2 d1 d2 ys yss) :
    Calls Try.prog 5 #[.agg (ctxC z a1 a2 c1 c2 xs xss), .agg (ctxC z' b1 b2 d1 d2 ys yss)] w fun e w' => e = .returned (.bool true) ∧ Below w.heap.size w w' := by
  have hmx : maxLen ≤ 9223372036854775807 := by decide
  have B1 := (Blk.new w 25 (ctxC z a1 a2 c1 c2 xs xss)).alloc (.cells (ctxC z' b1 b2 d1 d2 ys yss) 25)
  have B2 := Blk.new (w.alloc (.cells (ctxC z a1 a2 c1 c2 xs xss) 25)) 25 (ctxC z' b1 b2 d1 d2 ys yss)
  rw [World.size_alloc] at B2
  have hbel := ((Below.refl w.heap.size w).alloc (Nat.le_refl _) (.cells (ctxC z a1 a2 c1 c2 xs xss) 25)).alloc (by simp) (.cells (ctxC z' b1 b2 d1 d2 ys yss) 25)
  have hx63 : xss.length ≤ 9223372036854775807 := by have := X.l2; have := X.m2; omega
  have hy63 : yss.length ≤ 9223372036854775807 := by have := Y.l2; have := Y.m2; omega
  have hx64 : xs.length ≤ 9223372036854775807 := by have := X.l1; have := X.m1; omega
  have hy64 : ys.length ≤ 9223372036854775807 := by have := Y.l1; have := Y.m1; omega
  have X1 := X.below hbel
  have Y1 := Y.below hbel
  clear hmx X Y
  go_enter Try.func5, Try.ntmps5
  go_upto_region 1 with fail
  generalize ((w.alloc (.cells (ctxC z a1 a2 c1 c2 xs xss) 25)).alloc (.cells (ctxC z' b1 b2 d1 d2 ys yss) 25)) = w1 at *
  go_wp2_with (refine wpList_valG rfl (run_loadBlk rfl rfl B1 Try.arC rfl) ?_; (try simp only [Act.put, List.setIfInBounds_toArray, List.set_cons_zero, List.set_cons_succ, World.size_alloc, setRow_size, Nat.add_assoc, Nat.reduceAdd]))
  refine (few22_c z xs xss a1 a2 c1 c2 hx63 hx64 _ X1.s2).mono ?_
  rintro e w2 ⟨bb, rfl, hbb, hb2⟩
  have C1 := B1.below' hb2
  have C2 := B2.below' hb2
  have hbel2 := bCall hbel hb2 hbel.size
  have X2 := X1.below hb2
  have Y2 := Y1.below hb2
  clear B1 B2 hbel X1 Y1 hb2
  cases bb
  · go_wp2
    go_ret
    exact ⟨rfl, hbel2⟩
  obtain ⟨hx100, hx20, hxl⟩ := hbb rfl
  clear hbb
  go_wp2_with (refine wpList_valG rfl (run_loadBlk rfl rfl C2 Try.arC rfl) ?_; (try simp only [Act.put, List.setIfInBounds_toArray, List.set_cons_zero, List.set_cons_succ, World.size_alloc, setRow_size, Nat.add_assoc, Nat.reduceAdd]))
  refine (few22_c z' ys yss b1 b2 d1 d2 hy63 hy64 _ Y2.s2).mono ?_
  rintro e w3 ⟨bb, rfl, hbb, hb3⟩
  have B1 := C1.below' hb3
  have B2 := C2.below' hb3
  have hbel3 := bCall hbel2 hb3 hbel2.size
  have X3 := X2.below hb3
  have Y3 := Y2.below hb3
  clear C1 C2 hbel2 X2 Y2 hb3
  cases bb
  · go_wp2
    go_ret
    exact ⟨rfl, hbel3⟩
  obtain ⟨hy100, hy20, hyl⟩ := hbb rfl
  clear hbb hx63 hx64 hy63 hy64
  have k0 : w3.cell? ⟨w.heap.size, 0, none⟩ = some (.int .i64 z) := by rw [B1.cell]; rfl
  have k1 : w3.cell? ⟨w.heap.size, 1, none⟩ = some (.slice a1 xs.length c1) := by rw [B1.cell]; rfl
  have k2 : w3.cell? ⟨w.heap.size, 2, none⟩ = some (.slice a2 xss.length c2) := by rw [B1.cell]; rfl
  have k3 : w3.cell? ⟨w.heap.size + 1, 0, none⟩ = some (.int .i64 z') := by rw [B2.cell]; rfl
  have k4 : w3.cell? ⟨w.heap.size + 1, 1, none⟩ = some (.slice b1 ys.length d1) := by rw [B2.cell]; rfl
  have k5 : w3.cell? ⟨w.heap.size + 1, 2, none⟩ = some (.slice b2 yss.length d2) := by rw [B2.cell]; rfl
  go_wp2_with fail
  refine (rRight_c z _).mono ?_
  rintro e w4 ⟨rfl, rfl⟩
  by_cases hz : ¬ (0 ≤ z ∧ z ≤ 16)
  · rw [decide_eq_false hz]
    clear hz
    go_wp2
    go_ret
    exact ⟨rfl, hbel3⟩
  replace hz := Classical.not_not.1 hz
  rw [decide_eq_true hz]
  go_wp2_with fail
  refine (rRight_c z' _).mono ?_
  rintro e w4 ⟨rfl, rfl⟩
  by_cases hz' : ¬ (0 ≤ z' ∧ z' ≤ 16)
  · rw [decide_eq_false hz']
    clear hz hz'
    go_wp2
    go_ret
    exact ⟨rfl, hbel3⟩
  replace hz' := Classical.not_not.1 hz'
  rw [decide_eq_true hz']
  go_upto_region 3 with fail
  obtain ⟨t, rfl⟩ : ∃ t : Nat, z = t := ⟨z.toNat, by omega⟩
  obtain ⟨t', rfl⟩ : ∃ t : Nat, z' = t := ⟨z'.toNat, by omega⟩
  have ht : t ≤ 16 := by omega
  have ht' : t' ≤ 16 := by omega
  clear hz hz'
  go_wp2_with fail
  refine (strings22_c t xs xss a1 a2 c1 c2 ht (by omega) X3.l1 (by omega) hx100 X3.n1 _ X3.s1 X3.s2).mono ?_
  rintro e w4 ⟨v4, rfl, hown4, hb4⟩
  have C1 := B1.below' hb4
  have C2 := B2.below' hb4
  have hbel4 := bCall hbel3 hb4 hbel3.size
  have X4 := X3.below hb4
  have Y4 := Y3.below hb4
  clear B1 B2 k0 k1 k2 k3 k4 k5 hbel3 X3 Y3 hb4
  have k3 : w4.cell? ⟨w.heap.size + 1, 0, none⟩ = some (.int .i64 (t' : Int)) := by rw [C2.cell]; rfl
  have k4 : w4.cell? ⟨w.heap.size + 1, 1, none⟩ = some (.slice b1 ys.length d1) := by rw [C2.cell]; rfl
  have k5 : w4.cell? ⟨w.heap.size + 1, 2, none⟩ = some (.slice b2 yss.length d2) := by rw [C2.cell]; rfl
  go_wp2_with fail
  refine (strings22_c t' ys yss b1 b2 d1 d2 ht' (by omega) Y4.l1 (by omega) hy100 Y4.n1 _ Y4.s1 Y4.s2).mono ?_
  rintro e w5 ⟨v5, rfl, hown5, hb5⟩
  have B1 := C1.below' hb5
  have B2 := C2.below' hb5
  have hbel5 := bCall hbel4 hb5 hbel4.size
  have X5 := X4.below hb5
  have Y5 := Y4.below hb5
  have hown4' := hown4.below hb5
  obtain ⟨a4, c4, rfl, S4, -, -, -⟩ := hown4'.slS
  obtain ⟨a5, c5, rfl, S5, -, -, -⟩ := hown5.slS
  have HE := Lib.hid (strC_iff (t := t) (u := t') (n := xs) (m := ys) (ad := xss) (bd := yss))
  have l1 : (strC t xs xss).length = xss.length + 2 := rfl
  have l2 : (strC t' ys yss).length = yss.length + 2 := rfl
  have HT := Lib.hid fun W (h : Below w5.heap.size w5 W) => sameS_c (strC t xs xss) (strC t' ys yss) a4 a5 c4 c5 (by omega) (by omega) (strC_lt ht X5.b1 X5.b2) (strC_lt ht' Y5.b1 Y5.b2) W (S4.below h) (S5.below h)
  have HS := Lib.hid fun W (h : Below w5.heap.size w5 W) => same22_c (t : Int) (t' : Int) xs ys xss yss a1 a2 b1 b2 c1 c2 d1 d2 X5.wf Y5.wf (by omega) (by omega) X5.b2 Y5.b2 X5.b1 Y5.b1 W (X5.s1.below h) (Y5.s1.below h) (X5.s2.below h) (Y5.s2.below h)
  rw [HE.out, l1, l2] at HT
  rw [l1, l2]
  generalize decide ((t : Int) = t' ∧ xs = ys ∧ xss = yss) = R at *
  have k2 : w5.cell? ⟨w.heap.size, 2, none⟩ = some (.slice a2 xss.length c2) := by rw [B1.cell]; rfl
  have WA : Hid (IntKind.i64.wrap ((xss.length + 2 : Nat) : Int) = ((xss.length + 2 : Nat) : Int)) := Lib.hid (by rw [IntKind.wrap_i64]; omega)
  have WB : Hid (IntKind.i64.wrap ((xss.length : Nat) : Int) = ((xss.length : Nat) : Int)) := Lib.hid (by rw [IntKind.wrap_i64]; omega)
  have WC : Hid (IntKind.i64.wrap ((xss.length : Int) + 2) = ((xss.length + 2 : Nat) : Int)) := Lib.hid (by rw [IntKind.wrap_i64]; omega)
  clear C1 C2 k3 k4 k5 hbel4 X4 Y4 hb5 hown4 hown4' hown5 l1 l2
  go_upto_region 5 with fail
  refine wp_region_below (by kernel_rfl) (by kernel_rfl) ?_
  refine quiet_move rfl rfl rfl ?_
  (try simp only [Act.put, List.setIfInBounds_toArray, List.set_cons_zero, List.set_cons_succ, World.size_alloc, setRow_size, Nat.add_assoc, Nat.reduceAdd])
  refine quiet_run (v := .bool true) rfl (fun W => by kernel_rfl) ?_
  (try simp only [Act.put, List.setIfInBounds_toArray, List.set_cons_zero, List.set_cons_succ, World.size_alloc, setRow_size, Nat.add_assoc, Nat.reduceAdd])
  refine quiet_move rfl rfl rfl ?_
  (try simp only [Act.put, List.setIfInBounds_toArray, List.set_cons_zero, List.set_cons_succ, World.size_alloc, setRow_size, Nat.add_assoc, Nat.reduceAdd])
  refine quiet_move rfl rfl rfl ?_
  (try simp only [Act.put, List.setIfInBounds_toArray, List.set_cons_zero, List.set_cons_succ, World.size_alloc, setRow_size, Nat.add_assoc, Nat.reduceAdd])
  refine quiet_run (v := .bool true) rfl (fun W => by kernel_rfl) ?_
  (try simp only [Act.put, List.setIfInBounds_toArray, List.set_cons_zero, List.set_cons_succ, World.size_alloc, setRow_size, Nat.add_assoc, Nat.reduceAdd])
  refine quiet_pickt (by rfl) (by rfl) (by rfl) (by rfl) (by rfl) ?_
  (try simp only [Act.put, List.setIfInBounds_toArray, List.set_cons_zero, List.set_cons_succ, World.size_alloc, setRow_size, Nat.add_assoc, Nat.reduceAdd])
  refine quiet_move rfl rfl rfl ?_
  (try simp only [Act.put, List.setIfInBounds_toArray, List.set_cons_zero, List.set_cons_succ, World.size_alloc, setRow_size, Nat.add_assoc, Nat.reduceAdd])
  refine quiet_move rfl rfl rfl ?_
  (try simp only [Act.put, List.setIfInBounds_toArray, List.set_cons_zero, List.set_cons_succ, World.size_alloc, setRow_size, Nat.add_assoc, Nat.reduceAdd])
  refine quiet_run (v := .int .i64 ((xss.length + 2 : Nat) : Int)) rfl (fun W => run_lenSl W Try.underlying23 rfl rfl (by omega)) ?_
  (try simp only [Act.put, List.setIfInBounds_toArray, List.set_cons_zero, List.set_cons_succ, World.size_alloc, setRow_size, Nat.add_assoc, Nat.reduceAdd])
  refine quiet_run (v := .pointer (some ⟨w.heap.size, 2, none⟩)) rfl (fun W => by kernel_rfl) ?_
  (try simp only [Act.put, List.setIfInBounds_toArray, List.set_cons_zero, List.set_cons_succ, World.size_alloc, setRow_size, Nat.add_assoc, Nat.reduceAdd])
  refine quiet_runC rfl (fun W hC => run_cells rfl rfl Try.underlying23 ((hC.cell (p := ⟨w.heap.size, 2, none⟩) (show w.heap.size < w5.heap.size from B1.lt)).trans k2)) ?_
  (try simp only [Act.put, List.setIfInBounds_toArray, List.set_cons_zero, List.set_cons_succ, World.size_alloc, setRow_size, Nat.add_assoc, Nat.reduceAdd])
  refine quiet_run (v := .int .i64 ((xss.length : Nat) : Int)) rfl (fun W => run_lenSl W Try.underlying23 rfl rfl (by omega)) ?_
  (try simp only [Act.put, List.setIfInBounds_toArray, List.set_cons_zero, List.set_cons_succ, World.size_alloc, setRow_size, Nat.add_assoc, Nat.reduceAdd])
  refine quiet_run (v := .int .i64 (IntKind.i64.wrap ((xss.length : Int) + 2))) rfl (fun W => by kernel_rfl) ?_; rw [WC.out]
  (try simp only [Act.put, List.setIfInBounds_toArray, List.set_cons_zero, List.set_cons_succ, World.size_alloc, setRow_size, Nat.add_assoc, Nat.reduceAdd])
  refine quiet_run (v := .bool true) rfl (fun W => run_eqNat22 W (xss.length + 2) rfl) ?_
  (try simp only [Act.put, List.setIfInBounds_toArray, List.set_cons_zero, List.set_cons_succ, World.size_alloc, setRow_size, Nat.add_assoc, Nat.reduceAdd])
  refine quiet_pickt (by rfl) (by rfl) (by rfl) (by rfl) (by rfl) ?_
  (try simp only [Act.put, List.setIfInBounds_toArray, List.set_cons_zero, List.set_cons_succ, World.size_alloc, setRow_size, Nat.add_assoc, Nat.reduceAdd])
  refine quiet_move rfl rfl rfl ?_
  (try simp only [Act.put, List.setIfInBounds_toArray, List.set_cons_zero, List.set_cons_succ, World.size_alloc, setRow_size, Nat.add_assoc, Nat.reduceAdd])
  refine quiet_move rfl rfl rfl ?_
  (try simp only [Act.put, List.setIfInBounds_toArray, List.set_cons_zero, List.set_cons_succ, World.size_alloc, setRow_size, Nat.add_assoc, Nat.reduceAdd])
  refine quiet_move rfl rfl rfl ?_
  (try simp only [Act.put, List.setIfInBounds_toArray, List.set_cons_zero, List.set_cons_succ, World.size_alloc, setRow_size, Nat.add_assoc, Nat.reduceAdd])
  refine quiet_call 17 rfl rfl Try.func17 (by kernel_rfl) (by kernel_rfl) (fun W hQ => HT.out W hQ) ?_
  (try simp only [Act.put, List.setIfInBounds_toArray, List.set_cons_zero, List.set_cons_succ, World.size_alloc, setRow_size, Nat.add_assoc, Nat.reduceAdd])
  refine quiet_runC rfl (fun W hC => run_loadBlk rfl rfl (B1.below' hC) Try.arC rfl) ?_
  (try simp only [Act.put, List.setIfInBounds_toArray, List.set_cons_zero, List.set_cons_succ, World.size_alloc, setRow_size, Nat.add_assoc, Nat.reduceAdd])
  refine quiet_runC rfl (fun W hC => run_loadBlk rfl rfl (B2.below' hC) Try.arC rfl) ?_
  (try simp only [Act.put, List.setIfInBounds_toArray, List.set_cons_zero, List.set_cons_succ, World.size_alloc, setRow_size, Nat.add_assoc, Nat.reduceAdd])
  refine quiet_call 13 rfl rfl Try.func13 (by kernel_rfl) (by kernel_rfl) (fun W hQ => HS.out W hQ) ?_
  (try simp only [Act.put, List.setIfInBounds_toArray, List.set_cons_zero, List.set_cons_succ, World.size_alloc, setRow_size, Nat.add_assoc, Nat.reduceAdd])
  refine quiet_run (v := .bool true) rfl (fun W => by cases R <;> kernel_rfl) ?_
  (try simp only [Act.put, List.setIfInBounds_toArray, List.set_cons_zero, List.set_cons_succ, World.size_alloc, setRow_size, Nat.add_assoc, Nat.reduceAdd])
  refine quiet_pickt (by rfl) (by rfl) (by rfl) (by rfl) (by rfl) ?_
  (try simp only [Act.put, List.setIfInBounds_toArray, List.set_cons_zero, List.set_cons_succ, World.size_alloc, setRow_size, Nat.add_assoc, Nat.reduceAdd])
  refine quiet_move rfl rfl rfl ?_
  (try simp only [Act.put, List.setIfInBounds_toArray, List.set_cons_zero, List.set_cons_succ, World.size_alloc, setRow_size, Nat.add_assoc, Nat.reduceAdd])
  refine quiet_call 14 rfl rfl Try.func14 (by kernel_rfl) (by kernel_rfl) (fun W hQ => awake22_c W) ?_
  (try simp only [Act.put, List.setIfInBounds_toArray, List.set_cons_zero, List.set_cons_succ, World.size_alloc, setRow_size, Nat.add_assoc, Nat.reduceAdd])
  refine quiet_pickt (by rfl) (by rfl) (by rfl) (by rfl) (by rfl) ?_
  (try simp only [Act.put, List.setIfInBounds_toArray, List.set_cons_zero, List.set_cons_succ, World.size_alloc, setRow_size, Nat.add_assoc, Nat.reduceAdd])
  refine quiet_assign rfl rfl rfl ?_
  (try simp only [Act.put, List.setIfInBounds_toArray, List.set_cons_zero, List.set_cons_succ, World.size_alloc, setRow_size, Nat.add_assoc, Nat.reduceAdd])
  refine wpQuiet_nil ?_
  intro w' hw'
  go_wp2
  go_ret
  exact ⟨rfl, bCall hbel5 hw' hbel5.size⟩
end Go.Proofs.Ythfkfbabjfogeaa
