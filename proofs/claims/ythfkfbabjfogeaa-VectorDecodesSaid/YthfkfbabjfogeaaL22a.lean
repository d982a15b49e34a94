/- The walk of VectorApart. No condition but what a context's cells are. -/
import Derived.Test.YthfkfbabjfogeaaW22a
import Derived.Deep.Cut
import Derived.Deep.CutRange
import Derived.Deep.DeepCutAuto
namespace Go.Proofs.Ythfkfbabjfogeaa
set_option linter.unusedSimpArgs false
set_option linter.unusedVariables false
set_option linter.unusedSectionVars false
set_option linter.unusedVariables false
open Go.RowKit
section
variable {P : Program} {o : Oper} {a : Act} {w : World}
theorem run_loadBlk {T g n t : Nat} {x : Operand} {cs : Array Value} (ho : o.op = .load T x) (hx : a.eval x = .pointer (some ⟨g, 0, none⟩)) (hb : Blk w g t cs) (ha : IsArr P T n) (hl : cs.size = n) :
    (execOp a.eval o).run P w = .ok (.value (.agg cs)) w := by
  obtain ⟨⟨d, h1, hd⟩, h2⟩ := ha
  unfold execOp
  simp only [ho, hx, Instr.loadAt, Instr.sureAddr, Sem.run_bind, Sem.run_pure, Result.andThen_ok, run_loadVar_row w g t T _ _ _ hb h1 (by cases d <;> first | rfl | cases hd) (by rw [hl]; exact h2)]
end
theorem Try.arC : IsArr Try.prog 25 3 := isStr Try.underlying25 (by kernel_rfl)
/-- What is known of a context that came in. -/
structure Ctx (w : World) (z : Int) (a1 a2 : Option Addr) (c1 c2 : Nat) (xs : List Nat) (xss : List (List Nat)) : Prop where
  wf : (Lit.int .i64 z).wf = true
  s1 : Sl w a1 .u8 xs
  s2 : SlS w a2 xss
  b1 : ∀ x ∈ xs, x < 256
  b2 : ∀ xs ∈ xss, ∀ x ∈ xs, x < 256
  n1 : a1 = none → c1 = 0
  n2 : a2 = none → c2 = 0
  l1 : xs.length ≤ c1
  l2 : xss.length ≤ c2
  m1 : c1 ≤ maxLen
  m2 : c2 ≤ maxLen
theorem Ctx.below {w w' : World} {z : Int} {a1 a2 : Option Addr} {c1 c2 : Nat} {xs : List Nat} {xss : List (List Nat)} (h : Ctx w z a1 a2 c1 c2 xs xss) (hb : Below w.heap.size w w') : Ctx w' z a1 a2 c1 c2 xs xss :=
  ⟨h.wf, h.s1.below hb, h.s2.below hb, h.b1, h.b2, h.n1, h.n2, h.l1, h.l2, h.m1, h.m2⟩
theorem Ctx.of {w : World} {z : Int} {a1 a2 : Option Addr} {c1 c2 : Nat} {xs : List Nat} {xss : List (List Nat)} (h : (Lit.int .i64 z).wf = true ∧ Sl w a1 .u8 xs ∧ SlS w a2 xss ∧ (∀ x ∈ xs, x < 256) ∧ (∀ xs ∈ xss, ∀ x ∈ xs, x < 256) ∧ (a1 = none → c1 = 0) ∧ (a2 = none → c2 = 0) ∧ xs.length ≤ c1 ∧ xss.length ≤ c2 ∧ c1 ≤ maxLen ∧ c2 ≤ maxLen) : Ctx w z a1 a2 c1 c2 xs xss :=
  let ⟨h1, h2, h3, h4, h5, h6, h7, h8, h9, h10, h11⟩ := h
  ⟨h1, h2, h3, h4, h5, h6, h7, h8, h9, h10, h11⟩
theorem putL_30 {xss : List (List Nat)} (h : ∀ xs ∈ xss, xs.length ≤ 100) (hl : xss.length ≤ 20) : (putL xss).length < 2 ^ 30 := by
  have := putL_len h
  have h2 : (8 + 100) * xss.length ≤ (8 + 100) * 20 := Nat.mul_le_mul_left _ hl
  omega
theorem enc22_same {t u : Nat} {n m : List Nat} {ad bd : List (List Nat)} (ht : t ≤ 16) (hu : u ≤ 16) (hn : n.length ≤ 100) (hm : m.length ≤ 100) (bn : ∀ x ∈ n, x < 256) (bm : ∀ x ∈ m, x < 256) (ha : ∀ xs ∈ ad, xs.length ≤ 100) (hb : ∀ xs ∈ bd, xs.length ≤ 100) (hal : ad.length ≤ 20) (hbl : bd.length ≤ 20) (ba : ∀ xs ∈ ad, ∀ x ∈ xs, x < 256) (bb : ∀ xs ∈ bd, ∀ x ∈ xs, x < 256) :
    ((strN (encC t n ad)).toList == (strN (encC u m bd)).toList) = decide ((t : Int) = u ∧ n = m ∧ ad = bd) := by
  rw [strEq (encC_lt (by omega) bn ba) (encC_lt (by omega) bm bb), Bool.eq_iff_iff, beq_iff_eq, decide_eq_true_iff]
  constructor
  · intro h
    have h8 : (101 : Nat) < 256 ^ 8 := by decide
    obtain ⟨h1, h2, h3⟩ := encC_inj (by omega) (by omega) (fun xs h => by have := ha xs h; omega) (fun xs h => by have := hb xs h; omega) (by omega) (by omega) h
    exact ⟨by rw [h1], h2, h3⟩
  · rintro ⟨h1, h2, h3⟩
    rw [show t = u by omega, h2, h3]
set_option maxRecDepth 100000 in
set_option maxHeartbeats 40000000 in
theorem vectorApart_c (z z' : Int) (xs ys : List Nat) (xss yss : List (List Nat)) (a1 a2 b1 b2 : Option Addr) (c1 c2 d1 d2 : Nat) (w : World) (X : Ctx w z a1 a2 c1 c2 xs xss) (Y : Ctx w z' b1 b2 d1 d2 ys yss) :
    Calls Try.prog 3 #[.agg (ctxC z a1 a2 c1 c2 xs xss), .agg (ctxC z' b1 b2 d1 d2 ys yss)] w fun e w' => e = .returned (.bool true) ∧ Below w.heap.size w w' := by
  have hmx : maxLen ≤ 9223372036854775807 := by decide
  have B1 := (Blk.new w 25 (ctxC z a1 a2 c1 c2 xs xss)).alloc (.cells (ctxC z' b1 b2 d1 d2 ys yss) 25)
  have B2 := Blk.new (w.alloc (.cells (ctxC z a1 a2 c1 c2 xs xss) 25)) 25 (ctxC z' b1 b2 d1 d2 ys yss)
  rw [World.size_alloc] at B2
  have hbel := ((Below.refl w.heap.size w).alloc (Nat.le_refl _) (.cells (ctxC z a1 a2 c1 c2 xs xss) 25)).alloc (by simp) (.cells (ctxC z' b1 b2 d1 d2 ys yss) 25)
  have hx63 : xss.length ≤ 9223372036854775807 := by have := X.l2; have := X.m2; omega
  have hy63 : yss.length ≤ 9223372036854775807 := by have := Y.l2; have := Y.m2; omega
  have hx64 : xs.length ≤ 9223372036854775807 := by have := X.l1; have := X.m1; omega
  have hy64 : ys.length ≤ 9223372036854775807 := by have := Y.l1; have := Y.m1; omega
  have X1 := X.below hbel
  have Y1 := Y.below hbel
  clear hmx X Y
  go_enter Try.func3, Try.ntmps3
  go_upto_region 1 with fail
  generalize ((w.alloc (.cells (ctxC z a1 a2 c1 c2 xs xss) 25)).alloc (.cells (ctxC z' b1 b2 d1 d2 ys yss) 25)) = w1 at *
  go_wp2_with (refine wpList_valG rfl (run_loadBlk rfl rfl B1 Try.arC rfl) ?_; (try simp only [Act.put, List.setIfInBounds_toArray, List.set_cons_zero, List.set_cons_succ, World.size_alloc, setRow_size, Nat.add_assoc, Nat.reduceAdd]))
  refine (few22_c z xs xss a1 a2 c1 c2 hx63 hx64 _ X1.s2).mono ?_
  rintro e w2 ⟨bb, rfl, hbb, hb2⟩
  have C1 := B1.below' hb2
  have C2 := B2.below' hb2
  have hbel2 := bCall hbel hb2 hbel.size
  have X2 := X1.below hb2
  have Y2 := Y1.below hb2
  clear B1 B2 hbel X1 Y1 hb2
  cases bb
  · go_wp2
    go_ret
    exact ⟨rfl, hbel2⟩
  obtain ⟨hx100, hx20, hxl⟩ := hbb rfl
  clear hbb
  go_wp2_with (refine wpList_valG rfl (run_loadBlk rfl rfl C2 Try.arC rfl) ?_; (try simp only [Act.put, List.setIfInBounds_toArray, List.set_cons_zero, List.set_cons_succ, World.size_alloc, setRow_size, Nat.add_assoc, Nat.reduceAdd]))
  refine (few22_c z' ys yss b1 b2 d1 d2 hy63 hy64 _ Y2.s2).mono ?_
  rintro e w3 ⟨bb, rfl, hbb, hb3⟩
  have B1 := C1.below' hb3
  have B2 := C2.below' hb3
  have hbel3 := bCall hbel2 hb3 hbel2.size
  have X3 := X2.below hb3
  have Y3 := Y2.below hb3
  clear C1 C2 hbel2 X2 Y2 hb3
  cases bb
  · go_wp2
    go_ret
    exact ⟨rfl, hbel3⟩
  obtain ⟨hy100, hy20, hyl⟩ := hbb rfl
  clear hbb hx63 hx64 hy63 hy64
  have k0 : w3.cell? ⟨w.heap.size, 0, none⟩ = some (.int .i64 z) := by rw [B1.cell]; rfl
  have k1 : w3.cell? ⟨w.heap.size, 1, none⟩ = some (.slice a1 xs.length c1) := by rw [B1.cell]; rfl
  have k2 : w3.cell? ⟨w.heap.size, 2, none⟩ = some (.slice a2 xss.length c2) := by rw [B1.cell]; rfl
  have k3 : w3.cell? ⟨w.heap.size + 1, 0, none⟩ = some (.int .i64 z') := by rw [B2.cell]; rfl
  have k4 : w3.cell? ⟨w.heap.size + 1, 1, none⟩ = some (.slice b1 ys.length d1) := by rw [B2.cell]; rfl
  have k5 : w3.cell? ⟨w.heap.size + 1, 2, none⟩ = some (.slice b2 yss.length d2) := by rw [B2.cell]; rfl
  go_wp2_with fail
  refine (rRight_c z _).mono ?_
  rintro e w4 ⟨rfl, rfl⟩
  by_cases hz : ¬ (0 ≤ z ∧ z ≤ 16)
  · rw [decide_eq_false hz]
    clear hz
    go_wp2
    go_ret
    exact ⟨rfl, hbel3⟩
  replace hz := Classical.not_not.1 hz
  rw [decide_eq_true hz]
  go_wp2_with fail
  refine (rRight_c z' _).mono ?_
  rintro e w4 ⟨rfl, rfl⟩
  by_cases hz' : ¬ (0 ≤ z' ∧ z' ≤ 16)
  · rw [decide_eq_false hz']
    clear hz hz'
    go_wp2
    go_ret
    exact ⟨rfl, hbel3⟩
  replace hz' := Classical.not_not.1 hz'
  rw [decide_eq_true hz']
  go_upto_region 3 with fail
  obtain ⟨t, rfl⟩ : ∃ t : Nat, z = t := ⟨z.toNat, by omega⟩
  obtain ⟨t', rfl⟩ : ∃ t : Nat, z' = t := ⟨z'.toNat, by omega⟩
  have ht : t ≤ 16 := by omega
  have ht' : t' ≤ 16 := by omega
  clear hz hz'
  go_wp2_with fail
  refine (encode22_c t xs xss a1 a2 c1 c2 ht (by omega) (by omega) (putL_30 hx100 hx20) X3.n1 _ X3.s1 X3.s2).mono ?_
  rintro e w4 ⟨v4, rfl, hown4, hb4⟩
  have C1 := B1.below' hb4
  have C2 := B2.below' hb4
  have hbel4 := bCall hbel3 hb4 hbel3.size
  have X4 := X3.below hb4
  have Y4 := Y3.below hb4
  clear B1 B2 k0 k1 k2 k3 k4 k5 hbel3 X3 Y3 hb4
  have k3 : w4.cell? ⟨w.heap.size + 1, 0, none⟩ = some (.int .i64 (t' : Int)) := by rw [C2.cell]; rfl
  have k4 : w4.cell? ⟨w.heap.size + 1, 1, none⟩ = some (.slice b1 ys.length d1) := by rw [C2.cell]; rfl
  have k5 : w4.cell? ⟨w.heap.size + 1, 2, none⟩ = some (.slice b2 yss.length d2) := by rw [C2.cell]; rfl
  go_wp2_with fail
  refine (encode22_c t' ys yss b1 b2 d1 d2 ht' (by omega) (by omega) (putL_30 hy100 hy20) Y4.n1 _ Y4.s1 Y4.s2).mono ?_
  rintro e w5 ⟨v5, rfl, hown5, hb5⟩
  have B1 := C1.below' hb5
  have B2 := C2.below' hb5
  have hbel5 := bCall hbel4 hb5 hbel4.size
  have X5 := X4.below hb5
  have Y5 := Y4.below hb5
  have hown4' := hown4.below hb5
  obtain ⟨a4, c4, rfl, S4, -, -⟩ := hown4'.sl
  obtain ⟨a5, c5, rfl, S5, -, -⟩ := hown5.sl
  have HE := Lib.hid (enc22_same ht ht' hxl hyl X5.b1 Y5.b1 hx100 hy100 hx20 hy20 X5.b2 Y5.b2)
  have HS := Lib.hid fun W (h : Below w5.heap.size w5 W) => same22_c (t : Int) (t' : Int) xs ys xss yss a1 a2 b1 b2 c1 c2 d1 d2 X5.wf Y5.wf (by omega) (by omega) X5.b2 Y5.b2 X5.b1 Y5.b1 W (X5.s1.below h) (Y5.s1.below h) (X5.s2.below h) (Y5.s2.below h)
  generalize decide ((t : Int) = t' ∧ xs = ys ∧ xss = yss) = R at *
  clear C1 C2 k3 k4 k5 hbel4 X4 Y4 hb5 hown4 hown4' hown5
  go_upto_region 5 with fail
  refine wp_region_below (by kernel_rfl) (by kernel_rfl) ?_
  refine quiet_move rfl rfl rfl ?_
  (try simp only [Act.put, List.setIfInBounds_toArray, List.set_cons_zero, List.set_cons_succ, World.size_alloc, setRow_size, Nat.add_assoc, Nat.reduceAdd])
  refine quiet_run (v := .bool true) rfl (fun W => by kernel_rfl) ?_
  (try simp only [Act.put, List.setIfInBounds_toArray, List.set_cons_zero, List.set_cons_succ, World.size_alloc, setRow_size, Nat.add_assoc, Nat.reduceAdd])
  refine quiet_move rfl rfl rfl ?_
  (try simp only [Act.put, List.setIfInBounds_toArray, List.set_cons_zero, List.set_cons_succ, World.size_alloc, setRow_size, Nat.add_assoc, Nat.reduceAdd])
  refine quiet_move rfl rfl rfl ?_
  (try simp only [Act.put, List.setIfInBounds_toArray, List.set_cons_zero, List.set_cons_succ, World.size_alloc, setRow_size, Nat.add_assoc, Nat.reduceAdd])
  refine quiet_run (v := .bool true) rfl (fun W => by kernel_rfl) ?_
  (try simp only [Act.put, List.setIfInBounds_toArray, List.set_cons_zero, List.set_cons_succ, World.size_alloc, setRow_size, Nat.add_assoc, Nat.reduceAdd])
  refine quiet_pickt (by rfl) (by rfl) (by rfl) (by rfl) (by rfl) ?_
  (try simp only [Act.put, List.setIfInBounds_toArray, List.set_cons_zero, List.set_cons_succ, World.size_alloc, setRow_size, Nat.add_assoc, Nat.reduceAdd])
  refine quiet_move rfl rfl rfl ?_
  (try simp only [Act.put, List.setIfInBounds_toArray, List.set_cons_zero, List.set_cons_succ, World.size_alloc, setRow_size, Nat.add_assoc, Nat.reduceAdd])
  refine quiet_move rfl rfl rfl ?_
  (try simp only [Act.put, List.setIfInBounds_toArray, List.set_cons_zero, List.set_cons_succ, World.size_alloc, setRow_size, Nat.add_assoc, Nat.reduceAdd])
  refine quiet_str rfl rfl rfl (rfl) Try.underlying22 Try.underlying5 Try.underlying9 S4 ?_
  (try simp only [Act.put, List.setIfInBounds_toArray, List.set_cons_zero, List.set_cons_succ, World.size_alloc, setRow_size, Nat.add_assoc, Nat.reduceAdd])
  refine quiet_move rfl rfl rfl ?_
  (try simp only [Act.put, List.setIfInBounds_toArray, List.set_cons_zero, List.set_cons_succ, World.size_alloc, setRow_size, Nat.add_assoc, Nat.reduceAdd])
  refine quiet_str rfl rfl rfl (rfl) Try.underlying22 Try.underlying5 Try.underlying9 S5 ?_
  (try simp only [Act.put, List.setIfInBounds_toArray, List.set_cons_zero, List.set_cons_succ, World.size_alloc, setRow_size, Nat.add_assoc, Nat.reduceAdd])
  refine quiet_eqs rfl rfl rfl rfl (HE.out) ?_
  (try simp only [Act.put, List.setIfInBounds_toArray, List.set_cons_zero, List.set_cons_succ, World.size_alloc, setRow_size, Nat.add_assoc, Nat.reduceAdd])
  refine quiet_runC rfl (fun W hC => run_loadBlk rfl rfl (B1.below' hC) Try.arC rfl) ?_
  (try simp only [Act.put, List.setIfInBounds_toArray, List.set_cons_zero, List.set_cons_succ, World.size_alloc, setRow_size, Nat.add_assoc, Nat.reduceAdd])
  refine quiet_runC rfl (fun W hC => run_loadBlk rfl rfl (B2.below' hC) Try.arC rfl) ?_
  (try simp only [Act.put, List.setIfInBounds_toArray, List.set_cons_zero, List.set_cons_succ, World.size_alloc, setRow_size, Nat.add_assoc, Nat.reduceAdd])
  refine quiet_call 13 rfl rfl Try.func13 (by kernel_rfl) (by kernel_rfl) (fun W hQ => HS.out W hQ) ?_
  (try simp only [Act.put, List.setIfInBounds_toArray, List.set_cons_zero, List.set_cons_succ, World.size_alloc, setRow_size, Nat.add_assoc, Nat.reduceAdd])
  refine quiet_run (v := .bool true) rfl (fun W => by cases R <;> kernel_rfl) ?_
  (try simp only [Act.put, List.setIfInBounds_toArray, List.set_cons_zero, List.set_cons_succ, World.size_alloc, setRow_size, Nat.add_assoc, Nat.reduceAdd])
  refine quiet_pickt (by rfl) (by rfl) (by rfl) (by rfl) (by rfl) ?_
  (try simp only [Act.put, List.setIfInBounds_toArray, List.set_cons_zero, List.set_cons_succ, World.size_alloc, setRow_size, Nat.add_assoc, Nat.reduceAdd])
  refine quiet_move rfl rfl rfl ?_
  (try simp only [Act.put, List.setIfInBounds_toArray, List.set_cons_zero, List.set_cons_succ, World.size_alloc, setRow_size, Nat.add_assoc, Nat.reduceAdd])
  refine quiet_call 14 rfl rfl Try.func14 (by kernel_rfl) (by kernel_rfl) (fun W hQ => awake22_c W) ?_
  (try simp only [Act.put, List.setIfInBounds_toArray, List.set_cons_zero, List.set_cons_succ, World.size_alloc, setRow_size, Nat.add_assoc, Nat.reduceAdd])
  refine quiet_pickt (by rfl) (by rfl) (by rfl) (by rfl) (by rfl) ?_
  (try simp only [Act.put, List.setIfInBounds_toArray, List.set_cons_zero, List.set_cons_succ, World.size_alloc, setRow_size, Nat.add_assoc, Nat.reduceAdd])
  refine quiet_assign rfl rfl rfl ?_
  (try simp only [Act.put, List.setIfInBounds_toArray, List.set_cons_zero, List.set_cons_succ, World.size_alloc, setRow_size, Nat.add_assoc, Nat.reduceAdd])
  refine wpQuiet_nil ?_
  intro w' hw'
  go_wp2
  go_ret
  exact ⟨rfl, bCall hbel5 hw' hbel5.size⟩
end Go.Proofs.Ythfkfbabjfogeaa
