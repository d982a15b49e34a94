/- AES's tables: brings, New, Box. No condition but that bytes are below 256 and that the two listed variables hold what they hold. -/
import Derived.Test.YtaiffkajkbiidaaGreatDoorW2b
import Derived.Test.YtaiffkajkbiidaaGreatDoorKitQ
namespace Go.Proofs.YtaiffkajkbiidaaGreatDoor
set_option linter.unusedSimpArgs false
set_option linter.unusedVariables false
set_option linter.unusedSectionVars false
set_option linter.unusedVariables false
open Go.RowKit
section
variable {P : Program}
/-- An array out of cells that are known. -/
theorem run_loadSl {a : Act} {o : Oper} {W : World} {x : Operand} {T n g off : Nat} {k : IntKind} {xs : List Nat} (ho : o.op = .load T x) (hx : a.eval x = .pointer (some ⟨g, off, none⟩)) (hs : Sl W (some ⟨g, off, none⟩) k xs) (ha : IsArr P T n) (hl : xs.length = n) (hne : xs ≠ []) :
    (execOp a.eval o).run P W = .ok (.value (.agg (ints k xs))) W := by
  obtain ⟨⟨d, h1, hd⟩, h2⟩ := ha
  obtain ⟨g', off', q1, q2, q3⟩ := hs hne
  cases q1
  have hr : W.rangeAt g off (ints k xs).toList := fun j u hj => by
    rw [Array.getElem?_toList, ints_get] at hj
    by_cases hlt : j < xs.length
    · rw [getD_lt hlt] at hj
      simp only [Option.map_some, Option.some.injEq] at hj
      subst hj
      exact q3 j hlt
    · rw [List.getElem?_eq_none (by omega)] at hj; cases hj
  unfold execOp
  simp only [ho, hx, Instr.loadAt, Instr.sureAddr, Sem.run_bind, Sem.run_pure, Result.andThen_ok, run_loadVar_mid W g off _ _ d hr h1 (by cases d <;> first | rfl | cases hd) (by rw [Array.length_toList, ints_size, hl]; exact h2)]
end
theorem Tryz.ar365 : IsArr Tryz.prog 65 4 := isArr Tryz.underlying65 (by kernel_rfl)
def mixesL : List Nat := [2, 3, 1, 1]
def unmixesL : List Nat := [14, 11, 13, 9]
/-- The two listed variables. -/
def Gl (w : World) : Prop := Sl w (some ⟨0, 0, none⟩) .u8 mixesL ∧ Sl w (some ⟨1, 0, none⟩) .u8 unmixesL
theorem Gl.below {w w' : World} (h : Gl w) (hb : Below w.heap.size w w') : Gl w' := ⟨h.1.below hb, h.2.below hb⟩
def brK (by_ : List Nat) (row a : Nat) : Nat → Nat
  | 0 => 0
  | r + 1 => brK by_ row a r ||| gfT (by_.getD ((row + 4 - r) % 4) 0) a * 2 ^ (8 * r)
def brN (by_ : List Nat) (row a : Nat) : Nat := brK by_ row a 4
theorem brK_lt {by_ : List Nat} (hb : ∀ x ∈ by_, x < 256) (row a : Nat) : ∀ r, r ≤ 4 → brK by_ row a r < 4294967296
  | 0, _ => (by decide : 0 < 4294967296)
  | r + 1, h => by
    refine Nat.or_lt_two_pow (n := 32) (brK_lt hb row a r (by omega)) ?_
    have h1 := gfT_lt (b := a) (getD_bound hb (by decide) ((row + 4 - r) % 4))
    have h2 : r = 0 ∨ r = 1 ∨ r = 2 ∨ r = 3 := by omega
    rcases h2 with rfl | rfl | rfl | rfl <;> simp only [Nat.reduceMul, Nat.reducePow] <;> omega
set_option maxRecDepth 100000 in
set_option maxHeartbeats 8000000 in
theorem brings_c (by_ : List Nat) (hl : by_.length = 4) (hb : ∀ x ∈ by_, x < 256) (row a : Nat) (hr : row < 4) (ha : a < 256) (w : World) :
    Calls Tryz.prog 24 #[.agg (ints .u8 by_), .int .i64 (row : Int), .int .u8 (a : Int)] w fun e w' => e = .returned (.int .u32 (brN by_ row a : Nat)) ∧ Below w.heap.size w w' := by
  have B0 := Blk.new w 65 (ints .u8 by_)
  have hbel := (Below.refl w.heap.size w).alloc (Nat.le_refl _) (.cells (ints .u8 by_) 65)
  go_enter Tryz.func24, Tryz.ntmps24
  go_wp2_with fail
  go_loop [7, 9] (fun s t => ∃ r : Nat, r ≤ 4 ∧ t = .int .i64 (r : Int) ∧ s = .int .u32 ((brK by_ row a r : Nat) : Int)) (fun s t => 4 - (intOf t).toNat)
  case atStart => exact ⟨0, by omega, rfl, rfl⟩
  case round =>
    obtain ⟨r, hr4, rfl, rfl⟩ := hrel
    by_cases hlt : r < 4
    · have hd : decide ((r : Int) < 4) = true := by simp; omega
      obtain ⟨j, Hj⟩ : ∃ j, Hid ((row + 4 - r) % 4 = j) := ⟨_, Lib.hid rfl⟩
      have hj : j < 4 := by rw [← Hj.out]; omega
      have hji : (j : Int) < 4 := by omega
      have hrt : ((row : Int) - (r : Int) + 4).tmod 4 = (j : Int) := by
        rw [Int.tmod_eq_emod_of_nonneg (by omega), ← Hj.out]; omega
      have c0 := B0.int (i := j) (by omega)
      have hx := getD_bound hb (by decide) j
      have HB : Hid (brK by_ row a (r + 1) = brK by_ row a r ||| gfT (by_.getD j 0) a * 2 ^ (8 * r)) := Lib.hid (by rw [← Hj.out]; rfl)
      have ht := gfT_lt (b := a) hx
      have hk := brK_lt hb row a r hr4
      generalize by_.getD j 0 = x at *
      have htc := gfTimes_c x a hx ha
      have HS : Hid (gfT x a * 2 ^ (8 * r) < 4294967296) := Lib.hid (by
        have h2 : r = 0 ∨ r = 1 ∨ r = 2 ∨ r = 3 := by omega
        rcases h2 with rfl | rfl | rfl | rfl <;> simp only [Nat.reduceMul, Nat.reducePow] <;> omega)
      have HO := Lib.hid (u32_or_nat (brK by_ row a r) (gfT x a * 2 ^ (8 * r)) hk HS.out)
      go_wp2_with fail
      refine (htc _).mono ?_
      rintro e w1 ⟨rfl, rfl⟩
      clear htc
      go_wp2_with fail
      have he : ((gfT x a : Nat) : Int) * 2 ^ (8 * r) % 4294967296 = ((gfT x a * 2 ^ (8 * r) : Nat) : Int) := by
        have h1 : ((gfT x a * 2 ^ (8 * r) : Nat) : Int) = ((gfT x a : Nat) : Int) * 2 ^ (8 * r) := by simp
        rw [← h1]
        have := HS.out
        omega
      rw [he, HO.out, ← HB.out]
      exact ⟨⟨r + 1, by omega, by go_num, rfl⟩, by simp [intOf] <;> omega⟩
    · obtain rfl : r = 4 := by omega
      go_wp2_with fail
      go_ret
      exact ⟨rfl, hbel⟩
def mixV (L : List Nat) (n : Nat) : Nat := brN mixesL (n / 256) (L.getD (n % 256) 0)
def unV (n : Nat) : Nat := brN unmixesL (n / 256) (n % 256)
/-- So many of the tables' numbers are laid. -/
def TbI (w : World) (g gb : Nat) (L : List Nat) (n : Nat) : Prop := ∃ cs : Array Value, Blk w g 56 cs ∧ cs.size = 2049 ∧ cs[0]? = some (.pointer (some ⟨gb, 0, none⟩)) ∧ ∀ k, k < n → cs[1 + k]? = some (.int .u32 ((mixV L k : Nat) : Int)) ∧ cs[1025 + k]? = some (.int .u32 ((unV k : Nat) : Int))
theorem TbI.lt {w : World} {g gb n : Nat} {L : List Nat} (h : TbI w g gb L n) : g < w.heap.size := let ⟨_, h1, _⟩ := h; h1.lt
theorem TbI.below {w w' : World} {g gb n : Nat} {L : List Nat} (h : TbI w g gb L n) (hb : Below w.heap.size w w') : TbI w' g gb L n := let ⟨cs, h1, h2⟩ := h; ⟨cs, h1.below' hb, h2⟩
theorem TbI.box {w : World} {g gb n : Nat} {L : List Nat} (h : TbI w g gb L n) : w.cell? ⟨g, 0, none⟩ = some (.pointer (some ⟨gb, 0, none⟩)) := by
  obtain ⟨cs, h1, -, h2, -⟩ := h
  rw [h1.cell, h2]
theorem TbI.mix {w : World} {g gb n k : Nat} {L : List Nat} (h : TbI w g gb L n) (hk : k < n) : w.cell? ⟨g, 1 + k, none⟩ = some (.int .u32 ((mixV L k : Nat) : Int)) := by
  obtain ⟨cs, h1, -, -, h2⟩ := h
  rw [h1.cell, (h2 k hk).1]
/-- A cell that is there, whatever it holds. -/
theorem TbI.at_ {w : World} {g gb n : Nat} {L : List Nat} (h : TbI w g gb L n) {i : Nat} (hi : i < 2049) : ∃ v, w.cell? ⟨g, i, none⟩ = some v ∧ w.frozen? ⟨g, i, none⟩ = false := by
  obtain ⟨cs, h1, h2, -⟩ := h
  exact ⟨cs[i]'(by omega), by rw [h1.cell, Array.getElem?_eq_getElem (by omega)], h1.frozen i⟩
/-- The n-th of the first half is laid. -/
def TbJ (w : World) (g gb : Nat) (L : List Nat) (n : Nat) : Prop := TbI w g gb L n ∧ w.cell? ⟨g, 1 + n, none⟩ = some (.int .u32 ((mixV L n : Nat) : Int))
theorem TbJ.below {w w' : World} {g gb n : Nat} {L : List Nat} (h : TbJ w g gb L n) (hb : Below w.heap.size w w') : TbJ w' g gb L n := ⟨h.1.below hb, (hb.cell (p := ⟨g, 1 + n, none⟩) h.1.lt).trans h.2⟩
theorem TbI.lay {w : World} {g gb n : Nat} {L : List Nat} (h : TbI w g gb L n) (hn : n < 1024) : TbJ (w.setCell ⟨g, 1 + n, none⟩ (.int .u32 ((mixV L n : Nat) : Int))) g gb L n := by
  obtain ⟨cs, h1, h2, h3, h4⟩ := h
  have h5 := h1.set_ (1 + n) (.int .u32 ((mixV L n : Nat) : Int))
  refine ⟨⟨_, h5, by rw [Array.size_setIfInBounds]; exact h2, ?_, fun k hk => ⟨?_, ?_⟩⟩, ?_⟩
  · rw [Array.getElem?_setIfInBounds_ne (by omega)]; exact h3
  · rw [Array.getElem?_setIfInBounds_ne (by omega)]; exact (h4 k hk).1
  · rw [Array.getElem?_setIfInBounds_ne (by omega)]; exact (h4 k hk).2
  · rw [h5.cell, Array.getElem?_setIfInBounds_self_of_lt (by omega)]
theorem TbJ.lay {w : World} {g gb n : Nat} {L : List Nat} (h : TbJ w g gb L n) (hn : n < 1024) : TbI (w.setCell ⟨g, 1025 + n, none⟩ (.int .u32 ((unV n : Nat) : Int))) g gb L (n + 1) := by
  obtain ⟨⟨cs, h1, h2, h3, h4⟩, h6⟩ := h
  rw [h1.cell] at h6
  have h5 := h1.set_ (1025 + n) (.int .u32 ((unV n : Nat) : Int))
  refine ⟨_, h5, by rw [Array.size_setIfInBounds]; exact h2, ?_, fun k hk => ?_⟩
  · rw [Array.getElem?_setIfInBounds_ne (by omega)]; exact h3
  · by_cases hkn : k = n
    · subst hkn
      exact ⟨by rw [Array.getElem?_setIfInBounds_ne (by omega)]; exact h6, by rw [Array.getElem?_setIfInBounds_self_of_lt (by omega)]⟩
    · have hk' : k < n := by omega
      exact ⟨by rw [Array.getElem?_setIfInBounds_ne (by omega)]; exact (h4 k hk').1, by rw [Array.getElem?_setIfInBounds_ne (by omega)]; exact (h4 k hk').2⟩
theorem mixV_is {L : List Nat} {r q : Nat} (hq : q < 256) : mixV L (256 * r + q) = brN mixesL r (L.getD q 0) := by
  unfold mixV
  rw [show (256 * r + q) / 256 = r by omega, show (256 * r + q) % 256 = q by omega]
theorem unV_is {r q : Nat} (hq : q < 256) : unV (256 * r + q) = brN unmixesL r q := by
  unfold unV
  rw [show (256 * r + q) / 256 = r by omega, show (256 * r + q) % 256 = q by omega]
set_option maxRecDepth 100000 in
set_option maxHeartbeats 8000000 in
theorem turnNew_c (gb : Nat) (L : List Nat) (hL : L.length = 512) (hLb : ∀ x ∈ L, x < 256) (w : World) (B0 : Blk w gb 69 (ints .u8 L)) (hG : Gl w) :
    Calls Tryz.prog 19 #[.pointer (some ⟨gb, 0, none⟩)] w fun e w' => ∃ g, e = .returned (.pointer (some ⟨g, 0, none⟩)) ∧ w.heap.size ≤ g ∧ TbI w' g gb L 1024 ∧ Below w.heap.size w w' := by
  have T0 : TbI (w.alloc (.cells (Tryz.zeroCells56.setIfInBounds 0 (.pointer (some ⟨gb, 0, none⟩))) 56)) w.heap.size gb L 0 :=
    ⟨_, Blk.new w _ _, by rw [Array.size_setIfInBounds]; exact Tryz.zeroCells56_size, by rw [Array.getElem?_setIfInBounds_self_of_lt (by rw [Tryz.zeroCells56_size]; decide)], fun k hk => by omega⟩
  have hbel0 := (Below.refl w.heap.size w).alloc (Nat.le_refl _) (.cells (Tryz.zeroCells56.setIfInBounds 0 (.pointer (some ⟨gb, 0, none⟩))) 56)
  go_enter Tryz.func19, Tryz.ntmps19
  go_wp2_with fail
  generalize (w.alloc (.cells (Tryz.zeroCells56.setIfInBounds 0 (.pointer (some ⟨gb, 0, none⟩))) 56)) = w0 at *
  go_loopw [11] (fun s wr => ∃ r : Nat, r ≤ 4 ∧ s = .int .i64 (r : Int) ∧ TbI wr w.heap.size gb L (256 * r) ∧ Below w.heap.size w wr) (fun s wr => 4 - (intOf s).toNat)
  case atStart => exact ⟨0, by omega, rfl, T0, hbel0⟩
  case round =>
    clear T0 hbel0
    obtain ⟨r, hr, rfl, T1, hbel1⟩ := hrel
    by_cases hlt : r < 4
    · have hd : decide ((r : Int) < 4) = true := by simp; omega
      go_wp2_with fail
      go_loopw [14] (fun s wr' => ∃ q : Nat, q ≤ 256 ∧ s = .int .i64 (q : Int) ∧ TbI wr' w.heap.size gb L (256 * r + q) ∧ Below w.heap.size w wr') (fun s wr' => 256 - (intOf s).toNat)
      case atStart => exact ⟨0, by omega, rfl, T1, hbel1⟩
      case round =>
        clear T1 hbel1
        obtain ⟨q, hq, rfl, T1, hbel1⟩ := hrel
        by_cases hlq : q < 256
        · have hd2 : decide ((q : Int) < 256) = true := by simp; omega
          have hwq : IntKind.u8.wrap (q : Int) = (q : Int) := by rw [IntKind.wrap_u8]; omega
          have hG1 := hG.below hbel1
          have B1 := B0.below' hbel1
          have hLq := getD_bound hLb (by decide) q
          have hri : (r : Int) < 4 := by omega
          have hqi : (q : Int) < 256 := by omega
          have HV := Lib.hid (mixV_is (L := L) (r := r) hlq)
          have HU := Lib.hid (unV_is (r := r) hlq)
          have hn : 256 * r + q < 1024 := by omega
          have HLQ := Lib.hid fun W (hB : Blk W gb 69 (ints .u8 L)) => gfTo_c gb q L hlq hL W hB
          generalize L.getD q 0 = lq at *
          go_wp2_with fail
          refine wp_region_below_tail 14 (by kernel_rfl) (by kernel_rfl) ?_
          simp only [List.take_succ_cons, List.take_zero, List.drop_succ_cons, List.drop_zero]
          go_big_quiet_step (fail)
          go_big_quiet_step (fail)
          go_big_quiet_step (fail)
          refine quiet_runC rfl (fun W hC => run_loadSl rfl rfl (hG1.below hC).1 Tryz.ar365 rfl (by decide)) ?_
          (try simp only [Act.put, List.setIfInBounds_toArray, List.set_cons_zero, List.set_cons_succ, World.size_alloc, setRow_size, Nat.add_assoc, Nat.reduceAdd])
          go_big_quiet_step (fail)
          go_big_quiet_step (fail)
          go_big_quiet_step (fail)
          refine quiet_run (v := .int .u8 (q : Int)) rfl (fun W => run_conv rfl Tryz.underlying3 Tryz.underlying5 rfl hwq) ?_
          (try simp only [Act.put, List.setIfInBounds_toArray, List.set_cons_zero, List.set_cons_succ, World.size_alloc, setRow_size, Nat.add_assoc, Nat.reduceAdd])
          refine quiet_call 21 rfl rfl Tryz.func21 (by kernel_rfl) (by kernel_rfl) (fun W hQ => pureB (HLQ.out W (B1.below' hQ))) ?_
          (try simp only [Act.put, List.setIfInBounds_toArray, List.set_cons_zero, List.set_cons_succ, World.size_alloc, setRow_size, Nat.add_assoc, Nat.reduceAdd])
          refine quiet_call 24 rfl rfl Tryz.func24 (by kernel_rfl) (by kernel_rfl) (fun W hQ => brings_c mixesL rfl (by decide) r lq hlt hLq W) ?_
          (try simp only [Act.put, List.setIfInBounds_toArray, List.set_cons_zero, List.set_cons_succ, World.size_alloc, setRow_size, Nat.add_assoc, Nat.reduceAdd])
          refine quiet_run (v := .pointer (some ⟨w.heap.size, 0, none⟩)) rfl (fun W => by kernel_rfl) ?_
          (try simp only [Act.put, List.setIfInBounds_toArray, List.set_cons_zero, List.set_cons_succ, World.size_alloc, setRow_size, Nat.add_assoc, Nat.reduceAdd])
          refine quiet_run (v := .pointer (some ⟨w.heap.size, 1, none⟩)) rfl (fun W => by kernel_rfl) ?_
          (try simp only [Act.put, List.setIfInBounds_toArray, List.set_cons_zero, List.set_cons_succ, World.size_alloc, setRow_size, Nat.add_assoc, Nat.reduceAdd])
          go_big_quiet_step ((intro _; rfl))
          go_big_quiet_step ((intro _; rfl))
          refine wpQuiet_nil ?_
          intro w' hw'
          have hbel2 := bCall hbel1 hw' hbel1.size
          have T2 := T1.below hw'
          obtain ⟨v0, c0, z0⟩ := T2.at_ (i := 1 + (256 * r + q)) (by omega)
          have hoff : 1 + (256 * r + q) = 1 + r * 256 + q := by omega
          rw [hoff] at c0 z0
          have T3 := T2.lay hn
          rw [HV.out, hoff] at T3
          have hbel3 := hbel2.setCell (p := ⟨w.heap.size, 1 + r * 256 + q, none⟩) (Nat.le_refl _) (.int .u32 ((brN mixesL r lq : Nat) : Int))
          have hG3 := hG.below hbel3
          clear T1 T2 hbel1 hw' hbel2 B1 hG1
          go_wp2_with fail
          clear c0 z0
          generalize (w'.setCell ⟨w.heap.size, 1 + r * 256 + q, none⟩ (.int .u32 ((brN mixesL r lq : Nat) : Int))) = w3 at *
          refine wp_region_below_tail 12 (by kernel_rfl) (by kernel_rfl) ?_
          simp only [List.take_succ_cons, List.take_zero, List.drop_succ_cons, List.drop_zero]
          go_big_quiet_step (fail)
          go_big_quiet_step (fail)
          go_big_quiet_step (fail)
          refine quiet_runC rfl (fun W hC => run_loadSl rfl rfl (hG3.below hC).2 Tryz.ar365 rfl (by decide)) ?_
          (try simp only [Act.put, List.setIfInBounds_toArray, List.set_cons_zero, List.set_cons_succ, World.size_alloc, setRow_size, Nat.add_assoc, Nat.reduceAdd])
          go_big_quiet_step (fail)
          go_big_quiet_step (fail)
          refine quiet_run (v := .int .u8 (q : Int)) rfl (fun W => run_conv rfl Tryz.underlying3 Tryz.underlying5 rfl hwq) ?_
          (try simp only [Act.put, List.setIfInBounds_toArray, List.set_cons_zero, List.set_cons_succ, World.size_alloc, setRow_size, Nat.add_assoc, Nat.reduceAdd])
          refine quiet_call 24 rfl rfl Tryz.func24 (by kernel_rfl) (by kernel_rfl) (fun W hQ => brings_c unmixesL rfl (by decide) r q hlt hlq W) ?_
          (try simp only [Act.put, List.setIfInBounds_toArray, List.set_cons_zero, List.set_cons_succ, World.size_alloc, setRow_size, Nat.add_assoc, Nat.reduceAdd])
          refine quiet_run (v := .pointer (some ⟨w.heap.size, 0, none⟩)) rfl (fun W => by kernel_rfl) ?_
          (try simp only [Act.put, List.setIfInBounds_toArray, List.set_cons_zero, List.set_cons_succ, World.size_alloc, setRow_size, Nat.add_assoc, Nat.reduceAdd])
          refine quiet_run (v := .pointer (some ⟨w.heap.size, 1025, none⟩)) rfl (fun W => by kernel_rfl) ?_
          (try simp only [Act.put, List.setIfInBounds_toArray, List.set_cons_zero, List.set_cons_succ, World.size_alloc, setRow_size, Nat.add_assoc, Nat.reduceAdd])
          go_big_quiet_step ((intro _; rfl))
          go_big_quiet_step ((intro _; rfl))
          refine wpQuiet_nil ?_
          intro w' hw'
          have hbel2 := bCall hbel3 hw' hbel3.size
          have T2 := T3.below hw'
          obtain ⟨v0, c0, z0⟩ := T2.1.at_ (i := 1025 + (256 * r + q)) (by omega)
          have hoff : 1025 + (256 * r + q) = 1025 + r * 256 + q := by omega
          rw [hoff] at c0 z0
          have T4 := T2.lay hn
          rw [HU.out, hoff] at T4
          have hbel4 := hbel2.setCell (p := ⟨w.heap.size, 1025 + r * 256 + q, none⟩) (Nat.le_refl _) (.int .u32 ((brN unmixesL r q : Nat) : Int))
          clear T2 T3 hbel3 hw' hbel2 hG3
          go_wp2_with fail
          exact ⟨⟨q + 1, by omega, by go_num, T4, hbel4⟩, by simp [intOf] <;> omega⟩
        · obtain rfl : q = 256 := by omega
          have hd2 : decide (((256 : Nat) : Int) < 256) = false := by simp
          go_wp2_with fail
          exact ⟨⟨r + 1, by omega, by go_num, T1, hbel1⟩, by simp [intOf] <;> omega⟩
    · obtain rfl : r = 4 := by omega
      go_wp2
      go_ret
      exact ⟨_, rfl, Nat.le_refl _, T1, hbel1⟩
set_option maxHeartbeats 4000000 in
theorem turnBox_c (g gb a : Nat) (L : List Nat) (ha : a < 256) (hL : L.length = 512) (w : World) (hT : TbI w g gb L 1024) (B0 : Blk w gb 69 (ints .u8 L)) :
    Calls Tryz.prog 14 #[.pointer (some ⟨g, 0, none⟩), .int .u8 (a : Int)] w fun e w' => e = .returned (.int .u8 (L.getD a 0 : Nat)) ∧ w = w' := by
  have c0 := hT.box
  have hto := gfTo_c gb a L ha hL w B0
  generalize L.getD a 0 = v at *
  go_enter Tryz.func14, Tryz.ntmps14
  go_wp2_with fail
  refine hto.mono ?_
  rintro e w1 ⟨rfl, rfl⟩
  go_wp2
  go_ret
  exact ⟨rfl, rfl⟩
/-- The whole of tables(): the pointer to the tables, that of the boxes. -/
def IsTab (w : World) (g gb : Nat) : Prop := TbI w g gb (bxS 255) 1024 ∧ Blk w gb 69 (ints .u8 (bxS 255))
theorem IsTab.below {w w' : World} {g gb : Nat} (h : IsTab w g gb) (hb : Below w.heap.size w w') : IsTab w' g gb := ⟨h.1.below hb, h.2.below' hb⟩
end Go.Proofs.YtaiffkajkbiidaaGreatDoor
