/- poly's Sum.Value, Sum.Tag, Hash; a Sum that is none. No condition but that bytes are below 256 and rows shorter than 2^31. -/
import Derived.Test.YtolfngmpoafaaaaW8d
namespace Go.Proofs.Ytolfngmpoafaaaa
set_option linter.unusedSimpArgs false
set_option linter.unusedVariables false
set_option linter.unusedSectionVars false
set_option linter.unusedVariables false
open Go.RowKit
section
variable {P : Program} {ops : Array Oper} {rest : List Oper} {o : Oper} {a : Act} {w : World} {Q : Exit → Act → World → Prop}
/-- All cells of a block, of whatever kinds. -/
theorem wpList_load_blk (hgd : o.guard = none) (T : TypeId) (x : Operand) (ho : o.op = .load T x) (g : Nat) (hx : a.eval x = .pointer (some ⟨g, 0, none⟩)) {n t : Nat} {cs : Array Value} (hb : Blk w g t cs) (ha : IsArr P T n) (hl : cs.size = n)
    (h : wpList P ops Q rest (a.put o.dst (.agg cs)) w) : wpList P ops Q (o :: rest) a w := by
  obtain ⟨⟨d, h1, hd⟩, h2⟩ := ha
  exact wpList_load_row hgd T x ho g hx t _ _ _ hb h1 (by cases d <;> first | rfl | cases hd) (by rw [hl]; exact h2) h
theorem wpList_store_blk (hgd : o.guard = none) (T : TypeId) (x y : Operand) (ho : o.op = .store T x y) (g : Nat) {cs : Array Value} (hx : a.eval x = .pointer (some ⟨g, 0, none⟩)) (hy : a.eval y = .agg cs) {n t : Nat} {old : Array Value} (hb : Blk w g t old) (hold : old.size = n) (ha : IsArr P T n) (hl : cs.size = n) (h1 : cs.all (·.oneCell') = true)
    (h : wpList P ops Q rest (a.put o.dst undef) (w.setRow g cs)) : wpList P ops Q (o :: rest) a w :=
  wpList_store_row hgd T x y ho g _ hx hy t old hb (by rw [hl]; exact ha.2) (by rw [hold, hl]) h1 h
/-- Type T's zero value is these cells. -/
def IsZ (P : Program) (T : TypeId) (cs : Array Value) : Prop := (P.info? T).bind (·.zero) = some (.agg cs)
theorem wpList_alloc_z (hgd : o.guard = none) (T : TypeId) (ho : o.op = .alloc T) {cs : Array Value} (hz : IsZ P T cs)
    (h : wpList P ops Q rest (a.put o.dst (.pointer (some ⟨w.heap.size, 0, none⟩))) (w.alloc (.cells cs T))) : wpList P ops Q (o :: rest) a w :=
  wpList_plain hgd fun _ hK => by
    unfold IsZ at hz
    rw [Option.bind_eq_some_iff] at hz
    obtain ⟨i, h1, h2⟩ := hz
    unfold Oper.wp execOp
    simp [ho, Instr.alloc, zeroValue, typeInfo, h1, h2, newVar, newRow, newObj, Value.cells, Sem.run_bind]
    exact hK _ _ h
end
theorem Try.zS : IsZ Try.prog 87 (smC (zeros 5) (zeros 5) (zeros 16) 0) := by unfold IsZ; kernel_rfl
theorem smC_one (r v rest : List Nat) (m : Nat) : (smC r v rest m).all (·.oneCell') = true := by
  unfold smC
  refine all_oneCell_toArray fun x hx => ?_
  simp only [List.mem_append, List.mem_singleton] at hx
  rcases hx with ((hx | hx) | hx) | rfl
  · exact vals_one _ _ x hx
  · exact vals_one _ _ x hx
  · exact vals_one _ _ x hx
  · rfl
theorem Try.ar87 : IsArr Try.prog 87 27 := isStr Try.underlying87 (by kernel_rfl)
/-- The value of bytes behind which part of a part is left. -/
theorem polyA_part {key bs last : List Nat} {q m : Nat} (hq : bs.length / 16 = q) (hm : bs.length % 16 = m) (h0 : m ≠ 0) (hl : last = bs.drop (16 * q) ++ [1] ++ zeros (15 - m)) :
    numOf ((polyV (byN key) 0 bs q + ofN last 0) * byN key) = numOf (polyA key bs) := by
  unfold polyA
  rw [show chunks bs.length = q + 1 by unfold chunks; omega, polyV_succ, numOf_mod]
  unfold chunkN blk
  rw [List.take_of_length_le (by rw [List.length_drop]; omega), ← chunk_part _ (15 - m), ← hl]
theorem polyA_even {key bs : List Nat} {q : Nat} (hq : bs.length / 16 = q) (hm : bs.length % 16 = 0) : polyV (byN key) 0 bs q = polyA key bs := by
  unfold polyA
  rw [show chunks bs.length = q by unfold chunks; omega]
theorem Try.one8s : IsOne Try.prog 5 := by unfold IsOne; kernel_rfl
theorem last_row {xs : List Nat} {m : Nat} (hl : xs.length = m) (hm : m < 16) : (splice (zeros 16) 0 xs).set m 1 = xs ++ [1] ++ zeros (15 - m) := by
  unfold splice
  rw [List.take_zero, List.nil_append, Nat.zero_add, hl]
  have e : (zeros 16).drop m = 0 :: zeros (15 - m) := by
    unfold zeros
    rw [List.drop_replicate, show 16 - m = (15 - m) + 1 by omega, List.replicate_succ]
  rw [e, List.set_append_right _ _ (by omega), hl, Nat.sub_self, List.set_cons_zero, List.append_assoc]
  rfl
set_option maxRecDepth 100000 in
set_option maxHeartbeats 8000000 in
theorem value8_c (g : Nat) (key bs : List Nat) (hbb : ∀ x ∈ bs, x < 256) (w : World) (hS : IsSm w g key bs) :
    Calls Try.prog 58 #[.pointer (some ⟨g, 0, none⟩)] w fun e w' => e = .returned (.agg (ints .u32 (numOf (polyA key bs)))) ∧ Below w.heap.size w w' := by
  obtain ⟨rest, hrl, hrb, hrt, S0⟩ := hS
  obtain ⟨q, Hq⟩ : ∃ q, Hid (bs.length / 16 = q) := ⟨_, Lib.hid rfl⟩
  obtain ⟨m, Hm⟩ : ∃ m, Hid (bs.length % 16 = m) := ⟨_, Lib.hid rfl⟩
  rw [Hq.out, Hm.out] at S0 hrt
  have hm16 : m < 16 := by rw [← Hm.out]; omega
  have R0 := Blk.new w 83 (ints .u32 (zeros 5))
  have S1 := S0.alloc (.cells (ints .u32 (zeros 5)) 83)
  have hbel := (Below.refl w.heap.size w).alloc (Nat.le_refl _) (.cells (ints .u32 (zeros 5)) 83)
  have hcm : (w.alloc (.cells (ints .u32 (zeros 5)) 83)).cell? ⟨g, 26, none⟩ = some (.int .i64 (m : Int)) := by rw [S1.cell, smC_cell _ _ hrl]
  have Hrt := Lib.hid hrt
  clear hrt S0
  have hg2 : g < w.heap.size + 1 := by have := S1.lt; rwa [World.size_alloc] at this
  by_cases h0 : m = 0
  · subst h0
    have HV := Lib.hid (polyA_even (key := key) Hq.out Hm.out)
    rw [HV.out] at S1
    have S1v := S1
    rw [smC_v] at S1v
    go_enter Try.func58, Try.ntmps58
    go_wp2_with (first
      | (refine wpList_alloc_ints rfl 83 rfl Try.z83 ?_; (try simp only [Act.put, List.setIfInBounds_toArray, List.set_cons_zero, List.set_cons_succ, World.size_alloc, setRow_size, Nat.add_assoc, Nat.reduceAdd]))
      | (refine wpList_load_part (old := vals .u32 (numOf (polyA key bs))) rfl 83 _ rfl 5 rfl S1v (by simp [vals_len, numOf_len]) Try.ar83 (by rw [vals_len]; exact numOf_len _) ?_; (try simp only [Act.put, List.setIfInBounds_toArray, List.set_cons_zero, List.set_cons_succ, World.size_alloc, setRow_size, Nat.add_assoc, Nat.reduceAdd]))
      | (refine wpList_store_ints (k := .u32) (xs := numOf (polyA key bs)) rfl 83 _ _ rfl w.heap.size rfl rfl R0 (zeros_size _ _) Try.ar83 (numOf_len _) ?_; (try simp only [Act.put, List.setIfInBounds_toArray, List.set_cons_zero, List.set_cons_succ, World.size_alloc, setRow_size, Nat.add_assoc, Nat.reduceAdd])))
    exact ret_ints rfl rfl (R0.row _) Try.ar83 (numOf_len _) ⟨rfl, bSetRow hbel (Nat.le_refl _) _⟩
  · obtain ⟨zs, Hzs⟩ : ∃ zs, Hid (rest.take m = zs) := ⟨_, Lib.hid rfl⟩
    have hzl : zs.length = m := by rw [← Hzs.out, List.length_take]; omega
    have hd0 : ((m : Int) == 0) = false := by simp; omega
    have hm16I : (m : Int) < 16 := by omega
    have hmle : (m : Int) ≤ 16 := by omega
    have HL := Lib.hid (last_row hzl hm16)
    have hzb : ∀ x ∈ zs, x < 256 := fun x hx => by rw [← Hzs.out] at hx; exact hrb x (List.mem_of_mem_take hx)
    obtain ⟨last, Hlast⟩ : ∃ last, Hid (zs ++ [1] ++ zeros (15 - m) = last) := ⟨_, Lib.hid rfl⟩
    have hll : last.length = 16 := by rw [← Hlast.out]; simp [zeros_len, hzl]; omega
    have hlb : ∀ x ∈ last, x < 256 := fun x hx => by
      rw [← Hlast.out] at hx
      rcases List.mem_append.1 hx with hx | hx
      · rcases List.mem_append.1 hx with hx | hx
        · exact hzb x hx
        · obtain rfl := List.mem_singleton.1 hx; omega
      · exact zeros_lt _ (by omega) x hx
    have HV := Lib.hid (polyA_part (key := key) Hq.out Hm.out h0 (show last = _ by rw [← Hlast.out, ← Hrt.out, ← Hzs.out]))
    have HLS := Lib.hid (HL.out.trans Hlast.out)
    clear HL
    go_enter Try.func58, Try.ntmps58
    have L1 := Blk.new (w.alloc (.cells (ints .u32 (zeros 5)) 83)) 35 (ints .u8 (zeros 16))
    rw [World.size_alloc] at L1
    have S2 := S1.alloc (.cells (ints .u8 (zeros 16)) 35)
    have R2 := R0.alloc (.cells (ints .u8 (zeros 16)) 35)
    have hbel2 := hbel.alloc (by simp) (.cells (ints .u8 (zeros 16)) 35)
    go_wp2_with (first
      | (refine wpList_alloc_ints rfl 83 rfl Try.z83 ?_; (try simp only [Act.put, List.setIfInBounds_toArray, List.set_cons_zero, List.set_cons_succ, World.size_alloc, setRow_size, Nat.add_assoc, Nat.reduceAdd]))
      | (refine wpList_alloc_ints rfl 35 rfl Try.z35 ?_; (try simp only [Act.put, List.setIfInBounds_toArray, List.set_cons_zero, List.set_cons_succ, World.size_alloc, setRow_size, Nat.add_assoc, Nat.reduceAdd])))
    have hcm2 : ((w.alloc (.cells (ints .u32 (zeros 5)) 83)).alloc (.cells (ints .u8 (zeros 16)) 35)).cell? ⟨g, 26, none⟩ = some (.int .i64 (m : Int)) := by rw [S2.cell, smC_cell _ _ hrl]
    clear hcm S1 R0 hbel
    generalize ((w.alloc (.cells (ints .u32 (zeros 5)) 83)).alloc (.cells (ints .u8 (zeros 16)) 35)) = w1 at *
    go_still_tail 9, (by kernel_rfl)
    change wpList _ _ _ _ _ w1.drew
    replace S2 := S2.drew
    replace R2 := R2.drew
    replace L1 := L1.drew
    replace hbel2 := hbel2.drew
    clear hcm2
    generalize w1.drew = w2 at *
    have HZ : Sl w2 (some ⟨g, 10, none⟩) .u8 zs := by
      rw [← Hzs.out]
      intro hn
      refine ⟨g, 10, rfl, S2.lt, fun i hi => ?_⟩
      rw [List.length_take] at hi
      have S2' := S2
      rw [smC_rest] at S2'
      refine S2'.part (by simp [vals_len, numOf_len]) i _ ?_
      unfold vals
      rw [List.getElem?_map, List.getD_eq_getElem?_getD, List.getElem?_take, if_pos (by omega), List.getElem?_eq_getElem (by omega)]; rfl
    have hne2 : g ≠ w.heap.size + 1 := by omega
    refine wpList_copy_ints (xs := zeros 16) (zs := zs) (off := 0) rfl rfl Try.underlying22 Try.s15 rfl rfl L1 HZ (by rw [hzl]; exact (Nat.min_eq_left (by omega)).symm) (fun _ => rfl) (by rw [hzl, zeros_len]; omega) ?_
    intro w3 L3 O3
    rw [hzl]
    have S3 := S2.only O3 hne2
    have R3 := R2.only O3 (by omega)
    have hbel3 := O3.below _ _ hbel2 (by omega)
    have hw1 : IntKind.i64.wrap (m : Int) = (m : Int) := by rw [IntKind.wrap_i64]; omega
    have hcm3 : w3.cell? ⟨g, 26, none⟩ = some (.int .i64 (m : Int)) := by rw [S3.cell, smC_cell _ _ hrl]
    have hspl : (splice (zeros 16) 0 zs).length = 16 := by rw [splice_len (by rw [hzl, zeros_len]; omega), zeros_len]
    clear S2 R2 L1 HZ hbel2 O3
    have hsz : ∀ r v m, r.length = 5 → v.length = 5 → (smC r v rest m).size = 27 := fun r v m h1 h2 => smC_size h1 h2 hrl m
    have hszv := hsz (numOf (byN key)) (numOf (polyV (byN key) 0 bs q)) m (numOf_len _) (numOf_len _)
    go_wp2_with (first
      | (refine wpList_store_one (k := .u8) (n := 1) rfl 5 _ _ rfl Try.one8s L3 m rfl rfl (by rw [hspl]; omega) ?_; intro w4 L4 F4; rw [HLS.out] at L4; have S4 := F4.blk S3 hne2; have R4 := F4.blk R3 (show w.heap.size ≠ w.heap.size + 1 by omega); have hbel4 := F4.below hbel3 (show w.heap.size ≤ w.heap.size + 1 by omega); have hcm4 : w4.cell? ⟨g, 26, none⟩ = some (.int .i64 (m : Int)) := (by rw [S4.cell, smC_cell _ _ hrl]); clear L3 S3 R3 hbel3 hcm3)
      | (refine wpList_load_blk rfl 87 _ rfl g rfl S4 Try.ar87 hszv ?_; (try simp only [Act.put, List.setIfInBounds_toArray, List.set_cons_zero, List.set_cons_succ, World.size_alloc, setRow_size, Nat.add_assoc, Nat.reduceAdd]))
      | (refine wpList_alloc_z rfl 87 rfl Try.zS ?_; have T5 := Blk.new w4 87 (smC (zeros 5) (zeros 5) (zeros 16) 0); (try simp only [Act.put, List.setIfInBounds_toArray, List.set_cons_zero, List.set_cons_succ, World.size_alloc, setRow_size, Nat.add_assoc, Nat.reduceAdd]))
      | (refine wpList_store_blk rfl 87 _ _ rfl w4.heap.size rfl rfl T5 (smC_size (zeros_len _) (zeros_len _) (zeros_len _) _) Try.ar87 hszv (smC_one _ _ _ _) ?_; have T6 := T5.row (smC (numOf (byN key)) (numOf (polyV (byN key) 0 bs q)) rest m); have hl4 := L4.lt; have L6 := (L4.alloc (.cells (smC (zeros 5) (zeros 5) (zeros 16) 0) 87)).rowFar (show w.heap.size + 1 ≠ w4.heap.size by omega) (smC (numOf (byN key)) (numOf (polyV (byN key) 0 bs q)) rest m); have R6 := (R4.alloc (.cells (smC (zeros 5) (zeros 5) (zeros 16) 0) 87)).rowFar (show w.heap.size ≠ w4.heap.size by omega) (smC (numOf (byN key)) (numOf (polyV (byN key) 0 bs q)) rest m); have hbel6 := bSetRow (hbel4.alloc hbel4.size (.cells (smC (zeros 5) (zeros 5) (zeros 16) 0) 87)) (show w.heap.size ≤ w4.heap.size by omega) (smC (numOf (byN key)) (numOf (polyV (byN key) 0 bs q)) rest m); (try simp only [Act.put, List.setIfInBounds_toArray, List.set_cons_zero, List.set_cons_succ, World.size_alloc, setRow_size, Nat.add_assoc, Nat.reduceAdd]))
      | (refine wpList_load_ints rfl 35 _ rfl (w.heap.size + 1) rfl L6 Try.ar35 hll ?_; (try simp only [Act.put, List.setIfInBounds_toArray, List.set_cons_zero, List.set_cons_succ, World.size_alloc, setRow_size, Nat.add_assoc, Nat.reduceAdd])))
    generalize ((w4.alloc (.cells (smC (zeros 5) (zeros 5) (zeros 16) 0) 87)).setRow w4.heap.size (smC (numOf (byN key)) (numOf (polyV (byN key) 0 bs q)) rest m)) = w6 at *
    have hgt : w.heap.size ≤ w4.heap.size := by omega
    have hgt2 : w.heap.size ≠ w4.heap.size := by omega
    generalize w4.heap.size = gt at *
    refine (of_c last hll hlb 0 (by omega) _).mono ?_
    rintro e w7 ⟨rfl, hb7⟩
    have T7 := T6.below' hb7
    have R7 := R6.below' hb7
    have hbel7 := bCall hbel6 hb7 hbel6.size
    go_wp2_with fail
    refine (part8_c gt (byN key) _ (ofN last 0) rest m _ T7).mono ?_
    rintro e w8 ⟨rfl, T8, hch8⟩
    have R8 := hch8.blk R7 hgt2
    have hbel8 := hch8.below hbel7 hgt hbel7.size
    rw [HV.out, smC_v] at T8
    go_wp2_with (first
      | (refine wpList_load_part (old := vals .u32 (numOf (polyA key bs))) rfl 83 _ rfl 5 rfl T8 (by simp [vals_len, numOf_len]) Try.ar83 (by rw [vals_len]; exact numOf_len _) ?_; (try simp only [Act.put, List.setIfInBounds_toArray, List.set_cons_zero, List.set_cons_succ, World.size_alloc, setRow_size, Nat.add_assoc, Nat.reduceAdd]))
      | (refine wpList_store_ints (k := .u32) (xs := numOf (polyA key bs)) rfl 83 _ _ rfl w.heap.size rfl rfl R8 (zeros_size _ _) Try.ar83 (numOf_len _) ?_; (try simp only [Act.put, List.setIfInBounds_toArray, List.set_cons_zero, List.set_cons_succ, World.size_alloc, setRow_size, Nat.add_assoc, Nat.reduceAdd])))
    exact ret_ints rfl rfl (R8.row _) Try.ar83 (numOf_len _) ⟨rfl, bSetRow hbel8 (Nat.le_refl _) _⟩
end Go.Proofs.Ytolfngmpoafaaaa
