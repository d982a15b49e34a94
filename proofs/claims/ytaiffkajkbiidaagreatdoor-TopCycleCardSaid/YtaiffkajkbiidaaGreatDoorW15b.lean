/- AEZ's tweaked block function: a key's memory, Offset, E. No condition but that bytes are below 256. -/
import Derived.Test.YtaiffkajkbiidaaGreatDoorKitB
namespace Go.Proofs.YtaiffkajkbiidaaGreatDoor
set_option linter.unusedSimpArgs false
set_option linter.unusedVariables false
set_option linter.unusedSectionVars false
set_option linter.unusedVariables false
open Go.RowKit
open Gf (mul upN)
/-- So many times an element; an element doubled so often. -/
def mulE (xs : List Nat) (n : Nat) : List Nat := belem (mul R2 (bnum xs) n)
def upE (xs : List Nat) (n : Nat) : List Nat := belem (upN R2 n (bnum xs))
theorem mulE_len (xs : List Nat) (n : Nat) : (mulE xs n).length = 16 := belem_len _
theorem upE_len (xs : List Nat) (n : Nat) : (upE xs n).length = 16 := belem_len _
theorem mulE_lt (xs : List Nat) (n : Nat) : ∀ x ∈ mulE xs n, x < 256 := belem_lt _
theorem upE_lt (xs : List Nat) (n : Nat) : ∀ x ∈ upE xs n, x < 256 := belem_lt _
/-- A key's parts, in memory. -/
structure IsKey (w : World) (gk gt gb : Nat) (I J Z : List Nat) : Prop where
  blk : Blk w gk 103 (#[.pointer (some ⟨gt, 0, none⟩)] ++ ints .u8 (I ++ J ++ Z))
  tab : IsTab w gt gb
  li : I.length = 16
  lj : J.length = 16
  lz : Z.length = 16
  bi : ∀ x ∈ I, x < 256
  bj : ∀ x ∈ J, x < 256
  bz : ∀ x ∈ Z, x < 256
theorem IsKey.below {w w' : World} {gk gt gb : Nat} {I J Z : List Nat} (h : IsKey w gk gt gb I J Z) (hb : Below w.heap.size w w') : IsKey w' gk gt gb I J Z :=
  ⟨h.blk.below' hb, h.tab.below hb, h.li, h.lj, h.lz, h.bi, h.bj, h.bz⟩
theorem IsKey.cell {w : World} {gk gt gb i : Nat} {I J Z : List Nat} (h : IsKey w gk gt gb I J Z) (hi : i < 48) : w.cell? ⟨gk, 1 + i, none⟩ = some (.int .u8 (((I ++ J ++ Z).getD i 0 : Nat) : Int)) := by
  rw [h.blk.cell, Array.getElem?_append_right (by simp)]
  simp only [List.size_toArray, List.length_singleton, Nat.add_sub_cancel_left]
  rw [ints_get, getD_lt (by rw [List.length_append, List.length_append, h.li, h.lj, h.lz]; omega)]; rfl
theorem IsKey.t_ {w : World} {gk gt gb : Nat} {I J Z : List Nat} (h : IsKey w gk gt gb I J Z) : w.cell? ⟨gk, 0, none⟩ = some (.pointer (some ⟨gt, 0, none⟩)) := by
  rw [h.blk.cell]
  rw [Array.getElem?_append_left (by simp)]; rfl
theorem IsKey.si {w : World} {gk gt gb : Nat} {I J Z : List Nat} (h : IsKey w gk gt gb I J Z) : Sl w (some ⟨gk, 1, none⟩) .u8 I := fun _ =>
  ⟨gk, 1, rfl, h.blk.lt, fun i hi => by
    have hl := h.li
    rw [h.cell (i := i) (by omega)]
    congr 3
    rw [List.getD_eq_getElem?_getD, List.getD_eq_getElem?_getD, List.append_assoc, List.getElem?_append_left hi]⟩
theorem IsKey.sj {w : World} {gk gt gb : Nat} {I J Z : List Nat} (h : IsKey w gk gt gb I J Z) : Sl w (some ⟨gk, 17, none⟩) .u8 J := fun _ =>
  ⟨gk, 17, rfl, h.blk.lt, fun i hi => by
    have hl := h.li
    have hl2 := h.lj
    rw [show 17 + i = 1 + (16 + i) by omega, h.cell (i := 16 + i) (by omega)]
    congr 3
    rw [List.getD_eq_getElem?_getD, List.getD_eq_getElem?_getD, List.append_assoc, List.getElem?_append_right (by omega), hl, Nat.add_sub_cancel_left, List.getElem?_append_left hi]⟩
theorem IsKey.sz {w : World} {gk gt gb : Nat} {I J Z : List Nat} (h : IsKey w gk gt gb I J Z) : Sl w (some ⟨gk, 33, none⟩) .u8 Z := fun _ =>
  ⟨gk, 33, rfl, h.blk.lt, fun i hi => by
    have hl := h.li
    have hl2 := h.lj
    have hl3 := h.lz
    rw [show 33 + i = 1 + (32 + i) by omega, h.cell (i := 32 + i) (by omega)]
    congr 3
    rw [List.getD_eq_getElem?_getD, List.getD_eq_getElem?_getD, List.getElem?_append_right (by rw [List.length_append]; omega), List.length_append, hl, hl2]
    congr 2
    omega⟩
theorem ne16 {xs : List Nat} (h : xs.length = 16) : xs ≠ [] := fun e => by rw [e] at h; simp at h
def offE (I J Z : List Nat) (j i : Nat) : List Nat := xorsN (mulE J j) [upE I (i / 8 + min (i % 8) 1), mulE Z (i % 8)]
theorem offE_len (I J Z : List Nat) (j i : Nat) : (offE I J Z j i).length = 16 := xorsN_len _ _ (mulE_len _ _)
theorem two_all {p : List Nat → Prop} {a b : List Nat} (ha : p a) (hb : p b) : ∀ k ∈ [a, b], p k := fun k hk => by
  rcases List.mem_cons.1 hk with rfl | hk
  · exact ha
  · rw [List.mem_singleton.1 hk]; exact hb
theorem offE_lt (I J Z : List Nat) (j i : Nat) : ∀ x ∈ offE I J Z j i, x < 256 := xorsN_lt _ _ (mulE_lt _ _) (two_all (upE_lt _ _) (mulE_lt _ _))
set_option maxRecDepth 100000 in
set_option maxHeartbeats 8000000 in
theorem offset_c (gk gt gb : Nat) (I J Z : List Nat) (j i : Nat) (hj : j < 2 ^ 31) (hi : i < 2 ^ 31) (w : World) (hK : IsKey w gk gt gb I J Z) :
    Calls Tryz.prog 192 #[.pointer (some ⟨gk, 0, none⟩), .int .i64 (j : Int), .int .i64 (i : Int)] w fun e w' => e = .returned (.agg (ints .u8 (offE I J Z j i))) ∧ Below w.heap.size w w' := by
  obtain ⟨r, Hr⟩ : ∃ r, Hid (i % 8 = r) := ⟨_, Lib.hid rfl⟩
  obtain ⟨u, Hu⟩ : ∃ u, Hid (i / 8 = u) := ⟨_, Lib.hid rfl⟩
  have hr : r < 8 := by rw [← Hr.out]; omega
  have hu : u < 2 ^ 31 := by rw [← Hu.out]; omega
  have hrt : (i : Int).tmod 8 = (r : Int) := by rw [Int.tmod_eq_emod_of_nonneg (by omega), ← Hr.out]; omega
  have hqt : (i : Int).tdiv 8 = (u : Int) := by rw [Int.tdiv_eq_ediv_of_nonneg (by omega), ← Hu.out]; omega
  obtain ⟨m, Hm⟩ : ∃ m, Hid (min r 1 = m) := ⟨_, Lib.hid rfl⟩
  have hm : m ≤ 1 := by rw [← Hm.out]; omega
  have hd1 : decide ((j : Int) < 0) = false := by simp
  have hd2 : decide ((i : Int) < 0) = false := by simp
  have A0 := Blk.new w 96 (ints .u8 (zeros 16))
  have hbel0 := (Below.refl w.heap.size w).alloc (Nat.le_refl _) (.cells (ints .u8 (zeros 16)) 96)
  have K0 := hK.below hbel0
  go_enter Tryz.func192, Tryz.ntmps192
  go_wp2_with (first | (refine wpList_alloc_ints rfl 96 rfl Tryz.z96 ?_; (try simp only [Act.put, List.setIfInBounds_toArray, List.set_cons_zero, List.set_cons_succ, World.size_alloc, setRow_size, Nat.add_assoc, Nat.reduceAdd])))
  have hum : Hid ((u : Int) + min (r : Int) 1 = ((u + m : Nat) : Int)) := Lib.hid (by rw [← Hm.out]; omega)
  rw [hum.out]
  obtain ⟨v, Hv⟩ : ∃ v, Hid (u + m = v) := ⟨_, Lib.hid rfl⟩
  have hv : v < 2 ^ 63 := by rw [← Hv.out]; omega
  rw [Hv.out]
  have hwj : IntKind.u64.wrap (j : Int) = (j : Int) := by rw [IntKind.wrap_u64]; omega
  have hwr : IntKind.u64.wrap (r : Int) = (r : Int) := by rw [IntKind.wrap_u64]; omega
  have hwu : IntKind.i64.wrap (i : Int) = (i : Int) := IntWalk.i64_in _ (by omega)
  have SI := K0.si
  have SJ := K0.sj
  have SZ := K0.sz
  have HO : Hid (offE I J Z j i = xorsN (mulE J j) [upE I v, mulE Z r]) := Lib.hid (by unfold offE; rw [Hr.out, Hu.out, Hm.out, Hv.out])
  have hm1 : ∀ W, Calls Tryz.prog 193 #[.int .u64 j, .agg (ints .u8 J)] W fun e w' => e = .returned (.agg (ints .u8 (mulE J j))) ∧ Below W.heap.size W w' := fun W => multiple_c j J (by omega) K0.lj K0.bj W
  have hm2 : ∀ W, Calls Tryz.prog 193 #[.int .u64 r, .agg (ints .u8 Z)] W fun e w' => e = .returned (.agg (ints .u8 (mulE Z r))) ∧ Below W.heap.size W w' := fun W => multiple_c r Z (by omega) K0.lz K0.bz W
  have hm3 : ∀ W, Calls Tryz.prog 195 #[.int .i64 v, .agg (ints .u8 I)] W fun e w' => e = .returned (.agg (ints .u8 (upE I v))) ∧ Below W.heap.size W w' := fun W => raised_c v I hv K0.li K0.bi W
  have hli := K0.li
  have hlj := K0.lj
  have hlz := K0.lz
  generalize (w.alloc (.cells (ints .u8 (zeros 16)) 96)) = w1 at *
  refine wp_region_below_tail 21 (by kernel_rfl) (by kernel_rfl) ?_
  simp only [List.take_succ_cons, List.take_zero, List.drop_succ_cons, List.drop_zero]
  go_big_quiet_step (fail)
  refine quiet_run (v := .int .u64 (j : Int)) rfl (fun W => run_conv rfl Tryz.underlying3 Tryz.underlying106 rfl hwj) ?_
  (try simp only [Act.put, List.setIfInBounds_toArray, List.set_cons_zero, List.set_cons_succ, World.size_alloc, setRow_size, Nat.add_assoc, Nat.reduceAdd])
  go_big_quiet_step (fail)
  refine quiet_run (v := .pointer (some ⟨gk, 0, none⟩)) rfl (fun W => by kernel_rfl) ?_
  (try simp only [Act.put, List.setIfInBounds_toArray, List.set_cons_zero, List.set_cons_succ, World.size_alloc, setRow_size, Nat.add_assoc, Nat.reduceAdd])
  refine quiet_run (v := .pointer (some ⟨gk, 17, none⟩)) rfl (fun W => by kernel_rfl) ?_
  (try simp only [Act.put, List.setIfInBounds_toArray, List.set_cons_zero, List.set_cons_succ, World.size_alloc, setRow_size, Nat.add_assoc, Nat.reduceAdd])
  refine quiet_runC rfl (fun W hC => run_loadSl rfl rfl (SJ.below hC) Tryz.ar96 hlj (ne16 hlj)) ?_
  (try simp only [Act.put, List.setIfInBounds_toArray, List.set_cons_zero, List.set_cons_succ, World.size_alloc, setRow_size, Nat.add_assoc, Nat.reduceAdd])
  refine quiet_call 193 rfl rfl Tryz.func193 (by kernel_rfl) (by kernel_rfl) (fun W hQ => hm1 W) ?_
  (try simp only [Act.put, List.setIfInBounds_toArray, List.set_cons_zero, List.set_cons_succ, World.size_alloc, setRow_size, Nat.add_assoc, Nat.reduceAdd])
  go_big_quiet_step (fail)
  go_big_quiet_step (fail)
  refine quiet_run (v := .pointer (some ⟨gk, 0, none⟩)) rfl (fun W => by kernel_rfl) ?_
  (try simp only [Act.put, List.setIfInBounds_toArray, List.set_cons_zero, List.set_cons_succ, World.size_alloc, setRow_size, Nat.add_assoc, Nat.reduceAdd])
  refine quiet_run (v := .pointer (some ⟨gk, 1, none⟩)) rfl (fun W => by kernel_rfl) ?_
  (try simp only [Act.put, List.setIfInBounds_toArray, List.set_cons_zero, List.set_cons_succ, World.size_alloc, setRow_size, Nat.add_assoc, Nat.reduceAdd])
  refine quiet_runC rfl (fun W hC => run_loadSl rfl rfl (SI.below hC) Tryz.ar96 hli (ne16 hli)) ?_
  (try simp only [Act.put, List.setIfInBounds_toArray, List.set_cons_zero, List.set_cons_succ, World.size_alloc, setRow_size, Nat.add_assoc, Nat.reduceAdd])
  refine quiet_call 195 rfl rfl Tryz.func195 (by kernel_rfl) (by kernel_rfl) (fun W hQ => hm3 W) ?_
  (try simp only [Act.put, List.setIfInBounds_toArray, List.set_cons_zero, List.set_cons_succ, World.size_alloc, setRow_size, Nat.add_assoc, Nat.reduceAdd])
  go_big_quiet_step (fail)
  go_big_quiet_step ((intro _; rfl))
  refine quiet_run (v := .int .u64 (r : Int)) rfl (fun W => run_conv rfl Tryz.underlying3 Tryz.underlying106 rfl hwr) ?_
  (try simp only [Act.put, List.setIfInBounds_toArray, List.set_cons_zero, List.set_cons_succ, World.size_alloc, setRow_size, Nat.add_assoc, Nat.reduceAdd])
  go_big_quiet_step (fail)
  refine quiet_run (v := .pointer (some ⟨gk, 0, none⟩)) rfl (fun W => by kernel_rfl) ?_
  (try simp only [Act.put, List.setIfInBounds_toArray, List.set_cons_zero, List.set_cons_succ, World.size_alloc, setRow_size, Nat.add_assoc, Nat.reduceAdd])
  refine quiet_run (v := .pointer (some ⟨gk, 33, none⟩)) rfl (fun W => by kernel_rfl) ?_
  (try simp only [Act.put, List.setIfInBounds_toArray, List.set_cons_zero, List.set_cons_succ, World.size_alloc, setRow_size, Nat.add_assoc, Nat.reduceAdd])
  refine quiet_runC rfl (fun W hC => run_loadSl rfl rfl (SZ.below hC) Tryz.ar96 hlz (ne16 hlz)) ?_
  (try simp only [Act.put, List.setIfInBounds_toArray, List.set_cons_zero, List.set_cons_succ, World.size_alloc, setRow_size, Nat.add_assoc, Nat.reduceAdd])
  refine quiet_call 193 rfl rfl Tryz.func193 (by kernel_rfl) (by kernel_rfl) (fun W hQ => hm2 W) ?_
  (try simp only [Act.put, List.setIfInBounds_toArray, List.set_cons_zero, List.set_cons_succ, World.size_alloc, setRow_size, Nat.add_assoc, Nat.reduceAdd])
  refine wpQuiet_nil ?_
  intro w' hw'
  have hbel1 := bCall hbel0 hw' hbel0.size
  have A1 := A0.below' hw'
  have hbs := bs16_2 (upE I v) (mulE Z r) (upE_len _ _) (mulE_len _ _)
  have hpl : Calls Tryz.prog 191 #[.agg (ints .u8 (mulE J j)), .slice (some ⟨w'.heap.size, 0, none⟩) 2 2] (w'.alloc (.cells (ints .u8 [upE I v, mulE Z r].flatten) 96)) fun e w2 => e = .returned (.agg (ints .u8 (xorsN (mulE J j) [upE I v, mulE Z r]))) ∧ Below (w'.alloc (.cells (ints .u8 [upE I v, mulE Z r].flatten) 96)).heap.size (w'.alloc (.cells (ints .u8 [upE I v, mulE Z r].flatten) 96)) w2 := ezplus_c w'.heap.size 2 (mulE J j) [upE I v, mulE Z r] (mulE_len _ _) (mulE_lt _ _) (two_all (p := fun k => k.length = 16) (upE_len _ _) (mulE_len _ _)) (two_all (p := fun k => ∀ x ∈ k, x < 256) (upE_lt _ _) (mulE_lt _ _)) (show 2 < 2 ^ 31 by decide) (w'.alloc (.cells (ints .u8 [upE I v, mulE Z r].flatten) 96)) (Sl.blk (Blk.new w' _ _))
  have A2 := A1.alloc (.cells (ints .u8 [upE I v, mulE Z r].flatten) 96)
  have hbel2 := hbel1.alloc hbel1.size (.cells (ints .u8 [upE I v, mulE Z r].flatten) 96)
  rw [← HO.out] at hpl
  have hol := offE_len I J Z j i
  clear hm1 hm2 hm3 SI SJ SZ A0 A1 hbel0 hw' hbel1 hrt hqt hwj hwr hwu hd1 hd2
  generalize upE I v = e1 at *
  generalize mulE Z r = e2 at *
  generalize mulE J j = e3 at *
  obtain ⟨e4, H4⟩ : ∃ e4, Hid (offE I J Z j i = e4) := ⟨_, Lib.hid rfl⟩
  rw [H4.out] at hpl hol
  clear HO
  go_wp2_with (refine wpList_runW rfl (run_bs2 (u0 := .agg (ints .u8 e1)) (u1 := .agg (ints .u8 e2)) rfl rfl rfl (hbs _)) ?_; generalize (w'.alloc (.cells (ints .u8 [e1, e2].flatten) 96)) = w2 at *; (try simp only [Act.put, List.setIfInBounds_toArray, List.set_cons_zero, List.set_cons_succ, World.size_alloc, setRow_size, Nat.add_assoc, Nat.reduceAdd]))
  refine hpl.mono ?_
  clear hpl
  rintro e w3 ⟨rfl, hb3⟩
  have A3 := A2.below' hb3
  have hbel3 := bCall hbel2 hb3 hbel2.size
  go_wp2_with (refine wpList_store_ints rfl 96 _ _ rfl _ rfl rfl A3 (zeros_size _ _) Tryz.ar96 hol ?_; (try simp only [Act.put, List.setIfInBounds_toArray, List.set_cons_zero, List.set_cons_succ, World.size_alloc, setRow_size, Nat.add_assoc, Nat.reduceAdd]))
  refine ret_ints rfl rfl (A3.row _) Tryz.ar96 hol ⟨by rw [H4.out], ?_⟩
  exact bSetRow hbel3 (Nat.le_refl _) _
end Go.Proofs.YtaiffkajkbiidaaGreatDoor
