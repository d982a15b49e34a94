/- BLAKE2b's New of sums of 48 bytes without a key, and Write of at most one block. No condition but that words are below 2^64 and bytes below 256. -/
import Derived.Test.YtaiffkajkbiidaaGreatDoorW6e
namespace Go.Proofs.YtaiffkajkbiidaaGreatDoor
set_option linter.unusedSimpArgs false
set_option linter.unusedVariables false
set_option linter.unusedSectionVars false
set_option linter.unusedVariables false
open Go.RowKit
def bStartL : List Nat := [7640891576939301176, 13503953896175478587, 4354685564936845355, 11912009170470909681, 5840696475078001361, 11170449401992604703, 2270897969802886507, 6620516959819538809]
theorem bStartL_lt : ∀ x ∈ bStartL, x < 18446744073709551616 := by decide
theorem bldH (W : World) : (Instr.build 151 #[(0, .agg (ints .u64 firstL)), (3, .int .i64 48)]).run Tryz.prog W = .ok (.agg (vals .u64 firstL ++ vals .u64 [0, 0] ++ [Value.slice none 0 0, Value.int .i64 ((48 : Nat) : Int)]).toArray) W := by kernel_rfl
theorem run_bldH {o : Oper} {a : Act} {x y : Operand} {w : World} (ho : o.op = .build 151 #[(0, x), (3, y)]) (hx : a.eval x = .agg (ints .u64 firstL)) (hy : a.eval y = .int .i64 48) : (execOp a.eval o).run Tryz.prog w = .ok (.value (.agg (vals .u64 firstL ++ vals .u64 [0, 0] ++ [Value.slice none 0 0, Value.int .i64 ((48 : Nat) : Int)]).toArray)) w := by
  unfold execOp
  simp only [ho, List.map_toArray, List.map_cons, List.map_nil, hx, hy]
  simp only [Sem.run_bind, bldH, Result.andThen_ok]
  rfl
theorem firstL_len : firstL.length = 8 := rfl
theorem HB.c0 {w : World} {g : Nat} {c0 c1 : Nat} {v : Value} {n : Nat} {x : Nat} {hs : List Nat} (h : HB w g (x :: hs) c0 c1 v n) : w.cell? ⟨g, 0, none⟩ = some (.int .u64 (x : Int)) := by rw [h.blk.cell]; rfl
theorem HB.set0 {w : World} {g : Nat} {c0 c1 : Nat} {v : Value} {n : Nat} {x y : Nat} {hs : List Nat} (h : HB w g (x :: hs) c0 c1 v n) : HB (w.setCell ⟨g, 0, none⟩ (.int .u64 (y : Int))) g (y :: hs) c0 c1 v n := by
  have h1 := h.blk.set_ 0 (.int .u64 (y : Int))
  exact ⟨h1, h.len⟩
set_option maxRecDepth 100000 in
set_option maxHeartbeats 40000000 in
theorem hnew_c (w : World) (hG : GlB w) :
    Calls Tryz.prog 53 #[.int .i64 48, .slice none 0 0] w fun e w' => ∃ g, e = .returned (.tuple #[.pointer (some ⟨g, 0, none⟩), .int .i64 0]) ∧ w.heap.size ≤ g ∧ HB w' g bStartL 0 0 (.slice none 0 0) 48 ∧ Below w.heap.size w w' := by
  have hF := hG.1
  go_enter Tryz.func53, Tryz.ntmps53
  go_wp2_with (first
    | (refine wpList_valG rfl (run_loadSl rfl rfl hF Tryz.ar6147 firstL_len (by decide)) ?_; (try simp only [Act.put, List.setIfInBounds_toArray, List.set_cons_zero, List.set_cons_succ, World.size_alloc, setRow_size, Nat.add_assoc, Nat.reduceAdd]))
    | (refine wpList_valG rfl (run_bldH rfl rfl rfl) ?_; (try simp only [Act.put, List.setIfInBounds_toArray, List.set_cons_zero, List.set_cons_succ, World.size_alloc, setRow_size, Nat.add_assoc, Nat.reduceAdd])))
  have B0 := Blk.new w 151 (vals .u64 firstL ++ vals .u64 [0, 0] ++ [Value.slice none 0 0, Value.int .i64 ((48 : Nat) : Int)]).toArray
  have B : HB (w.alloc (.cells (vals .u64 firstL ++ vals .u64 [0, 0] ++ [Value.slice none 0 0, Value.int .i64 ((48 : Nat) : Int)]).toArray 151)) w.heap.size firstL 0 0 (.slice none 0 0) 48 := ⟨B0, rfl⟩
  have hbel := (Below.refl w.heap.size w).alloc (Nat.le_refl _) (.cells (vals .u64 firstL ++ vals .u64 [0, 0] ++ [Value.slice none 0 0, Value.int .i64 ((48 : Nat) : Int)]).toArray 151)
  rw [List.append_assoc] at B hbel
  generalize (w.alloc (.cells (vals .u64 firstL ++ (vals .u64 [0, 0] ++ [Value.slice none 0 0, Value.int .i64 ((48 : Nat) : Int)])).toArray 151)) = w1 at *
  have k0 := B.c0
  have x4 : IntKind.u64.wrap 0 = 0 := by decide
  have x5 : IntKind.u64.wrap 48 = 48 := by decide
  have x6 : IntKind.u64.wrap (0 * 256) = 0 := by decide
  have x1 : bits BinOp.xor IntKind.u64 16842752 0 = 16842752 := by decide
  have x2 : bits BinOp.xor IntKind.u64 16842752 48 = 16842800 := by decide
  have x3 : bits BinOp.xor IntKind.u64 ((7640891576956012808 : Nat) : Int) 16842800 = ((7640891576939301176 : Nat) : Int) := by decide
  obtain ⟨n0, N0⟩ : ∃ n0 : Nat, Hid (7640891576956012808 = n0) := ⟨_, Lib.hid rfl⟩
  obtain ⟨n1, N1⟩ : ∃ n1 : Nat, Hid (7640891576939301176 = n1) := ⟨_, Lib.hid rfl⟩
  rw [N0.out] at x3 k0
  rw [N1.out] at x3
  clear B0
  go_still_tail 16, (by kernel_rfl)
  change wpList _ _ _ _ _ w1.drew
  replace B := B.drew
  replace hbel := hbel.drew
  clear k0 x1 x2 x3 x4 x5 x6
  generalize w1.drew = w2 at *
  have k0 := B.c0
  have z0 := B.blk.frozen 0
  have B2 := B.set0 (y := n1)
  have hl2 : Below w.heap.size w (w2.setCell ⟨w.heap.size, 0, none⟩ (.int .u64 (n1 : Int))) := hbel.setCell (p := ⟨w.heap.size, 0, none⟩) (Nat.le_refl _) _
  clear B hbel hF hG
  go_wp2_with fail
  refine bodyPost_ret (v := .tuple #[.pointer (some ⟨w.heap.size, 0, none⟩), .int .i64 0]) ?_ rfl ⟨_, rfl, Nat.le_refl _, ?_, hl2⟩
  · simp [results, Tryz.results53]
  · rw [← N1.out]
    rw [← N1.out] at B2
    exact B2
theorem HB.setV {w : World} {g : Nat} {hs : List Nat} {c0 c1 : Nat} {v u : Value} {n : Nat} (h : HB w g hs c0 c1 v n) : HB (w.setCell ⟨g, 10, none⟩ u) g hs c0 c1 u n := by
  have h1 := h.blk.set_ 10 u
  refine ⟨?_, h.len⟩
  rw [List.setIfInBounds_toArray, List.set_append_right (h := by rw [List.length_append, h.vlen, vals_len]; simp), List.length_append, h.vlen, vals_len] at h1
  exact h1
set_option maxRecDepth 100000 in
set_option maxHeartbeats 40000000 in
theorem hwrite_c (g : Nat) (hs b : List Nat) (sz : Nat) (a : Option Addr) (c : Nat) (hbl : b.length ≤ 128) (hn : a = none → c = 0) (w : World) (hB : HB w g hs 0 0 (.slice none 0 0) sz) (hS : Sl w a .u8 b) :
    Calls Tryz.prog 54 #[.pointer (some ⟨g, 0, none⟩), .slice a b.length c] w fun e w' => ∃ a2 c2, e = .returned (.tuple #[]) ∧ HB w' g hs 0 0 (.slice a2 b.length c2) sz ∧ Sl w' a2 .u8 b ∧ Ch g w w' := by
  obtain ⟨n, Hn⟩ : ∃ n, Hid (b.length = n) := ⟨_, Lib.hid rfl⟩
  have hn128 : n ≤ 128 := by rw [← Hn.out]; exact hbl
  have hni : (n : Int) ≤ 128 := by omega
  rw [Hn.out]
  have k0 := hB.cV
  have z0 := hB.blk.frozen 10
  have ov : Own w w.heap.size 5 .u8 (.slice none 0 0) [] := Own.nil _ _ _ _
  have hgl := hB.lt
  obtain ⟨J, HJ, HI⟩ : ∃ J : Act → World → Prop, Hid (∀ (aJ : Act) (w' : World), J aJ w' → ∃ (U : Nat → Value) (a2 : Option Addr) (c2 : Nat), aJ = { tmps := #[.pointer (some ⟨g, 0, none⟩), U 1, U 2, U 3, U 4, U 5, U 6, U 7, U 8, U 9, U 10, U 11, U 12, U 13, U 14, U 15, U 16, U 17, U 18, U 19, U 20, U 21, U 22, U 23, U 24, U 25, U 26, U 27, U 28, U 29, U 30, U 31, U 32, U 33, U 34, U 35], defers := [] } ∧ HB w' g hs 0 0 (.slice a2 n c2) sz ∧ Sl w' a2 .u8 b ∧ Ch g w w') ∧
      Hid (∀ (T : Array Value) (w' : World), (∃ (a2 : Option Addr) (c2 : Nat), T = #[.pointer (some ⟨g, 0, none⟩), T.getD 1 undef, T.getD 2 undef, T.getD 3 undef, T.getD 4 undef, T.getD 5 undef, T.getD 6 undef, T.getD 7 undef, T.getD 8 undef, T.getD 9 undef, T.getD 10 undef, T.getD 11 undef, T.getD 12 undef, T.getD 13 undef, T.getD 14 undef, T.getD 15 undef, T.getD 16 undef, T.getD 17 undef, T.getD 18 undef, T.getD 19 undef, T.getD 20 undef, T.getD 21 undef, T.getD 22 undef, T.getD 23 undef, T.getD 24 undef, T.getD 25 undef, T.getD 26 undef, T.getD 27 undef, T.getD 28 undef, T.getD 29 undef, T.getD 30 undef, T.getD 31 undef, T.getD 32 undef, T.getD 33 undef, T.getD 34 undef, T.getD 35 undef] ∧ HB w' g hs 0 0 (.slice a2 n c2) sz ∧ Sl w' a2 .u8 b ∧ Ch g w w') → J { tmps := T, defers := [] } w') :=
    ⟨fun aJ w' => ∃ (U : Nat → Value) (a2 : Option Addr) (c2 : Nat), aJ = { tmps := #[.pointer (some ⟨g, 0, none⟩), U 1, U 2, U 3, U 4, U 5, U 6, U 7, U 8, U 9, U 10, U 11, U 12, U 13, U 14, U 15, U 16, U 17, U 18, U 19, U 20, U 21, U 22, U 23, U 24, U 25, U 26, U 27, U 28, U 29, U 30, U 31, U 32, U 33, U 34, U 35], defers := [] } ∧ HB w' g hs 0 0 (.slice a2 n c2) sz ∧ Sl w' a2 .u8 b ∧ Ch g w w', Lib.hid fun _ _ hJ => hJ, Lib.hid fun T w' ⟨a2, c2, hJ, rJ⟩ => ⟨fun i => T.getD i undef, a2, c2, congrArg (fun T => ({ tmps := T, defers := [] } : Act)) hJ, rJ⟩⟩
  obtain ⟨μ, Hμ⟩ : ∃ μ : Act → World → Nat, Hid (∀ a w', μ a w' = 0) := ⟨fun _ _ => 0, Lib.hid fun _ _ => rfl⟩
  go_enter Tryz.func54, Tryz.ntmps54
  refine wp_scope_mid 0 J μ (by simp only [findLabel]; rfl) ?_ ?_
  · intro a' wr hj
    obtain ⟨U, a2, c2, rfl, B, S, hc⟩ := HJ.out _ _ hj
    clear hj k0 z0
    have k0 := B.cV
    go_wp2_with fail
    (try simp only [Exit.jump, Exit.inBlock, Exit.then])
    exact bodyPost_ret (v := .tuple #[]) (by simp [results, Tryz.results54]) rfl ⟨rfl, a2, ⟨c2, B⟩, S, hc⟩
  · intro pass
    go_wp2_with (first
      | (at_builtin; refine wpList_append_sl (zs := b) rfl rfl Tryz.underlying23 Tryz.inf8 rfl (by omega) rfl ov rfl Hn.out.symm hn hS (by simp; omega) (Nat.le_refl _) ?_
         intro v' w' hown' hgr
         rw [List.nil_append] at hown'
         have B1 : HB w' g hs 0 0 (.slice none 0 0) sz := ⟨hB.blk.grownTy hgr ov (by decide), hB.len⟩
         have hbel1 := bGrown (Below.refl w.heap.size w) hgr (Nat.le_refl _) ov (Nat.le_refl _)
         obtain ⟨a2, c2, rfl, s2, -, -, hn2⟩ := hown'.slz
         rw [Hn.out]
         have k1 := B1.cV
         have z1 := B1.blk.frozen 10
         have B2 := B1.setV (u := .slice a2 n c2)
         have S2 : Sl (w'.setCell ⟨g, 10, none⟩ (.slice a2 n c2)) a2 .u8 b := (Ch.of_far (Far.set w' g 10 (.slice a2 n c2))).sl s2 (fun bb off e => by subst e; have := hown'.ge_ bb rfl; omega)
         have hc2 := (Ch.of_below (g := g) hbel1).trans (Ch.of_far (Far.set w' g 10 (.slice a2 n c2)))
         clear k0 z0 ov hB hS hgr hbel1 B1 hown' s2
         (try simp only [Act.put, List.setIfInBounds_toArray, List.set_cons_zero, List.set_cons_succ, World.size_alloc, setRow_size, Nat.add_assoc, Nat.reduceAdd])))
    refine wp_label ?_
    rename_i hKx
    refine hKx _ _ ?_
    exact pass _ _ (HI.out _ _ ⟨_, _, rfl, B2, S2, hc2⟩)
end Go.Proofs.YtaiffkajkbiidaaGreatDoor
