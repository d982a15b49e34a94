/- The cipher of a lock of AEZ. No condition but that bytes are below 256. -/
import Derived.Test.YtaiffkajkbiidaaGreatDoorWTa
import Derived.Test.YtaiffkajkbiidaaGreatDoorKitU
namespace Go.Proofs.YtaiffkajkbiidaaGreatDoor
set_option linter.unusedSimpArgs false
set_option linter.unusedVariables false
set_option linter.unusedSectionVars false
set_option linter.unusedVariables false
open Go.RowKit
def TabV (W : World) (B : Nat) (v : Value) : Prop := ∃ gt gb, v = .pointer (some ⟨gt, 0, none⟩) ∧ B ≤ gt ∧ IsTab W gt gb
theorem TabV.below {W W' : World} {B : Nat} {v : Value} (h : TabV W B v) (hb : Below W.heap.size W W') : TabV W' B v := let ⟨gt, gb, h1, h2, h3⟩ := h; ⟨gt, gb, h1, h2, h3.below hb⟩
def CipV (W : World) (B : Nat) (I J Z : List Nat) (v : Value) : Prop := ∃ gc gk gt gb, v = .pointer (some ⟨gc, 0, none⟩) ∧ B ≤ gc ∧ IsCip W gc gk gt gb I J Z
theorem CipV.below {W W' : World} {B : Nat} {I J Z : List Nat} {v : Value} (h : CipV W B I J Z v) (hb : Below W.heap.size W W') : CipV W' B I J Z v := let ⟨gc, gk, gt, gb, h1, h2, h3⟩ := h; ⟨gc, gk, gt, gb, h1, h2, h3.below hb⟩
def TupV (W : World) (B : Nat) (I J Z : List Nat) (v : Value) : Prop := ∃ u, v = .tuple #[u, .int .i64 0] ∧ CipV W B I J Z u
theorem TupV.below {W W' : World} {B : Nat} {I J Z : List Nat} {v : Value} (h : TupV W B I J Z v) (hb : Below W.heap.size W W') : TupV W' B I J Z v := let ⟨u, h1, h2⟩ := h; ⟨u, h1, h2.below hb⟩
set_option maxRecDepth 100000 in
set_option maxHeartbeats 40000000 in
theorem cipher3_c (key : List Nat) (a : Option Addr) (c : Nat) (h0 : key.length ≠ 0) (h128 : key.length ≤ 128) (hb : ∀ x ∈ key, x < 256) (hc : key.length ≤ c) (hn : a = none → c = 0) (w : World) (hGl : Gl w) (hG : GlB w) (hS : Sl w a .u8 key) :
    Calls Tryz.prog 9 #[.agg #[.int .i64 3, .slice a key.length c]] w fun e w' => ∃ gc gk gt gb, e = .returned (.tuple #[.pointer (some ⟨gc, 0, none⟩), .bool true]) ∧ w.heap.size ≤ gc ∧ IsCip w' gc gk gt gb (exI key) (exJ key) (exZ key) ∧ Below w.heap.size w w' := by
  have hb1 := (Below.refl w.heap.size w).alloc (Nat.le_refl _) (.cells #[.int .i64 3, .slice a key.length c] 25)
  have B1 := Blk.new w 25 #[.int .i64 3, .slice a key.length c]
  have hnew := fun (W : World) gt gb (h1 : IsTab W gt gb) (h2 : GlB W) (h3 : Sl W a .u8 key) => wideNew_c gt gb key a c h0 h128 hb hc hn W h1 h2 h3
  obtain ⟨n, Hn⟩ : ∃ n, Hid (key.length = n) := ⟨_, Lib.hid rfl⟩
  rw [Hn.out] at hb1 B1 hnew ⊢
  generalize exI key = I at *
  generalize exJ key = J at *
  generalize exZ key = Z at *
  go_enter Tryz.func9, Tryz.ntmps9
  go_wp2_with fail
  have hgl := B1.lt
  have k0 : (w.alloc (.cells #[.int .i64 3, .slice a n c] 25)).cell? ⟨w.heap.size, 0, none⟩ = some (.int .i64 3) := by rw [B1.cell]; rfl
  have k1 : (w.alloc (.cells #[.int .i64 3, .slice a n c] 25)).cell? ⟨w.heap.size, 1, none⟩ = some (.slice a n c) := by rw [B1.cell]; rfl
  have G1 := hG.below hb1
  have L1 := hGl.below hb1
  have S1 := hS.below hb1
  have hsz := hb1.size
  generalize (w.alloc (.cells #[.int .i64 3, .slice a n c] 25)) = w1 at *
  refine wp_region_inv2 (by kernel_rfl) (by kernel_rfl) (fun D act_ W => ∃ u4 u5 u6 u7 u8 u9 u10 u11 u12 u13 u14 : Value, act_ = { tmps := #[.agg #[.int .i64 3, .slice a n c], .pointer (some ⟨w.heap.size, 0, none⟩), .pointer none, .bool false, u4, u5, u6, u7, u8, u9, u10, u11, u12, u13, u14, undef, undef, undef, undef, undef, undef, undef], defers := [] } ∧ Below w1.heap.size w1 W ∧ (D 0 → TabV W w.heap.size u7) ∧ (D 1 → u8 = .pointer (some ⟨w.heap.size, 0, none⟩)) ∧ (D 2 → u9 = .int .i64 3) ∧ (D 3 → u10 = .pointer (some ⟨w.heap.size, 1, none⟩)) ∧ (D 4 → u11 = .slice a n c) ∧ (D 5 → TupV W w.heap.size I J Z u12) ∧ (D 6 → TupV W w.heap.size I J Z u6) ∧ (D 7 → CipV W w.heap.size I J Z u13) ∧ (D 8 → u14 = .int .i64 0) ∧ (D 9 → CipV W w.heap.size I J Z u4) ∧ (D 10 → u5 = .int .i64 0)) ?_ ?_ ?_
  · exact ⟨_, _, _, _, _, _, _, _, _, _, _, rfl, ⟨rfl, rfl, rfl, Nat.le_refl _, fun _ _ => rfl⟩, (fun h => h.elim), (fun h => h.elim), (fun h => h.elim), (fun h => h.elim), (fun h => h.elim), (fun h => h.elim), (fun h => h.elim), (fun h => h.elim), (fun h => h.elim), (fun h => h.elim), (fun h => h.elim)⟩
  · intro i o hi D act_ W hI hnD hall
    obtain ⟨u4, u5, u6, u7, u8, u9, u10, u11, u12, u13, u14, rfl, hW, f0, f1, f2, f3, f4, f5, f6, f7, f8, f9, f10⟩ := hI
    rcases i with _ | _ | _ | _ | _ | _ | _ | _ | _ | _ | _ | i
    · simp only [Nat.zero_add, Nat.reduceAdd, List.getElem?_toArray, List.getElem?_cons_succ, List.getElem?_cons_zero, Option.some.injEq] at hi
      subst hi
      refine wpOp_callX (R := fun v w' => TabV w' w.heap.size v ∧ Below W.heap.size W w') 13 rfl rfl rfl Tryz.func13 (by kernel_rfl) (by kernel_rfl) ((tables_c W (L1.below hW)).mono fun e w' ⟨gt, gb, h1, h2, h3, h4⟩ => ⟨_, h1, ⟨gt, gb, rfl, Nat.le_trans hsz (Nat.le_trans hW.size h2), h3⟩, h4⟩) ?_; rintro v W' ⟨hT9, hW'⟩
      exact ⟨_, _, _, _, _, _, _, _, _, _, _, rfl, bCall hW hW' hW.size, (fun _ => hT9), (fun h => f1 (h.resolve_left (by decide))), (fun h => f2 (h.resolve_left (by decide))), (fun h => f3 (h.resolve_left (by decide))), (fun h => f4 (h.resolve_left (by decide))), (fun h => (TupV.below) (f5 (h.resolve_left (by decide))) hW'), (fun h => (TupV.below) (f6 (h.resolve_left (by decide))) hW'), (fun h => (CipV.below) (f7 (h.resolve_left (by decide))) hW'), (fun h => f8 (h.resolve_left (by decide))), (fun h => (CipV.below) (f9 (h.resolve_left (by decide))) hW'), (fun h => f10 (h.resolve_left (by decide)))⟩
    · simp only [Nat.zero_add, Nat.reduceAdd, List.getElem?_toArray, List.getElem?_cons_succ, List.getElem?_cons_zero, Option.some.injEq] at hi
      subst hi
      refine wpOp_value (v := .pointer (some ⟨w.heap.size, 0, none⟩)) rfl rfl (by kernel_rfl) ?_
      exact ⟨_, _, _, _, _, _, _, _, _, _, _, rfl, hW, (fun h => f0 (h.resolve_left (by decide))), (fun _ => rfl), (fun h => f2 (h.resolve_left (by decide))), (fun h => f3 (h.resolve_left (by decide))), (fun h => f4 (h.resolve_left (by decide))), (fun h => f5 (h.resolve_left (by decide))), (fun h => f6 (h.resolve_left (by decide))), (fun h => f7 (h.resolve_left (by decide))), (fun h => f8 (h.resolve_left (by decide))), (fun h => f9 (h.resolve_left (by decide))), (fun h => f10 (h.resolve_left (by decide)))⟩
    · simp only [Nat.zero_add, Nat.reduceAdd, List.getElem?_toArray, List.getElem?_cons_succ, List.getElem?_cons_zero, Option.some.injEq] at hi
      subst hi
      obtain rfl := f1 (pre_of hall 1 rfl)
      refine wpOp_cell rfl rfl rfl rfl Tryz.underlying3 ((hW.cell (p := ⟨_, _, none⟩) hgl).trans k0) ?_
      exact ⟨_, _, _, _, _, _, _, _, _, _, _, rfl, hW, (fun h => f0 (h.resolve_left (by decide))), (fun h => f1 (h.resolve_left (by decide))), (fun _ => rfl), (fun h => f3 (h.resolve_left (by decide))), (fun h => f4 (h.resolve_left (by decide))), (fun h => f5 (h.resolve_left (by decide))), (fun h => f6 (h.resolve_left (by decide))), (fun h => f7 (h.resolve_left (by decide))), (fun h => f8 (h.resolve_left (by decide))), (fun h => f9 (h.resolve_left (by decide))), (fun h => f10 (h.resolve_left (by decide)))⟩
    · simp only [Nat.zero_add, Nat.reduceAdd, List.getElem?_toArray, List.getElem?_cons_succ, List.getElem?_cons_zero, Option.some.injEq] at hi
      subst hi
      refine wpOp_value (v := .pointer (some ⟨w.heap.size, 1, none⟩)) rfl rfl (by kernel_rfl) ?_
      exact ⟨_, _, _, _, _, _, _, _, _, _, _, rfl, hW, (fun h => f0 (h.resolve_left (by decide))), (fun h => f1 (h.resolve_left (by decide))), (fun h => f2 (h.resolve_left (by decide))), (fun _ => rfl), (fun h => f4 (h.resolve_left (by decide))), (fun h => f5 (h.resolve_left (by decide))), (fun h => f6 (h.resolve_left (by decide))), (fun h => f7 (h.resolve_left (by decide))), (fun h => f8 (h.resolve_left (by decide))), (fun h => f9 (h.resolve_left (by decide))), (fun h => f10 (h.resolve_left (by decide)))⟩
    · simp only [Nat.zero_add, Nat.reduceAdd, List.getElem?_toArray, List.getElem?_cons_succ, List.getElem?_cons_zero, Option.some.injEq] at hi
      subst hi
      obtain rfl := f3 (pre_of hall 3 rfl)
      refine wpOp_value (v := .slice a n c) rfl rfl (run_cellS rfl rfl Tryz.underlying23 ((hW.cell (p := ⟨w.heap.size, 1, none⟩) hgl).trans k1)) ?_
      exact ⟨_, _, _, _, _, _, _, _, _, _, _, rfl, hW, (fun h => f0 (h.resolve_left (by decide))), (fun h => f1 (h.resolve_left (by decide))), (fun h => f2 (h.resolve_left (by decide))), (fun h => f3 (h.resolve_left (by decide))), (fun _ => rfl), (fun h => f5 (h.resolve_left (by decide))), (fun h => f6 (h.resolve_left (by decide))), (fun h => f7 (h.resolve_left (by decide))), (fun h => f8 (h.resolve_left (by decide))), (fun h => f9 (h.resolve_left (by decide))), (fun h => f10 (h.resolve_left (by decide)))⟩
    · simp only [Nat.zero_add, Nat.reduceAdd, List.getElem?_toArray, List.getElem?_cons_succ, List.getElem?_cons_zero, Option.some.injEq] at hi
      subst hi
      obtain rfl := f2 (pre_of hall 2 rfl)
      obtain rfl := f4 (pre_of hall 4 rfl)
      obtain ⟨gt9, gb9, h9, hB9, hT9⟩ := (f0 (pre_of hall 0 rfl)); subst h9; refine wpOp_callX (R := fun v w' => TupV w' w.heap.size I J Z v ∧ Below W.heap.size W w') 15 rfl rfl rfl Tryz.func15 (by kernel_rfl) (by kernel_rfl) ((hnew W gt9 gb9 hT9 (G1.below hW) (S1.below hW)).mono fun e w' ⟨gc, gk, h1, h2, h3, h4⟩ => ⟨_, h1, ⟨_, rfl, gc, gk, gt9, gb9, rfl, Nat.le_trans hsz (Nat.le_trans hW.size h2), h3⟩, h4⟩) ?_; rintro v W' ⟨hT9, hW'⟩
      exact ⟨_, _, _, _, _, _, _, _, _, _, _, rfl, bCall hW hW' hW.size, (fun h => (TabV.below) (f0 (h.resolve_left (by decide))) hW'), (fun h => f1 (h.resolve_left (by decide))), (fun h => f2 (h.resolve_left (by decide))), (fun h => f3 (h.resolve_left (by decide))), (fun h => f4 (h.resolve_left (by decide))), (fun _ => hT9), (fun h => (TupV.below) (f6 (h.resolve_left (by decide))) hW'), (fun h => (CipV.below) (f7 (h.resolve_left (by decide))) hW'), (fun h => f8 (h.resolve_left (by decide))), (fun h => (CipV.below) (f9 (h.resolve_left (by decide))) hW'), (fun h => f10 (h.resolve_left (by decide)))⟩
    · simp only [Nat.zero_add, Nat.reduceAdd, List.getElem?_toArray, List.getElem?_cons_succ, List.getElem?_cons_zero, Option.some.injEq] at hi
      subst hi
      obtain ⟨u9, h9, hC9⟩ := (f5 (pre_of hall 5 rfl)); subst h9; refine wpOp_value (v := .tuple #[u9, .int .i64 0]) rfl rfl rfl ?_; have hW' := Below.refl W.heap.size W
      exact ⟨_, _, _, _, _, _, _, _, _, _, _, rfl, bCall hW hW' hW.size, (fun h => (TabV.below) (f0 (h.resolve_left (by decide))) hW'), (fun h => f1 (h.resolve_left (by decide))), (fun h => f2 (h.resolve_left (by decide))), (fun h => f3 (h.resolve_left (by decide))), (fun h => f4 (h.resolve_left (by decide))), (fun h => (TupV.below) (f5 (h.resolve_left (by decide))) hW'), (fun _ => ⟨u9, rfl, hC9⟩), (fun h => (CipV.below) (f7 (h.resolve_left (by decide))) hW'), (fun h => f8 (h.resolve_left (by decide))), (fun h => (CipV.below) (f9 (h.resolve_left (by decide))) hW'), (fun h => f10 (h.resolve_left (by decide)))⟩
    · simp only [Nat.zero_add, Nat.reduceAdd, List.getElem?_toArray, List.getElem?_cons_succ, List.getElem?_cons_zero, Option.some.injEq] at hi
      subst hi
      obtain ⟨u9, h9, hC9⟩ := (f6 (pre_of hall 6 rfl)); subst h9; refine wpOp_value (v := u9) rfl rfl (by rfl) ?_; have hW' := Below.refl W.heap.size W
      exact ⟨_, _, _, _, _, _, _, _, _, _, _, rfl, bCall hW hW' hW.size, (fun h => (TabV.below) (f0 (h.resolve_left (by decide))) hW'), (fun h => f1 (h.resolve_left (by decide))), (fun h => f2 (h.resolve_left (by decide))), (fun h => f3 (h.resolve_left (by decide))), (fun h => f4 (h.resolve_left (by decide))), (fun h => (TupV.below) (f5 (h.resolve_left (by decide))) hW'), (fun h => (TupV.below) (f6 (h.resolve_left (by decide))) hW'), (fun _ => hC9), (fun h => f8 (h.resolve_left (by decide))), (fun h => (CipV.below) (f9 (h.resolve_left (by decide))) hW'), (fun h => f10 (h.resolve_left (by decide)))⟩
    · simp only [Nat.zero_add, Nat.reduceAdd, List.getElem?_toArray, List.getElem?_cons_succ, List.getElem?_cons_zero, Option.some.injEq] at hi
      subst hi
      obtain ⟨u9, h9, hC9⟩ := (f6 (pre_of hall 6 rfl)); subst h9; refine wpOp_value (v := .int .i64 0) rfl rfl (by rfl) ?_; have hW' := Below.refl W.heap.size W
      exact ⟨_, _, _, _, _, _, _, _, _, _, _, rfl, bCall hW hW' hW.size, (fun h => (TabV.below) (f0 (h.resolve_left (by decide))) hW'), (fun h => f1 (h.resolve_left (by decide))), (fun h => f2 (h.resolve_left (by decide))), (fun h => f3 (h.resolve_left (by decide))), (fun h => f4 (h.resolve_left (by decide))), (fun h => (TupV.below) (f5 (h.resolve_left (by decide))) hW'), (fun h => (TupV.below) (f6 (h.resolve_left (by decide))) hW'), (fun h => (CipV.below) (f7 (h.resolve_left (by decide))) hW'), (fun _ => rfl), (fun h => (CipV.below) (f9 (h.resolve_left (by decide))) hW'), (fun h => f10 (h.resolve_left (by decide)))⟩
    · simp only [Nat.zero_add, Nat.reduceAdd, List.getElem?_toArray, List.getElem?_cons_succ, List.getElem?_cons_zero, Option.some.injEq] at hi
      subst hi
      have h9 := (f7 (pre_of hall 7 rfl)); refine wpOp_value (v := _) rfl rfl rfl ?_; have hW' := Below.refl W.heap.size W
      exact ⟨_, _, _, _, _, _, _, _, _, _, _, rfl, bCall hW hW' hW.size, (fun h => (TabV.below) (f0 (h.resolve_left (by decide))) hW'), (fun h => f1 (h.resolve_left (by decide))), (fun h => f2 (h.resolve_left (by decide))), (fun h => f3 (h.resolve_left (by decide))), (fun h => f4 (h.resolve_left (by decide))), (fun h => (TupV.below) (f5 (h.resolve_left (by decide))) hW'), (fun h => (TupV.below) (f6 (h.resolve_left (by decide))) hW'), (fun h => (CipV.below) (f7 (h.resolve_left (by decide))) hW'), (fun h => f8 (h.resolve_left (by decide))), (fun _ => h9), (fun h => f10 (h.resolve_left (by decide)))⟩
    · simp only [Nat.zero_add, Nat.reduceAdd, List.getElem?_toArray, List.getElem?_cons_succ, List.getElem?_cons_zero, Option.some.injEq] at hi
      subst hi
      obtain rfl := f8 (pre_of hall 8 rfl)
      refine wpOp_value (v := .int .i64 0) rfl rfl rfl ?_
      exact ⟨_, _, _, _, _, _, _, _, _, _, _, rfl, hW, (fun h => f0 (h.resolve_left (by decide))), (fun h => f1 (h.resolve_left (by decide))), (fun h => f2 (h.resolve_left (by decide))), (fun h => f3 (h.resolve_left (by decide))), (fun h => f4 (h.resolve_left (by decide))), (fun h => f5 (h.resolve_left (by decide))), (fun h => f6 (h.resolve_left (by decide))), (fun h => f7 (h.resolve_left (by decide))), (fun h => f8 (h.resolve_left (by decide))), (fun h => f9 (h.resolve_left (by decide))), (fun _ => rfl)⟩
    · exfalso; simp at hi
  · rintro D act_ W ⟨u4, u5, u6, u7, u8, u9, u10, u11, u12, u13, u14, rfl, hW, f0, f1, f2, f3, f4, f5, f6, f7, f8, f9, f10⟩ hall
    obtain rfl := f1 (hall 1 (by decide))
    obtain rfl := f2 (hall 2 (by decide))
    obtain rfl := f3 (hall 3 (by decide))
    obtain rfl := f4 (hall 4 (by decide))
    obtain rfl := f8 (hall 8 (by decide))
    obtain rfl := f10 (hall 10 (by decide))
    have x7 := f0 (hall 0 (by decide))
    have x12 := f5 (hall 5 (by decide))
    have x6 := f6 (hall 6 (by decide))
    have x13 := f7 (hall 7 (by decide))
    have x4 := f9 (hall 9 (by decide))
    clear f1 f2 f3 f4 f8 f10 hall
    obtain ⟨gc, gk, gt, gb, rfl, hgc, C⟩ := x4
    clear x7 x12 x6 x13 k0 k1 S1 hnew
    have hbel := bCall hb1 hW hb1.size
    go_wp2_with fail
    refine bodyPost_ret (v := .tuple #[.pointer (some ⟨gc, 0, none⟩), .bool true]) ?_ rfl ⟨gc, gk, gt, gb, rfl, hgc, C, hbel⟩
    simp [results, Tryz.results9]
end Go.Proofs.YtaiffkajkbiidaaGreatDoor
