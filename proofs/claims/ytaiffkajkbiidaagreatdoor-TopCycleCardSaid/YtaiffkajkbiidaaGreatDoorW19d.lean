/- AEZ-tiny: Step. No condition but that bytes are below 256. -/
import Derived.Test.YtaiffkajkbiidaaGreatDoorW19c
import Derived.Deep.Cut
import Derived.Deep.CutRange
import Derived.Deep.DeepCutAuto
namespace Go.Proofs.YtaiffkajkbiidaaGreatDoor
set_option linter.unusedSimpArgs false
set_option linter.unusedVariables false
set_option linter.unusedSectionVars false
set_option linter.unusedVariables false
open Go.RowKit
/-- What a half brings to the other one. -/
def sX (H : List Nat) (j x : Nat) : List Nat := xorsN (zeros 16) [bk1 (x * 16 + 8), H, cntN j]
def sS (I J Z H : List Nat) (j x : Nat) : Nat := (eE I J Z 0 7 (sX H j x)).getD 0 0 / 16
theorem three_all {p : List Nat → Prop} {a b c : List Nat} (ha : p a) (hb : p b) (hc : p c) : ∀ k ∈ [a, b, c], p k := fun k hk => by
  rcases List.mem_cons.1 hk with rfl | hk
  · exact ha
  exact two_all hb hc k hk
theorem flat3 {a b c : List Nat} : [a, b, c].flatten = a ++ (b ++ c) := by simp
theorem wpOp_bs3 {P : Program} {ops : Array Oper} {o : Oper} {a : Act} {w : World} {Q : Exit → Act → World → Prop} {K : Act → World → Prop} {k : Nat} {T n : Nat} {x0 x1 x2 : Operand} {u0 u1 u2 v : Value} {w' : World} (hi : ops[k]? = some o) (hw : Region.wanted o (yielded ops a.tmps) = true) (ho : o.op = .buildSlice T n #[(0, x0), (1, x1), (2, x2)]) (h0 : a.eval x0 = u0) (h1 : a.eval x1 = u1) (h2 : a.eval x2 = u2) (hr : (Instr.buildSlice T n #[(0, u0), (1, u1), (2, u2)]).run P w = .ok v w') (h : K (a.put o.dst v) w') : wpOp P ops Q k K a w :=
  wpOp_runW hi hw (run_bs3 ho h0 h1 h2 hr) h
theorem sS_lt (I J Z H : List Nat) (hHb : ∀ y ∈ H, y < 256) (j x : Nat) (hx : x < 16) : sS I J Z H j x < 16 := by
  have h1 : ∀ y ∈ sX H j x, y < 256 := xorsN_lt _ _ (zeros_b 16) (three_all (p := fun k => ∀ y ∈ k, y < 256) (bk1_lt (by omega)) hHb (cntK_lt _ _))
  have h2 := getD_bound (eE_lt I J Z 0 7 h1) (by decide) 0
  unfold sS
  omega
set_option maxRecDepth 100000 in
set_option maxHeartbeats 40000000 in
theorem tinyStep_c (gk gt gb : Nat) (I J Z H : List Nat) (hH : H.length = 16) (hHb : ∀ y ∈ H, y < 256) (x j : Nat) (hx : x < 16) (hj : j < 2 ^ 31) (a : Option Addr) (c : Nat) (w : World) (hs : Sl w a .u8 [x]) (hK : IsKey w gk gt gb I J Z) :
    Calls Tryz.prog 174 #[.pointer (some ⟨gk, 0, none⟩), .agg (ints .u8 H), .int .i64 7, .int .i64 (j : Int), .slice a 1 c] w fun e w' => ∃ v, e = .returned v ∧ Own w' w.heap.size 5 .u8 v [sS I J Z H j x] ∧ Below w.heap.size w w' := by
  have hd1 : decide ((j : Int) < 0) = false := by simp
  have H0 := Blk.new w 96 (ints .u8 H)
  have hb0 := (Below.refl w.heap.size w).alloc (Nat.le_refl _) (.cells (ints .u8 H) 96)
  have hs0 := hs.below hb0
  have K0 := hK.below hb0
  go_enter Tryz.func174, Tryz.ntmps174
  go_wp2_with fail
  generalize (w.alloc (.cells (ints .u8 H) 96)) = w0 at *
  refine (clone2_c a c 1 [x] rfl (by simp) _ hs0).mono ?_
  rintro e w1 ⟨v, rfl, ov, hb1⟩
  have H1 := (H0.below' hb1).alloc (.cells (ints .u8 [8]) 5)
  have hb2 := (Below.refl w1.heap.size w1).alloc (Nat.le_refl _) (.cells (ints .u8 [8]) 5)
  have hbel1 := bCall hb0 hb1 hb0.size
  have hbel2 := bCall hbel1 hb2 hbel1.size
  have hl0 := H0.lt
  have hl1 := hb1.size
  have ov2 := ov.below hb2
  have E2 : Sl (w1.alloc (.cells (ints .u8 [8]) 5)) (some ⟨w1.heap.size, 0, none⟩) .u8 [8] := Sl.blk (Blk.new w1 5 (ints .u8 [8]))
  clear hs0 K0 ov hb1 hbel1 hb2
  go_wp2_with (refine wpList_append_sl (zs := [8]) rfl rfl Tryz.underlying23 Tryz.inf8 rfl (by omega) rfl ov2 rfl rfl (fun h => by cases h) E2 (by simp) (by simp; omega) ?_; intro v' w' hown' hgr; rw [show ([x] ++ [8] : List Nat) = [x, 8] from rfl] at hown'; have hbel' := bGrown hbel2 hgr (by simp; omega) ov2 (by omega); have H2 := H1.grownOwn hgr ov2 hl0; clear ov2 E2 H1 hgr hbel2; (try simp only [Act.put, List.setIfInBounds_toArray, List.set_cons_zero, List.set_cons_succ, World.size_alloc, setRow_size, Nat.add_assoc, Nat.reduceAdd]))
  obtain ⟨a2, c2, rfl, s2, -, -⟩ := hown'.sl
  refine (cutJoin_c x 8 hx (by decide) a2 c2 _ s2).mono ?_
  rintro e w3 ⟨v3, rfl, ov3, hb3⟩
  obtain ⟨n, Hn⟩ : ∃ n, Hid (x * 16 + 8 = n) := ⟨_, Lib.hid rfl⟩
  have hn : n < 256 := by rw [← Hn.out]; omega
  rw [Hn.out] at ov3
  have H3 := H2.below' hb3
  have hbel3 := bCall hbel' hb3 hbel'.size
  obtain ⟨a3, c3, rfl, s3, -, -⟩ := ov3.sl
  have hbk : Calls Tryz.prog 38 #[.slice a3 1 c3] w3 fun e w' => e = .returned (.agg (ints .u8 (bk1 n))) ∧ Below w3.heap.size w3 w' := block_c a3 c3 [n] w3 s3
  clear H2 hown' hbel' s2 hb3 ov3 H0 hb0
  go_wp2_with fail
  refine hbk.mono ?_
  rintro e w4 ⟨rfl, hb4⟩
  have H4 := (H3.below' hb4).alloc (.cells (ints .u8 (zeros 16)) 96)
  have hbel4 := bCall hbel3 hb4 hbel3.size
  have hl4 := (H3.below' hb4).lt
  have X4 := Blk.new w4 96 (ints .u8 (zeros 16))
  have hb5 := bSetRow ((Below.refl w4.heap.size w4).alloc (Nat.le_refl _) (.cells (ints .u8 (zeros 16)) 96)) (Nat.le_refl _) (ints .u8 (bk1 n))
  have H5 := H4.rowFar (show w.heap.size ≠ w4.heap.size by omega) (ints .u8 (bk1 n))
  have X5 := X4.row (ints .u8 (bk1 n))
  have hbel5 := bCall hbel4 hb5 hbel4.size
  clear H3 hbk hb4 hbel3 hbel4 H4 hb5 s3
  go_wp2_with (first
    | (refine wpList_alloc_ints rfl 96 rfl Tryz.z96 ?_; (try simp only [Act.put, List.setIfInBounds_toArray, List.set_cons_zero, List.set_cons_succ, World.size_alloc, setRow_size, Nat.add_assoc, Nat.reduceAdd]))
    | (refine wpList_store_ints rfl 96 _ _ rfl _ rfl rfl X4 (zeros_size _ _) Tryz.ar96 (bk1_len n) ?_
       generalize ((w4.alloc (.cells (ints .u8 (zeros 16)) 96)).setRow w4.heap.size (ints .u8 (bk1 n))) = w5 at *
       generalize w4.heap.size = nb at *
       (try simp only [Act.put, List.setIfInBounds_toArray, List.set_cons_zero, List.set_cons_succ, World.size_alloc, setRow_size, Nat.add_assoc, Nat.reduceAdd])))
  have K5 := hK.below hbel5
  clear X4
  have hsl : (sX H j x).length = 16 := xorsN_len _ _ (zeros_len _)
  have hsb : ∀ y ∈ sX H j x, y < 256 := xorsN_lt _ _ (zeros_b 16) (three_all (p := fun k => ∀ y ∈ k, y < 256) (bk1_lt (by omega)) hHb (cntK_lt _ _))
  have hpl : ∀ (g : Nat) (W : World), Sl W (some ⟨g, 0, none⟩) .u8 (bk1 n ++ (H ++ cntN j)) → Calls Tryz.prog 186 #[.slice (some ⟨g, 0, none⟩) 3 3] W fun e w2 => e = .returned (.agg (ints .u8 (sX H j x))) ∧ Below W.heap.size W w2 := fun g W h => by
    unfold sX
    rw [Hn.out]
    exact tinyplus_c g 3 [bk1 n, H, cntN j] (three_all (p := fun k => k.length = 16) (bk1_len n) hH (cntK_len _ _)) (three_all (p := fun k => ∀ x ∈ k, x < 256) (bk1_lt hn) hHb (cntK_lt _ _)) (show 3 < 2 ^ 31 by decide) W (by rw [flat3]; exact h)
  have hEl := eE_len I J Z 0 7 hsl
  have hEb := eE_lt I J Z 0 7 hsb
  have HS : Hid (sS I J Z H j x = (eE I J Z 0 7 (sX H j x)).getD 0 0 / 16) := Lib.hid rfl
  have hE : ∀ (W : World), IsKey W gk gt gb I J Z → Calls Tryz.prog 180 #[.pointer (some ⟨gk, 0, none⟩), .int .i64 0, .int .i64 7, .agg (ints .u8 (sX H j x))] W fun e w' => e = .returned (.agg (ints .u8 (eE I J Z 0 7 (sX H j x)))) ∧ Below W.heap.size W w' := fun W h => ezE_c gk gt gb I J Z (sX H j x) 0 7 (by decide) (by decide) hsl hsb W h
  generalize sX H j x = X at *
  generalize eE I J Z 0 7 X = E at *
  have hcl : (cntN j).length = 16 := cntK_len j 8
  have hkl := bk1_len n
  refine wp_region_last 10 (by kernel_rfl) (by kernel_rfl) (by kernel_rfl) (by kernel_rfl) (fun D act_ W => ∃ u12 u31 u32 u33 u34 u35 u36 u37 u38 u39 u40 u41 u42 u43 u44 : Value, act_ = { tmps := #[.pointer (some ⟨gk, 0, none⟩), .agg (ints .u8 H), .int .i64 7, .int .i64 (j : Int), .slice a 1 c, undef, .pointer (some ⟨w.heap.size, 0, none⟩), undef, undef, undef, .slice none 0 0, .pointer (some ⟨nb, 0, none⟩), u12, undef, undef, .pointer (some ⟨gk, 0, none⟩), .bool false, .bool false, .slice a 1 c, .int .i64 1, .bool false, .bool false, .bool false, .int .i64 7, .bool false, .bool false, .bool false, .int .i64 (j : Int), .bool false, .bool false, .slice a 1 c, u31, u32, u33, u34, u35, u36, u37, u38, u39, u40, u41, u42, u43, u44, undef, undef, undef, undef, undef, undef, undef, undef, undef, undef], defers := [] } ∧ Below w5.heap.size w5 W ∧ (D 0 → u36 = .pointer (some ⟨gk, 0, none⟩)) ∧ (D 1 → u37 = .int .i64 7) ∧ (D 2 → u38 = .agg (ints .u8 (bk1 n))) ∧ (D 3 → u39 = .agg (ints .u8 H)) ∧ (D 4 → u40 = .int .i64 (j : Int)) ∧ (D 5 → u41 = .agg (ints .u8 (cntN j))) ∧ (D 6 → RowB W u42 3 (bk1 n ++ (H ++ cntN j))) ∧ (D 7 → u43 = .agg (ints .u8 X)) ∧ (D 8 → u44 = .agg (ints .u8 E)) ∧ (D 9 → Al W w5.heap.size u12 96 16 .u8 (D 10) (E)) ∧ (D 10 → D 9)) ?_ ?_ ?_
  · exact ⟨_, _, _, _, _, _, _, _, _, _, _, _, _, _, _, rfl, ⟨rfl, rfl, rfl, Nat.le_refl _, fun _ _ => rfl⟩, (fun h => h.elim), (fun h => h.elim), (fun h => h.elim), (fun h => h.elim), (fun h => h.elim), (fun h => h.elim), (fun h => h.elim), (fun h => h.elim), (fun h => h.elim), (fun h => h.elim), (fun h => h.elim)⟩
  · intro i o hilt hi D act_ W hI hnD hall
    obtain ⟨u12, u31, u32, u33, u34, u35, u36, u37, u38, u39, u40, u41, u42, u43, u44, rfl, hW, f0, f1, f2, f3, f4, f5, f6, f7, f8, f9, f10⟩ := hI
    rcases i with _ | _ | _ | _ | _ | _ | _ | _ | _ | _ | i
    · simp only [Nat.zero_add, Nat.reduceAdd, List.getElem?_toArray, List.getElem?_cons_succ, List.getElem?_cons_zero, Option.some.injEq] at hi
      subst hi
      refine wpOp_value (v := .pointer (some ⟨gk, 0, none⟩)) rfl rfl (by kernel_rfl) ?_
      exact ⟨_, _, _, _, _, _, _, _, _, _, _, _, _, _, _, rfl, hW, (fun _ => rfl), (fun h => f1 (h.resolve_left (by decide))), (fun h => f2 (h.resolve_left (by decide))), (fun h => f3 (h.resolve_left (by decide))), (fun h => f4 (h.resolve_left (by decide))), (fun h => f5 (h.resolve_left (by decide))), (fun h => f6 (h.resolve_left (by decide))), (fun h => f7 (h.resolve_left (by decide))), (fun h => f8 (h.resolve_left (by decide))), (fun h => (f9 (h.resolve_left (by decide))).same (fun h' => h'.resolve_left (by decide))), (fun h => .inr (f10 (h.resolve_left (by decide))))⟩
    · simp only [Nat.zero_add, Nat.reduceAdd, List.getElem?_toArray, List.getElem?_cons_succ, List.getElem?_cons_zero, Option.some.injEq] at hi
      subst hi
      refine wpOp_value (v := .int .i64 7) rfl rfl (by kernel_rfl) ?_
      exact ⟨_, _, _, _, _, _, _, _, _, _, _, _, _, _, _, rfl, hW, (fun h => f0 (h.resolve_left (by decide))), (fun _ => rfl), (fun h => f2 (h.resolve_left (by decide))), (fun h => f3 (h.resolve_left (by decide))), (fun h => f4 (h.resolve_left (by decide))), (fun h => f5 (h.resolve_left (by decide))), (fun h => f6 (h.resolve_left (by decide))), (fun h => f7 (h.resolve_left (by decide))), (fun h => f8 (h.resolve_left (by decide))), (fun h => (f9 (h.resolve_left (by decide))).same (fun h' => h'.resolve_left (by decide))), (fun h => .inr (f10 (h.resolve_left (by decide))))⟩
    · simp only [Nat.zero_add, Nat.reduceAdd, List.getElem?_toArray, List.getElem?_cons_succ, List.getElem?_cons_zero, Option.some.injEq] at hi
      subst hi
      refine wpOp_load rfl rfl rfl rfl (X5.below' hW) Tryz.ar96 hkl ?_
      exact ⟨_, _, _, _, _, _, _, _, _, _, _, _, _, _, _, rfl, hW, (fun h => f0 (h.resolve_left (by decide))), (fun h => f1 (h.resolve_left (by decide))), (fun _ => rfl), (fun h => f3 (h.resolve_left (by decide))), (fun h => f4 (h.resolve_left (by decide))), (fun h => f5 (h.resolve_left (by decide))), (fun h => f6 (h.resolve_left (by decide))), (fun h => f7 (h.resolve_left (by decide))), (fun h => f8 (h.resolve_left (by decide))), (fun h => (f9 (h.resolve_left (by decide))).same (fun h' => h'.resolve_left (by decide))), (fun h => .inr (f10 (h.resolve_left (by decide))))⟩
    · simp only [Nat.zero_add, Nat.reduceAdd, List.getElem?_toArray, List.getElem?_cons_succ, List.getElem?_cons_zero, Option.some.injEq] at hi
      subst hi
      refine wpOp_load rfl rfl rfl rfl (H5.below' hW) Tryz.ar96 hH ?_
      exact ⟨_, _, _, _, _, _, _, _, _, _, _, _, _, _, _, rfl, hW, (fun h => f0 (h.resolve_left (by decide))), (fun h => f1 (h.resolve_left (by decide))), (fun h => f2 (h.resolve_left (by decide))), (fun _ => rfl), (fun h => f4 (h.resolve_left (by decide))), (fun h => f5 (h.resolve_left (by decide))), (fun h => f6 (h.resolve_left (by decide))), (fun h => f7 (h.resolve_left (by decide))), (fun h => f8 (h.resolve_left (by decide))), (fun h => (f9 (h.resolve_left (by decide))).same (fun h' => h'.resolve_left (by decide))), (fun h => .inr (f10 (h.resolve_left (by decide))))⟩
    · simp only [Nat.zero_add, Nat.reduceAdd, List.getElem?_toArray, List.getElem?_cons_succ, List.getElem?_cons_zero, Option.some.injEq] at hi
      subst hi
      refine wpOp_value (v := .int .i64 (j : Int)) rfl rfl (by kernel_rfl) ?_
      exact ⟨_, _, _, _, _, _, _, _, _, _, _, _, _, _, _, rfl, hW, (fun h => f0 (h.resolve_left (by decide))), (fun h => f1 (h.resolve_left (by decide))), (fun h => f2 (h.resolve_left (by decide))), (fun h => f3 (h.resolve_left (by decide))), (fun _ => rfl), (fun h => f5 (h.resolve_left (by decide))), (fun h => f6 (h.resolve_left (by decide))), (fun h => f7 (h.resolve_left (by decide))), (fun h => f8 (h.resolve_left (by decide))), (fun h => (f9 (h.resolve_left (by decide))).same (fun h' => h'.resolve_left (by decide))), (fun h => .inr (f10 (h.resolve_left (by decide))))⟩
    · simp only [Nat.zero_add, Nat.reduceAdd, List.getElem?_toArray, List.getElem?_cons_succ, List.getElem?_cons_zero, Option.some.injEq] at hi
      subst hi
      obtain rfl := f4 (pre_of hall 4 rfl)
      refine wpOp_call 188 rfl rfl rfl Tryz.func188 (by kernel_rfl) (by kernel_rfl) (counted_c j hj W) ?_
      intro W' hW'
      exact ⟨_, _, _, _, _, _, _, _, _, _, _, _, _, _, _, rfl, bCall hW hW' hW.size, (fun h => f0 (h.resolve_left (by decide))), (fun h => f1 (h.resolve_left (by decide))), (fun h => f2 (h.resolve_left (by decide))), (fun h => f3 (h.resolve_left (by decide))), (fun h => f4 (h.resolve_left (by decide))), (fun _ => rfl), (fun h => (RowB.below) (f6 (h.resolve_left (by decide))) hW'), (fun h => f7 (h.resolve_left (by decide))), (fun h => f8 (h.resolve_left (by decide))), (fun h => (f9 (h.resolve_left (by decide))).below hW' (fun h' => h'.resolve_left (by decide))), (fun h => .inr (f10 (h.resolve_left (by decide))))⟩
    · simp only [Nat.zero_add, Nat.reduceAdd, List.getElem?_toArray, List.getElem?_cons_succ, List.getElem?_cons_zero, Option.some.injEq] at hi
      subst hi
      obtain rfl := f2 (pre_of hall 2 rfl)
      obtain rfl := f3 (pre_of hall 3 rfl)
      obtain rfl := f5 (pre_of hall 5 rfl)
      refine wpOp_bs3 (u0 := .agg (ints .u8 (bk1 n))) (u1 := .agg (ints .u8 H)) (u2 := .agg (ints .u8 (cntN j))) rfl rfl rfl rfl rfl rfl (bs16_3 _ _ _ hkl hH hcl W) ?_; have hW' := (Below.refl W.heap.size W).alloc (Nat.le_refl _) (.cells (ints .u8 [bk1 n, H, cntN j].flatten) 96); have hB9 := Blk.new W 96 (ints .u8 [bk1 n, H, cntN j].flatten); rw [flat3] at hW' hB9 ⊢
      exact ⟨_, _, _, _, _, _, _, _, _, _, _, _, _, _, _, rfl, bCall hW hW' hW.size, (fun h => f0 (h.resolve_left (by decide))), (fun h => f1 (h.resolve_left (by decide))), (fun h => f2 (h.resolve_left (by decide))), (fun h => f3 (h.resolve_left (by decide))), (fun h => f4 (h.resolve_left (by decide))), (fun h => f5 (h.resolve_left (by decide))), (fun _ => ⟨_, rfl, Sl.blk hB9⟩), (fun h => f7 (h.resolve_left (by decide))), (fun h => f8 (h.resolve_left (by decide))), (fun h => (f9 (h.resolve_left (by decide))).below hW' (fun h' => h'.resolve_left (by decide))), (fun h => .inr (f10 (h.resolve_left (by decide))))⟩
    · simp only [Nat.zero_add, Nat.reduceAdd, List.getElem?_toArray, List.getElem?_cons_succ, List.getElem?_cons_zero, Option.some.injEq] at hi
      subst hi
      obtain ⟨g9, h9, s9⟩ := (f6 (pre_of hall 6 rfl)); subst h9; refine wpOp_callX (R := fun v w' => v = .agg (ints .u8 X) ∧ Below W.heap.size W w') 186 rfl rfl rfl Tryz.func186 (by kernel_rfl) (by kernel_rfl) ((hpl g9 W s9).mono fun e w' h => ⟨_, h.1, rfl, h.2⟩) ?_; rintro v W' ⟨rfl, hW'⟩
      exact ⟨_, _, _, _, _, _, _, _, _, _, _, _, _, _, _, rfl, bCall hW hW' hW.size, (fun h => f0 (h.resolve_left (by decide))), (fun h => f1 (h.resolve_left (by decide))), (fun h => f2 (h.resolve_left (by decide))), (fun h => f3 (h.resolve_left (by decide))), (fun h => f4 (h.resolve_left (by decide))), (fun h => f5 (h.resolve_left (by decide))), (fun h => (RowB.below) (f6 (h.resolve_left (by decide))) hW'), (fun _ => rfl), (fun h => f8 (h.resolve_left (by decide))), (fun h => (f9 (h.resolve_left (by decide))).below hW' (fun h' => h'.resolve_left (by decide))), (fun h => .inr (f10 (h.resolve_left (by decide))))⟩
    · simp only [Nat.zero_add, Nat.reduceAdd, List.getElem?_toArray, List.getElem?_cons_succ, List.getElem?_cons_zero, Option.some.injEq] at hi
      subst hi
      obtain rfl := f0 (pre_of hall 0 rfl)
      obtain rfl := f1 (pre_of hall 1 rfl)
      obtain rfl := f7 (pre_of hall 7 rfl)
      refine wpOp_call 180 rfl rfl rfl Tryz.func180 (by kernel_rfl) (by kernel_rfl) (hE W (K5.below hW)) ?_
      intro W' hW'
      exact ⟨_, _, _, _, _, _, _, _, _, _, _, _, _, _, _, rfl, bCall hW hW' hW.size, (fun h => f0 (h.resolve_left (by decide))), (fun h => f1 (h.resolve_left (by decide))), (fun h => f2 (h.resolve_left (by decide))), (fun h => f3 (h.resolve_left (by decide))), (fun h => f4 (h.resolve_left (by decide))), (fun h => f5 (h.resolve_left (by decide))), (fun h => (RowB.below) (f6 (h.resolve_left (by decide))) hW'), (fun h => f7 (h.resolve_left (by decide))), (fun _ => rfl), (fun h => (f9 (h.resolve_left (by decide))).below hW' (fun h' => h'.resolve_left (by decide))), (fun h => .inr (f10 (h.resolve_left (by decide))))⟩
    · simp only [Nat.zero_add, Nat.reduceAdd, List.getElem?_toArray, List.getElem?_cons_succ, List.getElem?_cons_zero, Option.some.injEq] at hi
      subst hi
      refine wpOp_alloc rfl rfl rfl Tryz.z96 ?_
      have hnS : ¬ (10 = 9 ∨ D 10) := fun h => h.elim (by decide) (fun h => hnD (f10 h))
      exact ⟨_, _, _, _, _, _, _, _, _, _, _, _, _, _, _, rfl, hW.alloc hW.size _, (fun h => f0 (h.resolve_left (by decide))), (fun h => f1 (h.resolve_left (by decide))), (fun h => f2 (h.resolve_left (by decide))), (fun h => f3 (h.resolve_left (by decide))), (fun h => f4 (h.resolve_left (by decide))), (fun h => f5 (h.resolve_left (by decide))), (fun h => (RowB.below) (f6 (h.resolve_left (by decide))) ((Below.refl _ _).alloc (Nat.le_refl _) _)), (fun h => f7 (h.resolve_left (by decide))), (fun h => f8 (h.resolve_left (by decide))), (fun _ => Al.new hW.size (fun h => (hnS h).elim)), (fun _ => .inl rfl)⟩
    · exfalso; omega
  · rintro D act_ W ⟨u12, u31, u32, u33, u34, u35, u36, u37, u38, u39, u40, u41, u42, u43, u44, rfl, hW, f0, f1, f2, f3, f4, f5, f6, f7, f8, f9, f10⟩ hall
    obtain rfl := f0 (hall 0 (by decide))
    obtain rfl := f1 (hall 1 (by decide))
    obtain rfl := f2 (hall 2 (by decide))
    obtain rfl := f3 (hall 3 (by decide))
    obtain rfl := f4 (hall 4 (by decide))
    obtain rfl := f5 (hall 5 (by decide))
    obtain rfl := f7 (hall 7 (by decide))
    obtain rfl := f8 (hall 8 (by decide))
    have x42 := f6 (hall 6 (by decide))
    obtain ⟨g12, l12, rfl, hg12, hn12, hB12, -⟩ := f9 (hall 9 (by decide))
    clear f0 f1 f2 f3 f4 f5 f7 f8 f9 f10 hall
    have hbelW := bCall hbel5 hW hbel5.size
    refine wpOp_store rfl rfl rfl rfl rfl hB12 (by rw [ints_size, hn12]) Tryz.ar96 hEl ?_
    have B13 := hB12.row (ints .u8 E)
    have hbel6 := bSetRow hbelW (show w.heap.size ≤ g12 by have := hbel5.size; omega) (ints .u8 E)
    have s6 : Sl (W.setRow g12 (ints .u8 E)) (some ⟨g12, 0, none⟩) .u8 E := Sl.blk B13
    have c4 : ∀ W, (convert 3 194 (.int .i64 1)).run Tryz.prog W = .ok (.float .f64 f1) W := fun _ => by kernel_rfl
    have h1 : ∀ W, Sl W (some ⟨g12, 0, none⟩) .u8 E → Calls Tryz.prog 187 #[.slice (some ⟨g12, 0, none⟩) 16 16, .complex .f64 0 f1] W fun e w' => ∃ v, e = .returned (.tuple #[v, .bool true]) ∧ Own w' W.heap.size 5 .u8 v [E.getD 0 0 / 16] ∧ Below W.heap.size W w' := fun W h => by
      have h2 := cutHalves_c 0 0 E (.inr (.inr ⟨rfl, hEl, rfl⟩)) hEb (some ⟨g12, 0, none⟩) 16 W h
      rw [hEl] at h2
      exact h2
    generalize W.setRow g12 (ints .u8 E) = w6 at *
    clear x42 hB12 hn12 hbelW hW X5 H5 K5 hbel5 hE hpl
    go_wp2_with fail
    refine (h1 _ s6).mono ?_
    rintro e w7 ⟨v7, rfl, ov7, hb7⟩
    have hbel7 := bCall hbel6 hb7 hbel6.size
    have ov8 := ov7.mono (B' := w.heap.size) hbel6.size
    rw [← HS.out] at ov8
    clear h1 hb7 ov7
    go_wp2_with fail
    go_ret
    exact ⟨_, rfl, ov8, hbel7⟩
end Go.Proofs.YtaiffkajkbiidaaGreatDoor
