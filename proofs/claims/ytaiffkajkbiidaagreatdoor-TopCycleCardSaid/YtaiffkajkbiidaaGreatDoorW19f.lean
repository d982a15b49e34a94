/- AEZ-tiny: Turn of one byte, deciphering. No condition but that bytes are below 256. -/
import Derived.Test.YtaiffkajkbiidaaGreatDoorW19e
namespace Go.Proofs.YtaiffkajkbiidaaGreatDoor
set_option linter.unusedSimpArgs false
set_option linter.unusedVariables false
set_option linter.unusedSectionVars false
set_option linter.unusedVariables false
open Go.RowKit
set_option maxRecDepth 100000 in
set_option maxHeartbeats 40000000 in
theorem tinyDec_c (gk gt gb : Nat) (I J Z H : List Nat) (hH : H.length = 16) (hHb : ∀ y ∈ H, y < 256) (b : Nat) (hb : b < 256) (a : Option Addr) (c : Nat) (rv : Value) (w : World) (hs : Sl w a .u8 [b]) (hK : IsKey w gk gt gb I J Z)
    (hh : ∀ W, Below w.heap.size w W → Calls Tryz.prog 170 #[.pointer (some ⟨gk, 0, none⟩), rv] W fun e w' => e = .returned (.agg (ints .u8 H)) ∧ Below W.heap.size W w') :
    Calls Tryz.prog 168 #[.pointer (some ⟨gk, 0, none⟩), rv, .slice a 1 c, .bool true] w fun e w' => ∃ v, e = .returned (.tuple #[v, .int .i64 0]) ∧ Own w' w.heap.size 5 .u8 v [decT (sT I J Z H) (gG I J Z H) b] ∧ Below w.heap.size w w' := by
  go_enter Tryz.func168, Tryz.ntmps168
  go_wp2_with fail
  have hSe : ∀ j x, x < 16 → sS I J Z H j x = sT I J Z H j x := fun j x hx => sT_eq I J Z H hHb j x hx
  have hSl := sT_lt I J Z H
  have hStep : ∀ (j x : Nat) (hx : x < 16) (hj : j < 2 ^ 31) (a : Option Addr) (c : Nat) (W : World) (hs : Sl W a .u8 [x]) (hK : IsKey W gk gt gb I J Z),
    Calls Tryz.prog 174 #[.pointer (some ⟨gk, 0, none⟩), .agg (ints .u8 H), .int .i64 7, .int .i64 (j : Int), .slice a 1 c] W fun e w' => ∃ v, e = .returned v ∧ Own w' W.heap.size 5 .u8 v [sT I J Z H j x] ∧ Below W.heap.size W w' := fun j x hx hj a c W hs hK => by
    rw [← hSe j x hx]
    exact tinyStep_c gk gt gb I J Z H hH hHb x j hx hj a c W hs hK
  have hFlip : ∀ (x : Nat) (hx : x < 256) (a : Option Addr) (c : Nat) (W : World) (hs : Sl W a .u8 [x]), IsKey W gk gt gb I J Z →
    Calls Tryz.prog 172 #[.pointer (some ⟨gk, 0, none⟩), .agg (ints .u8 H), .slice a 1 c] W fun e w' => ∃ v, e = .returned v ∧ Own w' W.heap.size 5 .u8 v [flT (gG I J Z H) x] ∧ Below W.heap.size W w' := fun x hx a c W hs hK => tinyFlip_c gk gt gb I J Z H hH hHb x hx a c W hs hK
  clear hSe
  obtain ⟨S, HS⟩ : ∃ S, Hid (sT I J Z H = S) := ⟨_, Lib.hid rfl⟩
  obtain ⟨G, HG⟩ : ∃ G, Hid (gG I J Z H = G) := ⟨_, Lib.hid rfl⟩
  have HEQ : Hid (decT (sT I J Z H) (gG I J Z H) b = decT S G b) := Lib.hid (by rw [HS.out, HG.out])
  rw [HS.out] at hStep hSl
  rw [HG.out] at hFlip
  clear HS HG
  have hKK : ∀ W, Below w.heap.size w W → IsKey W gk gt gb I J Z := fun W h => hK.below h
  clear hK
  obtain ⟨J, HJ, HI⟩ : ∃ J : Act → World → Prop, Hid (∀ (aJ : Act) (w' : World), J aJ w' → ∃ (U : Nat → Value) (j : Nat) (l : Nat) (r : Nat) (g1 : Nat) (g2 : Nat) (au : Option Addr) (av : Option Addr) (am : Option Addr) (cu : Nat) (cv : Nat) (cm : Nat), aJ = { tmps := #[.pointer (some ⟨gk, 0, none⟩), U 1, .slice am 1 cm, .bool true, U 4, U 5, U 6, U 7, U 8, U 9, .pointer (some ⟨g1, 0, none⟩), .int .i64 7, .int .i64 (j : Int), .int .i64 (-1), .pointer (some ⟨g2, 0, none⟩), U 15, U 16, U 17, U 18, U 19, U 20, U 21, U 22, U 23, U 24, U 25, U 26, U 27, U 28, U 29, U 30, U 31, U 32, U 33, U 34, U 35, U 36, U 37, U 38, U 39, U 40, U 41, U 42, U 43, U 44, U 45, U 46, U 47, U 48, U 49, U 50, U 51, U 52, U 53, U 54, U 55, U 56, U 57, U 58, U 59, U 60, U 61, U 62, U 63, U 64, U 65, U 66, U 67, U 68, U 69, U 70, U 71, U 72, U 73, U 74, U 75, U 76, U 77, U 78, U 79, U 80, U 81, U 82], defers := [] } ∧ j ≤ 23 ∧ l < 16 ∧ r < 16 ∧ backT S (j + 1) (l, r) = backT S 24 (splT (flT G b)) ∧ Blk w' g1 96 (ints .u8 H) ∧ Blk w' g2 254 #[.slice au 1 cu, .slice av 1 cv] ∧ w.heap.size ≤ g1 ∧ w.heap.size ≤ g2 ∧ Own w' w.heap.size 5 .u8 (.slice au 1 cu) [l] ∧ Own w' w.heap.size 5 .u8 (.slice av 1 cv) [r] ∧ Below w.heap.size w w') ∧
      Hid (∀ (T : Array Value) (w' : World), (∃ (j : Nat) (l : Nat) (r : Nat) (g1 : Nat) (g2 : Nat) (au : Option Addr) (av : Option Addr) (am : Option Addr) (cu : Nat) (cv : Nat) (cm : Nat), T = #[.pointer (some ⟨gk, 0, none⟩), T.getD 1 undef, .slice am 1 cm, .bool true, T.getD 4 undef, T.getD 5 undef, T.getD 6 undef, T.getD 7 undef, T.getD 8 undef, T.getD 9 undef, .pointer (some ⟨g1, 0, none⟩), .int .i64 7, .int .i64 (j : Int), .int .i64 (-1), .pointer (some ⟨g2, 0, none⟩), T.getD 15 undef, T.getD 16 undef, T.getD 17 undef, T.getD 18 undef, T.getD 19 undef, T.getD 20 undef, T.getD 21 undef, T.getD 22 undef, T.getD 23 undef, T.getD 24 undef, T.getD 25 undef, T.getD 26 undef, T.getD 27 undef, T.getD 28 undef, T.getD 29 undef, T.getD 30 undef, T.getD 31 undef, T.getD 32 undef, T.getD 33 undef, T.getD 34 undef, T.getD 35 undef, T.getD 36 undef, T.getD 37 undef, T.getD 38 undef, T.getD 39 undef, T.getD 40 undef, T.getD 41 undef, T.getD 42 undef, T.getD 43 undef, T.getD 44 undef, T.getD 45 undef, T.getD 46 undef, T.getD 47 undef, T.getD 48 undef, T.getD 49 undef, T.getD 50 undef, T.getD 51 undef, T.getD 52 undef, T.getD 53 undef, T.getD 54 undef, T.getD 55 undef, T.getD 56 undef, T.getD 57 undef, T.getD 58 undef, T.getD 59 undef, T.getD 60 undef, T.getD 61 undef, T.getD 62 undef, T.getD 63 undef, T.getD 64 undef, T.getD 65 undef, T.getD 66 undef, T.getD 67 undef, T.getD 68 undef, T.getD 69 undef, T.getD 70 undef, T.getD 71 undef, T.getD 72 undef, T.getD 73 undef, T.getD 74 undef, T.getD 75 undef, T.getD 76 undef, T.getD 77 undef, T.getD 78 undef, T.getD 79 undef, T.getD 80 undef, T.getD 81 undef, T.getD 82 undef] ∧ j ≤ 23 ∧ l < 16 ∧ r < 16 ∧ backT S (j + 1) (l, r) = backT S 24 (splT (flT G b)) ∧ Blk w' g1 96 (ints .u8 H) ∧ Blk w' g2 254 #[.slice au 1 cu, .slice av 1 cv] ∧ w.heap.size ≤ g1 ∧ w.heap.size ≤ g2 ∧ Own w' w.heap.size 5 .u8 (.slice au 1 cu) [l] ∧ Own w' w.heap.size 5 .u8 (.slice av 1 cv) [r] ∧ Below w.heap.size w w') → J { tmps := T, defers := [] } w') :=
    ⟨fun aJ w' => ∃ (U : Nat → Value) (j : Nat) (l : Nat) (r : Nat) (g1 : Nat) (g2 : Nat) (au : Option Addr) (av : Option Addr) (am : Option Addr) (cu : Nat) (cv : Nat) (cm : Nat), aJ = { tmps := #[.pointer (some ⟨gk, 0, none⟩), U 1, .slice am 1 cm, .bool true, U 4, U 5, U 6, U 7, U 8, U 9, .pointer (some ⟨g1, 0, none⟩), .int .i64 7, .int .i64 (j : Int), .int .i64 (-1), .pointer (some ⟨g2, 0, none⟩), U 15, U 16, U 17, U 18, U 19, U 20, U 21, U 22, U 23, U 24, U 25, U 26, U 27, U 28, U 29, U 30, U 31, U 32, U 33, U 34, U 35, U 36, U 37, U 38, U 39, U 40, U 41, U 42, U 43, U 44, U 45, U 46, U 47, U 48, U 49, U 50, U 51, U 52, U 53, U 54, U 55, U 56, U 57, U 58, U 59, U 60, U 61, U 62, U 63, U 64, U 65, U 66, U 67, U 68, U 69, U 70, U 71, U 72, U 73, U 74, U 75, U 76, U 77, U 78, U 79, U 80, U 81, U 82], defers := [] } ∧ j ≤ 23 ∧ l < 16 ∧ r < 16 ∧ backT S (j + 1) (l, r) = backT S 24 (splT (flT G b)) ∧ Blk w' g1 96 (ints .u8 H) ∧ Blk w' g2 254 #[.slice au 1 cu, .slice av 1 cv] ∧ w.heap.size ≤ g1 ∧ w.heap.size ≤ g2 ∧ Own w' w.heap.size 5 .u8 (.slice au 1 cu) [l] ∧ Own w' w.heap.size 5 .u8 (.slice av 1 cv) [r] ∧ Below w.heap.size w w', Lib.hid fun _ _ hJ => hJ, Lib.hid fun T w' ⟨j, l, r, g1, g2, au, av, am, cu, cv, cm, hJ, rJ⟩ => ⟨fun i => T.getD i undef, j, l, r, g1, g2, au, av, am, cu, cv, cm, congrArg (fun T => ({ tmps := T, defers := [] } : Act)) hJ, rJ⟩⟩
  obtain ⟨μ, Hμ⟩ : ∃ μ : Act → World → Nat, Hid (∀ a w', μ a w' = (intOf (a.tmps.getD 12 undef)).toNat) := ⟨_, Lib.hid fun _ _ => rfl⟩
  refine wp_scope_mid 0 J μ (by simp only [findLabel]; rfl) ?_ ?_
  · intro a' wr hj
    obtain ⟨U, j, l, r, g1, g2, au, av, am, cu, cv, cm, rfl, hj23, hl, hr, hR, B1, B2, hg1, hg2, ou, ov, hbel⟩ := HJ.out _ _ hj
    clear hj
    have HR := Lib.hid hR
    clear hR hh hs
    have hj31 : j < 2 ^ 31 := by omega
    have k0 : wr.cell? ⟨g2, 0, none⟩ = some (.slice au 1 cu) := by rw [B2.cell]; rfl
    have k1 : wr.cell? ⟨g2, 1, none⟩ = some (.slice av 1 cv) := by rw [B2.cell]; rfl
    have hgl := B2.lt
    obtain ⟨su, sv⟩ : Sl wr au .u8 [l] ∧ Sl wr av .u8 [r] := by
      obtain ⟨_, _, e1, s1, -⟩ := ou.sl
      obtain ⟨_, _, e2, s2, -⟩ := ov.sl
      cases e1
      cases e2
      exact ⟨s1, s2⟩
    have hKW : ∀ W, Below wr.heap.size wr W → IsKey W gk gt gb I _ Z := fun W h => hKK W (bCall hbel h hbel.size)
    have hxl : S j r < 256 := Nat.lt_trans (hSl j r) (by decide)
    have hBz := hbel.size
    go_wp2_with fail
    refine wp_region_itail 13 (by kernel_rfl) (by kernel_rfl) (by kernel_rfl) (by kernel_rfl) (fun D act_ W => ∃ u44 u45 u46 u47 u48 u49 u50 u51 u52 u53 u54 u55 u56 : Value, act_ = { tmps := #[.pointer (some ⟨gk, 0, none⟩), U 1, .slice am 1 cm, .bool true, U 4, U 5, U 6, U 7, U 8, U 9, .pointer (some ⟨g1, 0, none⟩), .int .i64 7, .int .i64 (j : Int), .int .i64 (-1), .pointer (some ⟨g2, 0, none⟩), U 15, U 16, U 17, U 18, U 19, U 20, U 21, U 22, U 23, U 24, U 25, U 26, U 27, U 28, U 29, U 30, U 31, U 32, U 33, U 34, U 35, U 36, U 37, U 38, U 39, U 40, U 41, U 42, U 43, u44, u45, u46, u47, u48, u49, u50, u51, u52, u53, u54, u55, u56, U 57, U 58, U 59, U 60, U 61, U 62, U 63, U 64, U 65, U 66, U 67, U 68, U 69, U 70, U 71, U 72, U 73, U 74, U 75, U 76, U 77, U 78, U 79, U 80, U 81, U 82], defers := [] } ∧ Below wr.heap.size wr W ∧ (D 0 → u44 = .pointer (some ⟨g2, 1, none⟩)) ∧ (D 1 → u45 = .slice av 1 cv) ∧ (D 2 → u46 = .pointer (some ⟨g2, 0, none⟩)) ∧ (D 3 → u47 = .slice au 1 cu) ∧ (D 4 → u48 = .pointer (some ⟨gk, 0, none⟩)) ∧ (D 5 → u49 = .agg (ints .u8 H)) ∧ (D 6 → u50 = .int .i64 7) ∧ (D 7 → u51 = .int .i64 (j : Int)) ∧ (D 8 → u52 = .pointer (some ⟨g2, 1, none⟩)) ∧ (D 9 → u53 = .slice av 1 cv) ∧ (D 10 → Own W w.heap.size 5 .u8 u54 [S j r]) ∧ (D 11 → Own W w.heap.size 5 .u8 u55 [l ^^^ S j r]) ∧ (D 12 → u56 = .pointer (some ⟨g2, 0, none⟩))) ?_ ?_ ?_
    · exact ⟨_, _, _, _, _, _, _, _, _, _, _, _, _, rfl, ⟨rfl, rfl, rfl, Nat.le_refl _, fun _ _ => rfl⟩, (fun h => h.elim), (fun h => h.elim), (fun h => h.elim), (fun h => h.elim), (fun h => h.elim), (fun h => h.elim), (fun h => h.elim), (fun h => h.elim), (fun h => h.elim), (fun h => h.elim), (fun h => h.elim), (fun h => h.elim), (fun h => h.elim)⟩
    · intro i o hilt hi D act_ W hI hnD hall
      obtain ⟨u44, u45, u46, u47, u48, u49, u50, u51, u52, u53, u54, u55, u56, rfl, hW, f0, f1, f2, f3, f4, f5, f6, f7, f8, f9, f10, f11, f12⟩ := hI
      rcases i with _ | _ | _ | _ | _ | _ | _ | _ | _ | _ | _ | _ | _ | i
      · simp only [Nat.zero_add, Nat.reduceAdd, List.getElem?_toArray, List.getElem?_cons_succ, List.getElem?_cons_zero, Option.some.injEq] at hi
        subst hi
        refine wpOp_value (v := .pointer (some ⟨g2, 1, none⟩)) rfl rfl (by kernel_rfl) ?_
        exact ⟨_, _, _, _, _, _, _, _, _, _, _, _, _, rfl, hW, (fun _ => rfl), (fun h => f1 (h.resolve_left (by decide))), (fun h => f2 (h.resolve_left (by decide))), (fun h => f3 (h.resolve_left (by decide))), (fun h => f4 (h.resolve_left (by decide))), (fun h => f5 (h.resolve_left (by decide))), (fun h => f6 (h.resolve_left (by decide))), (fun h => f7 (h.resolve_left (by decide))), (fun h => f8 (h.resolve_left (by decide))), (fun h => f9 (h.resolve_left (by decide))), (fun h => f10 (h.resolve_left (by decide))), (fun h => f11 (h.resolve_left (by decide))), (fun h => f12 (h.resolve_left (by decide)))⟩
      · simp only [Nat.zero_add, Nat.reduceAdd, List.getElem?_toArray, List.getElem?_cons_succ, List.getElem?_cons_zero, Option.some.injEq] at hi
        subst hi
        obtain rfl := f0 (pre_of hall 0 rfl)
        refine wpOp_value (v := .slice av 1 cv) rfl rfl (run_cellS rfl rfl Tryz.underlying23 ((hW.cell (p := ⟨g2, 1, none⟩) hgl).trans k1)) ?_
        exact ⟨_, _, _, _, _, _, _, _, _, _, _, _, _, rfl, hW, (fun h => f0 (h.resolve_left (by decide))), (fun _ => rfl), (fun h => f2 (h.resolve_left (by decide))), (fun h => f3 (h.resolve_left (by decide))), (fun h => f4 (h.resolve_left (by decide))), (fun h => f5 (h.resolve_left (by decide))), (fun h => f6 (h.resolve_left (by decide))), (fun h => f7 (h.resolve_left (by decide))), (fun h => f8 (h.resolve_left (by decide))), (fun h => f9 (h.resolve_left (by decide))), (fun h => f10 (h.resolve_left (by decide))), (fun h => f11 (h.resolve_left (by decide))), (fun h => f12 (h.resolve_left (by decide)))⟩
      · simp only [Nat.zero_add, Nat.reduceAdd, List.getElem?_toArray, List.getElem?_cons_succ, List.getElem?_cons_zero, Option.some.injEq] at hi
        subst hi
        refine wpOp_value (v := .pointer (some ⟨g2, 0, none⟩)) rfl rfl (by kernel_rfl) ?_
        exact ⟨_, _, _, _, _, _, _, _, _, _, _, _, _, rfl, hW, (fun h => f0 (h.resolve_left (by decide))), (fun h => f1 (h.resolve_left (by decide))), (fun _ => rfl), (fun h => f3 (h.resolve_left (by decide))), (fun h => f4 (h.resolve_left (by decide))), (fun h => f5 (h.resolve_left (by decide))), (fun h => f6 (h.resolve_left (by decide))), (fun h => f7 (h.resolve_left (by decide))), (fun h => f8 (h.resolve_left (by decide))), (fun h => f9 (h.resolve_left (by decide))), (fun h => f10 (h.resolve_left (by decide))), (fun h => f11 (h.resolve_left (by decide))), (fun h => f12 (h.resolve_left (by decide)))⟩
      · simp only [Nat.zero_add, Nat.reduceAdd, List.getElem?_toArray, List.getElem?_cons_succ, List.getElem?_cons_zero, Option.some.injEq] at hi
        subst hi
        obtain rfl := f2 (pre_of hall 2 rfl)
        refine wpOp_value (v := .slice au 1 cu) rfl rfl (run_cellS rfl rfl Tryz.underlying23 ((hW.cell (p := ⟨g2, 0, none⟩) hgl).trans k0)) ?_
        exact ⟨_, _, _, _, _, _, _, _, _, _, _, _, _, rfl, hW, (fun h => f0 (h.resolve_left (by decide))), (fun h => f1 (h.resolve_left (by decide))), (fun h => f2 (h.resolve_left (by decide))), (fun _ => rfl), (fun h => f4 (h.resolve_left (by decide))), (fun h => f5 (h.resolve_left (by decide))), (fun h => f6 (h.resolve_left (by decide))), (fun h => f7 (h.resolve_left (by decide))), (fun h => f8 (h.resolve_left (by decide))), (fun h => f9 (h.resolve_left (by decide))), (fun h => f10 (h.resolve_left (by decide))), (fun h => f11 (h.resolve_left (by decide))), (fun h => f12 (h.resolve_left (by decide)))⟩
      · simp only [Nat.zero_add, Nat.reduceAdd, List.getElem?_toArray, List.getElem?_cons_succ, List.getElem?_cons_zero, Option.some.injEq] at hi
        subst hi
        refine wpOp_value (v := .pointer (some ⟨gk, 0, none⟩)) rfl rfl (by kernel_rfl) ?_
        exact ⟨_, _, _, _, _, _, _, _, _, _, _, _, _, rfl, hW, (fun h => f0 (h.resolve_left (by decide))), (fun h => f1 (h.resolve_left (by decide))), (fun h => f2 (h.resolve_left (by decide))), (fun h => f3 (h.resolve_left (by decide))), (fun _ => rfl), (fun h => f5 (h.resolve_left (by decide))), (fun h => f6 (h.resolve_left (by decide))), (fun h => f7 (h.resolve_left (by decide))), (fun h => f8 (h.resolve_left (by decide))), (fun h => f9 (h.resolve_left (by decide))), (fun h => f10 (h.resolve_left (by decide))), (fun h => f11 (h.resolve_left (by decide))), (fun h => f12 (h.resolve_left (by decide)))⟩
      · simp only [Nat.zero_add, Nat.reduceAdd, List.getElem?_toArray, List.getElem?_cons_succ, List.getElem?_cons_zero, Option.some.injEq] at hi
        subst hi
        refine wpOp_load rfl rfl rfl rfl (B1.below' hW) Tryz.ar96 hH ?_
        exact ⟨_, _, _, _, _, _, _, _, _, _, _, _, _, rfl, hW, (fun h => f0 (h.resolve_left (by decide))), (fun h => f1 (h.resolve_left (by decide))), (fun h => f2 (h.resolve_left (by decide))), (fun h => f3 (h.resolve_left (by decide))), (fun h => f4 (h.resolve_left (by decide))), (fun _ => rfl), (fun h => f6 (h.resolve_left (by decide))), (fun h => f7 (h.resolve_left (by decide))), (fun h => f8 (h.resolve_left (by decide))), (fun h => f9 (h.resolve_left (by decide))), (fun h => f10 (h.resolve_left (by decide))), (fun h => f11 (h.resolve_left (by decide))), (fun h => f12 (h.resolve_left (by decide)))⟩
      · simp only [Nat.zero_add, Nat.reduceAdd, List.getElem?_toArray, List.getElem?_cons_succ, List.getElem?_cons_zero, Option.some.injEq] at hi
        subst hi
        refine wpOp_value (v := .int .i64 7) rfl rfl (by kernel_rfl) ?_
        exact ⟨_, _, _, _, _, _, _, _, _, _, _, _, _, rfl, hW, (fun h => f0 (h.resolve_left (by decide))), (fun h => f1 (h.resolve_left (by decide))), (fun h => f2 (h.resolve_left (by decide))), (fun h => f3 (h.resolve_left (by decide))), (fun h => f4 (h.resolve_left (by decide))), (fun h => f5 (h.resolve_left (by decide))), (fun _ => rfl), (fun h => f7 (h.resolve_left (by decide))), (fun h => f8 (h.resolve_left (by decide))), (fun h => f9 (h.resolve_left (by decide))), (fun h => f10 (h.resolve_left (by decide))), (fun h => f11 (h.resolve_left (by decide))), (fun h => f12 (h.resolve_left (by decide)))⟩
      · simp only [Nat.zero_add, Nat.reduceAdd, List.getElem?_toArray, List.getElem?_cons_succ, List.getElem?_cons_zero, Option.some.injEq] at hi
        subst hi
        refine wpOp_value (v := .int .i64 (j : Int)) rfl rfl (by kernel_rfl) ?_
        exact ⟨_, _, _, _, _, _, _, _, _, _, _, _, _, rfl, hW, (fun h => f0 (h.resolve_left (by decide))), (fun h => f1 (h.resolve_left (by decide))), (fun h => f2 (h.resolve_left (by decide))), (fun h => f3 (h.resolve_left (by decide))), (fun h => f4 (h.resolve_left (by decide))), (fun h => f5 (h.resolve_left (by decide))), (fun h => f6 (h.resolve_left (by decide))), (fun _ => rfl), (fun h => f8 (h.resolve_left (by decide))), (fun h => f9 (h.resolve_left (by decide))), (fun h => f10 (h.resolve_left (by decide))), (fun h => f11 (h.resolve_left (by decide))), (fun h => f12 (h.resolve_left (by decide)))⟩
      · simp only [Nat.zero_add, Nat.reduceAdd, List.getElem?_toArray, List.getElem?_cons_succ, List.getElem?_cons_zero, Option.some.injEq] at hi
        subst hi
        refine wpOp_value (v := .pointer (some ⟨g2, 1, none⟩)) rfl rfl (by kernel_rfl) ?_
        exact ⟨_, _, _, _, _, _, _, _, _, _, _, _, _, rfl, hW, (fun h => f0 (h.resolve_left (by decide))), (fun h => f1 (h.resolve_left (by decide))), (fun h => f2 (h.resolve_left (by decide))), (fun h => f3 (h.resolve_left (by decide))), (fun h => f4 (h.resolve_left (by decide))), (fun h => f5 (h.resolve_left (by decide))), (fun h => f6 (h.resolve_left (by decide))), (fun h => f7 (h.resolve_left (by decide))), (fun _ => rfl), (fun h => f9 (h.resolve_left (by decide))), (fun h => f10 (h.resolve_left (by decide))), (fun h => f11 (h.resolve_left (by decide))), (fun h => f12 (h.resolve_left (by decide)))⟩
      · simp only [Nat.zero_add, Nat.reduceAdd, List.getElem?_toArray, List.getElem?_cons_succ, List.getElem?_cons_zero, Option.some.injEq] at hi
        subst hi
        obtain rfl := f8 (pre_of hall 8 rfl)
        refine wpOp_value (v := .slice av 1 cv) rfl rfl (run_cellS rfl rfl Tryz.underlying23 ((hW.cell (p := ⟨g2, 1, none⟩) hgl).trans k1)) ?_
        exact ⟨_, _, _, _, _, _, _, _, _, _, _, _, _, rfl, hW, (fun h => f0 (h.resolve_left (by decide))), (fun h => f1 (h.resolve_left (by decide))), (fun h => f2 (h.resolve_left (by decide))), (fun h => f3 (h.resolve_left (by decide))), (fun h => f4 (h.resolve_left (by decide))), (fun h => f5 (h.resolve_left (by decide))), (fun h => f6 (h.resolve_left (by decide))), (fun h => f7 (h.resolve_left (by decide))), (fun h => f8 (h.resolve_left (by decide))), (fun _ => rfl), (fun h => f10 (h.resolve_left (by decide))), (fun h => f11 (h.resolve_left (by decide))), (fun h => f12 (h.resolve_left (by decide)))⟩
      · simp only [Nat.zero_add, Nat.reduceAdd, List.getElem?_toArray, List.getElem?_cons_succ, List.getElem?_cons_zero, Option.some.injEq] at hi
        subst hi
        obtain rfl := f4 (pre_of hall 4 rfl)
        obtain rfl := f5 (pre_of hall 5 rfl)
        obtain rfl := f6 (pre_of hall 6 rfl)
        obtain rfl := f7 (pre_of hall 7 rfl)
        obtain rfl := f9 (pre_of hall 9 rfl)
        refine wpOp_callX (R := fun v w' => Own w' w.heap.size 5 .u8 v [S j r] ∧ Below W.heap.size W w') 174 rfl rfl rfl Tryz.func174 (by kernel_rfl) (by kernel_rfl) ((hStep j r hr hj31 av cv W (sv.below hW) (hKW W hW)).mono fun e w' ⟨v, h1, h2, h3⟩ => ⟨v, h1, h2.mono (Nat.le_trans hBz hW.size), h3⟩) ?_; rintro v W' ⟨ho9, hW'⟩
        exact ⟨_, _, _, _, _, _, _, _, _, _, _, _, _, rfl, bCall hW hW' hW.size, (fun h => f0 (h.resolve_left (by decide))), (fun h => f1 (h.resolve_left (by decide))), (fun h => f2 (h.resolve_left (by decide))), (fun h => f3 (h.resolve_left (by decide))), (fun h => f4 (h.resolve_left (by decide))), (fun h => f5 (h.resolve_left (by decide))), (fun h => f6 (h.resolve_left (by decide))), (fun h => f7 (h.resolve_left (by decide))), (fun h => f8 (h.resolve_left (by decide))), (fun h => f9 (h.resolve_left (by decide))), (fun _ => ho9), (fun h => (Own.below) (f11 (h.resolve_left (by decide))) hW'), (fun h => f12 (h.resolve_left (by decide)))⟩
      · simp only [Nat.zero_add, Nat.reduceAdd, List.getElem?_toArray, List.getElem?_cons_succ, List.getElem?_cons_zero, Option.some.injEq] at hi
        subst hi
        obtain rfl := f3 (pre_of hall 3 rfl)
        obtain ⟨a9, c9, h9, s9, -, -⟩ := ((f10 (pre_of hall 10 rfl))).sl; subst h9; refine wpOp_callX (R := fun v w' => Own w' w.heap.size 5 .u8 v [l ^^^ S j r] ∧ Below W.heap.size W w') 42 rfl rfl rfl Tryz.func42 (by kernel_rfl) (by kernel_rfl) ((xor_c au a9 cu c9 1 [l] [S j r] (by decide) rfl (Nat.le_refl 1) (show 1 < 2 ^ 32 by decide) (fun y hy => by rw [List.mem_singleton.1 hy]; omega) (fun y hy => by rw [List.mem_singleton.1 hy]; exact hxl) W (su.below hW) s9).mono fun e w' ⟨h1, h2, h3⟩ => ⟨_, h1, Own.made (xs := [l ^^^ S j r]) h3 (Nat.le_trans hBz hW.size) (show 1 ≤ maxLen by decide), h2⟩) ?_; rintro v W' ⟨ho9, hW'⟩
        exact ⟨_, _, _, _, _, _, _, _, _, _, _, _, _, rfl, bCall hW hW' hW.size, (fun h => f0 (h.resolve_left (by decide))), (fun h => f1 (h.resolve_left (by decide))), (fun h => f2 (h.resolve_left (by decide))), (fun h => f3 (h.resolve_left (by decide))), (fun h => f4 (h.resolve_left (by decide))), (fun h => f5 (h.resolve_left (by decide))), (fun h => f6 (h.resolve_left (by decide))), (fun h => f7 (h.resolve_left (by decide))), (fun h => f8 (h.resolve_left (by decide))), (fun h => f9 (h.resolve_left (by decide))), (fun h => (Own.below) (f10 (h.resolve_left (by decide))) hW'), (fun _ => ho9), (fun h => f12 (h.resolve_left (by decide)))⟩
      · simp only [Nat.zero_add, Nat.reduceAdd, List.getElem?_toArray, List.getElem?_cons_succ, List.getElem?_cons_zero, Option.some.injEq] at hi
        subst hi
        refine wpOp_value (v := .pointer (some ⟨g2, 0, none⟩)) rfl rfl (by kernel_rfl) ?_
        exact ⟨_, _, _, _, _, _, _, _, _, _, _, _, _, rfl, hW, (fun h => f0 (h.resolve_left (by decide))), (fun h => f1 (h.resolve_left (by decide))), (fun h => f2 (h.resolve_left (by decide))), (fun h => f3 (h.resolve_left (by decide))), (fun h => f4 (h.resolve_left (by decide))), (fun h => f5 (h.resolve_left (by decide))), (fun h => f6 (h.resolve_left (by decide))), (fun h => f7 (h.resolve_left (by decide))), (fun h => f8 (h.resolve_left (by decide))), (fun h => f9 (h.resolve_left (by decide))), (fun h => f10 (h.resolve_left (by decide))), (fun h => f11 (h.resolve_left (by decide))), (fun _ => rfl)⟩
      · exfalso; omega
    · rintro D act_ W ⟨u44, u45, u46, u47, u48, u49, u50, u51, u52, u53, u54, u55, u56, rfl, hW, f0, f1, f2, f3, f4, f5, f6, f7, f8, f9, f10, f11, f12⟩ hall
      obtain rfl := f0 (hall 0 (by decide))
      obtain rfl := f1 (hall 1 (by decide))
      obtain rfl := f2 (hall 2 (by decide))
      obtain rfl := f3 (hall 3 (by decide))
      obtain rfl := f4 (hall 4 (by decide))
      obtain rfl := f5 (hall 5 (by decide))
      obtain rfl := f6 (hall 6 (by decide))
      obtain rfl := f7 (hall 7 (by decide))
      obtain rfl := f8 (hall 8 (by decide))
      obtain rfl := f9 (hall 9 (by decide))
      obtain rfl := f12 (hall 12 (by decide))
      have x54 := f10 (hall 10 (by decide))
      have x55 := f11 (hall 11 (by decide))
      clear f0 f1 f2 f3 f4 f5 f6 f7 f8 f9 f12 hall
      simp only [List.drop_succ_cons, List.drop_zero]
      obtain ⟨a5, c5, rfl, -, -, -⟩ := x55.sl
      have C2 := B2.below' hW
      have hne := Blk.ne_ B1 B2 (by decide)
      have kk0 : W.cell? ⟨g2, 0, none⟩ = some (.slice au 1 cu) := by rw [C2.cell]; rfl
      have kk1 : W.cell? ⟨g2, 1, none⟩ = some (.slice av 1 cv) := by rw [C2.cell]; rfl
      have z0 := C2.frozen 0
      have z1 := C2.frozen 1
      have A3 : Blk ((W.setCell ⟨g2, 0, none⟩ (.slice av 1 cv)).setCell ⟨g2, 1, none⟩ (.slice a5 1 c5)) g2 254 #[.slice av 1 cv, .slice a5 1 c5] := (C2.set_ 0 (.slice av 1 cv)).set_ 1 (.slice a5 1 c5)
      have hch : Ch g2 W ((W.setCell ⟨g2, 0, none⟩ (.slice av 1 cv)).setCell ⟨g2, 1, none⟩ (.slice a5 1 c5)) := (Ch.of_far (Far.set W g2 0 _)).trans (Ch.of_far (Far.set _ g2 1 _))
      have ou3 : Own _ w.heap.size 5 .u8 (.slice av 1 cv) [r] := (ov.below hW).ch hch C2 (by decide)
      have ov3 : Own _ w.heap.size 5 .u8 (.slice a5 1 c5) [l ^^^ S j r] := x55.ch hch C2 (by decide)
      have B13 := hch.blk (B1.below' hW) hne
      have hbelW := bCall hbel hW hbel.size
      have hbel3 := hch.below hbelW hg2 hbelW.size
      have hr2 : l ^^^ S j r < 16 := Nat.xor_lt_two_pow (n := 4) hl (hSl j r)
      have HR2 : Hid (backT S j (r, l ^^^ S j r) = backT S 24 (splT (flT G b))) := HR
      clear f10 f11 x54 x55 hW hch C2 B1 B2 ou ov k0 k1 hgl su sv hKW hxl hBz hbel hbelW hne HR hStep hSl
      generalize l ^^^ S j r = q at *
      have hRd := tinyRounds_c ((W.setCell ⟨g2, 0, none⟩ (.slice av 1 cv)).setCell ⟨g2, 1, none⟩ (.slice a5 1 c5))
      have m0 : ((W.setCell ⟨g2, 0, none⟩ (.slice av 1 cv)).setCell ⟨g2, 1, none⟩ (.slice a5 1 c5)).cell? ⟨g2, 0, none⟩ = some (.slice av 1 cv) := by rw [A3.cell]; rfl
      have m1 : ((W.setCell ⟨g2, 0, none⟩ (.slice av 1 cv)).setCell ⟨g2, 1, none⟩ (.slice a5 1 c5)).cell? ⟨g2, 1, none⟩ = some (.slice a5 1 c5) := by rw [A3.cell]; rfl
      by_cases hj : 0 < j
      · obtain ⟨i, rfl⟩ : ∃ i, j = i + 1 := ⟨j - 1, by omega⟩
        have hd1 : decide ((i : Int) ≥ 0) = true := by simp
        have hd2 : decide ((i : Int) < 24) = true := by simp; omega
        have hj1 : ((i + 1 : Nat) : Int) + -1 = (i : Int) := by omega
        have hj2 : (i : Int) + 1 + -1 = (i : Int) := by omega
        have hj3 : IntKind.i64.wrap ((i : Int) + 1 + -1) = (i : Int) := by rw [IntKind.wrap_i64]; omega
        go_wp2_with fail
        refine hRd.mono ?_
        clear hRd
        rintro e w4 ⟨rfl, rfl⟩
        go_wp2_with fail
        go_step3
        refine ⟨rfl, HI.out _ _ ⟨i, r, q, g1, g2, av, a5, am, cv, c5, cm, rfl, by omega, hr, hr2, HR2.out, B13, A3, hg1, hg2, ou3, ov3, hbel3⟩, ?_⟩
        rw [Hμ.out, Hμ.out]
        change (i : Int).toNat < ((i + 1 : Nat) : Int).toNat
        omega
      · obtain rfl : j = 0 := by omega
        clear hRd
        obtain ⟨s1, hn1⟩ : Sl ((W.setCell ⟨g2, 0, none⟩ (.slice av 1 cv)).setCell ⟨g2, 1, none⟩ (.slice a5 1 c5)) av .u8 [r] ∧ (av = none → cv = 0) := by
          obtain ⟨_, _, e1, s1, -, -, hn1⟩ := ou3.slz
          cases e1
          exact ⟨s1, hn1⟩
        have HR3 : Hid (q * 16 + r = jnT (swT (backT S 24 (splT (flT G b))))) := Lib.hid (by rw [← HR2.out]; rfl)
        have hBz := hbel3.size
        go_wp2_with (refine wpList_append_sl (zs := [r]) rfl rfl Tryz.underlying23 Tryz.inf8 rfl (by omega) rfl ov3 rfl rfl hn1 s1 (show 2 < 2 ^ 40 by decide) hBz ?_; intro v' w5 hown' hgr; rw [show ([q] ++ [r] : List Nat) = [q, r] from rfl] at hown'; have hbel' := bGrown hbel3 hgr hBz ov3 (Nat.le_refl _); have B14 := B13.grownTy hgr ov3 (by decide); clear ov3 ou3 B13 hgr hbel3 m0 m1 s1 A3 hn1; (try simp only [Act.put, List.setIfInBounds_toArray, List.set_cons_zero, List.set_cons_succ, World.size_alloc, setRow_size, Nat.add_assoc, Nat.reduceAdd]))
        obtain ⟨a6, c6, rfl, s6, -, -⟩ := hown'.sl
        refine (cutJoin_c q r hr2 hr a6 c6 _ s6).mono ?_
        rintro e w6 ⟨v6, rfl, ov6, hb6⟩
        have B15 := B14.below' hb6
        have hbel6 := bCall hbel' hb6 hbel'.size
        rw [HR3.out] at ov6
        clear B14 hb6 hown' s6
        obtain ⟨a7, c7, rfl, s7, -, -⟩ := ov6.sl
        have hxb : jnT (swT (backT S 24 (splT (flT G b)))) < 256 := by rw [← HR3.out]; omega
        have HE : Hid (decT S G b = jnT (swT (backT S 24 (splT (flT G b))))) := Lib.hid rfl
        have ov8 := ov6.mono (B' := w.heap.size) hbel'.size
        rw [← HE.out] at ov8
        clear ov6 s7
        go_wp2_with fail
        (try simp only [Exit.jump, Exit.inBlock, Exit.then])
        refine bodyPost_ret (v := .tuple #[.slice a7 1 c7, .int .i64 0]) ?_ rfl ⟨_, rfl, by rw [HEQ.out]; exact ov8, hbel6⟩
        simp [results, Tryz.results168]
  · intro pass
    go_wp2_with fail
    refine (hh w (Below.refl _ _)).mono ?_
    rintro e w1 ⟨rfl, hb1⟩
    have X1 := Blk.new w1 96 (ints .u8 (zeros 16))
    have B1 := X1.row (ints .u8 H)
    have hbel1 := bSetRow (hb1.alloc hb1.size (.cells (ints .u8 (zeros 16)) 96)) hb1.size (ints .u8 H)
    have hg1 := hb1.size
    clear hh hb1
    go_wp2_with (first
      | (refine wpList_alloc_ints rfl 96 rfl Tryz.z96 ?_; (try simp only [Act.put, List.setIfInBounds_toArray, List.set_cons_zero, List.set_cons_succ, World.size_alloc, setRow_size, Nat.add_assoc, Nat.reduceAdd]))
      | (refine wpList_store_ints rfl 96 _ _ rfl _ rfl rfl X1 (zeros_size _ _) Tryz.ar96 hH ?_
         generalize ((w1.alloc (.cells (ints .u8 (zeros 16)) 96)).setRow w1.heap.size (ints .u8 H)) = w2 at *
         generalize w1.heap.size = g1 at *
         (try simp only [Act.put, List.setIfInBounds_toArray, List.set_cons_zero, List.set_cons_succ, World.size_alloc, setRow_size, Nat.add_assoc, Nat.reduceAdd])))
    refine (tinyRounds_c w2).mono ?_
    rintro e w8 ⟨rfl, rfl⟩
    go_wp2_with (first | (refine wpList_load_ints rfl 96 _ rfl _ rfl B1 Tryz.ar96 hH ?_; (try simp only [Act.put, List.setIfInBounds_toArray, List.set_cons_zero, List.set_cons_succ, World.size_alloc, setRow_size, Nat.add_assoc, Nat.reduceAdd])))
    refine (hFlip b hb a c _ (hs.below hbel1) (hKK _ hbel1)).mono ?_
    rintro e w8 ⟨v8, rfl, ov8, hb8⟩
    have hbel8 := bCall hbel1 hb8 hbel1.size
    have B8 := B1.below' hb8
    obtain ⟨a8, c8, rfl, s8, -, -⟩ := ov8.sl
    clear X1 B1 hbel1 hb8 ov8 hFlip hStep
    have hy : flT G b < 256 := fl_lt G hb
    obtain ⟨y, Hy⟩ : ∃ y, Hid (flT G b = y) := ⟨_, Lib.hid rfl⟩
    rw [Hy.out] at s8 hy
    go_wp2_with fail
    refine (tinyHalves_c y hy a8 c8 _ s8).mono ?_
    rintro e w3 ⟨u, v, rfl, ou, ov, hb3⟩
    have hbel3 := bCall hbel8 hb3 hbel8.size
    have B3 := B8.below' hb3
    obtain ⟨au, cu, rfl, -, -, -⟩ := ou.sl
    obtain ⟨av, cv, rfl, -, -, -⟩ := ov.sl
    have ou1 := ou.mono (B' := w.heap.size) hbel8.size
    have ov1 := ov.mono (B' := w.heap.size) hbel8.size
    clear ou ov B8 hb3 hbel8
    have B4 := Blk.new w3 254 #[.slice au 1 cu, .slice av 1 cv]
    have hb4 := (Below.refl w3.heap.size w3).alloc (Nat.le_refl _) (.cells #[.slice au 1 cu, .slice av 1 cv] 254)
    have hbel4 := bCall hbel3 hb4 hbel3.size
    have ou2 := ou1.below hb4
    have ov2 := ov1.below hb4
    have B5 := B3.below' hb4
    have hg2 := hbel3.size
    clear ou1 ov1 B3 hbel3 hb4
    go_wp2_with fail
    refine wp_label ?_
    rename_i hKx
    refine hKx _ _ ?_
    exact pass _ _ (HI.out _ _ ⟨23, y / 16, y % 16, g1, _, au, av, a8, cu, cv, c8, rfl, by omega, by omega, by omega, by rw [Hy.out]; rfl, B5, B4, hg1, hg2, ou2, ov2, hbel4⟩)
end Go.Proofs.YtaiffkajkbiidaaGreatDoor
