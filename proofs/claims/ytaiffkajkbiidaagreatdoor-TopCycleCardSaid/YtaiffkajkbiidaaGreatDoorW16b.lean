/- AEZ's hash: what a string brings (Part). No condition but that bytes are below 256 and rows short. -/
import Derived.Test.YtaiffkajkbiidaaGreatDoorW16a
namespace Go.Proofs.YtaiffkajkbiidaaGreatDoor
set_option linter.unusedSimpArgs false
set_option linter.unusedVariables false
set_option linter.unusedSectionVars false
set_option linter.unusedVariables false
open Go.RowKit
/-- The sum of so many blocks. -/
def sumP (I J Z : List Nat) (j : Nat) (b : List Nat) : Nat → List Nat
  | 0 => zeros 16
  | k + 1 => P16 (sumP I J Z j b k) (eE I J Z j (k + 1) (blockN (b.drop (16 * k))))
def endP (I J Z : List Nat) (j : Nat) (s r : List Nat) : List Nat := P16 s (eE I J Z j 0 (blockN (padL (r ++ [128]))))
def partN (I J Z : List Nat) (j : Nat) (b : List Nat) : List Nat :=
  if b.length = 0 ∨ b.length % 16 ≠ 0 then endP I J Z j (sumP I J Z j b (b.length / 16)) (b.drop (16 * (b.length / 16))) else sumP I J Z j b (b.length / 16)
theorem sumP_len (I J Z : List Nat) (j : Nat) (b : List Nat) : ∀ k, (sumP I J Z j b k).length = 16
  | 0 => zeros_len _
  | _ + 1 => P16_len _ _
theorem sumP_lt (I J Z : List Nat) (j : Nat) (b : List Nat) (hb : ∀ x ∈ b, x < 256) : ∀ k, ∀ x ∈ sumP I J Z j b k, x < 256
  | 0 => zeros_b 16
  | k + 1 => P16_lt (sumP_lt I J Z j b hb k) (eE_lt I J Z j _ (blockN_lt fun x hx => hb x (List.mem_of_mem_drop hx)))
theorem padM_lt {r : List Nat} (hr : ∀ x ∈ r, x < 256) : ∀ x ∈ padL (r ++ [128]), x < 256 :=
  padL_lt fun x hx => (List.mem_append.1 hx).elim (hr x) fun h => by rw [List.mem_singleton.1 h]; decide
theorem endP_len (I J Z : List Nat) (j : Nat) (s r : List Nat) : (endP I J Z j s r).length = 16 := P16_len _ _
theorem partN_len (I J Z : List Nat) (j : Nat) (b : List Nat) : (partN I J Z j b).length = 16 := by
  unfold partN
  split
  · exact endP_len _ _ _ _ _ _
  · exact sumP_len _ _ _ _ _ _
theorem partN_lt (I J Z : List Nat) (j : Nat) (b : List Nat) (hb : ∀ x ∈ b, x < 256) : ∀ x ∈ partN I J Z j b, x < 256 := by
  unfold partN
  split
  · exact P16_lt (sumP_lt I J Z j b hb _) (eE_lt I J Z j _ (blockN_lt (padM_lt fun x hx => hb x (List.mem_of_mem_drop hx))))
  · exact sumP_lt I J Z j b hb _
/-- What stands behind the blocks, marked. -/
theorem markE_c (ab : Option Addr) (cb n : Nat) (r : List Nat) (hn : r.length = n) (hlen : n < 2 ^ 31) (W : World) (hs : Sl W ab .u8 r) :
    Calls Tryz.prog 156 #[.slice ab n cb, .int .u8 128, .int .i64 16] W fun e w' => e = .returned (.slice (some ⟨W.heap.size + 1, 0, none⟩) (padL (r ++ [128])).length (padL (r ++ [128])).length) ∧ Below W.heap.size W w' ∧ Blk w' (W.heap.size + 1) 5 (ints .u8 (padL (r ++ [128]))) := by
  subst hn
  exact marked_c ab cb 128 r hlen W hs
set_option maxRecDepth 100000 in
set_option maxHeartbeats 40000000 in
theorem part_c (gk gt gb : Nat) (I J Z : List Nat) (j : Nat) (hj : j < 2 ^ 31) (b : List Nat) (hb : ∀ x ∈ b, x < 256) (hbl : b.length < 2 ^ 31) (a0 : Option Addr) (c0 : Nat) (hc0 : b.length ≤ c0) (w : World) (hs : Sl w a0 .u8 b) (hK : IsKey w gk gt gb I J Z) :
    Calls Tryz.prog 185 #[.pointer (some ⟨gk, 0, none⟩), .int .i64 (j : Int), .slice a0 b.length c0] w fun e w' => e = .returned (.agg (ints .u8 (partN I J Z j b))) ∧ Below w.heap.size w w' := by
  have hKK : ∀ W, Below w.heap.size w W → IsKey W gk gt gb I J Z := fun W h => hK.below h
  have hEE : ∀ (i : Nat) (x : List Nat) (hi : i < 2 ^ 31) (hx : x.length = 16) (hxb : ∀ y ∈ x, y < 256) (W : World) (hW : Below w.heap.size w W), Calls Tryz.prog 180 #[.pointer (some ⟨gk, 0, none⟩), .int .i64 (j : Int), .int .i64 (i : Int), .agg (ints .u8 x)] W fun e w' => e = .returned (.agg (ints .u8 (eE I J Z j i x))) ∧ Below W.heap.size W w' := fun i x hi hx hxb W hW => ezE_c gk gt gb I J Z x j i hj hi hx hxb W (hKK W hW)
  obtain ⟨E, HE⟩ : ∃ E, Hid (∀ i x, eE I J Z j i x = E i x) := ⟨fun i x => eE I J Z j i x, Lib.hid fun _ _ => rfl⟩
  obtain ⟨S, HS⟩ : ∃ S : Nat → List Nat, Hid (∀ k, sumP I J Z j b k = S k) := ⟨fun k => sumP I J Z j b k, Lib.hid fun _ => rfl⟩
  have hSl : ∀ k, (S k).length = 16 := fun k => by rw [← HS.out]; exact sumP_len I J Z j b k
  have hSb : ∀ k, ∀ x ∈ S k, x < 256 := fun k => by rw [← HS.out]; exact sumP_lt I J Z j b hb k
  have hS0 : S 0 = zeros 16 := by rw [← HS.out]; rfl
  have HS1 : Hid (∀ k, S (k + 1) = P16 (S k) (E (k + 1) (blockN (b.drop (16 * k))))) := Lib.hid fun k => by rw [← HS.out, ← HS.out, ← HE.out]; rfl
  have hEl : ∀ i x, x.length = 16 → (E i x).length = 16 := fun i x h => by rw [← HE.out]; exact eE_len I J Z j i h
  have hEb : ∀ i x, (∀ y ∈ x, y < 256) → ∀ y ∈ E i x, y < 256 := fun i x h => by rw [← HE.out]; exact eE_lt I J Z j i h
  obtain ⟨N, HN⟩ : ∃ N, Hid (b.length = N) := ⟨_, Lib.hid rfl⟩
  have HP : Hid (partN I J Z j b = if N = 0 ∨ N % 16 ≠ 0 then P16 (S (N / 16)) (E 0 (blockN (padL (b.drop (16 * (N / 16)) ++ [128])))) else S (N / 16)) := Lib.hid (by
    rw [← HN.out, ← HS.out, ← HE.out]; rfl)
  simp only [HE.out] at hEE
  obtain ⟨PN, HPN⟩ : ∃ PN, Hid (partN I J Z j b = PN) := ⟨_, Lib.hid rfl⟩
  rw [HPN.out] at HP
  clear HE HS hKK hK
  rw [HN.out] at hc0 hbl ⊢
  have Z0 := (Blk.new w 96 (ints .u8 (zeros 16))).alloc (.cells (ints .u8 (zeros 16)) 96)
  have Z1 := Blk.new (w.alloc (.cells (ints .u8 (zeros 16)) 96)) 96 (ints .u8 (zeros 16))
  rw [World.size_alloc] at Z1
  have hbel0 := ((Below.refl w.heap.size w).alloc (Nat.le_refl _) (.cells (ints .u8 (zeros 16)) 96)).alloc (by simp) (.cells (ints .u8 (zeros 16)) 96)
  go_enter Tryz.func185, Tryz.ntmps185
  go_wp2_with (first | (refine wpList_alloc_ints rfl 96 rfl Tryz.z96 ?_; (try simp only [Act.put, List.setIfInBounds_toArray, List.set_cons_zero, List.set_cons_succ, World.size_alloc, setRow_size, Nat.add_assoc, Nat.reduceAdd])))
  by_cases hN : N = 0
  · skip
    obtain ⟨J, HJ, HI⟩ : ∃ J : Act → World → Prop, Hid (∀ (aJ : Act) (w' : World), J aJ w' → ∃ (U : Nat → Value) (n : Nat) (ab : Option Addr) (cb : Nat), aJ = { tmps := #[.pointer (some ⟨gk, 0, none⟩), .int .i64 (j : Int), .slice ab n cb, U 3, U 4, U 5, .pointer (some ⟨w.heap.size, 0, none⟩), .pointer (some ⟨w.heap.size + 1, 0, none⟩), U 8, U 9, U 10, U 11, U 12, U 13, U 14, U 15, U 16, U 17, U 18, U 19, U 20, U 21, U 22, U 23, U 24, U 25, U 26, U 27, U 28, U 29, U 30, U 31, U 32, U 33, U 34, U 35, U 36, U 37, U 38], defers := [] } ∧ Hid (n = 0) ∧ Blk w' w.heap.size 96 (ints .u8 (zeros 16)) ∧ Blk w' (w.heap.size + 1) 96 (ints .u8 (zeros 16)) ∧ Below w.heap.size w w') ∧
        Hid (∀ (T : Array Value) (w' : World), (∃ (n : Nat) (ab : Option Addr) (cb : Nat), T = #[.pointer (some ⟨gk, 0, none⟩), .int .i64 (j : Int), .slice ab n cb, T.getD 3 undef, T.getD 4 undef, T.getD 5 undef, .pointer (some ⟨w.heap.size, 0, none⟩), .pointer (some ⟨w.heap.size + 1, 0, none⟩), T.getD 8 undef, T.getD 9 undef, T.getD 10 undef, T.getD 11 undef, T.getD 12 undef, T.getD 13 undef, T.getD 14 undef, T.getD 15 undef, T.getD 16 undef, T.getD 17 undef, T.getD 18 undef, T.getD 19 undef, T.getD 20 undef, T.getD 21 undef, T.getD 22 undef, T.getD 23 undef, T.getD 24 undef, T.getD 25 undef, T.getD 26 undef, T.getD 27 undef, T.getD 28 undef, T.getD 29 undef, T.getD 30 undef, T.getD 31 undef, T.getD 32 undef, T.getD 33 undef, T.getD 34 undef, T.getD 35 undef, T.getD 36 undef, T.getD 37 undef, T.getD 38 undef] ∧ Hid (n = 0) ∧ Blk w' w.heap.size 96 (ints .u8 (zeros 16)) ∧ Blk w' (w.heap.size + 1) 96 (ints .u8 (zeros 16)) ∧ Below w.heap.size w w') → J { tmps := T, defers := [] } w') :=
      ⟨fun aJ w' => ∃ (U : Nat → Value) (n : Nat) (ab : Option Addr) (cb : Nat), aJ = { tmps := #[.pointer (some ⟨gk, 0, none⟩), .int .i64 (j : Int), .slice ab n cb, U 3, U 4, U 5, .pointer (some ⟨w.heap.size, 0, none⟩), .pointer (some ⟨w.heap.size + 1, 0, none⟩), U 8, U 9, U 10, U 11, U 12, U 13, U 14, U 15, U 16, U 17, U 18, U 19, U 20, U 21, U 22, U 23, U 24, U 25, U 26, U 27, U 28, U 29, U 30, U 31, U 32, U 33, U 34, U 35, U 36, U 37, U 38], defers := [] } ∧ Hid (n = 0) ∧ Blk w' w.heap.size 96 (ints .u8 (zeros 16)) ∧ Blk w' (w.heap.size + 1) 96 (ints .u8 (zeros 16)) ∧ Below w.heap.size w w', Lib.hid fun _ _ hJ => hJ, Lib.hid fun T w' ⟨n, ab, cb, hJ, rJ⟩ => ⟨fun i => T.getD i undef, n, ab, cb, congrArg (fun T => ({ tmps := T, defers := [] } : Act)) hJ, rJ⟩⟩
    subst hN
    obtain ⟨μ, Hμ⟩ : ∃ μ : Act → World → Nat, Hid (∀ a w', μ a w' = 0) := ⟨fun _ _ => 0, Lib.hid fun _ _ => rfl⟩
    obtain rfl : b = [] := List.eq_nil_of_length_eq_zero HN.out
    have hdb : ∀ x ∈ ([] : List Nat), x < 256 := hb
    have HF : Hid (PN = P16 (S 0) (E 0 (blockN (padL ([] ++ [128]))))) := Lib.hid (by rw [HP.out]; rfl)
    refine wp_scope_mid 0 J μ (by simp only [findLabel]; rfl) ?_ ?_
    · intro a' wr hj'
      obtain ⟨U, n, ab, cb, rfl, hn0, B0, B1, hbel⟩ := HJ.out _ _ hj'
      rw [← hS0] at B1
      clear hj' Z0 Z1 hbel0
      have hnl : ([] : List Nat).length = n := hn0.out.symm
      have hn31 : n < 2 ^ 31 := by rw [hn0.out]; decide
      have hsl : Sl w ab .u8 [] := Sl.nil w ab .u8
      have hMk : ∀ W, Below w.heap.size w W → Calls Tryz.prog 156 #[.slice ab n cb, .int .u8 128, .int .i64 16] W fun e w' => e = .returned (.slice (some ⟨W.heap.size + 1, 0, none⟩) (padL ([] ++ [128])).length (padL ([] ++ [128])).length) ∧ Below W.heap.size W w' ∧ Blk w' (W.heap.size + 1) 5 (ints .u8 (padL ([] ++ [128]))) := fun W hW => markE_c ab cb n [] hnl hn31 W (hsl.below hW)
      have hpb := padM_lt hdb
      generalize padL ([] ++ [128]) = pl at *
      have hBM : ∀ (g : Nat) (W : World), Sl W (some ⟨g, 0, none⟩) .u8 pl → Calls Tryz.prog 38 #[.slice (some ⟨g, 0, none⟩) pl.length pl.length] W fun e w' => e = .returned (.agg (ints .u8 (blockN pl))) ∧ Below W.heap.size W w' := fun g W h => block_c (some ⟨g, 0, none⟩) pl.length pl W h
      have hyl := blockN_len pl
      have hyb := blockN_lt hpb
      generalize blockN pl = y at *
      have hE0 : ∀ W, Below w.heap.size w W → Calls Tryz.prog 180 #[.pointer (some ⟨gk, 0, none⟩), .int .i64 (j : Int), .int .i64 0, .agg (ints .u8 y)] W fun e w' => e = .returned (.agg (ints .u8 (E 0 y))) ∧ Below W.heap.size W w' := fun W hW => hEE 0 y (by decide) hyl hyb W hW
      have hel := hEl 0 y hyl
      have heb := hEb 0 y hyb
      generalize E 0 y = e1 at *
      have hSk := hSl (0)
      have hSkb := hSb (0)
      generalize S (0) = sk at *
      have hql := P16_len sk e1
      have hBz := hbel.size
      obtain ⟨q, Hq⟩ : ∃ q, Hid (P16 sk e1 = q) := ⟨_, Lib.hid rfl⟩
      have hpc := fun W => hplus_c sk e1 hSk hel hSkb heb W
      rw [Hq.out] at hql HF
      simp only [Hq.out] at hpc
      go_wp2_with fail
      refine wp_region_itail 8 (by kernel_rfl) (by kernel_rfl) (by kernel_rfl) (by kernel_rfl) (fun D act_ W => ∃ u3 u4 u5 u8 u9 u10 u11 u12 u13 u14 u15 u16 u17 u18 u19 u20 u21 u22 u23 u24 u25 u26 u27 u28 u29 u30 u31 u32 u33 u34 u35 u36 u37 u38 : Value, act_ = { tmps := #[.pointer (some ⟨gk, 0, none⟩), .int .i64 (j : Int), .slice ab n cb, u3, u4, u5, .pointer (some ⟨w.heap.size, 0, none⟩), .pointer (some ⟨w.heap.size + 1, 0, none⟩), u8, u9, u10, u11, u12, u13, u14, u15, u16, u17, u18, u19, u20, u21, u22, u23, u24, u25, u26, u27, u28, u29, u30, u31, u32, u33, u34, u35, u36, u37, u38], defers := [] } ∧ Below wr.heap.size wr W ∧ (D 0 → u31 = .agg (ints .u8 sk)) ∧ (D 1 → u32 = .pointer (some ⟨gk, 0, none⟩)) ∧ (D 2 → u33 = .int .i64 (j : Int)) ∧ (D 3 → u34 = .slice ab n cb) ∧ (D 4 → AlS W wr.heap.size u35 5 pl.length .u8 (pl)) ∧ (D 5 → u36 = .agg (ints .u8 y)) ∧ (D 6 → u37 = .agg (ints .u8 e1)) ∧ (D 7 → u38 = .agg (ints .u8 q))) ?_ ?_ ?_
      · exact ⟨_, _, _, _, _, _, _, _, _, _, _, _, _, _, _, _, _, _, _, _, _, _, _, _, _, _, _, _, _, _, _, _, _, _, rfl, ⟨rfl, rfl, rfl, Nat.le_refl _, fun _ _ => rfl⟩, (fun h => h.elim), (fun h => h.elim), (fun h => h.elim), (fun h => h.elim), (fun h => h.elim), (fun h => h.elim), (fun h => h.elim), (fun h => h.elim)⟩
      · intro i o hilt hi D act_ W hI hnD hall
        obtain ⟨u3, u4, u5, u8, u9, u10, u11, u12, u13, u14, u15, u16, u17, u18, u19, u20, u21, u22, u23, u24, u25, u26, u27, u28, u29, u30, u31, u32, u33, u34, u35, u36, u37, u38, rfl, hW, f0, f1, f2, f3, f4, f5, f6, f7⟩ := hI
        rcases i with _ | _ | _ | _ | _ | _ | _ | _ | i
        · simp only [Nat.zero_add, Nat.reduceAdd, List.getElem?_toArray, List.getElem?_cons_succ, List.getElem?_cons_zero, Option.some.injEq] at hi
          subst hi
          refine wpOp_load rfl rfl rfl rfl (B1.below' hW) Tryz.ar96 hSk ?_
          exact ⟨_, _, _, _, _, _, _, _, _, _, _, _, _, _, _, _, _, _, _, _, _, _, _, _, _, _, _, _, _, _, _, _, _, _, rfl, hW, (fun _ => rfl), (fun h => f1 (h.resolve_left (by decide))), (fun h => f2 (h.resolve_left (by decide))), (fun h => f3 (h.resolve_left (by decide))), (fun h => f4 (h.resolve_left (by decide))), (fun h => f5 (h.resolve_left (by decide))), (fun h => f6 (h.resolve_left (by decide))), (fun h => f7 (h.resolve_left (by decide)))⟩
        · simp only [Nat.zero_add, Nat.reduceAdd, List.getElem?_toArray, List.getElem?_cons_succ, List.getElem?_cons_zero, Option.some.injEq] at hi
          subst hi
          refine wpOp_value (v := .pointer (some ⟨gk, 0, none⟩)) rfl rfl (by kernel_rfl) ?_
          exact ⟨_, _, _, _, _, _, _, _, _, _, _, _, _, _, _, _, _, _, _, _, _, _, _, _, _, _, _, _, _, _, _, _, _, _, rfl, hW, (fun h => f0 (h.resolve_left (by decide))), (fun _ => rfl), (fun h => f2 (h.resolve_left (by decide))), (fun h => f3 (h.resolve_left (by decide))), (fun h => f4 (h.resolve_left (by decide))), (fun h => f5 (h.resolve_left (by decide))), (fun h => f6 (h.resolve_left (by decide))), (fun h => f7 (h.resolve_left (by decide)))⟩
        · simp only [Nat.zero_add, Nat.reduceAdd, List.getElem?_toArray, List.getElem?_cons_succ, List.getElem?_cons_zero, Option.some.injEq] at hi
          subst hi
          refine wpOp_value (v := .int .i64 (j : Int)) rfl rfl (by kernel_rfl) ?_
          exact ⟨_, _, _, _, _, _, _, _, _, _, _, _, _, _, _, _, _, _, _, _, _, _, _, _, _, _, _, _, _, _, _, _, _, _, rfl, hW, (fun h => f0 (h.resolve_left (by decide))), (fun h => f1 (h.resolve_left (by decide))), (fun _ => rfl), (fun h => f3 (h.resolve_left (by decide))), (fun h => f4 (h.resolve_left (by decide))), (fun h => f5 (h.resolve_left (by decide))), (fun h => f6 (h.resolve_left (by decide))), (fun h => f7 (h.resolve_left (by decide)))⟩
        · simp only [Nat.zero_add, Nat.reduceAdd, List.getElem?_toArray, List.getElem?_cons_succ, List.getElem?_cons_zero, Option.some.injEq] at hi
          subst hi
          refine wpOp_value (v := .slice ab n cb) rfl rfl rfl ?_
          exact ⟨_, _, _, _, _, _, _, _, _, _, _, _, _, _, _, _, _, _, _, _, _, _, _, _, _, _, _, _, _, _, _, _, _, _, rfl, hW, (fun h => f0 (h.resolve_left (by decide))), (fun h => f1 (h.resolve_left (by decide))), (fun h => f2 (h.resolve_left (by decide))), (fun _ => rfl), (fun h => f4 (h.resolve_left (by decide))), (fun h => f5 (h.resolve_left (by decide))), (fun h => f6 (h.resolve_left (by decide))), (fun h => f7 (h.resolve_left (by decide)))⟩
        · simp only [Nat.zero_add, Nat.reduceAdd, List.getElem?_toArray, List.getElem?_cons_succ, List.getElem?_cons_zero, Option.some.injEq] at hi
          subst hi
          obtain rfl := f3 (pre_of hall 3 rfl)
          refine wpOp_callB 156 rfl rfl rfl Tryz.func156 (by kernel_rfl) (by kernel_rfl) (hMk W (Below.trans hbel (hW.mono hBz))) ?_
          intro W' hW' hT
          exact ⟨_, _, _, _, _, _, _, _, _, _, _, _, _, _, _, _, _, _, _, _, _, _, _, _, _, _, _, _, _, _, _, _, _, _, rfl, bCall hW hW' hW.size, (fun h => f0 (h.resolve_left (by decide))), (fun h => f1 (h.resolve_left (by decide))), (fun h => f2 (h.resolve_left (by decide))), (fun h => f3 (h.resolve_left (by decide))), (fun _ => ⟨_, rfl, by have := hW.size; omega, rfl, hT⟩), (fun h => f5 (h.resolve_left (by decide))), (fun h => f6 (h.resolve_left (by decide))), (fun h => f7 (h.resolve_left (by decide)))⟩
        · simp only [Nat.zero_add, Nat.reduceAdd, List.getElem?_toArray, List.getElem?_cons_succ, List.getElem?_cons_zero, Option.some.injEq] at hi
          subst hi
          obtain ⟨g_, rfl, hg_, hl_, hB_⟩ := f4 (pre_of hall 4 rfl)
          refine wpOp_call 38 rfl rfl rfl Tryz.func38 (by kernel_rfl) (by kernel_rfl) (hBM g_ W (Sl.blk hB_)) ?_
          intro W' hW'
          have q4 : AlS W wr.heap.size (.slice (some ⟨g_, 0, none⟩) _ _) _ _ _ _ := ⟨g_, rfl, hg_, hl_, hB_⟩
          exact ⟨_, _, _, _, _, _, _, _, _, _, _, _, _, _, _, _, _, _, _, _, _, _, _, _, _, _, _, _, _, _, _, _, _, _, rfl, bCall hW hW' hW.size, (fun h => f0 (h.resolve_left (by decide))), (fun h => f1 (h.resolve_left (by decide))), (fun h => f2 (h.resolve_left (by decide))), (fun h => f3 (h.resolve_left (by decide))), (fun _ => q4.below hW'), (fun _ => rfl), (fun h => f6 (h.resolve_left (by decide))), (fun h => f7 (h.resolve_left (by decide)))⟩
        · simp only [Nat.zero_add, Nat.reduceAdd, List.getElem?_toArray, List.getElem?_cons_succ, List.getElem?_cons_zero, Option.some.injEq] at hi
          subst hi
          obtain rfl := f1 (pre_of hall 1 rfl)
          obtain rfl := f2 (pre_of hall 2 rfl)
          obtain rfl := f5 (pre_of hall 5 rfl)
          refine wpOp_call 180 rfl rfl rfl Tryz.func180 (by kernel_rfl) (by kernel_rfl) (hE0 W (Below.trans hbel (hW.mono hBz))) ?_
          intro W' hW'
          exact ⟨_, _, _, _, _, _, _, _, _, _, _, _, _, _, _, _, _, _, _, _, _, _, _, _, _, _, _, _, _, _, _, _, _, _, rfl, bCall hW hW' hW.size, (fun h => f0 (h.resolve_left (by decide))), (fun h => f1 (h.resolve_left (by decide))), (fun h => f2 (h.resolve_left (by decide))), (fun h => f3 (h.resolve_left (by decide))), (fun h => (f4 (h.resolve_left (by decide))).below hW'), (fun h => f5 (h.resolve_left (by decide))), (fun _ => rfl), (fun h => f7 (h.resolve_left (by decide)))⟩
        · simp only [Nat.zero_add, Nat.reduceAdd, List.getElem?_toArray, List.getElem?_cons_succ, List.getElem?_cons_zero, Option.some.injEq] at hi
          subst hi
          obtain rfl := f0 (pre_of hall 0 rfl)
          obtain rfl := f6 (pre_of hall 6 rfl)
          refine wpOp_call 184 rfl rfl rfl Tryz.func184 (by kernel_rfl) (by kernel_rfl) (hpc W) ?_
          intro W' hW'
          exact ⟨_, _, _, _, _, _, _, _, _, _, _, _, _, _, _, _, _, _, _, _, _, _, _, _, _, _, _, _, _, _, _, _, _, _, rfl, bCall hW hW' hW.size, (fun h => f0 (h.resolve_left (by decide))), (fun h => f1 (h.resolve_left (by decide))), (fun h => f2 (h.resolve_left (by decide))), (fun h => f3 (h.resolve_left (by decide))), (fun h => (f4 (h.resolve_left (by decide))).below hW'), (fun h => f5 (h.resolve_left (by decide))), (fun h => f6 (h.resolve_left (by decide))), (fun _ => rfl)⟩
        · exfalso; omega
      · rintro D act_ W ⟨u3, u4, u5, u8, u9, u10, u11, u12, u13, u14, u15, u16, u17, u18, u19, u20, u21, u22, u23, u24, u25, u26, u27, u28, u29, u30, u31, u32, u33, u34, u35, u36, u37, u38, rfl, hW, f0, f1, f2, f3, f4, f5, f6, f7⟩ hall
        obtain rfl := f0 (hall 0 (by decide))
        obtain rfl := f1 (hall 1 (by decide))
        obtain rfl := f2 (hall 2 (by decide))
        obtain rfl := f3 (hall 3 (by decide))
        obtain rfl := f5 (hall 5 (by decide))
        obtain rfl := f6 (hall 6 (by decide))
        obtain rfl := f7 (hall 7 (by decide))
        obtain ⟨g35, rfl, hg35, hl35, hB35⟩ := f4 (hall 4 (by decide))
        clear f0 f1 f2 f3 f4 f5 f6 f7 hall
        simp only [List.drop_succ_cons, List.drop_zero]
        have C0 := B0.below' hW
        have hbel1 := bCall hbel hW hbel.size
        clear B0 B1 hMk hBM hE0
        go_wp2_with (refine wpList_store_ints rfl 96 _ _ rfl _ rfl rfl C0 (zeros_size _ _) Tryz.ar96 hql ?_; (try simp only [Act.put, List.setIfInBounds_toArray, List.set_cons_zero, List.set_cons_succ, World.size_alloc, setRow_size, Nat.add_assoc, Nat.reduceAdd]))
        (try simp only [Exit.jump, Exit.inBlock, Exit.then])
        exact ret_ints rfl rfl (C0.row _) Tryz.ar96 hql ⟨by rw [HPN.out, HF.out], bSetRow hbel1 (Nat.le_refl _) _⟩
    · intro pass
      go_wp2_with (first | (refine wpList_alloc_ints rfl 96 rfl Tryz.z96 ?_; (try simp only [Act.put, List.setIfInBounds_toArray, List.set_cons_zero, List.set_cons_succ, World.size_alloc, setRow_size, Nat.add_assoc, Nat.reduceAdd])))
      go_step3
      exact ⟨rfl, HI.out _ _ ⟨0, a0, c0, rfl, Lib.hid rfl, Z0, Z1, hbel0⟩⟩
  · skip
    obtain ⟨J, HJ, HI⟩ : ∃ J : Act → World → Prop, Hid (∀ (aJ : Act) (w' : World), J aJ w' → ∃ (U : Nat → Value) (k : Nat) (ab : Option Addr) (cb : Nat), aJ = { tmps := #[.pointer (some ⟨gk, 0, none⟩), .int .i64 (j : Int), .slice ab (N - 16 * k) cb, U 3, U 4, U 5, .pointer (some ⟨w.heap.size, 0, none⟩), .pointer (some ⟨w.heap.size + 1, 0, none⟩), .int .i64 (k : Int), U 9, U 10, U 11, U 12, U 13, U 14, U 15, U 16, U 17, U 18, U 19, U 20, U 21, U 22, U 23, U 24, U 25, U 26, U 27, U 28, U 29, U 30, U 31, U 32, U 33, U 34, U 35, U 36, U 37, U 38], defers := [] } ∧ 16 * k ≤ N ∧ N - 16 * k ≤ cb ∧ Sl w ab .u8 (b.drop (16 * k)) ∧ Blk w' w.heap.size 96 (ints .u8 (zeros 16)) ∧ Blk w' (w.heap.size + 1) 96 (ints .u8 (S k)) ∧ Below w.heap.size w w') ∧
        Hid (∀ (T : Array Value) (w' : World), (∃ (k : Nat) (ab : Option Addr) (cb : Nat), T = #[.pointer (some ⟨gk, 0, none⟩), .int .i64 (j : Int), .slice ab (N - 16 * k) cb, T.getD 3 undef, T.getD 4 undef, T.getD 5 undef, .pointer (some ⟨w.heap.size, 0, none⟩), .pointer (some ⟨w.heap.size + 1, 0, none⟩), .int .i64 (k : Int), T.getD 9 undef, T.getD 10 undef, T.getD 11 undef, T.getD 12 undef, T.getD 13 undef, T.getD 14 undef, T.getD 15 undef, T.getD 16 undef, T.getD 17 undef, T.getD 18 undef, T.getD 19 undef, T.getD 20 undef, T.getD 21 undef, T.getD 22 undef, T.getD 23 undef, T.getD 24 undef, T.getD 25 undef, T.getD 26 undef, T.getD 27 undef, T.getD 28 undef, T.getD 29 undef, T.getD 30 undef, T.getD 31 undef, T.getD 32 undef, T.getD 33 undef, T.getD 34 undef, T.getD 35 undef, T.getD 36 undef, T.getD 37 undef, T.getD 38 undef] ∧ 16 * k ≤ N ∧ N - 16 * k ≤ cb ∧ Sl w ab .u8 (b.drop (16 * k)) ∧ Blk w' w.heap.size 96 (ints .u8 (zeros 16)) ∧ Blk w' (w.heap.size + 1) 96 (ints .u8 (S k)) ∧ Below w.heap.size w w') → J { tmps := T, defers := [] } w') :=
      ⟨fun aJ w' => ∃ (U : Nat → Value) (k : Nat) (ab : Option Addr) (cb : Nat), aJ = { tmps := #[.pointer (some ⟨gk, 0, none⟩), .int .i64 (j : Int), .slice ab (N - 16 * k) cb, U 3, U 4, U 5, .pointer (some ⟨w.heap.size, 0, none⟩), .pointer (some ⟨w.heap.size + 1, 0, none⟩), .int .i64 (k : Int), U 9, U 10, U 11, U 12, U 13, U 14, U 15, U 16, U 17, U 18, U 19, U 20, U 21, U 22, U 23, U 24, U 25, U 26, U 27, U 28, U 29, U 30, U 31, U 32, U 33, U 34, U 35, U 36, U 37, U 38], defers := [] } ∧ 16 * k ≤ N ∧ N - 16 * k ≤ cb ∧ Sl w ab .u8 (b.drop (16 * k)) ∧ Blk w' w.heap.size 96 (ints .u8 (zeros 16)) ∧ Blk w' (w.heap.size + 1) 96 (ints .u8 (S k)) ∧ Below w.heap.size w w', Lib.hid fun _ _ hJ => hJ, Lib.hid fun T w' ⟨k, ab, cb, hJ, rJ⟩ => ⟨fun i => T.getD i undef, k, ab, cb, congrArg (fun T => ({ tmps := T, defers := [] } : Act)) hJ, rJ⟩⟩
    obtain ⟨μ, Hμ⟩ : ∃ μ : Act → World → Nat, Hid (∀ a w', μ a w' = N + 1 - (intOf (a.tmps.getD 8 undef)).toNat) := ⟨_, Lib.hid fun _ _ => rfl⟩
    refine wp_scope_mid 1 J μ (by simp only [findLabel]; rfl) ?_ ?_
    · intro a' wr hj'
      obtain ⟨U, k, ab, cb, rfl, hk, hcb, hsl, B0, B1, hbel⟩ := HJ.out _ _ hj'
      clear hj' Z0 Z1 hbel0 hs
      have hdl : (b.drop (16 * k)).length = N - 16 * k := by rw [List.length_drop, HN.out]
      have hdb : ∀ x ∈ b.drop (16 * k), x < 256 := fun x hx => hb x (List.mem_of_mem_drop hx)
      obtain ⟨r, Hr⟩ : ∃ r, Hid (b.drop (16 * k) = r) := ⟨_, Lib.hid rfl⟩
      have HS2 := Lib.hid (HS1.out k)
      rw [Hr.out] at hsl hdl hdb HS2
      have hBl := blockN_len r
      have hBb := blockN_lt hdb
      obtain ⟨y, Hy⟩ : ∃ y, Hid (blockN r = y) := ⟨_, Lib.hid rfl⟩
      rw [Hy.out] at hBl hBb
      by_cases h16 : 16 ≤ N - 16 * k
      · have hd1 : decide (((N - 16 * k : Nat) : Int) ≥ 16) = true := by simp; omega
        have hk31 : k + 1 < 2 ^ 31 := by omega
        have hel := hEl (k + 1) y hBl
        have heb := hEb (k + 1) y hBb
        have hBk : ∀ W, Below w.heap.size w W → Calls Tryz.prog 38 #[.slice ab (N - 16 * k) cb] W fun e w' => e = .returned (.agg (ints .u8 y)) ∧ Below W.heap.size W w' := fun W hW => by
          have h := block_c ab cb r W (hsl.below hW)
          rw [hdl, Hy.out] at h
          exact h
        have hE1 : ∀ W, Below w.heap.size w W → Calls Tryz.prog 180 #[.pointer (some ⟨gk, 0, none⟩), .int .i64 (j : Int), .int .i64 ((k : Int) + 1), .agg (ints .u8 y)] W fun e w' => e = .returned (.agg (ints .u8 (E (k + 1) y))) ∧ Below W.heap.size W w' := fun W hW => hEE (k + 1) y hk31 hBl hBb W hW
        rw [Hy.out] at HS2
        have hSk := hSl k
        have hSkb := hSb k
        generalize E (k + 1) y = e1 at *
        generalize S k = sk at *
        have hql := P16_len sk e1
        obtain ⟨q, Hq⟩ : ∃ q, Hid (P16 sk e1 = q) := ⟨_, Lib.hid rfl⟩
        have hpc := fun W => hplus_c sk e1 hSk hel hSkb heb W
        rw [Hq.out] at hql HS2
        simp only [Hq.out] at hpc
        have hBz := hbel.size
        have hwk : IntKind.i64.wrap ((k : Int) + 1) = (k : Int) + 1 := by rw [IntKind.wrap_i64]; omega
        go_wp2_with fail
        refine wp_region_itail 8 (by kernel_rfl) (by kernel_rfl) (by kernel_rfl) (by kernel_rfl) (fun D act_ W => ∃ u3 u4 u5 u9 u10 u11 u12 u13 u14 u15 u16 u17 u18 u19 u20 u21 u22 u23 u24 u25 u26 u27 u28 u29 u30 u31 u32 u33 u34 u35 u36 u37 u38 : Value, act_ = { tmps := #[.pointer (some ⟨gk, 0, none⟩), .int .i64 (j : Int), .slice ab (N - 16 * k) cb, u3, u4, u5, .pointer (some ⟨w.heap.size, 0, none⟩), .pointer (some ⟨w.heap.size + 1, 0, none⟩), .int .i64 ((k : Int) + 1), u9, u10, u11, u12, u13, u14, u15, u16, u17, u18, u19, u20, u21, u22, u23, u24, u25, u26, u27, u28, u29, u30, u31, u32, u33, u34, u35, u36, u37, u38], defers := [] } ∧ Below wr.heap.size wr W ∧ (D 0 → u17 = .agg (ints .u8 sk)) ∧ (D 1 → u18 = .pointer (some ⟨gk, 0, none⟩)) ∧ (D 2 → u19 = .int .i64 (j : Int)) ∧ (D 3 → u20 = .int .i64 ((k : Int) + 1)) ∧ (D 4 → u21 = .slice ab (N - 16 * k) cb) ∧ (D 5 → u22 = .agg (ints .u8 y)) ∧ (D 6 → u23 = .agg (ints .u8 e1)) ∧ (D 7 → u24 = .agg (ints .u8 q))) ?_ ?_ ?_
        · exact ⟨_, _, _, _, _, _, _, _, _, _, _, _, _, _, _, _, _, _, _, _, _, _, _, _, _, _, _, _, _, _, _, _, _, rfl, ⟨rfl, rfl, rfl, Nat.le_refl _, fun _ _ => rfl⟩, (fun h => h.elim), (fun h => h.elim), (fun h => h.elim), (fun h => h.elim), (fun h => h.elim), (fun h => h.elim), (fun h => h.elim), (fun h => h.elim)⟩
        · intro i o hilt hi D act_ W hI hnD hall
          obtain ⟨u3, u4, u5, u9, u10, u11, u12, u13, u14, u15, u16, u17, u18, u19, u20, u21, u22, u23, u24, u25, u26, u27, u28, u29, u30, u31, u32, u33, u34, u35, u36, u37, u38, rfl, hW, f0, f1, f2, f3, f4, f5, f6, f7⟩ := hI
          rcases i with _ | _ | _ | _ | _ | _ | _ | _ | i
          · simp only [Nat.zero_add, Nat.reduceAdd, List.getElem?_toArray, List.getElem?_cons_succ, List.getElem?_cons_zero, Option.some.injEq] at hi
            subst hi
            refine wpOp_load rfl rfl rfl rfl (B1.below' hW) Tryz.ar96 hSk ?_
            exact ⟨_, _, _, _, _, _, _, _, _, _, _, _, _, _, _, _, _, _, _, _, _, _, _, _, _, _, _, _, _, _, _, _, _, rfl, hW, (fun _ => rfl), (fun h => f1 (h.resolve_left (by decide))), (fun h => f2 (h.resolve_left (by decide))), (fun h => f3 (h.resolve_left (by decide))), (fun h => f4 (h.resolve_left (by decide))), (fun h => f5 (h.resolve_left (by decide))), (fun h => f6 (h.resolve_left (by decide))), (fun h => f7 (h.resolve_left (by decide)))⟩
          · simp only [Nat.zero_add, Nat.reduceAdd, List.getElem?_toArray, List.getElem?_cons_succ, List.getElem?_cons_zero, Option.some.injEq] at hi
            subst hi
            refine wpOp_value (v := .pointer (some ⟨gk, 0, none⟩)) rfl rfl (by kernel_rfl) ?_
            exact ⟨_, _, _, _, _, _, _, _, _, _, _, _, _, _, _, _, _, _, _, _, _, _, _, _, _, _, _, _, _, _, _, _, _, rfl, hW, (fun h => f0 (h.resolve_left (by decide))), (fun _ => rfl), (fun h => f2 (h.resolve_left (by decide))), (fun h => f3 (h.resolve_left (by decide))), (fun h => f4 (h.resolve_left (by decide))), (fun h => f5 (h.resolve_left (by decide))), (fun h => f6 (h.resolve_left (by decide))), (fun h => f7 (h.resolve_left (by decide)))⟩
          · simp only [Nat.zero_add, Nat.reduceAdd, List.getElem?_toArray, List.getElem?_cons_succ, List.getElem?_cons_zero, Option.some.injEq] at hi
            subst hi
            refine wpOp_value (v := .int .i64 (j : Int)) rfl rfl (by kernel_rfl) ?_
            exact ⟨_, _, _, _, _, _, _, _, _, _, _, _, _, _, _, _, _, _, _, _, _, _, _, _, _, _, _, _, _, _, _, _, _, rfl, hW, (fun h => f0 (h.resolve_left (by decide))), (fun h => f1 (h.resolve_left (by decide))), (fun _ => rfl), (fun h => f3 (h.resolve_left (by decide))), (fun h => f4 (h.resolve_left (by decide))), (fun h => f5 (h.resolve_left (by decide))), (fun h => f6 (h.resolve_left (by decide))), (fun h => f7 (h.resolve_left (by decide)))⟩
          · simp only [Nat.zero_add, Nat.reduceAdd, List.getElem?_toArray, List.getElem?_cons_succ, List.getElem?_cons_zero, Option.some.injEq] at hi
            subst hi
            refine wpOp_value (v := .int .i64 ((k : Int) + 1)) rfl rfl (by kernel_rfl) ?_
            exact ⟨_, _, _, _, _, _, _, _, _, _, _, _, _, _, _, _, _, _, _, _, _, _, _, _, _, _, _, _, _, _, _, _, _, rfl, hW, (fun h => f0 (h.resolve_left (by decide))), (fun h => f1 (h.resolve_left (by decide))), (fun h => f2 (h.resolve_left (by decide))), (fun _ => rfl), (fun h => f4 (h.resolve_left (by decide))), (fun h => f5 (h.resolve_left (by decide))), (fun h => f6 (h.resolve_left (by decide))), (fun h => f7 (h.resolve_left (by decide)))⟩
          · simp only [Nat.zero_add, Nat.reduceAdd, List.getElem?_toArray, List.getElem?_cons_succ, List.getElem?_cons_zero, Option.some.injEq] at hi
            subst hi
            refine wpOp_value (v := .slice ab (N - 16 * k) cb) rfl rfl rfl ?_
            exact ⟨_, _, _, _, _, _, _, _, _, _, _, _, _, _, _, _, _, _, _, _, _, _, _, _, _, _, _, _, _, _, _, _, _, rfl, hW, (fun h => f0 (h.resolve_left (by decide))), (fun h => f1 (h.resolve_left (by decide))), (fun h => f2 (h.resolve_left (by decide))), (fun h => f3 (h.resolve_left (by decide))), (fun _ => rfl), (fun h => f5 (h.resolve_left (by decide))), (fun h => f6 (h.resolve_left (by decide))), (fun h => f7 (h.resolve_left (by decide)))⟩
          · simp only [Nat.zero_add, Nat.reduceAdd, List.getElem?_toArray, List.getElem?_cons_succ, List.getElem?_cons_zero, Option.some.injEq] at hi
            subst hi
            obtain rfl := f4 (pre_of hall 4 rfl)
            refine wpOp_call 38 rfl rfl rfl Tryz.func38 (by kernel_rfl) (by kernel_rfl) (hBk W (Below.trans hbel (hW.mono hBz))) ?_
            intro W' hW'
            exact ⟨_, _, _, _, _, _, _, _, _, _, _, _, _, _, _, _, _, _, _, _, _, _, _, _, _, _, _, _, _, _, _, _, _, rfl, bCall hW hW' hW.size, (fun h => f0 (h.resolve_left (by decide))), (fun h => f1 (h.resolve_left (by decide))), (fun h => f2 (h.resolve_left (by decide))), (fun h => f3 (h.resolve_left (by decide))), (fun h => f4 (h.resolve_left (by decide))), (fun _ => rfl), (fun h => f6 (h.resolve_left (by decide))), (fun h => f7 (h.resolve_left (by decide)))⟩
          · simp only [Nat.zero_add, Nat.reduceAdd, List.getElem?_toArray, List.getElem?_cons_succ, List.getElem?_cons_zero, Option.some.injEq] at hi
            subst hi
            obtain rfl := f1 (pre_of hall 1 rfl)
            obtain rfl := f2 (pre_of hall 2 rfl)
            obtain rfl := f3 (pre_of hall 3 rfl)
            obtain rfl := f5 (pre_of hall 5 rfl)
            refine wpOp_call 180 rfl rfl rfl Tryz.func180 (by kernel_rfl) (by kernel_rfl) (hE1 W (Below.trans hbel (hW.mono hBz))) ?_
            intro W' hW'
            exact ⟨_, _, _, _, _, _, _, _, _, _, _, _, _, _, _, _, _, _, _, _, _, _, _, _, _, _, _, _, _, _, _, _, _, rfl, bCall hW hW' hW.size, (fun h => f0 (h.resolve_left (by decide))), (fun h => f1 (h.resolve_left (by decide))), (fun h => f2 (h.resolve_left (by decide))), (fun h => f3 (h.resolve_left (by decide))), (fun h => f4 (h.resolve_left (by decide))), (fun h => f5 (h.resolve_left (by decide))), (fun _ => rfl), (fun h => f7 (h.resolve_left (by decide)))⟩
          · simp only [Nat.zero_add, Nat.reduceAdd, List.getElem?_toArray, List.getElem?_cons_succ, List.getElem?_cons_zero, Option.some.injEq] at hi
            subst hi
            obtain rfl := f0 (pre_of hall 0 rfl)
            obtain rfl := f6 (pre_of hall 6 rfl)
            refine wpOp_call 184 rfl rfl rfl Tryz.func184 (by kernel_rfl) (by kernel_rfl) (hpc W) ?_
            intro W' hW'
            exact ⟨_, _, _, _, _, _, _, _, _, _, _, _, _, _, _, _, _, _, _, _, _, _, _, _, _, _, _, _, _, _, _, _, _, rfl, bCall hW hW' hW.size, (fun h => f0 (h.resolve_left (by decide))), (fun h => f1 (h.resolve_left (by decide))), (fun h => f2 (h.resolve_left (by decide))), (fun h => f3 (h.resolve_left (by decide))), (fun h => f4 (h.resolve_left (by decide))), (fun h => f5 (h.resolve_left (by decide))), (fun h => f6 (h.resolve_left (by decide))), (fun _ => rfl)⟩
          · exfalso; omega
        · rintro D act_ W ⟨u3, u4, u5, u9, u10, u11, u12, u13, u14, u15, u16, u17, u18, u19, u20, u21, u22, u23, u24, u25, u26, u27, u28, u29, u30, u31, u32, u33, u34, u35, u36, u37, u38, rfl, hW, f0, f1, f2, f3, f4, f5, f6, f7⟩ hall
          obtain rfl := f0 (hall 0 (by decide))
          obtain rfl := f1 (hall 1 (by decide))
          obtain rfl := f2 (hall 2 (by decide))
          obtain rfl := f3 (hall 3 (by decide))
          obtain rfl := f4 (hall 4 (by decide))
          obtain rfl := f5 (hall 5 (by decide))
          obtain rfl := f6 (hall 6 (by decide))
          obtain rfl := f7 (hall 7 (by decide))
          clear f0 f1 f2 f3 f4 f5 f6 f7 hall
          simp only [List.drop_succ_cons, List.drop_zero]
          have C1 := B1.below' hW
          have C0 := B0.below' hW
          have hbel1 := bCall hbel hW hbel.size
          clear B0 B1 hBk hE1
          have D1 := C1.row (ints .u8 q)
          have D0 := C0.rowFar (show w.heap.size ≠ w.heap.size + 1 by omega) (ints .u8 q)
          have hbel2 := bSetRow hbel1 (show w.heap.size ≤ w.heap.size + 1 by omega) (ints .u8 q)
          go_wp2_with (first
            | (refine wpList_store_ints rfl 96 _ _ rfl _ rfl rfl C1 (by rw [ints_size, hSk]) Tryz.ar96 hql ?_
               generalize W.setRow (w.heap.size + 1) (ints .u8 q) = w3 at *
               (try simp only [Act.put, List.setIfInBounds_toArray, List.set_cons_zero, List.set_cons_succ, World.size_alloc, setRow_size, Nat.add_assoc, Nat.reduceAdd]))
            | (refine wpList_sliceLoW (n := 16) rfl rfl Tryz.underlying23 Tryz.s15 rfl rfl h16 ?_; intro ad2 c2 hsl2 hc2; (try simp only [Act.put, List.setIfInBounds_toArray, List.set_cons_zero, List.set_cons_succ, World.size_alloc, setRow_size, Nat.add_assoc, Nat.reduceAdd])))
          go_step3
          refine ⟨rfl, HI.out _ _ ⟨k + 1, ad2, c2, ?_, by omega, by have := hc2 hcb; omega, ?_, D0, by rw [HS2.out]; exact D1, hbel2⟩, ?_⟩
          · rw [show N - 16 * (k + 1) = N - 16 * k - 16 by omega]; rfl
          · have h := hsl2 w .u8 r hsl (by omega)
            rw [← Hr.out, List.drop_drop, show 16 * k + 16 = 16 * (k + 1) by omega] at h
            exact h
          · rw [Hμ.out, Hμ.out]
            change N + 1 - ((k : Int) + 1).toNat < N + 1 - (k : Int).toNat
            omega
      · have hd1 : decide (((N - 16 * k : Nat) : Int) ≥ 16) = false := by rw [decide_eq_false_iff_not]; omega
        have Hkq : Hid (k = N / 16) := Lib.hid (by omega)
        clear HS2 hBl hBb
        by_cases h0 : N - 16 * k = 0
        · have HF : Hid (PN = S k) := Lib.hid (by rw [HP.out, if_neg (by omega), ← Hkq.out])
          have hSk := hSl k
          obtain ⟨n, Hn⟩ : ∃ n, Hid (N - 16 * k = n) := ⟨_, Lib.hid rfl⟩
          rw [Hn.out] at h0 hd1 ⊢
          subst h0
          go_wp2_with (first
            | (refine wpList_load_ints rfl 96 _ rfl _ rfl B1 Tryz.ar96 hSk ?_; (try simp only [Act.put, List.setIfInBounds_toArray, List.set_cons_zero, List.set_cons_succ, World.size_alloc, setRow_size, Nat.add_assoc, Nat.reduceAdd]))
            | (refine wpList_store_ints rfl 96 _ _ rfl _ rfl rfl B0 (zeros_size _ _) Tryz.ar96 hSk ?_; (try simp only [Act.put, List.setIfInBounds_toArray, List.set_cons_zero, List.set_cons_succ, World.size_alloc, setRow_size, Nat.add_assoc, Nat.reduceAdd])))
          (try simp only [Exit.jump, Exit.inBlock, Exit.then])
          exact ret_ints rfl rfl (B0.row _) Tryz.ar96 hSk ⟨by rw [HPN.out, HF.out], bSetRow hbel (Nat.le_refl _) _⟩
        · have hne : ((N - 16 * k : Nat) : Int) ≠ 0 := by omega
          have hd2 : (((N - 16 * k : Nat) : Int) == 0) = false := by simp; omega
          have HF : Hid (PN = P16 (S k) (E 0 (blockN (padL (r ++ [128]))))) := Lib.hid (by rw [HP.out, if_pos (by omega), ← Hkq.out, Hr.out])
          obtain ⟨n, Hn⟩ : ∃ n, Hid (N - 16 * k = n) := ⟨_, Lib.hid rfl⟩
          rw [Hn.out] at hd1 hd2 hcb hdl ⊢
          have hnl : r.length = n := hdl
          have hn31 : n < 2 ^ 31 := by rw [← Hn.out]; omega
          have hMk : ∀ W, Below w.heap.size w W → Calls Tryz.prog 156 #[.slice ab n cb, .int .u8 128, .int .i64 16] W fun e w' => e = .returned (.slice (some ⟨W.heap.size + 1, 0, none⟩) (padL (r ++ [128])).length (padL (r ++ [128])).length) ∧ Below W.heap.size W w' ∧ Blk w' (W.heap.size + 1) 5 (ints .u8 (padL (r ++ [128]))) := fun W hW => markE_c ab cb n r hnl hn31 W (hsl.below hW)
          have hpb := padM_lt hdb
          generalize padL (r ++ [128]) = pl at *
          have hBM : ∀ (g : Nat) (W : World), Sl W (some ⟨g, 0, none⟩) .u8 pl → Calls Tryz.prog 38 #[.slice (some ⟨g, 0, none⟩) pl.length pl.length] W fun e w' => e = .returned (.agg (ints .u8 (blockN pl))) ∧ Below W.heap.size W w' := fun g W h => block_c (some ⟨g, 0, none⟩) pl.length pl W h
          have hyl := blockN_len pl
          have hyb := blockN_lt hpb
          generalize blockN pl = y at *
          have hE0 : ∀ W, Below w.heap.size w W → Calls Tryz.prog 180 #[.pointer (some ⟨gk, 0, none⟩), .int .i64 (j : Int), .int .i64 0, .agg (ints .u8 y)] W fun e w' => e = .returned (.agg (ints .u8 (E 0 y))) ∧ Below W.heap.size W w' := fun W hW => hEE 0 y (by decide) hyl hyb W hW
          have hel := hEl 0 y hyl
          have heb := hEb 0 y hyb
          generalize E 0 y = e1 at *
          have hSk := hSl (k)
          have hSkb := hSb (k)
          generalize S (k) = sk at *
          have hql := P16_len sk e1
          have hBz := hbel.size
          obtain ⟨q, Hq⟩ : ∃ q, Hid (P16 sk e1 = q) := ⟨_, Lib.hid rfl⟩
          have hpc := fun W => hplus_c sk e1 hSk hel hSkb heb W
          rw [Hq.out] at hql HF
          simp only [Hq.out] at hpc
          go_wp2_with fail
          refine wp_label ?_
          rename_i hKx
          refine hKx _ _ ?_
          clear hKx
          go_wp2_with fail
          refine wp_region_itail 8 (by kernel_rfl) (by kernel_rfl) (by kernel_rfl) (by kernel_rfl) (fun D act_ W => ∃ u3 u4 u5 u8 u9 u10 u11 u12 u13 u14 u15 u16 u17 u18 u19 u20 u21 u22 u23 u24 u25 u26 u27 u28 u29 u30 u31 u32 u33 u34 u35 u36 u37 u38 : Value, act_ = { tmps := #[.pointer (some ⟨gk, 0, none⟩), .int .i64 (j : Int), .slice ab n cb, u3, u4, u5, .pointer (some ⟨w.heap.size, 0, none⟩), .pointer (some ⟨w.heap.size + 1, 0, none⟩), u8, u9, u10, u11, u12, u13, u14, u15, u16, u17, u18, u19, u20, u21, u22, u23, u24, u25, u26, u27, u28, u29, u30, u31, u32, u33, u34, u35, u36, u37, u38], defers := [] } ∧ Below wr.heap.size wr W ∧ (D 0 → u31 = .agg (ints .u8 sk)) ∧ (D 1 → u32 = .pointer (some ⟨gk, 0, none⟩)) ∧ (D 2 → u33 = .int .i64 (j : Int)) ∧ (D 3 → u34 = .slice ab n cb) ∧ (D 4 → AlS W wr.heap.size u35 5 pl.length .u8 (pl)) ∧ (D 5 → u36 = .agg (ints .u8 y)) ∧ (D 6 → u37 = .agg (ints .u8 e1)) ∧ (D 7 → u38 = .agg (ints .u8 q))) ?_ ?_ ?_
          · exact ⟨_, _, _, _, _, _, _, _, _, _, _, _, _, _, _, _, _, _, _, _, _, _, _, _, _, _, _, _, _, _, _, _, _, _, rfl, ⟨rfl, rfl, rfl, Nat.le_refl _, fun _ _ => rfl⟩, (fun h => h.elim), (fun h => h.elim), (fun h => h.elim), (fun h => h.elim), (fun h => h.elim), (fun h => h.elim), (fun h => h.elim), (fun h => h.elim)⟩
          · intro i o hilt hi D act_ W hI hnD hall
            obtain ⟨u3, u4, u5, u8, u9, u10, u11, u12, u13, u14, u15, u16, u17, u18, u19, u20, u21, u22, u23, u24, u25, u26, u27, u28, u29, u30, u31, u32, u33, u34, u35, u36, u37, u38, rfl, hW, f0, f1, f2, f3, f4, f5, f6, f7⟩ := hI
            rcases i with _ | _ | _ | _ | _ | _ | _ | _ | i
            · simp only [Nat.zero_add, Nat.reduceAdd, List.getElem?_toArray, List.getElem?_cons_succ, List.getElem?_cons_zero, Option.some.injEq] at hi
              subst hi
              refine wpOp_load rfl rfl rfl rfl (B1.below' hW) Tryz.ar96 hSk ?_
              exact ⟨_, _, _, _, _, _, _, _, _, _, _, _, _, _, _, _, _, _, _, _, _, _, _, _, _, _, _, _, _, _, _, _, _, _, rfl, hW, (fun _ => rfl), (fun h => f1 (h.resolve_left (by decide))), (fun h => f2 (h.resolve_left (by decide))), (fun h => f3 (h.resolve_left (by decide))), (fun h => f4 (h.resolve_left (by decide))), (fun h => f5 (h.resolve_left (by decide))), (fun h => f6 (h.resolve_left (by decide))), (fun h => f7 (h.resolve_left (by decide)))⟩
            · simp only [Nat.zero_add, Nat.reduceAdd, List.getElem?_toArray, List.getElem?_cons_succ, List.getElem?_cons_zero, Option.some.injEq] at hi
              subst hi
              refine wpOp_value (v := .pointer (some ⟨gk, 0, none⟩)) rfl rfl (by kernel_rfl) ?_
              exact ⟨_, _, _, _, _, _, _, _, _, _, _, _, _, _, _, _, _, _, _, _, _, _, _, _, _, _, _, _, _, _, _, _, _, _, rfl, hW, (fun h => f0 (h.resolve_left (by decide))), (fun _ => rfl), (fun h => f2 (h.resolve_left (by decide))), (fun h => f3 (h.resolve_left (by decide))), (fun h => f4 (h.resolve_left (by decide))), (fun h => f5 (h.resolve_left (by decide))), (fun h => f6 (h.resolve_left (by decide))), (fun h => f7 (h.resolve_left (by decide)))⟩
            · simp only [Nat.zero_add, Nat.reduceAdd, List.getElem?_toArray, List.getElem?_cons_succ, List.getElem?_cons_zero, Option.some.injEq] at hi
              subst hi
              refine wpOp_value (v := .int .i64 (j : Int)) rfl rfl (by kernel_rfl) ?_
              exact ⟨_, _, _, _, _, _, _, _, _, _, _, _, _, _, _, _, _, _, _, _, _, _, _, _, _, _, _, _, _, _, _, _, _, _, rfl, hW, (fun h => f0 (h.resolve_left (by decide))), (fun h => f1 (h.resolve_left (by decide))), (fun _ => rfl), (fun h => f3 (h.resolve_left (by decide))), (fun h => f4 (h.resolve_left (by decide))), (fun h => f5 (h.resolve_left (by decide))), (fun h => f6 (h.resolve_left (by decide))), (fun h => f7 (h.resolve_left (by decide)))⟩
            · simp only [Nat.zero_add, Nat.reduceAdd, List.getElem?_toArray, List.getElem?_cons_succ, List.getElem?_cons_zero, Option.some.injEq] at hi
              subst hi
              refine wpOp_value (v := .slice ab n cb) rfl rfl rfl ?_
              exact ⟨_, _, _, _, _, _, _, _, _, _, _, _, _, _, _, _, _, _, _, _, _, _, _, _, _, _, _, _, _, _, _, _, _, _, rfl, hW, (fun h => f0 (h.resolve_left (by decide))), (fun h => f1 (h.resolve_left (by decide))), (fun h => f2 (h.resolve_left (by decide))), (fun _ => rfl), (fun h => f4 (h.resolve_left (by decide))), (fun h => f5 (h.resolve_left (by decide))), (fun h => f6 (h.resolve_left (by decide))), (fun h => f7 (h.resolve_left (by decide)))⟩
            · simp only [Nat.zero_add, Nat.reduceAdd, List.getElem?_toArray, List.getElem?_cons_succ, List.getElem?_cons_zero, Option.some.injEq] at hi
              subst hi
              obtain rfl := f3 (pre_of hall 3 rfl)
              refine wpOp_callB 156 rfl rfl rfl Tryz.func156 (by kernel_rfl) (by kernel_rfl) (hMk W (Below.trans hbel (hW.mono hBz))) ?_
              intro W' hW' hT
              exact ⟨_, _, _, _, _, _, _, _, _, _, _, _, _, _, _, _, _, _, _, _, _, _, _, _, _, _, _, _, _, _, _, _, _, _, rfl, bCall hW hW' hW.size, (fun h => f0 (h.resolve_left (by decide))), (fun h => f1 (h.resolve_left (by decide))), (fun h => f2 (h.resolve_left (by decide))), (fun h => f3 (h.resolve_left (by decide))), (fun _ => ⟨_, rfl, by have := hW.size; omega, rfl, hT⟩), (fun h => f5 (h.resolve_left (by decide))), (fun h => f6 (h.resolve_left (by decide))), (fun h => f7 (h.resolve_left (by decide)))⟩
            · simp only [Nat.zero_add, Nat.reduceAdd, List.getElem?_toArray, List.getElem?_cons_succ, List.getElem?_cons_zero, Option.some.injEq] at hi
              subst hi
              obtain ⟨g_, rfl, hg_, hl_, hB_⟩ := f4 (pre_of hall 4 rfl)
              refine wpOp_call 38 rfl rfl rfl Tryz.func38 (by kernel_rfl) (by kernel_rfl) (hBM g_ W (Sl.blk hB_)) ?_
              intro W' hW'
              have q4 : AlS W wr.heap.size (.slice (some ⟨g_, 0, none⟩) _ _) _ _ _ _ := ⟨g_, rfl, hg_, hl_, hB_⟩
              exact ⟨_, _, _, _, _, _, _, _, _, _, _, _, _, _, _, _, _, _, _, _, _, _, _, _, _, _, _, _, _, _, _, _, _, _, rfl, bCall hW hW' hW.size, (fun h => f0 (h.resolve_left (by decide))), (fun h => f1 (h.resolve_left (by decide))), (fun h => f2 (h.resolve_left (by decide))), (fun h => f3 (h.resolve_left (by decide))), (fun _ => q4.below hW'), (fun _ => rfl), (fun h => f6 (h.resolve_left (by decide))), (fun h => f7 (h.resolve_left (by decide)))⟩
            · simp only [Nat.zero_add, Nat.reduceAdd, List.getElem?_toArray, List.getElem?_cons_succ, List.getElem?_cons_zero, Option.some.injEq] at hi
              subst hi
              obtain rfl := f1 (pre_of hall 1 rfl)
              obtain rfl := f2 (pre_of hall 2 rfl)
              obtain rfl := f5 (pre_of hall 5 rfl)
              refine wpOp_call 180 rfl rfl rfl Tryz.func180 (by kernel_rfl) (by kernel_rfl) (hE0 W (Below.trans hbel (hW.mono hBz))) ?_
              intro W' hW'
              exact ⟨_, _, _, _, _, _, _, _, _, _, _, _, _, _, _, _, _, _, _, _, _, _, _, _, _, _, _, _, _, _, _, _, _, _, rfl, bCall hW hW' hW.size, (fun h => f0 (h.resolve_left (by decide))), (fun h => f1 (h.resolve_left (by decide))), (fun h => f2 (h.resolve_left (by decide))), (fun h => f3 (h.resolve_left (by decide))), (fun h => (f4 (h.resolve_left (by decide))).below hW'), (fun h => f5 (h.resolve_left (by decide))), (fun _ => rfl), (fun h => f7 (h.resolve_left (by decide)))⟩
            · simp only [Nat.zero_add, Nat.reduceAdd, List.getElem?_toArray, List.getElem?_cons_succ, List.getElem?_cons_zero, Option.some.injEq] at hi
              subst hi
              obtain rfl := f0 (pre_of hall 0 rfl)
              obtain rfl := f6 (pre_of hall 6 rfl)
              refine wpOp_call 184 rfl rfl rfl Tryz.func184 (by kernel_rfl) (by kernel_rfl) (hpc W) ?_
              intro W' hW'
              exact ⟨_, _, _, _, _, _, _, _, _, _, _, _, _, _, _, _, _, _, _, _, _, _, _, _, _, _, _, _, _, _, _, _, _, _, rfl, bCall hW hW' hW.size, (fun h => f0 (h.resolve_left (by decide))), (fun h => f1 (h.resolve_left (by decide))), (fun h => f2 (h.resolve_left (by decide))), (fun h => f3 (h.resolve_left (by decide))), (fun h => (f4 (h.resolve_left (by decide))).below hW'), (fun h => f5 (h.resolve_left (by decide))), (fun h => f6 (h.resolve_left (by decide))), (fun _ => rfl)⟩
            · exfalso; omega
          · rintro D act_ W ⟨u3, u4, u5, u8, u9, u10, u11, u12, u13, u14, u15, u16, u17, u18, u19, u20, u21, u22, u23, u24, u25, u26, u27, u28, u29, u30, u31, u32, u33, u34, u35, u36, u37, u38, rfl, hW, f0, f1, f2, f3, f4, f5, f6, f7⟩ hall
            obtain rfl := f0 (hall 0 (by decide))
            obtain rfl := f1 (hall 1 (by decide))
            obtain rfl := f2 (hall 2 (by decide))
            obtain rfl := f3 (hall 3 (by decide))
            obtain rfl := f5 (hall 5 (by decide))
            obtain rfl := f6 (hall 6 (by decide))
            obtain rfl := f7 (hall 7 (by decide))
            obtain ⟨g35, rfl, hg35, hl35, hB35⟩ := f4 (hall 4 (by decide))
            clear f0 f1 f2 f3 f4 f5 f6 f7 hall
            simp only [List.drop_succ_cons, List.drop_zero]
            have C0 := B0.below' hW
            have hbel1 := bCall hbel hW hbel.size
            clear B0 B1 hMk hBM hE0
            go_wp2_with (refine wpList_store_ints rfl 96 _ _ rfl _ rfl rfl C0 (zeros_size _ _) Tryz.ar96 hql ?_; (try simp only [Act.put, List.setIfInBounds_toArray, List.set_cons_zero, List.set_cons_succ, World.size_alloc, setRow_size, Nat.add_assoc, Nat.reduceAdd]))
            (try simp only [Exit.jump, Exit.inBlock, Exit.then])
            exact ret_ints rfl rfl (C0.row _) Tryz.ar96 hql ⟨by rw [HPN.out, HF.out], bSetRow hbel1 (Nat.le_refl _) _⟩
    · intro pass
      go_wp2_with (first | (refine wpList_alloc_ints rfl 96 rfl Tryz.z96 ?_; (try simp only [Act.put, List.setIfInBounds_toArray, List.set_cons_zero, List.set_cons_succ, World.size_alloc, setRow_size, Nat.add_assoc, Nat.reduceAdd])))
      refine wp_label ?_
      rename_i hKx
      refine hKx _ _ ?_
      exact pass _ _ (HI.out _ _ ⟨0, a0, c0, by rw [Nat.mul_zero, Nat.sub_zero]; rfl, by omega, by omega, by rw [Nat.mul_zero]; exact hs, Z0, by rw [hS0]; exact Z1, hbel0⟩)
end Go.Proofs.YtaiffkajkbiidaaGreatDoor
