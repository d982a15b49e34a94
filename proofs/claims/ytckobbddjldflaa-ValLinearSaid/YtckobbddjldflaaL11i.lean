/- The walk of ValLinear. No condition but that bytes are below 256. -/
import Derived.Test.YtckobbddjldflaaL11g
import Derived.Test.YtckobbddjldflaaKit11
namespace Go.Proofs.Ytckobbddjldflaa
set_option linter.unusedSimpArgs false
set_option linter.unusedVariables false
set_option linter.unusedSectionVars false
set_option linter.unusedVariables false
open Go.RowKit
theorem map_getD {f : List Nat → List Nat} {xss : List (List Nat)} {i : Nat} (hi : i < xss.length) : (xss.map f).getD i [] = f (xss.getD i []) := by
  rw [List.getD_eq_getElem?_getD, List.getD_eq_getElem?_getD, List.getElem?_map, List.getElem?_eq_getElem hi]; rfl
theorem map_succ {f : List Nat → List Nat} {xss : List (List Nat)} {i : Nat} (hi : i < xss.length) : ((xss.map f).take (i + 1)).flatten = ((xss.map f).take i).flatten ++ f (xss.getD i []) := by
  rw [flat_succ (by simpa using hi), map_getD hi]
/-- The first halves, the second ones, and their sums. -/
def halfA (xs : List Nat) : List Nat := xs.take 16
def halfB (xs : List Nat) : List Nat := xs.drop 16
def halfC (xs : List Nat) : List Nat := xorL (xs.take 16) (xs.drop 16)
def upF (f : List Nat → List Nat) (xss : List (List Nat)) (i : Nat) : List Nat := ((xss.map f).take i).flatten
theorem upF_len {f : List Nat → List Nat} {xss : List (List Nat)} (h : ∀ xs ∈ xss, (f xs).length = 16) (i : Nat) : (upF f xss i).length ≤ 16 * i := by
  unfold upF
  rw [flat16 (fun y hy => by obtain ⟨x, hx, rfl⟩ := List.mem_map.1 (List.mem_of_mem_take hy); exact h x hx), List.length_take]; omega
theorem upF_all {f : List Nat → List Nat} {xss : List (List Nat)} {n : Nat} (hn : xss.length = n) : upF f xss n = (xss.map f).flatten := by
  unfold upF; rw [List.take_of_length_le (by simp; omega)]
theorem mapF_len {f : List Nat → List Nat} {xss : List (List Nat)} (h : ∀ xs ∈ xss, (f xs).length = 16) : (xss.map f).flatten.length = 16 * xss.length := by
  rw [flat16 (fun y hy => by obtain ⟨x, hx, rfl⟩ := List.mem_map.1 hy; exact h x hx), List.length_map]
theorem mapF_lt {f : List Nat → List Nat} {xss : List (List Nat)} (h : ∀ xs ∈ xss, ∀ x ∈ f xs, x < 256) : ∀ x ∈ (xss.map f).flatten, x < 256 :=
  flat_lt fun y hy => by obtain ⟨x, hx, rfl⟩ := List.mem_map.1 hy; exact h x hx
theorem mapF_blk {f : List Nat → List Nat} {xss : List (List Nat)} (h : ∀ xs ∈ xss, (f xs).length = 16) (i : Nat) (hi : i < xss.length) : blk (xss.map f).flatten i = f (xss.getD i []) := by
  rw [blk_flat (fun y hy => by obtain ⟨x, hx, rfl⟩ := List.mem_map.1 hy; exact h x hx) i (by simpa using hi), map_getD hi]
theorem linear_valL {hs : List Nat} (hl : hs.length = 16) (hb : ∀ x ∈ hs, x < 256) {xss : List (List Nat)} (hx : ∀ xs ∈ xss, xs.length = 32 ∧ ∀ x ∈ xs, x < 256) :
    valL hs (xss.map halfC).flatten = xorL (valL hs (xss.map halfA).flatten) (valL hs (xss.map halfB).flatten) := by
  have ha : ∀ xs ∈ xss, (halfA xs).length = 16 := fun xs h => by unfold halfA; rw [List.length_take, (hx xs h).1]; rfl
  have hb' : ∀ xs ∈ xss, (halfB xs).length = 16 := fun xs h => by unfold halfB; rw [List.length_drop, (hx xs h).1]
  have hc : ∀ xs ∈ xss, (halfC xs).length = 16 := fun xs h => by unfold halfC; exact xorL_len _ _
  have la := mapF_len ha
  have lb := mapF_len hb'
  have lc := mapF_len hc
  rw [valL_whole (by omega), valL_whole (by omega), valL_whole (by omega), la, lb, lc, show 16 * xss.length / 16 = xss.length by omega]
  have h8a : ∀ z ∈ (xss.map halfA).flatten, z < 256 := mapF_lt fun xs h x hxx => (hx xs h).2 x (List.mem_of_mem_take hxx)
  have h8b : ∀ z ∈ (xss.map halfB).flatten, z < 256 := mapF_lt fun xs h x hxx => (hx xs h).2 x (List.mem_of_mem_drop hxx)
  have hz := zeros_lt 16 (show 0 < 256 by omega)
  have := onL_xor hl hb h8a h8b (zeros_len 16) hz (zeros_len 16) hz xss.length la lb (c := (xss.map halfC).flatten) (fun i hi => by rw [mapF_blk hc i hi, mapF_blk ha i hi, mapF_blk hb' i hi]; rfl) xss.length (Nat.le_refl _)
  rw [show xorL (zeros 16) (zeros 16) = zeros 16 by decide] at this
  exact this
set_option maxRecDepth 100000 in
set_option maxHeartbeats 20000000 in
theorem valLinear_c (hs : List Nat) (xss : List (List Nat)) (a : Option Addr) (c : Nat) (hl : hs.length = 16) (hb : ∀ x ∈ hs, x < 2 ^ 8) (hx : ∀ xs ∈ xss, xs.length = 32 ∧ ∀ x ∈ xs, x < 2 ^ 8) (w : World) (hs0 : SlA w a .u8 32 xss) :
    Calls Try.prog 6 #[.agg (ints .u8 hs), .slice a xss.length c] w fun e w' => e = .returned (.bool true) ∧ Below w.heap.size w w' := by
  have B0 := Blk.new w 22 (ints .u8 hs)
  have hbel := (Below.refl w.heap.size w).alloc (Nat.le_refl _) (.cells (ints .u8 hs) 22)
  by_cases h20 : xss.length ≤ 20
  · have hla : ∀ xs ∈ xss, (halfA xs).length = 16 := fun xs h => by unfold halfA; rw [List.length_take, (hx xs h).1]; rfl
    have hlb : ∀ xs ∈ xss, (halfB xs).length = 16 := fun xs h => by unfold halfB; rw [List.length_drop, (hx xs h).1]
    have hlc : ∀ xs ∈ xss, (halfC xs).length = 16 := fun xs h => by unfold halfC; exact xorL_len _ _
    have h8a : ∀ z ∈ (xss.map halfA).flatten, z < 256 := mapF_lt fun xs h x hxx => (hx xs h).2 x (List.mem_of_mem_take hxx)
    have h8b : ∀ z ∈ (xss.map halfB).flatten, z < 256 := mapF_lt fun xs h x hxx => (hx xs h).2 x (List.mem_of_mem_drop hxx)
    have h8c : ∀ z ∈ (xss.map halfC).flatten, z < 256 := mapF_lt fun xs h x hxx => xorL_lt (fun x hxx => (hx xs h).2 x (List.mem_of_mem_take hxx)) (fun x hxx => (hx xs h).2 x (List.mem_of_mem_drop hxx)) x hxx
    have HLIN := Lib.hid (linear_valL hl hb hx)
    obtain ⟨n, HN⟩ : ∃ n, Hid (xss.length = n) := ⟨_, Lib.hid rfl⟩
    have Hla := Lib.hid hla
    have Hlb := Lib.hid hlb
    have Hlc := Lib.hid hlc
    clear hla hlb hlc
    rw [HN.out] at h20 ⊢
    have hd0 : decide ((n : Int) > 20) = false := by simp; omega
    go_enter Try.func6, Try.ntmps6
    go_wp2
    generalize (w.alloc (.cells (ints .u8 hs) 22)) = w0 at *
    go_loopw [5, 6, 7, 8] (fun va vb vc t wr => ∃ i : Nat, i ≤ n ∧ t = .int .i64 i ∧ Own wr w.heap.size 5 .u8 va (upF halfA xss i) ∧ Own wr w.heap.size 5 .u8 vb (upF halfB xss i) ∧ Own wr w.heap.size 5 .u8 vc (upF halfC xss i) ∧ Dis va vb ∧ Dis va vc ∧ Dis vb vc ∧ Blk wr w.heap.size 22 (ints .u8 hs) ∧ Below w.heap.size w wr) (fun va vb vc t wr => n - (intOf t).toNat)
    case atStart => exact ⟨0, by omega, rfl, Own.nil _ _ _ _, Own.nil _ _ _ _, Own.nil _ _ _ _, Dis.nil_l _, Dis.nil_l _, Dis.nil_l _, B0, hbel⟩
    case round =>
      rename_i hrel
      obtain ⟨i, hi, rfl, ownA, ownB, ownC, dab, dac, dbc, C0, hbelr⟩ := hrel
      clear B0 hbel
      by_cases hlt : i < n
      · have hlx : i < xss.length := by rw [HN.out]; exact hlt
        obtain ⟨g, off, rfl, hg, hr⟩ := hs0 i hlx
        have hx32 := getD_prop (p := fun l => l.length = 32) (fun xs h => (hx xs h).1) hlx
        have hx8 := getD_prop (p := fun l => ∀ x ∈ l, x < 256) (fun xs h => (hx xs h).2) hlx
        have HA := Lib.hid (show upF halfA xss (i + 1) = upF halfA xss i ++ (xss.getD i []).take 16 from map_succ hlx)
        have HB := Lib.hid (show upF halfB xss (i + 1) = upF halfB xss i ++ (xss.getD i []).drop 16 from map_succ hlx)
        have HC := Lib.hid (show upF halfC xss (i + 1) = upF halfC xss i ++ xorL ((xss.getD i []).take 16) ((xss.getD i []).drop 16) from map_succ hlx)
        have lA := upF_len Hla.out i
        have lB := upF_len Hlb.out i
        have lC := upF_len Hlc.out i
        have r1 : w.rangeAt g (off + i * 32 + 0 * 16) (vals .u8 ((xss.getD i []).take 16)) := range_take hr
        have r2 : w.rangeAt g (off + i * 32 + 1 * 16) (vals .u8 ((xss.getD i []).drop 16)) := range_drop (n := 1 * 16) hr
        have p8 : ∀ x ∈ (xss.getD i []).take 16, x < 256 := fun x h => hx8 x (List.mem_of_mem_take h)
        have q8 : ∀ x ∈ (xss.getD i []).drop 16, x < 256 := fun x h => hx8 x (List.mem_of_mem_drop h)
        have pl : ((xss.getD i []).take 16).length = 16 := by rw [List.length_take, hx32]; rfl
        have ql : ((xss.getD i []).drop 16).length = 16 := by rw [List.length_drop, hx32]
        generalize (xss.getD i []).take 16 = p at *
        generalize (xss.getD i []).drop 16 = q at *
        clear hx32 hx8 hr
        have xl : (xorL p q).length = 16 := xorL_len _ _
        obtain ⟨A, HAA⟩ : ∃ A, Hid (upF halfA xss i = A) := ⟨_, Lib.hid rfl⟩
        obtain ⟨B, HBB⟩ : ∃ B, Hid (upF halfB xss i = B) := ⟨_, Lib.hid rfl⟩
        obtain ⟨C, HCC⟩ : ∃ C, Hid (upF halfC xss i = C) := ⟨_, Lib.hid rfl⟩
        rw [HAA.out] at ownA lA HA
        rw [HBB.out] at ownB lB HB
        rw [HCC.out] at ownC lC HC
        have hd1 : decide ((i : Int) < (n : Int)) = true := by simp; omega
        have hBw := hbelr.size
        have hin : i < n := hlt
        clear hd0
        have hgw : g < wr.heap.size := Nat.lt_of_lt_of_le hg hBw
        have r1w := range_below hbelr hg r1
        have r2w := range_below hbelr hg r2
        have S1 : Sl w (some ⟨g, off + i * 32, none⟩) .u8 p := range_sl hg r1
        have S2 : Sl w (some ⟨g, off + i * 32 + 16, none⟩) .u8 q := range_sl hg r2
        go_wp2_with fail
        refine wp_region_inv (by kernel_rfl) (by kernel_rfl) (fun D a W => ∃ u9 u19 u20 u21 u22 u23 u24 u25 u26 u27 u28 u29 : Value, a = { tmps := #[.agg (ints .u8 hs), .slice (some ⟨g, off, none⟩) n c, .pointer (some ⟨w.heap.size, 0, none⟩), undef, .bool false, u5, u6, u7, .int .i64 (i : Int), u9, .slice (some ⟨g, off, none⟩) n c, .int .i64 (n : Int), .bool false, .int .i64 (i : Int), .slice (some ⟨g, off, none⟩) n c, .int .i64 (n : Int), .bool true, u17, u18, u19, u20, u21, u22, u23, u24, u25, u26, u27, u28, u29, u30, u31, u32, u33, u34, u35, u36, u37, u38, u39, u40, u41, u42, u43, u44, u45, u46, undef, undef, undef, undef, undef, undef, undef, undef, undef, undef, undef, undef, undef, undef], defers := [] } ∧ Below wr.heap.size wr W ∧ (D 0 → u19 = .slice (some ⟨g, off, none⟩) n c) ∧ (D 1 → u20 = .int .i64 (i : Int)) ∧ (D 2 → u21 = .pointer (some ⟨g, off + i * 32, none⟩)) ∧ (D 3 → u22 = .pointer (some ⟨g, off + i * 32 + 0 * 16, none⟩)) ∧ (D 4 → u23 = .agg (ints .u8 p)) ∧ (D 5 → u24 = .slice (some ⟨g, off, none⟩) n c) ∧ (D 6 → u25 = .int .i64 (i : Int)) ∧ (D 7 → u26 = .pointer (some ⟨g, off + i * 32, none⟩)) ∧ (D 8 → u27 = .pointer (some ⟨g, off + i * 32 + 1 * 16, none⟩)) ∧ (D 9 → u28 = .agg (ints .u8 q)) ∧ (D 10 → u29 = .agg (ints .u8 (xorL p q))) ∧ (D 11 → Al W wr.heap.size u9 22 16 .u8 (D 12) (xorL p q)) ∧ (D 12 → D 11)) ?_ ?_ ?_
        · exact ⟨_, _, _, _, _, _, _, _, _, _, _, _, rfl, ⟨rfl, rfl, rfl, Nat.le_refl _, fun _ _ => rfl⟩, (fun h => h.elim), (fun h => h.elim), (fun h => h.elim), (fun h => h.elim), (fun h => h.elim), (fun h => h.elim), (fun h => h.elim), (fun h => h.elim), (fun h => h.elim), (fun h => h.elim), (fun h => h.elim), (fun h => h.elim), (fun h => h.elim)⟩
        · intro i o hi D a W hI hnD hall
          obtain ⟨u9, u19, u20, u21, u22, u23, u24, u25, u26, u27, u28, u29, rfl, hW, f0, f1, f2, f3, f4, f5, f6, f7, f8, f9, f10, f11, f12⟩ := hI
          rcases i with _ | _ | _ | _ | _ | _ | _ | _ | _ | _ | _ | _ | _ | i
          · simp only [Nat.zero_add, Nat.reduceAdd, List.getElem?_toArray, List.getElem?_cons_succ, List.getElem?_cons_zero, Option.some.injEq] at hi
            subst hi
            refine wpOp_value (v := .slice (some ⟨g, off, none⟩) n c) rfl rfl rfl ?_
            exact ⟨_, _, _, _, _, _, _, _, _, _, _, _, rfl, hW, (fun _ => rfl), (fun h => f1 (h.resolve_left (by decide))), (fun h => f2 (h.resolve_left (by decide))), (fun h => f3 (h.resolve_left (by decide))), (fun h => f4 (h.resolve_left (by decide))), (fun h => f5 (h.resolve_left (by decide))), (fun h => f6 (h.resolve_left (by decide))), (fun h => f7 (h.resolve_left (by decide))), (fun h => f8 (h.resolve_left (by decide))), (fun h => f9 (h.resolve_left (by decide))), (fun h => f10 (h.resolve_left (by decide))), (fun h => (f11 (h.resolve_left (by decide))).same (fun h' => h'.resolve_left (by decide))), (fun h => .inr (f12 (h.resolve_left (by decide))))⟩
          · simp only [Nat.zero_add, Nat.reduceAdd, List.getElem?_toArray, List.getElem?_cons_succ, List.getElem?_cons_zero, Option.some.injEq] at hi
            subst hi
            refine wpOp_value (v := .int .i64 (i : Int)) rfl rfl rfl ?_
            exact ⟨_, _, _, _, _, _, _, _, _, _, _, _, rfl, hW, (fun h => f0 (h.resolve_left (by decide))), (fun _ => rfl), (fun h => f2 (h.resolve_left (by decide))), (fun h => f3 (h.resolve_left (by decide))), (fun h => f4 (h.resolve_left (by decide))), (fun h => f5 (h.resolve_left (by decide))), (fun h => f6 (h.resolve_left (by decide))), (fun h => f7 (h.resolve_left (by decide))), (fun h => f8 (h.resolve_left (by decide))), (fun h => f9 (h.resolve_left (by decide))), (fun h => f10 (h.resolve_left (by decide))), (fun h => (f11 (h.resolve_left (by decide))).same (fun h' => h'.resolve_left (by decide))), (fun h => .inr (f12 (h.resolve_left (by decide))))⟩
          · simp only [Nat.zero_add, Nat.reduceAdd, List.getElem?_toArray, List.getElem?_cons_succ, List.getElem?_cons_zero, Option.some.injEq] at hi
            subst hi
            obtain rfl := f0 (pre_of hall 0 rfl)
            obtain rfl := f1 (pre_of hall 1 rfl)
            refine wpOp_value (v := .pointer (some ⟨g, off + i * 32, none⟩)) rfl rfl (run_idxSl rfl rfl rfl hin Try.underlying33 (by kernel_rfl)) ?_
            exact ⟨_, _, _, _, _, _, _, _, _, _, _, _, rfl, hW, (fun h => f0 (h.resolve_left (by decide))), (fun h => f1 (h.resolve_left (by decide))), (fun _ => rfl), (fun h => f3 (h.resolve_left (by decide))), (fun h => f4 (h.resolve_left (by decide))), (fun h => f5 (h.resolve_left (by decide))), (fun h => f6 (h.resolve_left (by decide))), (fun h => f7 (h.resolve_left (by decide))), (fun h => f8 (h.resolve_left (by decide))), (fun h => f9 (h.resolve_left (by decide))), (fun h => f10 (h.resolve_left (by decide))), (fun h => (f11 (h.resolve_left (by decide))).same (fun h' => h'.resolve_left (by decide))), (fun h => .inr (f12 (h.resolve_left (by decide))))⟩
          · simp only [Nat.zero_add, Nat.reduceAdd, List.getElem?_toArray, List.getElem?_cons_succ, List.getElem?_cons_zero, Option.some.injEq] at hi
            subst hi
            obtain rfl := f2 (pre_of hall 2 rfl)
            refine wpOp_value (v := .pointer (some ⟨g, off + i * 32 + 0 * 16, none⟩)) rfl rfl (run_idxArr (j := 0) rfl rfl (by decide) Try.underlying35 (by kernel_rfl)) ?_
            exact ⟨_, _, _, _, _, _, _, _, _, _, _, _, rfl, hW, (fun h => f0 (h.resolve_left (by decide))), (fun h => f1 (h.resolve_left (by decide))), (fun h => f2 (h.resolve_left (by decide))), (fun _ => rfl), (fun h => f4 (h.resolve_left (by decide))), (fun h => f5 (h.resolve_left (by decide))), (fun h => f6 (h.resolve_left (by decide))), (fun h => f7 (h.resolve_left (by decide))), (fun h => f8 (h.resolve_left (by decide))), (fun h => f9 (h.resolve_left (by decide))), (fun h => f10 (h.resolve_left (by decide))), (fun h => (f11 (h.resolve_left (by decide))).same (fun h' => h'.resolve_left (by decide))), (fun h => .inr (f12 (h.resolve_left (by decide))))⟩
          · simp only [Nat.zero_add, Nat.reduceAdd, List.getElem?_toArray, List.getElem?_cons_succ, List.getElem?_cons_zero, Option.some.injEq] at hi
            subst hi
            obtain rfl := f3 (pre_of hall 3 rfl)
            refine wpOp_value (v := .agg (ints .u8 p)) rfl rfl (run_loadRange rfl rfl (range_below hW hgw r1w) Try.ar22 pl) ?_
            exact ⟨_, _, _, _, _, _, _, _, _, _, _, _, rfl, hW, (fun h => f0 (h.resolve_left (by decide))), (fun h => f1 (h.resolve_left (by decide))), (fun h => f2 (h.resolve_left (by decide))), (fun h => f3 (h.resolve_left (by decide))), (fun _ => rfl), (fun h => f5 (h.resolve_left (by decide))), (fun h => f6 (h.resolve_left (by decide))), (fun h => f7 (h.resolve_left (by decide))), (fun h => f8 (h.resolve_left (by decide))), (fun h => f9 (h.resolve_left (by decide))), (fun h => f10 (h.resolve_left (by decide))), (fun h => (f11 (h.resolve_left (by decide))).same (fun h' => h'.resolve_left (by decide))), (fun h => .inr (f12 (h.resolve_left (by decide))))⟩
          · simp only [Nat.zero_add, Nat.reduceAdd, List.getElem?_toArray, List.getElem?_cons_succ, List.getElem?_cons_zero, Option.some.injEq] at hi
            subst hi
            refine wpOp_value (v := .slice (some ⟨g, off, none⟩) n c) rfl rfl rfl ?_
            exact ⟨_, _, _, _, _, _, _, _, _, _, _, _, rfl, hW, (fun h => f0 (h.resolve_left (by decide))), (fun h => f1 (h.resolve_left (by decide))), (fun h => f2 (h.resolve_left (by decide))), (fun h => f3 (h.resolve_left (by decide))), (fun h => f4 (h.resolve_left (by decide))), (fun _ => rfl), (fun h => f6 (h.resolve_left (by decide))), (fun h => f7 (h.resolve_left (by decide))), (fun h => f8 (h.resolve_left (by decide))), (fun h => f9 (h.resolve_left (by decide))), (fun h => f10 (h.resolve_left (by decide))), (fun h => (f11 (h.resolve_left (by decide))).same (fun h' => h'.resolve_left (by decide))), (fun h => .inr (f12 (h.resolve_left (by decide))))⟩
          · simp only [Nat.zero_add, Nat.reduceAdd, List.getElem?_toArray, List.getElem?_cons_succ, List.getElem?_cons_zero, Option.some.injEq] at hi
            subst hi
            refine wpOp_value (v := .int .i64 (i : Int)) rfl rfl rfl ?_
            exact ⟨_, _, _, _, _, _, _, _, _, _, _, _, rfl, hW, (fun h => f0 (h.resolve_left (by decide))), (fun h => f1 (h.resolve_left (by decide))), (fun h => f2 (h.resolve_left (by decide))), (fun h => f3 (h.resolve_left (by decide))), (fun h => f4 (h.resolve_left (by decide))), (fun h => f5 (h.resolve_left (by decide))), (fun _ => rfl), (fun h => f7 (h.resolve_left (by decide))), (fun h => f8 (h.resolve_left (by decide))), (fun h => f9 (h.resolve_left (by decide))), (fun h => f10 (h.resolve_left (by decide))), (fun h => (f11 (h.resolve_left (by decide))).same (fun h' => h'.resolve_left (by decide))), (fun h => .inr (f12 (h.resolve_left (by decide))))⟩
          · simp only [Nat.zero_add, Nat.reduceAdd, List.getElem?_toArray, List.getElem?_cons_succ, List.getElem?_cons_zero, Option.some.injEq] at hi
            subst hi
            obtain rfl := f5 (pre_of hall 5 rfl)
            obtain rfl := f6 (pre_of hall 6 rfl)
            refine wpOp_value (v := .pointer (some ⟨g, off + i * 32, none⟩)) rfl rfl (run_idxSl rfl rfl rfl hin Try.underlying33 (by kernel_rfl)) ?_
            exact ⟨_, _, _, _, _, _, _, _, _, _, _, _, rfl, hW, (fun h => f0 (h.resolve_left (by decide))), (fun h => f1 (h.resolve_left (by decide))), (fun h => f2 (h.resolve_left (by decide))), (fun h => f3 (h.resolve_left (by decide))), (fun h => f4 (h.resolve_left (by decide))), (fun h => f5 (h.resolve_left (by decide))), (fun h => f6 (h.resolve_left (by decide))), (fun _ => rfl), (fun h => f8 (h.resolve_left (by decide))), (fun h => f9 (h.resolve_left (by decide))), (fun h => f10 (h.resolve_left (by decide))), (fun h => (f11 (h.resolve_left (by decide))).same (fun h' => h'.resolve_left (by decide))), (fun h => .inr (f12 (h.resolve_left (by decide))))⟩
          · simp only [Nat.zero_add, Nat.reduceAdd, List.getElem?_toArray, List.getElem?_cons_succ, List.getElem?_cons_zero, Option.some.injEq] at hi
            subst hi
            obtain rfl := f7 (pre_of hall 7 rfl)
            refine wpOp_value (v := .pointer (some ⟨g, off + i * 32 + 1 * 16, none⟩)) rfl rfl (run_idxArr (j := 1) rfl rfl (by decide) Try.underlying35 (by kernel_rfl)) ?_
            exact ⟨_, _, _, _, _, _, _, _, _, _, _, _, rfl, hW, (fun h => f0 (h.resolve_left (by decide))), (fun h => f1 (h.resolve_left (by decide))), (fun h => f2 (h.resolve_left (by decide))), (fun h => f3 (h.resolve_left (by decide))), (fun h => f4 (h.resolve_left (by decide))), (fun h => f5 (h.resolve_left (by decide))), (fun h => f6 (h.resolve_left (by decide))), (fun h => f7 (h.resolve_left (by decide))), (fun _ => rfl), (fun h => f9 (h.resolve_left (by decide))), (fun h => f10 (h.resolve_left (by decide))), (fun h => (f11 (h.resolve_left (by decide))).same (fun h' => h'.resolve_left (by decide))), (fun h => .inr (f12 (h.resolve_left (by decide))))⟩
          · simp only [Nat.zero_add, Nat.reduceAdd, List.getElem?_toArray, List.getElem?_cons_succ, List.getElem?_cons_zero, Option.some.injEq] at hi
            subst hi
            obtain rfl := f8 (pre_of hall 8 rfl)
            refine wpOp_value (v := .agg (ints .u8 q)) rfl rfl (run_loadRange rfl rfl (range_below hW hgw r2w) Try.ar22 ql) ?_
            exact ⟨_, _, _, _, _, _, _, _, _, _, _, _, rfl, hW, (fun h => f0 (h.resolve_left (by decide))), (fun h => f1 (h.resolve_left (by decide))), (fun h => f2 (h.resolve_left (by decide))), (fun h => f3 (h.resolve_left (by decide))), (fun h => f4 (h.resolve_left (by decide))), (fun h => f5 (h.resolve_left (by decide))), (fun h => f6 (h.resolve_left (by decide))), (fun h => f7 (h.resolve_left (by decide))), (fun h => f8 (h.resolve_left (by decide))), (fun _ => rfl), (fun h => f10 (h.resolve_left (by decide))), (fun h => (f11 (h.resolve_left (by decide))).same (fun h' => h'.resolve_left (by decide))), (fun h => .inr (f12 (h.resolve_left (by decide))))⟩
          · simp only [Nat.zero_add, Nat.reduceAdd, List.getElem?_toArray, List.getElem?_cons_succ, List.getElem?_cons_zero, Option.some.injEq] at hi
            subst hi
            obtain rfl := f4 (pre_of hall 4 rfl)
            obtain rfl := f9 (pre_of hall 9 rfl)
            refine wpOp_call 17 rfl rfl rfl Try.func17 (by kernel_rfl) (by kernel_rfl) (plus11_c _ _ pl p8 ql q8 W) ?_
            intro W' hW'
            exact ⟨_, _, _, _, _, _, _, _, _, _, _, _, rfl, bCall hW hW' hW.size, (fun h => f0 (h.resolve_left (by decide))), (fun h => f1 (h.resolve_left (by decide))), (fun h => f2 (h.resolve_left (by decide))), (fun h => f3 (h.resolve_left (by decide))), (fun h => f4 (h.resolve_left (by decide))), (fun h => f5 (h.resolve_left (by decide))), (fun h => f6 (h.resolve_left (by decide))), (fun h => f7 (h.resolve_left (by decide))), (fun h => f8 (h.resolve_left (by decide))), (fun h => f9 (h.resolve_left (by decide))), (fun _ => rfl), (fun h => (f11 (h.resolve_left (by decide))).below hW' (fun h' => h'.resolve_left (by decide))), (fun h => .inr (f12 (h.resolve_left (by decide))))⟩
          · simp only [Nat.zero_add, Nat.reduceAdd, List.getElem?_toArray, List.getElem?_cons_succ, List.getElem?_cons_zero, Option.some.injEq] at hi
            subst hi
            refine wpOp_alloc rfl rfl rfl Try.z22 ?_
            have hnS : ¬ (12 = 11 ∨ D 12) := fun h => h.elim (by decide) (fun h => hnD (f12 h))
            exact ⟨_, _, _, _, _, _, _, _, _, _, _, _, rfl, hW.alloc hW.size _, (fun h => f0 (h.resolve_left (by decide))), (fun h => f1 (h.resolve_left (by decide))), (fun h => f2 (h.resolve_left (by decide))), (fun h => f3 (h.resolve_left (by decide))), (fun h => f4 (h.resolve_left (by decide))), (fun h => f5 (h.resolve_left (by decide))), (fun h => f6 (h.resolve_left (by decide))), (fun h => f7 (h.resolve_left (by decide))), (fun h => f8 (h.resolve_left (by decide))), (fun h => f9 (h.resolve_left (by decide))), (fun h => f10 (h.resolve_left (by decide))), (fun _ => Al.new hW.size (fun h => (hnS h).elim)), (fun _ => .inl rfl)⟩
          · simp only [Nat.zero_add, Nat.reduceAdd, List.getElem?_toArray, List.getElem?_cons_succ, List.getElem?_cons_zero, Option.some.injEq] at hi
            subst hi
            obtain rfl := f10 (pre_of hall 10 rfl)
            obtain ⟨g, l, rfl, hg, hl0, hB, hst⟩ := f11 (pre_of hall 11 rfl)
            refine wpOp_store rfl rfl rfl rfl rfl hB ((ints_size _ _).trans hl0) Try.ar22 xl ?_
            exact ⟨_, _, _, _, _, _, _, _, _, _, _, _, rfl, bSetRow hW hg _, (fun h => f0 (h.resolve_left (by decide))), (fun h => f1 (h.resolve_left (by decide))), (fun h => f2 (h.resolve_left (by decide))), (fun h => f3 (h.resolve_left (by decide))), (fun h => f4 (h.resolve_left (by decide))), (fun h => f5 (h.resolve_left (by decide))), (fun h => f6 (h.resolve_left (by decide))), (fun h => f7 (h.resolve_left (by decide))), (fun h => f8 (h.resolve_left (by decide))), (fun h => f9 (h.resolve_left (by decide))), (fun h => f10 (h.resolve_left (by decide))), (fun _ => Al.set hB hg xl), (fun _ => .inr (pre_of hall 11 rfl))⟩
          · exfalso; simp at hi
        · rintro D a W ⟨u9, u19, u20, u21, u22, u23, u24, u25, u26, u27, u28, u29, rfl, hW, f0, f1, f2, f3, f4, f5, f6, f7, f8, f9, f10, f11, f12⟩ hall
          obtain rfl := f0 (hall 0 (by decide))
          obtain rfl := f1 (hall 1 (by decide))
          obtain rfl := f2 (hall 2 (by decide))
          obtain rfl := f3 (hall 3 (by decide))
          obtain rfl := f4 (hall 4 (by decide))
          obtain rfl := f5 (hall 5 (by decide))
          obtain rfl := f6 (hall 6 (by decide))
          obtain rfl := f7 (hall 7 (by decide))
          obtain rfl := f8 (hall 8 (by decide))
          obtain rfl := f9 (hall 9 (by decide))
          obtain rfl := f10 (hall 10 (by decide))
          obtain ⟨g9, l9, rfl, hg9, -, hB9, hl9⟩ := f11 (hall 11 (by decide))
          obtain rfl := hl9 (hall 12 (by decide))
          clear f0 f1 f2 f3 f4 f5 f6 f7 f8 f9 f10 f11 f12 hall
          have hbel1 := bCall hbelr hW hBw
          have C1 := C0.below' hW
          have oA := ownA.below hW
          have oB := ownB.below hW
          have oC := ownC.below hW
          clear ownA ownB ownC C0 hbelr r1w r2w hgw r1 r2 hW hBw hg9
          have hB1 := hbel1.size
          have T1 := S1.below hbel1
          have hi20 : i < 20 := by omega
          have nA : A.length + p.length < 2 ^ 40 := by omega
          have nB : B.length + q.length < 2 ^ 40 := by omega
          have nC : C.length + (xorL p q).length < 2 ^ 40 := by omega
          clear hl9 S1
          go_wp2_with (first
            | (refine wpList_append_sl_at (zs := p) rfl rfl Try.underlying23 u8_inf rfl (by omega) rfl oA rfl pl.symm T1 nA hB1 ?_; intro v1 w1 oA1 hgr hat; have hbel2 := bGrown hbel1 hgr hB1 oA (Nat.le_refl _); have C2 := C1.grownTy hgr oA (by decide); have D9 := hB9.grownTy hgr oA (by decide); have oB1 := oB.grownDis hgr dab; have oC1 := oC.grownDis hgr dac; have dab1 := dab.grown hat oB; have dac1 := dac.grown hat oC; have T2 := S2.below hbel2; have hB2 := hbel2.size; clear hgr hat oA oB oC dab dac C1 hB9 T1 hbel1 hB1; (try simp only [Act.put, List.setIfInBounds_toArray, List.set_cons_zero, List.set_cons_succ, World.size_alloc, setRow_size, Nat.add_assoc, Nat.reduceAdd]))
            | (refine wpList_append_sl_at (zs := q) rfl rfl Try.underlying23 u8_inf rfl (by omega) rfl oB1 rfl ql.symm T2 nB hB2 ?_; intro v2 w2 oB2 hgr hat; have hbel3 := bGrown hbel2 hgr hB2 oB1 (Nat.le_refl _); have C3 := C2.grownTy hgr oB1 (by decide); have E9 := D9.grownTy hgr oB1 (by decide); have oA2 := oA1.grownDis hgr dab1.symm; have oC2 := oC1.grownDis hgr dbc; have dab2 := (dab1.symm.grown hat oA1).symm; have dbc1 := dbc.grown hat oC1; have T3 := Sl.blk E9; have hB3 := hbel3.size; clear hgr hat oB1 oA1 oC1 dab1 dbc C2 D9 T2 hbel2 hB2; (try simp only [Act.put, List.setIfInBounds_toArray, List.set_cons_zero, List.set_cons_succ, World.size_alloc, setRow_size, Nat.add_assoc, Nat.reduceAdd]))
            | (refine wpList_append_sl_at (zs := xorL p q) rfl rfl Try.underlying23 u8_inf rfl (by omega) rfl oC2 rfl xl.symm T3 nC hB3 ?_; intro v3 w3 oC3 hgr hat; have hbel4 := bGrown hbel3 hgr hB3 oC2 (Nat.le_refl _); have C4 := C3.grownTy hgr oC2 (by decide); have oA3 := oA2.grownDis hgr dac1.symm; have oB3 := oB2.grownDis hgr dbc1.symm; have dac2 := (dac1.symm.grown hat oA2).symm; have dbc2 := (dbc1.symm.grown hat oB2).symm; clear hgr hat oC2 oA2 oB2 dac1 dbc1 C3 E9 T3 hbel3 hB3; (try simp only [Act.put, List.setIfInBounds_toArray, List.set_cons_zero, List.set_cons_succ, World.size_alloc, setRow_size, Nat.add_assoc, Nat.reduceAdd])))
          exact ⟨⟨i + 1, by omega, by go_num, by rw [HA.out]; exact oA3, by rw [HB.out]; exact oB3, by rw [HC.out]; exact oC3, dab2, dac2, dbc2, C4, hbel4⟩, by simp [intOf] <;> omega⟩
      · obtain rfl : i = n := by omega
        have hd1 : decide ((i : Int) < (i : Int)) = false := by simp
        rw [upF_all HN.out] at ownA ownB ownC
        have lA := mapF_len Hla.out
        have lB := mapF_len Hlb.out
        have lC := mapF_len Hlc.out
        rw [HN.out] at lA lB lC
        have kA : (xss.map halfA).flatten.length < 2 ^ 31 := by omega
        have kB : (xss.map halfB).flatten.length < 2 ^ 31 := by omega
        have kC : (xss.map halfC).flatten.length < 2 ^ 31 := by omega
        have L1 := Lib.hid fun W (hW : Below wr.heap.size wr W) => sumOwn_c hl hb kC h8c (ownC.below hW)
        have L2 := Lib.hid fun W (hW : Below wr.heap.size wr W) => sumOwn_c hl hb kA h8a (ownA.below hW)
        have L3 := Lib.hid fun W (hW : Below wr.heap.size wr W) => sumOwn_c hl hb kB h8b (ownB.below hW)
        have L4 := Lib.hid fun W => plus11_c (valL hs (xss.map halfA).flatten) (valL hs (xss.map halfB).flatten) (onL_len (zeros_len _) _) (onL_lt (zeros_lt _ (by omega)) _) (onL_len (zeros_len _) _) (onL_lt (zeros_lt _ (by omega)) _) W
        have vlc : (valL hs (xss.map halfC).flatten).length = 16 := onL_len (zeros_len _) _
        clear lA lB lC ownA ownB ownC
        go_wp2
        refine wp_region_below (by kernel_rfl) (by kernel_rfl) ?_
        refine quiet_load rfl rfl rfl C0 Try.ar22 hl ?_
        (try simp only [Act.put, List.setIfInBounds_toArray, List.set_cons_zero, List.set_cons_succ, World.size_alloc, setRow_size, Nat.add_assoc, Nat.reduceAdd])
        refine quiet_move rfl rfl rfl ?_
        (try simp only [Act.put, List.setIfInBounds_toArray, List.set_cons_zero, List.set_cons_succ, World.size_alloc, setRow_size, Nat.add_assoc, Nat.reduceAdd])
        refine quiet_call 11 rfl rfl Try.func11 (by kernel_rfl) (by kernel_rfl) (fun W hQ => L1.out W hQ) ?_
        (try simp only [Act.put, List.setIfInBounds_toArray, List.set_cons_zero, List.set_cons_succ, World.size_alloc, setRow_size, Nat.add_assoc, Nat.reduceAdd])
        refine quiet_load rfl rfl rfl C0 Try.ar22 hl ?_
        (try simp only [Act.put, List.setIfInBounds_toArray, List.set_cons_zero, List.set_cons_succ, World.size_alloc, setRow_size, Nat.add_assoc, Nat.reduceAdd])
        refine quiet_move rfl rfl rfl ?_
        (try simp only [Act.put, List.setIfInBounds_toArray, List.set_cons_zero, List.set_cons_succ, World.size_alloc, setRow_size, Nat.add_assoc, Nat.reduceAdd])
        refine quiet_call 11 rfl rfl Try.func11 (by kernel_rfl) (by kernel_rfl) (fun W hQ => L2.out W hQ) ?_
        (try simp only [Act.put, List.setIfInBounds_toArray, List.set_cons_zero, List.set_cons_succ, World.size_alloc, setRow_size, Nat.add_assoc, Nat.reduceAdd])
        refine quiet_load rfl rfl rfl C0 Try.ar22 hl ?_
        (try simp only [Act.put, List.setIfInBounds_toArray, List.set_cons_zero, List.set_cons_succ, World.size_alloc, setRow_size, Nat.add_assoc, Nat.reduceAdd])
        refine quiet_move rfl rfl rfl ?_
        (try simp only [Act.put, List.setIfInBounds_toArray, List.set_cons_zero, List.set_cons_succ, World.size_alloc, setRow_size, Nat.add_assoc, Nat.reduceAdd])
        refine quiet_call 11 rfl rfl Try.func11 (by kernel_rfl) (by kernel_rfl) (fun W hQ => L3.out W hQ) ?_
        (try simp only [Act.put, List.setIfInBounds_toArray, List.set_cons_zero, List.set_cons_succ, World.size_alloc, setRow_size, Nat.add_assoc, Nat.reduceAdd])
        refine quiet_call 17 rfl rfl Try.func17 (by kernel_rfl) (by kernel_rfl) (fun W hQ => L4.out W) ?_
        (try simp only [Act.put, List.setIfInBounds_toArray, List.set_cons_zero, List.set_cons_succ, World.size_alloc, setRow_size, Nat.add_assoc, Nat.reduceAdd])
        refine quiet_eql rfl rfl rfl rfl eg16 (same16d _ _ vlc HLIN.out) ?_
        (try simp only [Act.put, List.setIfInBounds_toArray, List.set_cons_zero, List.set_cons_succ, World.size_alloc, setRow_size, Nat.add_assoc, Nat.reduceAdd])
        refine quiet_move rfl rfl rfl ?_
        (try simp only [Act.put, List.setIfInBounds_toArray, List.set_cons_zero, List.set_cons_succ, World.size_alloc, setRow_size, Nat.add_assoc, Nat.reduceAdd])
        refine quiet_call 13 rfl rfl Try.func13 (by kernel_rfl) (by kernel_rfl) (fun W hQ => awake11_c W) ?_
        (try simp only [Act.put, List.setIfInBounds_toArray, List.set_cons_zero, List.set_cons_succ, World.size_alloc, setRow_size, Nat.add_assoc, Nat.reduceAdd])
        refine quiet_pickt (by rfl) (by rfl) (by rfl) (by rfl) (by rfl) ?_
        (try simp only [Act.put, List.setIfInBounds_toArray, List.set_cons_zero, List.set_cons_succ, World.size_alloc, setRow_size, Nat.add_assoc, Nat.reduceAdd])
        refine quiet_assign rfl rfl rfl ?_
        (try simp only [Act.put, List.setIfInBounds_toArray, List.set_cons_zero, List.set_cons_succ, World.size_alloc, setRow_size, Nat.add_assoc, Nat.reduceAdd])
        refine wpQuiet_nil ?_
        intro w' hw'
        go_wp2
        go_ret
        exact ⟨rfl, bCall hbelr hw' hbelr.size⟩
  · have hd0 : decide ((xss.length : Int) > 20) = true := by simp; omega
    go_enter Try.func6, Try.ntmps6
    go_wp2
    go_ret
    exact ⟨rfl, hbel⟩
end Go.Proofs.Ytckobbddjldflaa
