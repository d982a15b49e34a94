/- What ring's products and dots answer. No condition but that bytes are below 256. -/
import Derived.Test.YtehhipanbjhffaaW10a
namespace Go.Proofs.Ytehhipanbjhffaa
set_option linter.unusedSimpArgs false
set_option linter.unusedVariables false
set_option linter.unusedSectionVars false
set_option linter.unusedVariables false
open Go.RowKit
open Gf (W2 up down upN downN mulS mul dot dotS R1 D1)
/-- An element's number. -/
def num (bs : List Nat) : Nat := undig 256 bs
/-- A number's sixteen bytes. -/
def elem (n : Nat) : List Nat := dig 256 16 n
theorem elem_len (n : Nat) : (elem n).length = 16 := dig_length _ _ _
theorem elem_lt (n : Nat) : ∀ x ∈ elem n, x < 256 := dig_lt (by omega) _ _
theorem num_lt {bs : List Nat} (hl : bs.length = 16) (hb : ∀ x ∈ bs, x < 256) : num bs < 2 ^ 128 := by
  have := undig_lt bs hb
  rw [hl] at this
  exact this
theorem num_elem {n : Nat} (h : n < 2 ^ 128) : num (elem n) = n := by
  unfold num elem; rw [undig_dig]; exact Nat.mod_eq_of_lt h
theorem elem_num {bs : List Nat} (hl : bs.length = 16) (hb : ∀ x ∈ bs, x < 256) : elem (num bs) = bs := by
  have := dig_undig 256 bs hb
  rw [hl] at this
  exact this
theorem range_getD' {xs : List Nat} {n : Nat} (h : xs.length = n) : (List.range n).map (fun i => xs.getD i 0) = xs := by
  apply List.ext_getElem? fun i => ?_
  by_cases hi : i < n
  · rw [List.getElem?_map, List.getElem?_range hi, getD_lt (by omega)]; rfl
  · rw [List.getElem?_eq_none (by simp; omega), List.getElem?_eq_none (by omega)]
theorem halves {bs : List Nat} (hl : bs.length = 16) (hb : ∀ x ∈ bs, x < 256) : [numAt bs 0 8, numAt bs 8 8] = W2 (num bs) := by
  have h0 : numAt bs 0 8 < 18446744073709551616 := numAt_lt hb 0 8
  have e : num bs = numAt bs 0 8 + 18446744073709551616 * numAt bs 8 8 := by
    have h := range_getD' hl
    have h2 : List.range 16 = List.range 8 ++ (List.range 8).map (8 + ·) := rfl
    rw [h2, List.map_append, List.map_map] at h
    have f1 : (List.range 8).map (fun k => bs.getD (0 + k) 0) = (List.range 8).map (fun i => bs.getD i 0) := List.map_congr_left fun k _ => by rw [Nat.zero_add]
    unfold num numAt
    rw [f1]
    conv => lhs; rw [← h, undig_append]
    simp; rfl
  unfold W2
  rw [e, Nat.add_mul_mod_self_left, Nat.mod_eq_of_lt h0, Nat.add_mul_div_left _ _ (by omega), Nat.div_eq_of_lt h0, Nat.zero_add]
theorem dig_join' (b n m x y : Nat) (hb : 0 < b) (hx : x < b ^ n) : dig b n x ++ dig b m y = dig b (n + m) (x + b ^ n * y) := by
  have h := dig_undig b (dig b n x ++ dig b m y) (fun z hz => (List.mem_append.1 hz).elim (dig_lt hb n x z) (dig_lt hb m y z))
  rw [undig_append, undig_dig, undig_dig, dig_length, Nat.mod_eq_of_lt hx, List.length_append, dig_length, dig_length] at h
  rw [← h, ← dig_mod b (n + m) (x + b ^ n * y)]
  congr 1
  rw [Nat.pow_add, Nat.mod_mul, Nat.add_mul_mod_self_left, Nat.mod_eq_of_lt hx, Nat.add_mul_div_left _ _ (Nat.pow_pos hb), Nat.div_eq_of_lt hx, Nat.zero_add]
theorem loadN_c (a : Option Addr) (c m : Nat) (bs : List Nat) (hb : ∀ x ∈ bs, x < 256) (hl : bs.length = 16) (hm : m = 16) (w : World) (hs : Sl w a .u8 bs) :
    Calls Try.prog 26 #[.slice a m c] w fun e w' => e = .returned (.agg (ints .u64 (W2 (num bs)))) ∧ Below w.heap.size w w' := by
  have h := load_c a c bs hb (by rw [hl]; unfold maxLen; omega) w hs
  rw [halves hl hb, hl] at h
  rw [hm]; exact h
theorem bytesN_c (n : Nat) (hn : n < 2 ^ 128) (w : World) :
    Calls Try.prog 30 #[.agg (ints .u64 (W2 n))] w fun e w' => e = .returned (.agg (ints .u8 (elem n))) ∧ Below w.heap.size w w' := by
  have h := wbytes_c (n % 18446744073709551616) (n / 18446744073709551616) (Nat.mod_lt _ (by omega)) (by omega) w
  rw [dig_join' 256 8 8 _ _ (by omega) (Nat.mod_lt _ (by omega)), show n % 18446744073709551616 + 256 ^ 8 * (n / 18446744073709551616) = n by omega] at h
  exact h
set_option maxRecDepth 100000 in
set_option maxHeartbeats 4000000 in
theorem times10_c (as_ bs : List Nat) (hl : as_.length = 16) (hb : ∀ x ∈ as_, x < 256) (hl' : bs.length = 16) (hb' : ∀ x ∈ bs, x < 256) (w : World) :
    Calls Try.prog 12 #[.agg (ints .u8 as_), .agg (ints .u8 bs)] w fun e w' => e = .returned (.agg (ints .u8 (elem (mul R1 (num as_) (num bs))))) ∧ Below w.heap.size w w' := by
  have hx := num_lt hl hb
  have hy := num_lt hl' hb'
  have B0 := ((Blk.new w 22 (ints .u8 as_)).alloc (.cells (ints .u8 bs) 22)).alloc (.cells (ints .u8 (zeros 16)) 22)
  have B1 := (Blk.new (w.alloc (.cells (ints .u8 as_) 22)) 22 (ints .u8 bs)).alloc (.cells (ints .u8 (zeros 16)) 22)
  have B2 := Blk.new ((w.alloc (.cells (ints .u8 as_) 22)).alloc (.cells (ints .u8 bs) 22)) 22 (ints .u8 (zeros 16))
  rw [World.size_alloc] at B1
  rw [World.size_alloc, World.size_alloc] at B2
  simp only [Nat.add_assoc, Nat.reduceAdd] at B2
  have hbel := (((Below.refl w.heap.size w).alloc (Nat.le_refl _) (.cells (ints .u8 as_) 22)).alloc (by simp) (.cells (ints .u8 bs) 22)).alloc (by simp; omega) (.cells (ints .u8 (zeros 16)) 22)
  have hsz : Hid ((((w.alloc (.cells (ints .u8 as_) 22)).alloc (.cells (ints .u8 bs) 22)).alloc (.cells (ints .u8 (zeros 16)) 22)).heap.size = w.heap.size + 3) := Lib.hid (by simp)
  go_enter Try.func12, Try.ntmps12
  go_wp2_with (refine wpList_alloc_ints rfl 22 rfl Try.z22 ?_; (try simp only [Act.put, List.setIfInBounds_toArray, List.set_cons_zero, List.set_cons_succ, World.size_alloc, setRow_size, Nat.add_assoc, Nat.reduceAdd]))
  generalize (((w.alloc (.cells (ints .u8 as_) 22)).alloc (.cells (ints .u8 bs) 22)).alloc (.cells (ints .u8 (zeros 16)) 22)) = w0 at *
  have L0 := Lib.hid fun W h => loadN_c (some ⟨w.heap.size, 0, none⟩) 16 16 as_ hb hl rfl W ((Sl.blk B0).below h)
  have L1 := Lib.hid fun W h => loadN_c (some ⟨w.heap.size + 1, 0, none⟩) 16 16 bs hb' hl' rfl W ((Sl.blk B1).below h)
  have hw2 := Gf.W2_len
  refine wp_region_inv (by kernel_rfl) (by kernel_rfl) (fun D a W => ∃ u5 u6 u9 u10 u11 u12 : Value, a = { tmps := #[.agg (ints .u8 as_), .agg (ints .u8 bs), .pointer (some ⟨w.heap.size, 0, none⟩), .pointer (some ⟨w.heap.size + 1, 0, none⟩), .pointer (some ⟨w.heap.size + 2, 0, none⟩), u5, u6, undef, undef, u9, u10, u11, u12, undef, undef, undef, undef, undef, undef, undef, undef, undef, undef, undef, undef, undef, undef], defers := [] } ∧ Below w0.heap.size w0 W ∧ (D 0 → u9 = .slice (some ⟨w.heap.size, 0, none⟩) 16 16) ∧ (D 1 → u10 = .agg (ints .u64 (W2 (num as_)))) ∧ (D 2 → u11 = .slice (some ⟨w.heap.size + 1, 0, none⟩) 16 16) ∧ (D 3 → u12 = .agg (ints .u64 (W2 (num bs)))) ∧ (D 4 → Al W w0.heap.size u5 38 2 .u64 (D 6) (W2 (num as_))) ∧ (D 5 → Al W w0.heap.size u6 38 2 .u64 (D 7) (W2 (num bs))) ∧ (D 6 → D 4) ∧ (D 7 → D 5) ∧ (D 4 → D 5 → u5 ≠ u6)) ?_ ?_ ?_
  · exact ⟨_, _, _, _, _, _, rfl, ⟨rfl, rfl, rfl, Nat.le_refl _, fun _ _ => rfl⟩, (fun h => h.elim), (fun h => h.elim), (fun h => h.elim), (fun h => h.elim), (fun h => h.elim), (fun h => h.elim), (fun h => h.elim), (fun h => h.elim), (fun h => h.elim)⟩
  · intro i o hi D a W hI hnD hall
    obtain ⟨u5, u6, u9, u10, u11, u12, rfl, hW, f0, f1, f2, f3, f4, f5, f6, f7, f8⟩ := hI
    rcases i with _ | _ | _ | _ | _ | _ | _ | _ | i
    · simp only [Nat.zero_add, Nat.reduceAdd, List.getElem?_toArray, List.getElem?_cons_succ, List.getElem?_cons_zero, Option.some.injEq] at hi
      subst hi
      refine wpOp_value (v := .slice (some ⟨w.heap.size, 0, none⟩) 16 16) rfl rfl (by kernel_rfl) ?_
      exact ⟨_, _, _, _, _, _, rfl, hW, (fun _ => rfl), (fun h => f1 (h.resolve_left (by decide))), (fun h => f2 (h.resolve_left (by decide))), (fun h => f3 (h.resolve_left (by decide))), (fun h => (f4 (h.resolve_left (by decide))).same (fun h' => h'.resolve_left (by decide))), (fun h => (f5 (h.resolve_left (by decide))).same (fun h' => h'.resolve_left (by decide))), (fun h => .inr (f6 (h.resolve_left (by decide)))), (fun h => .inr (f7 (h.resolve_left (by decide)))), (fun h h2 => f8 (h.resolve_left (by decide)) (h2.resolve_left (by decide)))⟩
    · simp only [Nat.zero_add, Nat.reduceAdd, List.getElem?_toArray, List.getElem?_cons_succ, List.getElem?_cons_zero, Option.some.injEq] at hi
      subst hi
      obtain rfl := f0 (pre_of hall 0 rfl)
      refine wpOp_call 26 rfl rfl rfl Try.func26 (by kernel_rfl) (by kernel_rfl) (L0.out W hW) ?_
      intro W' hW'
      exact ⟨_, _, _, _, _, _, rfl, bCall hW hW' hW.size, (fun h => f0 (h.resolve_left (by decide))), (fun _ => rfl), (fun h => f2 (h.resolve_left (by decide))), (fun h => f3 (h.resolve_left (by decide))), (fun h => (f4 (h.resolve_left (by decide))).below hW' (fun h' => h'.resolve_left (by decide))), (fun h => (f5 (h.resolve_left (by decide))).below hW' (fun h' => h'.resolve_left (by decide))), (fun h => .inr (f6 (h.resolve_left (by decide)))), (fun h => .inr (f7 (h.resolve_left (by decide)))), (fun h h2 => f8 (h.resolve_left (by decide)) (h2.resolve_left (by decide)))⟩
    · simp only [Nat.zero_add, Nat.reduceAdd, List.getElem?_toArray, List.getElem?_cons_succ, List.getElem?_cons_zero, Option.some.injEq] at hi
      subst hi
      refine wpOp_value (v := .slice (some ⟨w.heap.size + 1, 0, none⟩) 16 16) rfl rfl (by kernel_rfl) ?_
      exact ⟨_, _, _, _, _, _, rfl, hW, (fun h => f0 (h.resolve_left (by decide))), (fun h => f1 (h.resolve_left (by decide))), (fun _ => rfl), (fun h => f3 (h.resolve_left (by decide))), (fun h => (f4 (h.resolve_left (by decide))).same (fun h' => h'.resolve_left (by decide))), (fun h => (f5 (h.resolve_left (by decide))).same (fun h' => h'.resolve_left (by decide))), (fun h => .inr (f6 (h.resolve_left (by decide)))), (fun h => .inr (f7 (h.resolve_left (by decide)))), (fun h h2 => f8 (h.resolve_left (by decide)) (h2.resolve_left (by decide)))⟩
    · simp only [Nat.zero_add, Nat.reduceAdd, List.getElem?_toArray, List.getElem?_cons_succ, List.getElem?_cons_zero, Option.some.injEq] at hi
      subst hi
      obtain rfl := f2 (pre_of hall 2 rfl)
      refine wpOp_call 26 rfl rfl rfl Try.func26 (by kernel_rfl) (by kernel_rfl) (L1.out W hW) ?_
      intro W' hW'
      exact ⟨_, _, _, _, _, _, rfl, bCall hW hW' hW.size, (fun h => f0 (h.resolve_left (by decide))), (fun h => f1 (h.resolve_left (by decide))), (fun h => f2 (h.resolve_left (by decide))), (fun _ => rfl), (fun h => (f4 (h.resolve_left (by decide))).below hW' (fun h' => h'.resolve_left (by decide))), (fun h => (f5 (h.resolve_left (by decide))).below hW' (fun h' => h'.resolve_left (by decide))), (fun h => .inr (f6 (h.resolve_left (by decide)))), (fun h => .inr (f7 (h.resolve_left (by decide)))), (fun h h2 => f8 (h.resolve_left (by decide)) (h2.resolve_left (by decide)))⟩
    · simp only [Nat.zero_add, Nat.reduceAdd, List.getElem?_toArray, List.getElem?_cons_succ, List.getElem?_cons_zero, Option.some.injEq] at hi
      subst hi
      refine wpOp_alloc rfl rfl rfl Try.z38 ?_
      have hnS : ¬ (6 = 4 ∨ D 6) := fun h => h.elim (by decide) (fun h => hnD (f6 h))
      exact ⟨_, _, _, _, _, _, rfl, hW.alloc hW.size _, (fun h => f0 (h.resolve_left (by decide))), (fun h => f1 (h.resolve_left (by decide))), (fun h => f2 (h.resolve_left (by decide))), (fun h => f3 (h.resolve_left (by decide))), (fun _ => Al.new hW.size (fun h => (hnS h).elim)), (fun h => (f5 (h.resolve_left (by decide))).alloc _ (fun h' => h'.resolve_left (by decide))), (fun _ => .inl rfl), (fun h => .inr (f7 (h.resolve_left (by decide)))), (fun _ h => (f5 (h.resolve_left (by decide))).ne_new')⟩
    · simp only [Nat.zero_add, Nat.reduceAdd, List.getElem?_toArray, List.getElem?_cons_succ, List.getElem?_cons_zero, Option.some.injEq] at hi
      subst hi
      refine wpOp_alloc rfl rfl rfl Try.z38 ?_
      have hnS : ¬ (7 = 5 ∨ D 7) := fun h => h.elim (by decide) (fun h => hnD (f7 h))
      exact ⟨_, _, _, _, _, _, rfl, hW.alloc hW.size _, (fun h => f0 (h.resolve_left (by decide))), (fun h => f1 (h.resolve_left (by decide))), (fun h => f2 (h.resolve_left (by decide))), (fun h => f3 (h.resolve_left (by decide))), (fun h => (f4 (h.resolve_left (by decide))).alloc _ (fun h' => h'.resolve_left (by decide))), (fun _ => Al.new hW.size (fun h => (hnS h).elim)), (fun h => .inr (f6 (h.resolve_left (by decide)))), (fun _ => .inl rfl), (fun h _ => (f4 (h.resolve_left (by decide))).ne_new)⟩
    · simp only [Nat.zero_add, Nat.reduceAdd, List.getElem?_toArray, List.getElem?_cons_succ, List.getElem?_cons_zero, Option.some.injEq] at hi
      subst hi
      obtain rfl := f1 (pre_of hall 1 rfl)
      obtain ⟨g, l, rfl, hg, hl0, hB, hst⟩ := f4 (pre_of hall 4 rfl)
      refine wpOp_store rfl rfl rfl rfl rfl hB ((ints_size _ _).trans hl0) Try.ar38 rfl ?_
      exact ⟨_, _, _, _, _, _, rfl, bSetRow hW hg _, (fun h => f0 (h.resolve_left (by decide))), (fun h => f1 (h.resolve_left (by decide))), (fun h => f2 (h.resolve_left (by decide))), (fun h => f3 (h.resolve_left (by decide))), (fun _ => Al.set hB hg rfl), (fun h => (f5 (h.resolve_left (by decide))).far (fun e => f8 (pre_of hall 4 rfl) (pre_of hall 5 rfl) e.symm) (fun h' => h'.resolve_left (by decide))), (fun _ => .inr (pre_of hall 4 rfl)), (fun h => .inr (f7 (h.resolve_left (by decide)))), (fun h h2 => f8 (h.resolve_left (by decide)) (h2.resolve_left (by decide)))⟩
    · simp only [Nat.zero_add, Nat.reduceAdd, List.getElem?_toArray, List.getElem?_cons_succ, List.getElem?_cons_zero, Option.some.injEq] at hi
      subst hi
      obtain rfl := f3 (pre_of hall 3 rfl)
      obtain ⟨g, l, rfl, hg, hl0, hB, hst⟩ := f5 (pre_of hall 5 rfl)
      refine wpOp_store rfl rfl rfl rfl rfl hB ((ints_size _ _).trans hl0) Try.ar38 rfl ?_
      exact ⟨_, _, _, _, _, _, rfl, bSetRow hW hg _, (fun h => f0 (h.resolve_left (by decide))), (fun h => f1 (h.resolve_left (by decide))), (fun h => f2 (h.resolve_left (by decide))), (fun h => f3 (h.resolve_left (by decide))), (fun h => (f4 (h.resolve_left (by decide))).far (fun e => f8 (pre_of hall 4 rfl) (pre_of hall 5 rfl) e) (fun h' => h'.resolve_left (by decide))), (fun _ => Al.set hB hg rfl), (fun h => .inr (f6 (h.resolve_left (by decide)))), (fun _ => .inr (pre_of hall 5 rfl)), (fun h h2 => f8 (h.resolve_left (by decide)) (h2.resolve_left (by decide)))⟩
    · exfalso; simp at hi
  · rintro D a W ⟨u5, u6, u9, u10, u11, u12, rfl, hW, f0, f1, f2, f3, f4, f5, f6, f7, f8⟩ hall
    obtain rfl := f0 (hall 0 (by decide))
    obtain rfl := f1 (hall 1 (by decide))
    obtain rfl := f2 (hall 2 (by decide))
    obtain rfl := f3 (hall 3 (by decide))
    obtain ⟨g5, l5, rfl, hg5, -, hB5, hl5⟩ := f4 (hall 4 (by decide))
    obtain rfl := hl5 (hall 6 (by decide))
    obtain ⟨g6, l6, rfl, hg6, -, hB6, hl6⟩ := f5 (hall 5 (by decide))
    obtain rfl := hl6 (hall 7 (by decide))
    have hne8 := f8 (hall 4 (by decide)) (hall 5 (by decide))
    clear f0 f1 f2 f3 f4 f5 f6 f7 f8 hall
    have hbel1 := bCall hbel hW (by have := hsz.out; omega)
    have K2 := B2.below' hW
    have l2 := B2.lt
    have hne : g5 ≠ g6 := by intro h; apply hne8; rw [h]
    clear B0 B1 B2 hW hbel L0 L1
    generalize hxd : num as_ = x at *
    generalize hyd : num bs = y at *
    have Hxd := Lib.hid hxd
    have Hyd := Lib.hid hyd
    clear hxd hyd
    go_wp2_with (refine wpList_alloc_ints rfl 38 rfl Try.z38 ?_; (try simp only [Act.put, List.setIfInBounds_toArray, List.set_cons_zero, List.set_cons_succ, World.size_alloc, setRow_size, Nat.add_assoc, Nat.reduceAdd]))
    have hlW := hB5.lt
    have hlW6 := hB6.lt
    have hlK := K2.lt
    have Z := Blk.new W 38 (ints .u64 (zeros 2))
    have A5 := hB5.alloc (.cells (ints .u64 (zeros 2)) 38)
    have A6 := hB6.alloc (.cells (ints .u64 (zeros 2)) 38)
    have A2 := K2.alloc (.cells (ints .u64 (zeros 2)) 38)
    have hbel2 := hbel1.alloc hbel1.size (.cells (ints .u64 (zeros 2)) 38)
    have hgsl := hbel1.size
    clear hB5 hB6 K2 hbel1
    generalize (W.alloc (.cells (ints .u64 (zeros 2)) 38)) = w1 at *
    generalize W.heap.size = gs at *
    go_loopw [13] (fun t wr => ∃ i : Nat, i ≤ 128 ∧ t = .int .i64 i ∧ Blk wr (w.heap.size + 2) 22 (ints .u8 (zeros 16)) ∧ Blk wr g5 38 (ints .u64 (W2 (upN R1 i x))) ∧ Blk wr g6 38 (ints .u64 (W2 y)) ∧ Blk wr gs 38 (ints .u64 (W2 (mulS R1 x y i))) ∧ Below w.heap.size w wr) (fun t wr => 128 - (intOf t).toNat)
    case atStart => exact ⟨0, by omega, rfl, A2, A5, A6, by rw [show W2 (mulS R1 x y 0) = zeros 2 by show W2 0 = zeros 2; decide]; exact Z, hbel2⟩
    case round =>
      rename_i hrel
      obtain ⟨i, hi, rfl, C0, C1, C2, C3, hbelr⟩ := hrel
      have hX := Gf.upN_lt Gf.R1_lt hx i
      have hS := Gf.mulS_lt Gf.R1_lt hx y i
      by_cases hlt : i < 128
      · have hnx : mulS R1 x y (i + 1) = mulS R1 x y i ^^^ y / 2 ^ i % 2 * upN R1 i x := by
          show mulS R1 x y i ^^^ _ = _
          rw [Gf.if_bit]
        have hux : upN R1 (i + 1) x = up R1 (upN R1 i x) := rfl
        have HX := Lib.hid hnx
        have HU := Lib.hid hux
        clear hnx hux
        generalize mulS R1 x y i = S at *
        generalize upN R1 i x = X at *
        have hle := Gf.bit_le y i
        go_wp2
        refine wp_region_last 6 (by kernel_rfl) (by kernel_rfl) (by kernel_rfl) (by kernel_rfl) (fun D a W => ∃ u16 u17 u18 u19 u20 u21 u22 u23 u24 : Value, a = { tmps := #[.agg (ints .u8 as_), .agg (ints .u8 bs), .pointer (some ⟨w.heap.size, 0, none⟩), .pointer (some ⟨w.heap.size + 1, 0, none⟩), .pointer (some ⟨w.heap.size + 2, 0, none⟩), .pointer (some ⟨g5, 0, none⟩), .pointer (some ⟨g6, 0, none⟩), .pointer (some ⟨gs, 0, none⟩), .int .i64 i, .slice (some ⟨w.heap.size, 0, none⟩) 16 16, .agg (ints .u64 (W2 x)), .slice (some ⟨w.heap.size + 1, 0, none⟩) 16 16, .agg (ints .u64 (W2 y)), .int .i64 i, .bool (decide ((i : Int) < 128)), .int .i64 i, u16, u17, u18, u19, u20, u21, u22, u23, u24, undef, undef], defers := [] } ∧ Below wr.heap.size wr W ∧ (D 0 → u16 = .agg (ints .u64 (W2 S))) ∧ (D 1 → u17 = .agg (ints .u64 (W2 X))) ∧ (D 2 → u18 = .agg (ints .u64 (W2 y))) ∧ (D 3 → u19 = .int .i64 i) ∧ (D 4 → u20 = .int .u64 ((y / 2 ^ i % 2 : Nat) : Int)) ∧ (D 5 → u21 = .agg (ints .u64 (W2 (S ^^^ y / 2 ^ i % 2 * X))))) ?_ ?_ ?_
        · exact ⟨_, _, _, _, _, _, _, _, _, rfl, ⟨rfl, rfl, rfl, Nat.le_refl _, fun _ _ => rfl⟩, (fun h => h.elim), (fun h => h.elim), (fun h => h.elim), (fun h => h.elim), (fun h => h.elim), (fun h => h.elim)⟩
        · intro i o hilt hi D a W hI hnD hall
          obtain ⟨u16, u17, u18, u19, u20, u21, u22, u23, u24, rfl, hW, f0, f1, f2, f3, f4, f5⟩ := hI
          rcases i with _ | _ | _ | _ | _ | _ | i
          · simp only [Nat.zero_add, Nat.reduceAdd, List.getElem?_toArray, List.getElem?_cons_succ, List.getElem?_cons_zero, Option.some.injEq] at hi
            subst hi
            refine wpOp_load rfl rfl rfl rfl (C3.below' hW) Try.ar38 rfl ?_
            exact ⟨_, _, _, _, _, _, _, _, _, rfl, hW, (fun _ => rfl), (fun h => f1 (h.resolve_left (by decide))), (fun h => f2 (h.resolve_left (by decide))), (fun h => f3 (h.resolve_left (by decide))), (fun h => f4 (h.resolve_left (by decide))), (fun h => f5 (h.resolve_left (by decide)))⟩
          · simp only [Nat.zero_add, Nat.reduceAdd, List.getElem?_toArray, List.getElem?_cons_succ, List.getElem?_cons_zero, Option.some.injEq] at hi
            subst hi
            refine wpOp_load rfl rfl rfl rfl (C1.below' hW) Try.ar38 rfl ?_
            exact ⟨_, _, _, _, _, _, _, _, _, rfl, hW, (fun h => f0 (h.resolve_left (by decide))), (fun _ => rfl), (fun h => f2 (h.resolve_left (by decide))), (fun h => f3 (h.resolve_left (by decide))), (fun h => f4 (h.resolve_left (by decide))), (fun h => f5 (h.resolve_left (by decide)))⟩
          · simp only [Nat.zero_add, Nat.reduceAdd, List.getElem?_toArray, List.getElem?_cons_succ, List.getElem?_cons_zero, Option.some.injEq] at hi
            subst hi
            refine wpOp_load rfl rfl rfl rfl (C2.below' hW) Try.ar38 rfl ?_
            exact ⟨_, _, _, _, _, _, _, _, _, rfl, hW, (fun h => f0 (h.resolve_left (by decide))), (fun h => f1 (h.resolve_left (by decide))), (fun _ => rfl), (fun h => f3 (h.resolve_left (by decide))), (fun h => f4 (h.resolve_left (by decide))), (fun h => f5 (h.resolve_left (by decide)))⟩
          · simp only [Nat.zero_add, Nat.reduceAdd, List.getElem?_toArray, List.getElem?_cons_succ, List.getElem?_cons_zero, Option.some.injEq] at hi
            subst hi
            refine wpOp_value (v := .int .i64 i) rfl rfl rfl ?_
            exact ⟨_, _, _, _, _, _, _, _, _, rfl, hW, (fun h => f0 (h.resolve_left (by decide))), (fun h => f1 (h.resolve_left (by decide))), (fun h => f2 (h.resolve_left (by decide))), (fun _ => rfl), (fun h => f4 (h.resolve_left (by decide))), (fun h => f5 (h.resolve_left (by decide)))⟩
          · simp only [Nat.zero_add, Nat.reduceAdd, List.getElem?_toArray, List.getElem?_cons_succ, List.getElem?_cons_zero, Option.some.injEq] at hi
            subst hi
            obtain rfl := f2 (pre_of hall 2 rfl)
            obtain rfl := f3 (pre_of hall 3 rfl)
            refine wpOp_call 28 rfl rfl rfl Try.func28 (by kernel_rfl) (by kernel_rfl) (bit_c y i hy hlt W) ?_
            intro W' hW'
            exact ⟨_, _, _, _, _, _, _, _, _, rfl, bCall hW hW' hW.size, (fun h => f0 (h.resolve_left (by decide))), (fun h => f1 (h.resolve_left (by decide))), (fun h => f2 (h.resolve_left (by decide))), (fun h => f3 (h.resolve_left (by decide))), (fun _ => rfl), (fun h => f5 (h.resolve_left (by decide)))⟩
          · simp only [Nat.zero_add, Nat.reduceAdd, List.getElem?_toArray, List.getElem?_cons_succ, List.getElem?_cons_zero, Option.some.injEq] at hi
            subst hi
            obtain rfl := f0 (pre_of hall 0 rfl)
            obtain rfl := f1 (pre_of hall 1 rfl)
            obtain rfl := f4 (pre_of hall 4 rfl)
            refine wpOp_call 27 rfl rfl rfl Try.func27 (by kernel_rfl) (by kernel_rfl) (plus10_c S X (y / 2 ^ i % 2) hS hX hle W) ?_
            intro W' hW'
            exact ⟨_, _, _, _, _, _, _, _, _, rfl, bCall hW hW' hW.size, (fun h => f0 (h.resolve_left (by decide))), (fun h => f1 (h.resolve_left (by decide))), (fun h => f2 (h.resolve_left (by decide))), (fun h => f3 (h.resolve_left (by decide))), (fun h => f4 (h.resolve_left (by decide))), (fun _ => rfl)⟩
          · exfalso; omega
        · rintro D a W ⟨u16, u17, u18, u19, u20, u21, u22, u23, u24, rfl, hW, f0, f1, f2, f3, f4, f5⟩ hall
          obtain rfl := f0 (hall 0 (by decide))
          obtain rfl := f1 (hall 1 (by decide))
          obtain rfl := f2 (hall 2 (by decide))
          obtain rfl := f3 (hall 3 (by decide))
          obtain rfl := f4 (hall 4 (by decide))
          obtain rfl := f5 (hall 5 (by decide))
          clear f0 f1 f2 f3 f4 f5 hall
          have hlg := C3.lt
          have C0' := C0.below' hW
          have C1' := C1.below' hW
          have C2' := C2.below' hW
          have C3' := C3.below' hW
          have hbel3 := bCall hbelr hW hbelr.size
          have D3 := C3'.row (ints .u64 (W2 (S ^^^ y / 2 ^ i % 2 * X)))
          have D0 := C0'.rowFar (show w.heap.size + 2 ≠ gs by omega) (ints .u64 (W2 (S ^^^ y / 2 ^ i % 2 * X)))
          have D1 := C1'.rowFar (show g5 ≠ gs by omega) (ints .u64 (W2 (S ^^^ y / 2 ^ i % 2 * X)))
          have D2 := C2'.rowFar (show g6 ≠ gs by omega) (ints .u64 (W2 (S ^^^ y / 2 ^ i % 2 * X)))
          have hbel4 := bSetRow hbel3 hgsl (ints .u64 (W2 (S ^^^ y / 2 ^ i % 2 * X)))
          refine wpOp_store rfl rfl rfl rfl rfl C3' rfl Try.ar38 rfl ?_
          clear C0' C1' C2' C3' hbel3 C0 C1 C2 C3 hW
          generalize W.setRow gs (ints .u64 (W2 (S ^^^ y / 2 ^ i % 2 * X))) = w3 at *
          go_wp2_with (refine wpList_load_ints rfl 38 _ rfl g5 rfl D1 Try.ar38 rfl ?_; (try simp only [Act.put, List.setIfInBounds_toArray, List.set_cons_zero, List.set_cons_succ, World.size_alloc, setRow_size, Nat.add_assoc, Nat.reduceAdd]))
          refine (up_c X hX _).mono ?_
          rintro e w4 ⟨rfl, hb4⟩
          have E0 := (D0.below' hb4).rowFar (show w.heap.size + 2 ≠ g5 by omega) (ints .u64 (W2 (up R1 X)))
          have E1 := (D1.below' hb4)
          have E1' := E1.row (ints .u64 (W2 (up R1 X)))
          have E2 := (D2.below' hb4).rowFar (show g6 ≠ g5 by omega) (ints .u64 (W2 (up R1 X)))
          have E3 := (D3.below' hb4).rowFar (show gs ≠ g5 by omega) (ints .u64 (W2 (up R1 X)))
          have hbel5 := bSetRow (bCall hbel4 hb4 hbel4.size) (show w.heap.size ≤ g5 by omega) (ints .u64 (W2 (up R1 X)))
          clear D0 D1 D2 D3 hbel4 hb4
          go_wp2_with (refine wpList_store_ints rfl 38 _ _ rfl g5 rfl rfl E1 rfl Try.ar38 rfl ?_; (try simp only [Act.put, List.setIfInBounds_toArray, List.set_cons_zero, List.set_cons_succ, World.size_alloc, setRow_size, Nat.add_assoc, Nat.reduceAdd]))
          rw [← HU.out] at E0 E1' E2 E3 hbel5 ⊢
          rw [← HX.out] at E3
          exact ⟨⟨i + 1, by omega, by go_num, E0, E1', E2, E3, hbel5⟩, by simp [intOf] <;> omega⟩
      · obtain rfl : i = 128 := by omega
        have he : mulS R1 x y 128 = mul R1 x y := rfl
        rw [he] at C3 hS
        have hel := elem_len (mul R1 x y)
        go_wp2_with (refine wpList_load_ints rfl 38 _ rfl gs rfl C3 Try.ar38 rfl ?_; (try simp only [Act.put, List.setIfInBounds_toArray, List.set_cons_zero, List.set_cons_succ, World.size_alloc, setRow_size, Nat.add_assoc, Nat.reduceAdd]))
        refine (bytesN_c _ hS _).mono ?_
        rintro e w4 ⟨rfl, hb4⟩
        have E0 := C0.below' hb4
        have hbel5 := bCall hbelr hb4 hbelr.size
        go_wp2_with (refine wpList_store_ints rfl 22 _ _ rfl (w.heap.size + 2) rfl rfl E0 (zeros_size _ _) Try.ar22 hel ?_; (try simp only [Act.put, List.setIfInBounds_toArray, List.set_cons_zero, List.set_cons_succ, World.size_alloc, setRow_size, Nat.add_assoc, Nat.reduceAdd]))
        exact ret_ints rfl rfl (E0.row _) Try.ar22 hel ⟨by rw [Hxd.out, Hyd.out], bSetRow hbel5 (by omega) _⟩
set_option maxRecDepth 100000 in
set_option maxHeartbeats 4000000 in
theorem dotw_c (x y : Nat) (hx : x < 2 ^ 128) (hy : y < 2 ^ 128) (w : World) :
    Calls Try.prog 34 #[.agg (ints .u64 (W2 x)), .agg (ints .u64 (W2 y))] w fun e w' => e = .returned (.agg (ints .u64 (W2 (dot R1 D1 x y)))) ∧ Below w.heap.size w w' := by
  have B0 := (((Blk.new w 38 (ints .u64 (W2 x))).alloc (.cells (ints .u64 (W2 y)) 38)).alloc (.cells (ints .u64 (zeros 2)) 38)).alloc (.cells (ints .u64 (zeros 2)) 38)
  have B1 := ((Blk.new (w.alloc (.cells (ints .u64 (W2 x)) 38)) 38 (ints .u64 (W2 y))).alloc (.cells (ints .u64 (zeros 2)) 38)).alloc (.cells (ints .u64 (zeros 2)) 38)
  have B2 := (Blk.new ((w.alloc (.cells (ints .u64 (W2 x)) 38)).alloc (.cells (ints .u64 (W2 y)) 38)) 38 (ints .u64 (zeros 2))).alloc (.cells (ints .u64 (zeros 2)) 38)
  have B3 := Blk.new (((w.alloc (.cells (ints .u64 (W2 x)) 38)).alloc (.cells (ints .u64 (W2 y)) 38)).alloc (.cells (ints .u64 (zeros 2)) 38)) 38 (ints .u64 (zeros 2))
  rw [World.size_alloc] at B1
  rw [World.size_alloc, World.size_alloc] at B2
  rw [World.size_alloc, World.size_alloc, World.size_alloc] at B3
  simp only [Nat.add_assoc, Nat.reduceAdd] at B2 B3
  have hbel := ((((Below.refl w.heap.size w).alloc (Nat.le_refl _) (.cells (ints .u64 (W2 x)) 38)).alloc (by simp) (.cells (ints .u64 (W2 y)) 38)).alloc (by simp; omega) (.cells (ints .u64 (zeros 2)) 38)).alloc (by simp; omega) (.cells (ints .u64 (zeros 2)) 38)
  go_enter Try.func34, Try.ntmps34
  go_wp2_with (refine wpList_alloc_ints rfl 38 rfl Try.z38 ?_; (try simp only [Act.put, List.setIfInBounds_toArray, List.set_cons_zero, List.set_cons_succ, World.size_alloc, setRow_size, Nat.add_assoc, Nat.reduceAdd]))
  generalize ((((w.alloc (.cells (ints .u64 (W2 x)) 38)).alloc (.cells (ints .u64 (W2 y)) 38)).alloc (.cells (ints .u64 (zeros 2)) 38)).alloc (.cells (ints .u64 (zeros 2)) 38)) = w1 at *
  go_loopw [7] (fun t wr => ∃ i : Nat, i ≤ 128 ∧ t = .int .i64 i ∧ Blk wr w.heap.size 38 (ints .u64 (W2 x)) ∧ Blk wr (w.heap.size + 1) 38 (ints .u64 (W2 y)) ∧ Blk wr (w.heap.size + 2) 38 (ints .u64 (zeros 2)) ∧ Blk wr (w.heap.size + 3) 38 (ints .u64 (W2 (dotS D1 x y i))) ∧ Below w.heap.size w wr) (fun t wr => 128 - (intOf t).toNat)
  case atStart => exact ⟨0, by omega, rfl, B0, B1, B2, by rw [show W2 (dotS D1 x y 0) = zeros 2 by show W2 0 = zeros 2; decide]; exact B3, hbel⟩
  case round =>
    rename_i hrel
    obtain ⟨i, hi, rfl, C0, C1, C2, C3, hbelr⟩ := hrel
    have hS : dotS D1 x y i < 2 ^ 128 := by rw [Gf.dotS_eq Gf.pair1 hx]; exact Gf.downN_lt Gf.pair1.d (Gf.mulS_lt Gf.R1_lt hx y i) i
    by_cases hlt : i < 128
    · have hnx : dotS D1 x y (i + 1) = down D1 (dotS D1 x y i ^^^ y / 2 ^ i % 2 * x) := by
        show down D1 (_ ^^^ _) = _
        rw [Gf.if_bit]
      have HX := Lib.hid hnx
      clear hnx
      generalize dotS D1 x y i = S at *
      have hle := Gf.bit_le y i
      have hT : S ^^^ y / 2 ^ i % 2 * x < 2 ^ 128 := Nat.xor_lt_two_pow hS (by rcases (show y / 2 ^ i % 2 = 0 ∨ y / 2 ^ i % 2 = 1 by omega) with h | h <;> rw [h] <;> simp <;> omega)
      go_wp2
      refine wp_region_last 7 (by kernel_rfl) (by kernel_rfl) (by kernel_rfl) (by kernel_rfl) (fun D a W => ∃ u10 u11 u12 u13 u14 u15 u16 u17 : Value, a = { tmps := #[.agg (ints .u64 (W2 x)), .agg (ints .u64 (W2 y)), .pointer (some ⟨w.heap.size, 0, none⟩), .pointer (some ⟨w.heap.size + 1, 0, none⟩), .pointer (some ⟨w.heap.size + 2, 0, none⟩), .pointer (some ⟨w.heap.size + 3, 0, none⟩), .int .i64 i, .int .i64 i, .bool (decide ((i : Int) < 128)), .int .i64 i, u10, u11, u12, u13, u14, u15, u16, u17, undef], defers := [] } ∧ Below wr.heap.size wr W ∧ (D 0 → u10 = .agg (ints .u64 (W2 S))) ∧ (D 1 → u11 = .agg (ints .u64 (W2 x))) ∧ (D 2 → u12 = .agg (ints .u64 (W2 y))) ∧ (D 3 → u13 = .int .i64 i) ∧ (D 4 → u14 = .int .u64 ((y / 2 ^ i % 2 : Nat) : Int)) ∧ (D 5 → u15 = .agg (ints .u64 (W2 (S ^^^ y / 2 ^ i % 2 * x)))) ∧ (D 6 → u16 = .agg (ints .u64 (W2 (down D1 (S ^^^ y / 2 ^ i % 2 * x)))))) ?_ ?_ ?_
      · exact ⟨_, _, _, _, _, _, _, _, rfl, ⟨rfl, rfl, rfl, Nat.le_refl _, fun _ _ => rfl⟩, (fun h => h.elim), (fun h => h.elim), (fun h => h.elim), (fun h => h.elim), (fun h => h.elim), (fun h => h.elim), (fun h => h.elim)⟩
      · intro i o hilt hi D a W hI hnD hall
        obtain ⟨u10, u11, u12, u13, u14, u15, u16, u17, rfl, hW, f0, f1, f2, f3, f4, f5, f6⟩ := hI
        rcases i with _ | _ | _ | _ | _ | _ | _ | i
        · simp only [Nat.zero_add, Nat.reduceAdd, List.getElem?_toArray, List.getElem?_cons_succ, List.getElem?_cons_zero, Option.some.injEq] at hi
          subst hi
          refine wpOp_load rfl rfl rfl rfl (C3.below' hW) Try.ar38 rfl ?_
          exact ⟨_, _, _, _, _, _, _, _, rfl, hW, (fun _ => rfl), (fun h => f1 (h.resolve_left (by decide))), (fun h => f2 (h.resolve_left (by decide))), (fun h => f3 (h.resolve_left (by decide))), (fun h => f4 (h.resolve_left (by decide))), (fun h => f5 (h.resolve_left (by decide))), (fun h => f6 (h.resolve_left (by decide)))⟩
        · simp only [Nat.zero_add, Nat.reduceAdd, List.getElem?_toArray, List.getElem?_cons_succ, List.getElem?_cons_zero, Option.some.injEq] at hi
          subst hi
          refine wpOp_load rfl rfl rfl rfl (C0.below' hW) Try.ar38 rfl ?_
          exact ⟨_, _, _, _, _, _, _, _, rfl, hW, (fun h => f0 (h.resolve_left (by decide))), (fun _ => rfl), (fun h => f2 (h.resolve_left (by decide))), (fun h => f3 (h.resolve_left (by decide))), (fun h => f4 (h.resolve_left (by decide))), (fun h => f5 (h.resolve_left (by decide))), (fun h => f6 (h.resolve_left (by decide)))⟩
        · simp only [Nat.zero_add, Nat.reduceAdd, List.getElem?_toArray, List.getElem?_cons_succ, List.getElem?_cons_zero, Option.some.injEq] at hi
          subst hi
          refine wpOp_load rfl rfl rfl rfl (C1.below' hW) Try.ar38 rfl ?_
          exact ⟨_, _, _, _, _, _, _, _, rfl, hW, (fun h => f0 (h.resolve_left (by decide))), (fun h => f1 (h.resolve_left (by decide))), (fun _ => rfl), (fun h => f3 (h.resolve_left (by decide))), (fun h => f4 (h.resolve_left (by decide))), (fun h => f5 (h.resolve_left (by decide))), (fun h => f6 (h.resolve_left (by decide)))⟩
        · simp only [Nat.zero_add, Nat.reduceAdd, List.getElem?_toArray, List.getElem?_cons_succ, List.getElem?_cons_zero, Option.some.injEq] at hi
          subst hi
          refine wpOp_value (v := .int .i64 i) rfl rfl rfl ?_
          exact ⟨_, _, _, _, _, _, _, _, rfl, hW, (fun h => f0 (h.resolve_left (by decide))), (fun h => f1 (h.resolve_left (by decide))), (fun h => f2 (h.resolve_left (by decide))), (fun _ => rfl), (fun h => f4 (h.resolve_left (by decide))), (fun h => f5 (h.resolve_left (by decide))), (fun h => f6 (h.resolve_left (by decide)))⟩
        · simp only [Nat.zero_add, Nat.reduceAdd, List.getElem?_toArray, List.getElem?_cons_succ, List.getElem?_cons_zero, Option.some.injEq] at hi
          subst hi
          obtain rfl := f2 (pre_of hall 2 rfl)
          obtain rfl := f3 (pre_of hall 3 rfl)
          refine wpOp_call 28 rfl rfl rfl Try.func28 (by kernel_rfl) (by kernel_rfl) (bit_c y i hy hlt W) ?_
          intro W' hW'
          exact ⟨_, _, _, _, _, _, _, _, rfl, bCall hW hW' hW.size, (fun h => f0 (h.resolve_left (by decide))), (fun h => f1 (h.resolve_left (by decide))), (fun h => f2 (h.resolve_left (by decide))), (fun h => f3 (h.resolve_left (by decide))), (fun _ => rfl), (fun h => f5 (h.resolve_left (by decide))), (fun h => f6 (h.resolve_left (by decide)))⟩
        · simp only [Nat.zero_add, Nat.reduceAdd, List.getElem?_toArray, List.getElem?_cons_succ, List.getElem?_cons_zero, Option.some.injEq] at hi
          subst hi
          obtain rfl := f0 (pre_of hall 0 rfl)
          obtain rfl := f1 (pre_of hall 1 rfl)
          obtain rfl := f4 (pre_of hall 4 rfl)
          refine wpOp_call 27 rfl rfl rfl Try.func27 (by kernel_rfl) (by kernel_rfl) (plus10_c S x (y / 2 ^ i % 2) hS hx hle W) ?_
          intro W' hW'
          exact ⟨_, _, _, _, _, _, _, _, rfl, bCall hW hW' hW.size, (fun h => f0 (h.resolve_left (by decide))), (fun h => f1 (h.resolve_left (by decide))), (fun h => f2 (h.resolve_left (by decide))), (fun h => f3 (h.resolve_left (by decide))), (fun h => f4 (h.resolve_left (by decide))), (fun _ => rfl), (fun h => f6 (h.resolve_left (by decide)))⟩
        · simp only [Nat.zero_add, Nat.reduceAdd, List.getElem?_toArray, List.getElem?_cons_succ, List.getElem?_cons_zero, Option.some.injEq] at hi
          subst hi
          obtain rfl := f5 (pre_of hall 5 rfl)
          refine wpOp_call 41 rfl rfl rfl Try.func41 (by kernel_rfl) (by kernel_rfl) (down_c (S ^^^ y / 2 ^ i % 2 * x) hT W) ?_
          intro W' hW'
          exact ⟨_, _, _, _, _, _, _, _, rfl, bCall hW hW' hW.size, (fun h => f0 (h.resolve_left (by decide))), (fun h => f1 (h.resolve_left (by decide))), (fun h => f2 (h.resolve_left (by decide))), (fun h => f3 (h.resolve_left (by decide))), (fun h => f4 (h.resolve_left (by decide))), (fun h => f5 (h.resolve_left (by decide))), (fun _ => rfl)⟩
        · exfalso; omega
      · rintro D a W ⟨u10, u11, u12, u13, u14, u15, u16, u17, rfl, hW, f0, f1, f2, f3, f4, f5, f6⟩ hall
        obtain rfl := f0 (hall 0 (by decide))
        obtain rfl := f1 (hall 1 (by decide))
        obtain rfl := f2 (hall 2 (by decide))
        obtain rfl := f3 (hall 3 (by decide))
        obtain rfl := f4 (hall 4 (by decide))
        obtain rfl := f5 (hall 5 (by decide))
        obtain rfl := f6 (hall 6 (by decide))
        clear f0 f1 f2 f3 f4 f5 f6 hall
        have C0' := C0.below' hW
        have C1' := C1.below' hW
        have C2' := C2.below' hW
        have C3' := C3.below' hW
        have hbel3 := bCall hbelr hW hbelr.size
        have D3 := C3'.row (ints .u64 (W2 (down D1 (S ^^^ y / 2 ^ i % 2 * x))))
        have D0 := C0'.rowFar (show w.heap.size ≠ w.heap.size + 3 by omega) (ints .u64 (W2 (down D1 (S ^^^ y / 2 ^ i % 2 * x))))
        have D1' := C1'.rowFar (show w.heap.size + 1 ≠ w.heap.size + 3 by omega) (ints .u64 (W2 (down D1 (S ^^^ y / 2 ^ i % 2 * x))))
        have D2 := C2'.rowFar (show w.heap.size + 2 ≠ w.heap.size + 3 by omega) (ints .u64 (W2 (down D1 (S ^^^ y / 2 ^ i % 2 * x))))
        have hbel4 := bSetRow hbel3 (show w.heap.size ≤ w.heap.size + 3 by omega) (ints .u64 (W2 (down D1 (S ^^^ y / 2 ^ i % 2 * x))))
        refine wpOp_store rfl rfl rfl rfl rfl C3' rfl Try.ar38 rfl ?_
        clear C0' C1' C2' C3' hbel3 C0 C1 C2 C3 hW
        rw [← HX.out] at D0 D1' D2 D3 hbel4 ⊢
        go_wp2
        exact ⟨⟨i + 1, by omega, by go_num, D0, D1', D2, D3, hbel4⟩, by simp [intOf] <;> omega⟩
    · obtain rfl : i = 128 := by omega
      have he : dotS D1 x y 128 = dot R1 D1 x y := Gf.dotS_eq Gf.pair1 hx y 128
      rw [he] at C3
      clear he
      go_wp2_with (first | (refine wpList_load_ints rfl 38 _ rfl (w.heap.size + 3) rfl C3 Try.ar38 rfl ?_; (try simp only [Act.put, List.setIfInBounds_toArray, List.set_cons_zero, List.set_cons_succ, World.size_alloc, setRow_size, Nat.add_assoc, Nat.reduceAdd])) | (refine wpList_store_ints rfl 38 _ _ rfl (w.heap.size + 2) rfl rfl C2 (zeros_size _ _) Try.ar38 rfl ?_; (try simp only [Act.put, List.setIfInBounds_toArray, List.set_cons_zero, List.set_cons_succ, World.size_alloc, setRow_size, Nat.add_assoc, Nat.reduceAdd])))
      exact ret_ints rfl rfl (C2.row _) Try.ar38 rfl ⟨rfl, bSetRow hbelr (by omega) _⟩
set_option maxRecDepth 100000 in
set_option maxHeartbeats 4000000 in
theorem dot10_c (as_ bs : List Nat) (hl : as_.length = 16) (hb : ∀ x ∈ as_, x < 256) (hl' : bs.length = 16) (hb' : ∀ x ∈ bs, x < 256) (w : World) :
    Calls Try.prog 14 #[.agg (ints .u8 as_), .agg (ints .u8 bs)] w fun e w' => e = .returned (.agg (ints .u8 (elem (dot R1 D1 (num as_) (num bs))))) ∧ Below w.heap.size w w' := by
  have hx := num_lt hl hb
  have hy := num_lt hl' hb'
  have hd := Gf.dot_lt Gf.pair1 hx (num bs)
  have hel := elem_len (dot R1 D1 (num as_) (num bs))
  have B0 := ((Blk.new w 22 (ints .u8 as_)).alloc (.cells (ints .u8 bs) 22)).alloc (.cells (ints .u8 (zeros 16)) 22)
  have B1 := (Blk.new (w.alloc (.cells (ints .u8 as_) 22)) 22 (ints .u8 bs)).alloc (.cells (ints .u8 (zeros 16)) 22)
  have B2 := Blk.new ((w.alloc (.cells (ints .u8 as_) 22)).alloc (.cells (ints .u8 bs) 22)) 22 (ints .u8 (zeros 16))
  rw [World.size_alloc] at B1
  rw [World.size_alloc, World.size_alloc] at B2
  simp only [Nat.add_assoc, Nat.reduceAdd] at B2
  have hbel := (((Below.refl w.heap.size w).alloc (Nat.le_refl _) (.cells (ints .u8 as_) 22)).alloc (by simp) (.cells (ints .u8 bs) 22)).alloc (by simp; omega) (.cells (ints .u8 (zeros 16)) 22)
  go_enter Try.func14, Try.ntmps14
  go_wp2_with (refine wpList_alloc_ints rfl 22 rfl Try.z22 ?_; (try simp only [Act.put, List.setIfInBounds_toArray, List.set_cons_zero, List.set_cons_succ, World.size_alloc, setRow_size, Nat.add_assoc, Nat.reduceAdd]))
  generalize (((w.alloc (.cells (ints .u8 as_) 22)).alloc (.cells (ints .u8 bs) 22)).alloc (.cells (ints .u8 (zeros 16)) 22)) = w0 at *
  have L0 := Lib.hid fun W h => loadN_c (some ⟨w.heap.size, 0, none⟩) 16 16 as_ hb hl rfl W ((Sl.blk B0).below h)
  have L1 := Lib.hid fun W h => loadN_c (some ⟨w.heap.size + 1, 0, none⟩) 16 16 bs hb' hl' rfl W ((Sl.blk B1).below h)
  refine wp_region_last 6 (by kernel_rfl) (by kernel_rfl) (by kernel_rfl) (by kernel_rfl) (fun D a W => ∃ u5 u6 u7 u8 u9 u10 : Value, a = { tmps := #[.agg (ints .u8 as_), .agg (ints .u8 bs), .pointer (some ⟨w.heap.size, 0, none⟩), .pointer (some ⟨w.heap.size + 1, 0, none⟩), .pointer (some ⟨w.heap.size + 2, 0, none⟩), u5, u6, u7, u8, u9, u10], defers := [] } ∧ Below w0.heap.size w0 W ∧ (D 0 → u5 = .slice (some ⟨w.heap.size, 0, none⟩) 16 16) ∧ (D 1 → u6 = .agg (ints .u64 (W2 (num as_)))) ∧ (D 2 → u7 = .slice (some ⟨w.heap.size + 1, 0, none⟩) 16 16) ∧ (D 3 → u8 = .agg (ints .u64 (W2 (num bs)))) ∧ (D 4 → u9 = .agg (ints .u64 (W2 (dot R1 D1 (num as_) (num bs))))) ∧ (D 5 → u10 = .agg (ints .u8 (elem (dot R1 D1 (num as_) (num bs)))))) ?_ ?_ ?_
  · exact ⟨_, _, _, _, _, _, rfl, ⟨rfl, rfl, rfl, Nat.le_refl _, fun _ _ => rfl⟩, (fun h => h.elim), (fun h => h.elim), (fun h => h.elim), (fun h => h.elim), (fun h => h.elim), (fun h => h.elim)⟩
  · intro i o hilt hi D a W hI hnD hall
    obtain ⟨u5, u6, u7, u8, u9, u10, rfl, hW, f0, f1, f2, f3, f4, f5⟩ := hI
    rcases i with _ | _ | _ | _ | _ | _ | i
    · simp only [Nat.zero_add, Nat.reduceAdd, List.getElem?_toArray, List.getElem?_cons_succ, List.getElem?_cons_zero, Option.some.injEq] at hi
      subst hi
      refine wpOp_value (v := .slice (some ⟨w.heap.size, 0, none⟩) 16 16) rfl rfl (by kernel_rfl) ?_
      exact ⟨_, _, _, _, _, _, rfl, hW, (fun _ => rfl), (fun h => f1 (h.resolve_left (by decide))), (fun h => f2 (h.resolve_left (by decide))), (fun h => f3 (h.resolve_left (by decide))), (fun h => f4 (h.resolve_left (by decide))), (fun h => f5 (h.resolve_left (by decide)))⟩
    · simp only [Nat.zero_add, Nat.reduceAdd, List.getElem?_toArray, List.getElem?_cons_succ, List.getElem?_cons_zero, Option.some.injEq] at hi
      subst hi
      obtain rfl := f0 (pre_of hall 0 rfl)
      refine wpOp_call 26 rfl rfl rfl Try.func26 (by kernel_rfl) (by kernel_rfl) (L0.out W hW) ?_
      intro W' hW'
      exact ⟨_, _, _, _, _, _, rfl, bCall hW hW' hW.size, (fun h => f0 (h.resolve_left (by decide))), (fun _ => rfl), (fun h => f2 (h.resolve_left (by decide))), (fun h => f3 (h.resolve_left (by decide))), (fun h => f4 (h.resolve_left (by decide))), (fun h => f5 (h.resolve_left (by decide)))⟩
    · simp only [Nat.zero_add, Nat.reduceAdd, List.getElem?_toArray, List.getElem?_cons_succ, List.getElem?_cons_zero, Option.some.injEq] at hi
      subst hi
      refine wpOp_value (v := .slice (some ⟨w.heap.size + 1, 0, none⟩) 16 16) rfl rfl (by kernel_rfl) ?_
      exact ⟨_, _, _, _, _, _, rfl, hW, (fun h => f0 (h.resolve_left (by decide))), (fun h => f1 (h.resolve_left (by decide))), (fun _ => rfl), (fun h => f3 (h.resolve_left (by decide))), (fun h => f4 (h.resolve_left (by decide))), (fun h => f5 (h.resolve_left (by decide)))⟩
    · simp only [Nat.zero_add, Nat.reduceAdd, List.getElem?_toArray, List.getElem?_cons_succ, List.getElem?_cons_zero, Option.some.injEq] at hi
      subst hi
      obtain rfl := f2 (pre_of hall 2 rfl)
      refine wpOp_call 26 rfl rfl rfl Try.func26 (by kernel_rfl) (by kernel_rfl) (L1.out W hW) ?_
      intro W' hW'
      exact ⟨_, _, _, _, _, _, rfl, bCall hW hW' hW.size, (fun h => f0 (h.resolve_left (by decide))), (fun h => f1 (h.resolve_left (by decide))), (fun h => f2 (h.resolve_left (by decide))), (fun _ => rfl), (fun h => f4 (h.resolve_left (by decide))), (fun h => f5 (h.resolve_left (by decide)))⟩
    · simp only [Nat.zero_add, Nat.reduceAdd, List.getElem?_toArray, List.getElem?_cons_succ, List.getElem?_cons_zero, Option.some.injEq] at hi
      subst hi
      obtain rfl := f1 (pre_of hall 1 rfl)
      obtain rfl := f3 (pre_of hall 3 rfl)
      refine wpOp_call 34 rfl rfl rfl Try.func34 (by kernel_rfl) (by kernel_rfl) (dotw_c (num as_) (num bs) hx hy W) ?_
      intro W' hW'
      exact ⟨_, _, _, _, _, _, rfl, bCall hW hW' hW.size, (fun h => f0 (h.resolve_left (by decide))), (fun h => f1 (h.resolve_left (by decide))), (fun h => f2 (h.resolve_left (by decide))), (fun h => f3 (h.resolve_left (by decide))), (fun _ => rfl), (fun h => f5 (h.resolve_left (by decide)))⟩
    · simp only [Nat.zero_add, Nat.reduceAdd, List.getElem?_toArray, List.getElem?_cons_succ, List.getElem?_cons_zero, Option.some.injEq] at hi
      subst hi
      obtain rfl := f4 (pre_of hall 4 rfl)
      refine wpOp_call 30 rfl rfl rfl Try.func30 (by kernel_rfl) (by kernel_rfl) (bytesN_c (dot R1 D1 (num as_) (num bs)) hd W) ?_
      intro W' hW'
      exact ⟨_, _, _, _, _, _, rfl, bCall hW hW' hW.size, (fun h => f0 (h.resolve_left (by decide))), (fun h => f1 (h.resolve_left (by decide))), (fun h => f2 (h.resolve_left (by decide))), (fun h => f3 (h.resolve_left (by decide))), (fun h => f4 (h.resolve_left (by decide))), (fun _ => rfl)⟩
    · exfalso; omega
  · rintro D a W ⟨u5, u6, u7, u8, u9, u10, rfl, hW, f0, f1, f2, f3, f4, f5⟩ hall
    obtain rfl := f0 (hall 0 (by decide))
    obtain rfl := f1 (hall 1 (by decide))
    obtain rfl := f2 (hall 2 (by decide))
    obtain rfl := f3 (hall 3 (by decide))
    obtain rfl := f4 (hall 4 (by decide))
    obtain rfl := f5 (hall 5 (by decide))
    clear f0 f1 f2 f3 f4 f5 hall
    have K2 := B2.below' hW
    have hbel1 := bCall hbel hW (by have := B2.lt; omega)
    refine wpOp_store rfl rfl rfl rfl rfl K2 (zeros_size _ _) Try.ar22 hel ?_
    go_wp2
    exact ret_ints rfl rfl (K2.row _) Try.ar22 hel ⟨rfl, bSetRow hbel1 (by omega) _⟩
end Go.Proofs.Ytehhipanbjhffaa
