/- adhash.New and number. No condition but that bytes are below 256. -/
import Derived.Test.YtolfngmpoafaaaaW12a
import Derived.Test.YtolfngmpoafaaaaW9c
import Derived.Test.YtolfngmpoafaaaaL8e
import Derived.Test.YtolfngmpoafaaaaKA
namespace Go.Proofs.Ytolfngmpoafaaaa
set_option linter.unusedSimpArgs false
set_option linter.unusedVariables false
set_option linter.unusedSectionVars false
set_option linter.unusedVariables false
open Go.RowKit
theorem list16q {xs : List Nat} (h : xs.length = 16) : ∃ a b c d e f g i j k l m n o p q, xs = [a, b, c, d, e, f, g, i, j, k, l, m, n, o, p, q] := by
  match xs, h with
  | [a, b, c, d, e, f, g, i, j, k, l, m, n, o, p, q], _ => exact ⟨a, b, c, d, e, f, g, i, j, k, l, m, n, o, p, q, rfl⟩
/-- The cells of Keys: for tweaks, for messages, the words. -/
def kyC (tk mk : List Nat) (gw : Nat) : Array Value := (vals .u8 tk ++ vals .u8 mk ++ [Value.slice (some ⟨gw, 0, none⟩) 268 268]).toArray
theorem kyC_t (tk mk : List Nat) (gw : Nat) : kyC tk mk gw = ([] ++ vals .u8 tk ++ (vals .u8 mk ++ [Value.slice (some ⟨gw, 0, none⟩) 268 268])).toArray := by simp [kyC]
theorem kyC_m (tk mk : List Nat) (gw : Nat) : kyC tk mk gw = (vals .u8 tk ++ vals .u8 mk ++ [Value.slice (some ⟨gw, 0, none⟩) 268 268]).toArray := rfl
theorem kyC_w {tk mk : List Nat} (h1 : tk.length = 16) (h2 : mk.length = 16) (gw : Nat) : (kyC tk mk gw)[32]? = some (.slice (some ⟨gw, 0, none⟩) 268 268) := by
  have h : ((vals .u8 tk ++ vals .u8 mk) : List Value).length = 32 := by simp [vals_len, h1, h2]
  unfold kyC
  rw [List.getElem?_toArray, List.getElem?_append_right (by omega), h]; rfl
/-- Keys k (at block g, its words at gw) are a key's. -/
def IsK (w : World) (g gw : Nat) (key : List Nat) : Prop := Blk w g 57 (kyC (blockN key) (blockN (key.drop 16)) gw) ∧ Blk w gw 71 (ints .u32 (wordsN (key.drop 32)))
theorem IsK.below {w w' : World} {g gw : Nat} {key : List Nat} (h : IsK w g gw key) (hb : Below w.heap.size w w') : IsK w' g gw key := ⟨h.1.below' hb, h.2.below' hb⟩
theorem IsK.ch {w w' : World} {g gw gc t : Nat} {key : List Nat} {cs : Array Value} (h : IsK w g gw key) (hc : Ch gc w w') (hb : Blk w gc t cs) (h1 : 57 ≠ t) (h2 : 71 ≠ t) : IsK w' g gw key := ⟨hc.blk h.1 (h.1.ne_ hb h1), hc.blk h.2 (h.2.ne_ hb h2)⟩
theorem sl_some {w : World} {a : Option Addr} {k : IntKind} {xs : List Nat} (h : Sl w a k xs) (hn : xs ≠ []) : ∃ g off, a = some ⟨g, off, none⟩ := let ⟨g, off, h1, _, _⟩ := h hn; ⟨g, off, h1⟩
section
variable {P : Program} {o : Oper} {a : Act} {w : World}
theorem run_sliceLoOp {T e : TypeId} {x y : Operand} {g off len cap lo : Nat} (hT : P.underlying T = some (.slice e)) (hs : (P.info? e).map (·.size) = some 1) (ho : o.op = .slice T x (some y) none none)
    (hx : a.eval x = .slice (some ⟨g, off, none⟩) len cap) (hy : a.eval y = .int .i64 (lo : Int)) (h1 : lo ≤ len) (h3 : lo < cap) :
    (execOp a.eval o).run P w = .ok (.value (.slice (some ⟨g, off + lo, none⟩) (len - lo) (cap - lo))) w := by
  obtain ⟨d, hd, hd1⟩ := Option.map_eq_some_iff.1 hs
  have he := elem_of hT
  have hT' : P.underlying T = some (.slice (P.elem T)) := by rw [he]; exact hT
  have hr := run_slice_l (P := P) (w := w) T (some ⟨g, off, none⟩) len cap hT' .i64 lo (by omega) (by omega)
  have hsz : (sizeOf (P.elem T)).run P w = .ok 1 w := by simp [sizeOf, typeInfo, he, hd, hd1]
  rw [hsz] at hr
  have hne : ¬ cap = lo := by omega
  unfold execOp
  simp only [ho, hx, hy, Option.map_some, Option.map_none, Sem.run_bind, Sem.run_pure, run_sliceAt_slice w T _ _ _ _ hT', hr, Result.andThen_ok, Int.toNat_natCast, sliced, if_neg hne, Nat.mul_one, Addr.add_mid]
end
theorem block12_c (g off n c : Nat) (bs : List Nat) (hn : n = bs.length) (w : World) (hs : Sl w (some ⟨g, off, none⟩) .u8 bs) :
    Calls Try.prog 23 #[.slice (some ⟨g, off, none⟩) n c] w fun e w' => e = .returned (.agg (ints .u8 (blockN bs))) ∧ Below w.heap.size w w' := by
  subst hn; exact block_c _ c bs w hs
set_option maxRecDepth 100000 in
set_option maxHeartbeats 8000000 in
theorem new12_c (key : List Nat) (hb : ∀ x ∈ key, x < 256) (hl : key.length = 1104) (a : Option Addr) (c : Nat) (hc : 1104 ≤ c) (w : World) (hs0 : Sl w a .u8 key) :
    Calls Try.prog 9 #[.slice a 1104 c] w fun e w' => ∃ g gw, e = .returned (.tuple #[.pointer (some ⟨g, 0, none⟩), .int .i64 0]) ∧ w.heap.size ≤ g ∧ w.heap.size ≤ gw ∧ IsK w' g gw key ∧ Below w.heap.size w w' := by
  have hwo := fun W a2 c2 (h : Sl W a2 .u8 (key.drop 32)) => words_c a2 c2 (key.drop 32) (fun x hx => hb x (List.mem_of_mem_drop hx)) (by rw [List.length_drop]; omega) W h
  have hdl : (key.drop 32).length = 1072 := by rw [List.length_drop]; omega
  rw [hdl] at hwo
  obtain ⟨ga, off, rfl⟩ := sl_some hs0 (by rintro rfl; simp at hl)
  obtain ⟨t0, t1, t2, t3, t4, t5, t6, t7, t8, t9, t10, t11, t12, t13, t14, t15, ht⟩ := list16q (blockN_len key)
  obtain ⟨m0, m1, m2, m3, m4, m5, m6, m7, m8, m9, m10, m11, m12, m13, m14, m15, hm⟩ := list16q (blockN_len (key.drop 16))
  go_enter Try.func9, Try.ntmps9
  go_wp2_with (refine wpList_sliceLo (n := 32) rfl rfl Try.underlying22 Try.s15 rfl rfl hl (by omega) hc hs0 ?_; intro ad2 c2 hsl2 hne2 hc2 _)
  refine (hwo _ _ _ hsl2).mono ?_
  rintro e w1 ⟨rfl, W1, hb1⟩
  have hs1 := hs0.below hb1
  have hs1' := hs1.drop 16
  go_wp2_with fail
  have hk0 : Hid (∀ W, Below w1.heap.size w1 W → Calls Try.prog 23 #[.slice (some ⟨ga, off, none⟩) 1104 c] W fun e w' => e = .returned (.agg (ints .u8 [t0, t1, t2, t3, t4, t5, t6, t7, t8, t9, t10, t11, t12, t13, t14, t15])) ∧ Below W.heap.size W w') := Lib.hid fun W hW => by
    rw [← ht]
    exact block12_c ga off 1104 c key hl.symm W (hs1.below hW)
  have hk1 : Hid (∀ W, Below w1.heap.size w1 W → Calls Try.prog 23 #[.slice (some ⟨ga, off + 16, none⟩) (1104 - 16) (c - 16)] W fun e w' => e = .returned (.agg (ints .u8 [m0, m1, m2, m3, m4, m5, m6, m7, m8, m9, m10, m11, m12, m13, m14, m15])) ∧ Below W.heap.size W w') := Lib.hid fun W hW => by
    rw [← hm]
    exact block12_c ga (off + 16) (1104 - 16) (c - 16) (key.drop 16) (by rw [List.length_drop]; omega) W (hs1'.below hW)
  refine wp_region_inv (by kernel_rfl) (by kernel_rfl) (fun D act_ W => ∃ u2 u3 u18 u19 u20 u21 u22 u23 u24 u25 : Value, act_ = { tmps := #[Value.slice (some { block := ga, off := off }) 1104 c, undef, u2, u3, Value.slice (some { block := w.heap.size, off := 0 }) 268 268, Value.int IntKind.i64 0, Value.slice (some { block := ga, off := off }) 1104 c, Value.int IntKind.i64 1104, Value.bool false, Value.tuple #[Value.slice (some { block := w.heap.size, off := 0 }) 268 268, Value.int IntKind.i64 0], Value.slice (some { block := ga, off := off }) 1104 c, Value.slice ad2 1072 c2, Value.tuple #[Value.slice (some { block := w.heap.size, off := 0 }) 268 268, Value.int IntKind.i64 0], Value.slice (some { block := w.heap.size, off := 0 }) 268 268, Value.int IntKind.i64 0, Value.int IntKind.i64 0, Value.bool false, undef, u18, u19, u20, u21, u22, u23, u24, u25], defers := [] } ∧ Below w1.heap.size w1 W ∧ (D 0 → u18 = .slice (some ⟨ga, off, none⟩) 1104 c) ∧ (D 1 → u19 = .agg (ints .u8 [t0, t1, t2, t3, t4, t5, t6, t7, t8, t9, t10, t11, t12, t13, t14, t15])) ∧ (D 2 → u20 = .slice (some ⟨ga, off, none⟩) 1104 c) ∧ (D 3 → u21 = .slice (some ⟨ga, off + 16, none⟩) (1104 - 16) (c - 16)) ∧ (D 4 → u22 = .agg (ints .u8 [m0, m1, m2, m3, m4, m5, m6, m7, m8, m9, m10, m11, m12, m13, m14, m15])) ∧ (D 5 → u23 = .slice (some ⟨w.heap.size, 0, none⟩) 268 268) ∧ (D 6 → u24 = .agg (kyC [t0, t1, t2, t3, t4, t5, t6, t7, t8, t9, t10, t11, t12, t13, t14, t15] [m0, m1, m2, m3, m4, m5, m6, m7, m8, m9, m10, m11, m12, m13, m14, m15] w.heap.size)) ∧ (D 7 → (∃ g, u25 = .pointer (some ⟨g, 0, none⟩) ∧ w1.heap.size ≤ g ∧ Blk W g 57 (kyC [t0, t1, t2, t3, t4, t5, t6, t7, t8, t9, t10, t11, t12, t13, t14, t15] [m0, m1, m2, m3, m4, m5, m6, m7, m8, m9, m10, m11, m12, m13, m14, m15] w.heap.size))) ∧ (D 8 → (∃ g, u2 = .pointer (some ⟨g, 0, none⟩) ∧ w1.heap.size ≤ g ∧ Blk W g 57 (kyC [t0, t1, t2, t3, t4, t5, t6, t7, t8, t9, t10, t11, t12, t13, t14, t15] [m0, m1, m2, m3, m4, m5, m6, m7, m8, m9, m10, m11, m12, m13, m14, m15] w.heap.size))) ∧ (D 9 → u3 = .int .i64 0)) ?_ ?_ ?_
  · exact ⟨_, _, _, _, _, _, _, _, _, _, rfl, ⟨rfl, rfl, rfl, Nat.le_refl _, fun _ _ => rfl⟩, (fun h => h.elim), (fun h => h.elim), (fun h => h.elim), (fun h => h.elim), (fun h => h.elim), (fun h => h.elim), (fun h => h.elim), (fun h => h.elim), (fun h => h.elim), (fun h => h.elim)⟩
  · intro i o hi D act_ W hI hnD hall
    obtain ⟨u2, u3, u18, u19, u20, u21, u22, u23, u24, u25, rfl, hW, f0, f1, f2, f3, f4, f5, f6, f7, f8, f9⟩ := hI
    rcases i with _ | _ | _ | _ | _ | _ | _ | _ | _ | _ | i
    · simp only [Nat.zero_add, Nat.reduceAdd, List.getElem?_toArray, List.getElem?_cons_succ, List.getElem?_cons_zero, Option.some.injEq] at hi
      subst hi
      refine wpOp_value (v := .slice (some ⟨ga, off, none⟩) 1104 c) rfl rfl rfl ?_
      exact ⟨_, _, _, _, _, _, _, _, _, _, rfl, hW, (fun _ => rfl), (fun h => f1 (h.resolve_left (by decide))), (fun h => f2 (h.resolve_left (by decide))), (fun h => f3 (h.resolve_left (by decide))), (fun h => f4 (h.resolve_left (by decide))), (fun h => f5 (h.resolve_left (by decide))), (fun h => f6 (h.resolve_left (by decide))), (fun h => f7 (h.resolve_left (by decide))), (fun h => f8 (h.resolve_left (by decide))), (fun h => f9 (h.resolve_left (by decide)))⟩
    · simp only [Nat.zero_add, Nat.reduceAdd, List.getElem?_toArray, List.getElem?_cons_succ, List.getElem?_cons_zero, Option.some.injEq] at hi
      subst hi
      obtain rfl := f0 (pre_of hall 0 rfl)
      refine wpOp_call 23 rfl rfl rfl Try.func23 (by kernel_rfl) (by kernel_rfl) (hk0.out W hW) ?_
      intro W' hW'
      exact ⟨_, _, _, _, _, _, _, _, _, _, rfl, bCall hW hW' hW.size, (fun h => f0 (h.resolve_left (by decide))), (fun _ => rfl), (fun h => f2 (h.resolve_left (by decide))), (fun h => f3 (h.resolve_left (by decide))), (fun h => f4 (h.resolve_left (by decide))), (fun h => f5 (h.resolve_left (by decide))), (fun h => f6 (h.resolve_left (by decide))), (fun h => ((fun ⟨g, h1, h2, h3⟩ hb => ⟨g, h1, h2, h3.below' hb⟩)) (f7 (h.resolve_left (by decide))) hW'), (fun h => ((fun ⟨g, h1, h2, h3⟩ hb => ⟨g, h1, h2, h3.below' hb⟩)) (f8 (h.resolve_left (by decide))) hW'), (fun h => f9 (h.resolve_left (by decide)))⟩
    · simp only [Nat.zero_add, Nat.reduceAdd, List.getElem?_toArray, List.getElem?_cons_succ, List.getElem?_cons_zero, Option.some.injEq] at hi
      subst hi
      refine wpOp_value (v := .slice (some ⟨ga, off, none⟩) 1104 c) rfl rfl rfl ?_
      exact ⟨_, _, _, _, _, _, _, _, _, _, rfl, hW, (fun h => f0 (h.resolve_left (by decide))), (fun h => f1 (h.resolve_left (by decide))), (fun _ => rfl), (fun h => f3 (h.resolve_left (by decide))), (fun h => f4 (h.resolve_left (by decide))), (fun h => f5 (h.resolve_left (by decide))), (fun h => f6 (h.resolve_left (by decide))), (fun h => f7 (h.resolve_left (by decide))), (fun h => f8 (h.resolve_left (by decide))), (fun h => f9 (h.resolve_left (by decide)))⟩
    · simp only [Nat.zero_add, Nat.reduceAdd, List.getElem?_toArray, List.getElem?_cons_succ, List.getElem?_cons_zero, Option.some.injEq] at hi
      subst hi
      obtain rfl := f2 (pre_of hall 2 rfl)
      refine wpOp_value (v := .slice (some ⟨ga, off + 16, none⟩) (1104 - 16) (c - 16)) rfl rfl (run_sliceLoOp (lo := 16) Try.underlying22 Try.s15 rfl rfl rfl (by omega) (by omega)) ?_
      exact ⟨_, _, _, _, _, _, _, _, _, _, rfl, hW, (fun h => f0 (h.resolve_left (by decide))), (fun h => f1 (h.resolve_left (by decide))), (fun h => f2 (h.resolve_left (by decide))), (fun _ => rfl), (fun h => f4 (h.resolve_left (by decide))), (fun h => f5 (h.resolve_left (by decide))), (fun h => f6 (h.resolve_left (by decide))), (fun h => f7 (h.resolve_left (by decide))), (fun h => f8 (h.resolve_left (by decide))), (fun h => f9 (h.resolve_left (by decide)))⟩
    · simp only [Nat.zero_add, Nat.reduceAdd, List.getElem?_toArray, List.getElem?_cons_succ, List.getElem?_cons_zero, Option.some.injEq] at hi
      subst hi
      obtain rfl := f3 (pre_of hall 3 rfl)
      refine wpOp_call 23 rfl rfl rfl Try.func23 (by kernel_rfl) (by kernel_rfl) (hk1.out W hW) ?_
      intro W' hW'
      exact ⟨_, _, _, _, _, _, _, _, _, _, rfl, bCall hW hW' hW.size, (fun h => f0 (h.resolve_left (by decide))), (fun h => f1 (h.resolve_left (by decide))), (fun h => f2 (h.resolve_left (by decide))), (fun h => f3 (h.resolve_left (by decide))), (fun _ => rfl), (fun h => f5 (h.resolve_left (by decide))), (fun h => f6 (h.resolve_left (by decide))), (fun h => ((fun ⟨g, h1, h2, h3⟩ hb => ⟨g, h1, h2, h3.below' hb⟩)) (f7 (h.resolve_left (by decide))) hW'), (fun h => ((fun ⟨g, h1, h2, h3⟩ hb => ⟨g, h1, h2, h3.below' hb⟩)) (f8 (h.resolve_left (by decide))) hW'), (fun h => f9 (h.resolve_left (by decide)))⟩
    · simp only [Nat.zero_add, Nat.reduceAdd, List.getElem?_toArray, List.getElem?_cons_succ, List.getElem?_cons_zero, Option.some.injEq] at hi
      subst hi
      refine wpOp_value (v := .slice (some ⟨w.heap.size, 0, none⟩) 268 268) rfl rfl rfl ?_
      exact ⟨_, _, _, _, _, _, _, _, _, _, rfl, hW, (fun h => f0 (h.resolve_left (by decide))), (fun h => f1 (h.resolve_left (by decide))), (fun h => f2 (h.resolve_left (by decide))), (fun h => f3 (h.resolve_left (by decide))), (fun h => f4 (h.resolve_left (by decide))), (fun _ => rfl), (fun h => f6 (h.resolve_left (by decide))), (fun h => f7 (h.resolve_left (by decide))), (fun h => f8 (h.resolve_left (by decide))), (fun h => f9 (h.resolve_left (by decide)))⟩
    · simp only [Nat.zero_add, Nat.reduceAdd, List.getElem?_toArray, List.getElem?_cons_succ, List.getElem?_cons_zero, Option.some.injEq] at hi
      subst hi
      obtain rfl := f1 (pre_of hall 1 rfl)
      obtain rfl := f4 (pre_of hall 4 rfl)
      obtain rfl := f5 (pre_of hall 5 rfl)
      refine wpOp_value (v := .agg (kyC [t0, t1, t2, t3, t4, t5, t6, t7, t8, t9, t10, t11, t12, t13, t14, t15] [m0, m1, m2, m3, m4, m5, m6, m7, m8, m9, m10, m11, m12, m13, m14, m15] w.heap.size)) rfl rfl (by kernel_rfl) ?_
      exact ⟨_, _, _, _, _, _, _, _, _, _, rfl, hW, (fun h => f0 (h.resolve_left (by decide))), (fun h => f1 (h.resolve_left (by decide))), (fun h => f2 (h.resolve_left (by decide))), (fun h => f3 (h.resolve_left (by decide))), (fun h => f4 (h.resolve_left (by decide))), (fun h => f5 (h.resolve_left (by decide))), (fun _ => rfl), (fun h => f7 (h.resolve_left (by decide))), (fun h => f8 (h.resolve_left (by decide))), (fun h => f9 (h.resolve_left (by decide)))⟩
    · simp only [Nat.zero_add, Nat.reduceAdd, List.getElem?_toArray, List.getElem?_cons_succ, List.getElem?_cons_zero, Option.some.injEq] at hi
      subst hi
      obtain rfl := f6 (pre_of hall 6 rfl)
      refine wpOp_step (v := .pointer (some ⟨W.heap.size, 0, none⟩)) (w' := W.alloc (.cells (kyC [t0, t1, t2, t3, t4, t5, t6, t7, t8, t9, t10, t11, t12, t13, t14, t15] [m0, m1, m2, m3, m4, m5, m6, m7, m8, m9, m10, m11, m12, m13, m14, m15] w.heap.size) 57)) rfl rfl (by kernel_rfl) ?_; have hW' := (Below.refl W.heap.size W).alloc (Nat.le_refl _) (.cells (kyC [t0, t1, t2, t3, t4, t5, t6, t7, t8, t9, t10, t11, t12, t13, t14, t15] [m0, m1, m2, m3, m4, m5, m6, m7, m8, m9, m10, m11, m12, m13, m14, m15] w.heap.size) 57)
      exact ⟨_, _, _, _, _, _, _, _, _, _, rfl, bCall hW hW' hW.size, (fun h => f0 (h.resolve_left (by decide))), (fun h => f1 (h.resolve_left (by decide))), (fun h => f2 (h.resolve_left (by decide))), (fun h => f3 (h.resolve_left (by decide))), (fun h => f4 (h.resolve_left (by decide))), (fun h => f5 (h.resolve_left (by decide))), (fun h => f6 (h.resolve_left (by decide))), (fun _ => ⟨_, rfl, hW.size, Blk.new _ _ _⟩), (fun h => ((fun ⟨g, h1, h2, h3⟩ hb => ⟨g, h1, h2, h3.below' hb⟩)) (f8 (h.resolve_left (by decide))) hW'), (fun h => f9 (h.resolve_left (by decide)))⟩
    · simp only [Nat.zero_add, Nat.reduceAdd, List.getElem?_toArray, List.getElem?_cons_succ, List.getElem?_cons_zero, Option.some.injEq] at hi
      subst hi
      have hx := (f7 (pre_of hall 7 rfl)); refine wpOp_value (v := u25) rfl rfl (by kernel_rfl) ?_; have hW' := Below.refl W.heap.size W
      exact ⟨_, _, _, _, _, _, _, _, _, _, rfl, bCall hW hW' hW.size, (fun h => f0 (h.resolve_left (by decide))), (fun h => f1 (h.resolve_left (by decide))), (fun h => f2 (h.resolve_left (by decide))), (fun h => f3 (h.resolve_left (by decide))), (fun h => f4 (h.resolve_left (by decide))), (fun h => f5 (h.resolve_left (by decide))), (fun h => f6 (h.resolve_left (by decide))), (fun h => ((fun ⟨g, h1, h2, h3⟩ hb => ⟨g, h1, h2, h3.below' hb⟩)) (f7 (h.resolve_left (by decide))) hW'), (fun _ => hx), (fun h => f9 (h.resolve_left (by decide)))⟩
    · simp only [Nat.zero_add, Nat.reduceAdd, List.getElem?_toArray, List.getElem?_cons_succ, List.getElem?_cons_zero, Option.some.injEq] at hi
      subst hi
      refine wpOp_value (v := .int .i64 0) rfl rfl (by kernel_rfl) ?_
      exact ⟨_, _, _, _, _, _, _, _, _, _, rfl, hW, (fun h => f0 (h.resolve_left (by decide))), (fun h => f1 (h.resolve_left (by decide))), (fun h => f2 (h.resolve_left (by decide))), (fun h => f3 (h.resolve_left (by decide))), (fun h => f4 (h.resolve_left (by decide))), (fun h => f5 (h.resolve_left (by decide))), (fun h => f6 (h.resolve_left (by decide))), (fun h => f7 (h.resolve_left (by decide))), (fun h => f8 (h.resolve_left (by decide))), (fun _ => rfl)⟩
    · exfalso; simp at hi
  · rintro D act_ W ⟨u2, u3, u18, u19, u20, u21, u22, u23, u24, u25, rfl, hW, f0, f1, f2, f3, f4, f5, f6, f7, f8, f9⟩ hall
    obtain rfl := f0 (hall 0 (by decide))
    obtain rfl := f1 (hall 1 (by decide))
    obtain rfl := f2 (hall 2 (by decide))
    obtain rfl := f3 (hall 3 (by decide))
    obtain rfl := f4 (hall 4 (by decide))
    obtain rfl := f5 (hall 5 (by decide))
    obtain rfl := f6 (hall 6 (by decide))
    obtain rfl := f9 (hall 9 (by decide))
    have x25 := f7 (hall 7 (by decide))
    have x2 := f8 (hall 8 (by decide))
    clear f0 f1 f2 f3 f4 f5 f6 f9 hall
    obtain ⟨g, rfl, hg, hK⟩ := x2
    have hz1 := hb1.size
    have hgw := W1.lt
    go_wp2
    go_ret2
    refine ⟨g, w.heap.size, rfl, by omega, Nat.le_refl _, ⟨?_, W1.below' hW⟩, bCall hb1 hW hb1.size⟩
    rw [ht, hm]
    exact hK
set_option maxHeartbeats 1000000 in
theorem new12_no (n : Nat) (hn : n ≠ 1104) (a : Option Addr) (c : Nat) (w : World) :
    Calls Try.prog 9 #[.slice a n c] w fun e w' => e = .returned (.tuple #[.pointer none, .int .i64 2]) ∧ w = w' := by
  have q : ((n : Int) != 1104) = true := by simp; omega
  go_enter Try.func9, Try.ntmps9
  go_wp2
  go_ret2
  exact ⟨rfl, rfl⟩
set_option maxRecDepth 100000 in
set_option maxHeartbeats 4000000 in
theorem number12_c (g : Nat) (key bs : List Nat) (hbb : ∀ x ∈ bs, x < 256) (w : World) (hS : IsSm w g key bs) :
    Calls Try.prog 30 #[.pointer (some ⟨g, 0, none⟩)] w fun e w' => e = .returned (.agg (ints .u64 (W12 (polyA key bs)))) ∧ Below w.heap.size w w' := by
  have B0 := Blk.new w 30 (ints .u64 (zeros 2))
  have hbel := (Below.refl w.heap.size w).alloc (Nat.le_refl _) (.cells (ints .u64 (zeros 2)) 30)
  have S1 := hS.below hbel
  go_enter Try.func30, Try.ntmps30
  go_wp2_with (refine wpList_alloc_ints rfl 30 rfl Try.zW ?_; (try simp only [Act.put, List.setIfInBounds_toArray, List.set_cons_zero, List.set_cons_succ, World.size_alloc, setRow_size, Nat.add_assoc, Nat.reduceAdd]))
  generalize (w.alloc (.cells (ints .u64 (zeros 2)) 30)) = w1 at *
  have hl1 := B0.lt
  refine (tag8_c g key bs hbb _ S1).mono ?_
  rintro e w2 ⟨rfl, hb2⟩
  have hz2 := hb2.size
  have Z := Blk.new w2 35 (ints .u8 (zeros 16))
  have T := Z.row (ints .u8 (hashP key bs))
  have C0 := ((B0.below' hb2).alloc (.cells (ints .u8 (zeros 16)) 35)).rowFar (show w.heap.size ≠ w2.heap.size by omega) (ints .u8 (hashP key bs))
  have hbel2 := bSetRow ((bCall hbel hb2 hbel.size).alloc (by have := hbel.size; omega) (.cells (ints .u8 (zeros 16)) 35)) (show w.heap.size ≤ w2.heap.size by omega) (ints .u8 (hashP key bs))
  have hhl := hashP_len key bs
  go_wp2_with (first | (refine wpList_alloc_ints rfl 35 rfl Try.z35 ?_; (try simp only [Act.put, List.setIfInBounds_toArray, List.set_cons_zero, List.set_cons_succ, World.size_alloc, setRow_size, Nat.add_assoc, Nat.reduceAdd])) | (refine wpList_store_ints (k := .u8) (xs := hashP key bs) rfl 35 _ _ rfl w2.heap.size rfl rfl Z (zeros_size _ _) Try.ar35 hhl ?_; (try simp only [Act.put, List.setIfInBounds_toArray, List.set_cons_zero, List.set_cons_succ, World.size_alloc, setRow_size, Nat.add_assoc, Nat.reduceAdd])))
  generalize ((w2.alloc (.cells (ints .u8 (zeros 16)) 35)).setRow w2.heap.size (ints .u8 (hashP key bs))) = w3 at *
  have hld := load_c (some ⟨w2.heap.size, 0, none⟩) 16 (hashP key bs) (hashP_lt _ _) (by rw [hhl]; simp [maxLen]) w3 (Sl.blk T)
  rw [hhl, W12_load hhl (hashP_lt _ _), W12_hash] at hld
  refine hld.mono ?_
  rintro e w4 ⟨rfl, hb4⟩
  have D0 := C0.below' hb4
  have hbel4 := bCall hbel2 hb4 hbel2.size
  go_wp2_with (refine wpList_store_ints (k := .u64) (xs := W12 (polyA key bs)) rfl 30 _ _ rfl w.heap.size rfl rfl D0 (zeros_size _ _) Try.arW (W12_len _) ?_; (try simp only [Act.put, List.setIfInBounds_toArray, List.set_cons_zero, List.set_cons_succ, World.size_alloc, setRow_size, Nat.add_assoc, Nat.reduceAdd]))
  exact ret_ints rfl rfl (D0.row _) Try.arW (W12_len _) ⟨rfl, bSetRow hbel4 (Nat.le_refl _) _⟩
end Go.Proofs.Ytolfngmpoafaaaa
