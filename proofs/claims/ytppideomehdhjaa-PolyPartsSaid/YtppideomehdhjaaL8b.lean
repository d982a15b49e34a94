/- The walk of PolyOn; an append as one step of a drawn region. No condition but that bytes are below 256. -/
import Derived.Test.YtppideomehdhjaaL8a
namespace Go.Proofs.Ytppideomehdhjaa
set_option linter.unusedSimpArgs false
set_option linter.unusedVariables false
set_option linter.unusedSectionVars false
set_option linter.unusedVariables false
open Go.RowKit
section
variable {P : Program}
theorem wpOp_append_o {ops : Array Oper} {o : Oper} {a : Act} {w : World} {Q : Exit → Act → World → Prop} {K : Act → World → Prop} {i B e t m c bytes : Nat} {k : IntKind} {z : Value} {v : Value} {ad : Option Addr} {xs zs : List Nat} {s x : Operand} (hi : ops[i]? = some o) (hw : Region.wanted o (yielded ops a.tmps) = true)
    (ho : o.op = .call { callee := .builtin .append, args := #[s, x], argTypes := #[t, t] }) (ht : P.underlying t = some (.slice e)) (hinf : (P.info? e).map (fun i => (i.zero, i.size, i.bytes)) = some (some z, 1, bytes)) (hz : z.cells.size = 1) (hby : bytes ≤ 64)
    (hs : a.eval s = v) (hown : Own w B e k v xs) (hx : a.eval x = .slice ad m c) (hm : m = zs.length) (hn : ad = none → c = 0) (hsl : Sl w ad k zs) (hl : xs.length + zs.length < 2 ^ 40) (hB : B ≤ w.heap.size)
    (h : ∀ v' w', Own w' B e k v' (xs ++ zs) → w.grownBy w' v.ownBlock → K (a.put o.dst v') w') : wpOp P ops Q i K a w := by
  obtain ⟨f, hf, hz0, hz1, hz2⟩ := info_parts hinf
  subst hm
  cases ad with
  | none =>
    obtain rfl := hn rfl
    have hz0' : zs = [] := Classical.byContradiction fun hne => by obtain ⟨_, _, q, -⟩ := hsl hne; cases q
    subst hz0'
    have hrun := run_append_owned_none (P := P) w B t o.type e f 1 ht hf v xs.length _ hown
    refine wpOp_step (v := v) (w' := w) hi hw ?_ (h v w (by rw [List.append_nil]; exact hown) ⟨rfl, rfl, rfl, Nat.le_refl _, fun _ _ _ => rfl⟩)
    unfold execOp
    simp only [ho, resolve, invoke, builtin, Sem.run_bind, Sem.run_pure, Result.andThen_ok, List.map_toArray, List.map_cons, List.map_nil, hs, hx, List.length_nil, hrun]
  | some ad =>
    have hnews : ∀ j u, (zs.map fun n : Nat => Value.int k n)[j]? = some u → w.cell? (ad.add j) = some u := by
      intro j u hj
      rw [List.getElem?_map] at hj
      obtain ⟨y, hy, rfl⟩ := Option.map_eq_some_iff.1 hj
      obtain ⟨hjl, -⟩ := List.getElem?_eq_some_iff.1 hy
      obtain ⟨g, off, q1, q2, q3⟩ := hsl (by rintro rfl; simp at hjl)
      injection q1 with q1
      subst q1
      rw [Addr.add_mid, q3 j hjl, List.getD_eq_getElem?_getD, hy]; rfl
    have hbb : (xs.length + zs.length) * bytes ≤ 140737488355328 := calc (xs.length + zs.length) * bytes ≤ 2 ^ 40 * 64 := Nat.mul_le_mul (by omega) hby
        _ ≤ _ := by omega
    obtain ⟨v', w', hr, h2, h3, -, -⟩ := run_append_own_at (P := P) w B t o.type e f z 1 bytes ht hf hz0 hz1 hz2 hz (by omega) v xs.length _ hown ad zs.length c (zs.map fun n : Nat => Value.int k n) (by simp) hnews (by simp [Value.oneCell']) (by simp [maxLen]; omega) hbb hB
    refine wpOp_step (v := v') (w' := w') hi hw ?_ (h v' w' (by unfold Own; rw [List.length_append, List.map_append]; exact h2) h3)
    unfold execOp
    simp only [ho, resolve, invoke, builtin, Sem.run_bind, Sem.run_pure, Result.andThen_ok, List.map_toArray, List.map_cons, List.map_nil, hs, hx, hr]
end
theorem Try.inf8 : (Try.prog.info? 5).map (fun i => (i.zero, i.size, i.bytes)) = some (some (.int .u8 0), 1, 1) := by kernel_rfl
theorem valOwn8 {key xs : List Nat} (hl : key.length = 16) (hb : ∀ x ∈ key, x < 256) (hbb : ∀ x ∈ xs, x < 256) (hlen : xs.length < 2 ^ 31) {W : World} {B : Nat} {v : Value} (ho : Own W B 5 .u8 v xs) :
    Calls Try.prog 27 #[.agg (ints .u8 key), v] W fun e w' => e = .returned (.agg (ints .u32 (numOf (polyA key xs)))) ∧ Below W.heap.size W w' := by
  obtain ⟨a, c, rfl, hsl, hc, -⟩ := ho.sl
  exact val8_c key xs hl hb hbb hlen a c hc W hsl
theorem on8_end {key a b : List Nat} (h : a.length % 16 = 0) {n : Nat} (hn : n = chunks b.length) : numOf (polyA key (a ++ b)) = numOf (val (numOf (polyA key a * byN key ^ n)) + val (numOf (polyA key b))) := by
  subst hn
  refine numOf_congr ?_
  rw [polyA_on key b h, val_numOf, val_numOf, Nat.mod_mod, ← Nat.add_mod]
theorem on8_step (V r j : Nat) : numOf (val (numOf (V * r ^ j)) * val (numOf r)) = numOf (V * r ^ (j + 1)) := by
  refine numOf_congr ?_
  rw [val_numOf, val_numOf, ← Nat.mul_mod, Nat.pow_succ, Nat.mul_assoc]
set_option maxRecDepth 100000 in
set_option maxHeartbeats 16000000 in
theorem polyOn_c (key a b : List Nat) (hl : key.length = 16) (hb : ∀ x ∈ key, x < 2 ^ 8) (hab : ∀ x ∈ a, x < 2 ^ 8) (hbb : ∀ x ∈ b, x < 2 ^ 8) (a1 a2 : Option Addr) (c1 c2 : Nat) (hc1 : a.length ≤ c1) (hc2 : b.length ≤ c2) (hn1 : a1 = none → c1 = 0) (hn2 : a2 = none → c2 = 0) (w : World) (hs1 : Sl w a1 .u8 a) (hs2 : Sl w a2 .u8 b) :
    Calls Try.prog 6 #[.agg (ints .u8 key), .slice a1 a.length c1, .slice a2 b.length c2] w fun e w' => e = .returned (.bool true) ∧ Below w.heap.size w w' := by
  have B0 := Blk.new w 22 (ints .u8 key)
  have hbel := (Below.refl w.heap.size w).alloc (Nat.le_refl _) (.cells (ints .u8 key) 22)
  have hs3 := hs1.below hbel
  have hs4 := hs2.below hbel
  have Hlen : Hid (a.length = a.length ∧ b.length = b.length) := Lib.hid ⟨rfl, rfl⟩
  by_cases hA : a.length ≤ 160
  · have hd1 : decide ((a.length : Int) > 160) = false := by simp; omega
    by_cases hB : b.length ≤ 160
    · have hd2 : decide ((b.length : Int) > 160) = false := by simp; omega
      by_cases hm : a.length % 16 = 0
      · have hr : (a.length : Int) % 16 = 0 := by omega
        have hab2 : ∀ x ∈ a ++ b, x < 256 := fun x hx => (List.mem_append.1 hx).elim (hab x) (hbb x)
        have hlen2 : (a ++ b).length < 2 ^ 31 := by rw [List.length_append]; omega
        have HEND := Lib.hid fun n (hn : n = chunks b.length) => on8_end (key := key) (a := a) (b := b) hm hn
        have HCH : Hid (b.length ≤ 16 * chunks b.length ∧ 16 * chunks b.length < b.length + 16) := Lib.hid (by unfold chunks; omega)
        have hal31 : a.length < 2 ^ 31 := by omega
        have hbl31 : b.length < 2 ^ 31 := by omega
        have HV2 := Lib.hid fun W (h : Sl W a2 .u8 b) => val8_c key b hl hb hbb hbl31 a2 c2 hc2 W h
        have hof := fun W => of_c (clampL key) (clampL_len key) (clampL_lt hb) 0 (by omega) W
        go_enter Try.func6, Try.ntmps6
        go_wp2_with (refine wpList_load_ints rfl 22 _ rfl w.heap.size rfl B0 Try.ar22 hl ?_; (try simp only [Act.put, List.setIfInBounds_toArray, List.set_cons_zero, List.set_cons_succ, World.size_alloc, setRow_size, Nat.add_assoc, Nat.reduceAdd]))
        generalize (w.alloc (.cells (ints .u8 key) 22)) = w0 at *
        have hlt0 := B0.lt
        refine (val8_c key a hl hb hab hal31 a1 c1 hc1 _ hs3).mono ?_
        rintro e w1 ⟨rfl, hb1⟩
        have hz1 := hb1.size
        have Z1 := Blk.new w1 44 (ints .u32 (zeros 5))
        have V1 := Z1.row (ints .u32 (numOf (polyA key a)))
        have C0 := ((B0.below' hb1).alloc (.cells (ints .u32 (zeros 5)) 44)).rowFar (show w.heap.size ≠ w1.heap.size by omega) (ints .u32 (numOf (polyA key a)))
        have hbel1 := bSetRow ((bCall hbel hb1 hbel.size).alloc (by have := hbel.size; omega) (.cells (ints .u32 (zeros 5)) 44)) (show w.heap.size ≤ w1.heap.size by omega) (ints .u32 (numOf (polyA key a)))
        have hnl := numOf_len (polyA key a)
        go_wp2_with (first | (refine wpList_alloc_ints rfl 44 rfl Try.z44 ?_; (try simp only [Act.put, List.setIfInBounds_toArray, List.set_cons_zero, List.set_cons_succ, World.size_alloc, setRow_size, Nat.add_assoc, Nat.reduceAdd])) | (refine wpList_store_ints (k := .u32) (xs := numOf (polyA key a)) rfl 44 _ _ rfl w1.heap.size rfl rfl Z1 (zeros_size _ _) Try.ar44 hnl ?_; (try simp only [Act.put, List.setIfInBounds_toArray, List.set_cons_zero, List.set_cons_succ, World.size_alloc, setRow_size, Nat.add_assoc, Nat.reduceAdd])) | (refine wpList_load_ints rfl 22 _ rfl w.heap.size rfl C0 Try.ar22 hl ?_; (try simp only [Act.put, List.setIfInBounds_toArray, List.set_cons_zero, List.set_cons_succ, World.size_alloc, setRow_size, Nat.add_assoc, Nat.reduceAdd])))
        have hlv1 := V1.lt
        have hvw : w.heap.size < w1.heap.size := by omega
        generalize ((w1.alloc (.cells (ints .u32 (zeros 5)) 44)).setRow w1.heap.size (ints .u32 (numOf (polyA key a)))) = w2 at *
        clear Z1 hb1 hz1 B0 hbel hs3 hs4
        generalize w1.heap.size = gv at *
        refine (clamp_c key hl hb _).mono ?_
        rintro e w3 ⟨rfl, hb3⟩
        have C1 := C0.below' hb3
        have V3 := V1.below' hb3
        have hbel3 := bCall hbel1 hb3 hbel1.size
        have hz3 := hb3.size
        go_wp2_with fail
        refine (hof _).mono ?_
        rintro e w4 ⟨rfl, hb4⟩
        rw [show ofN (clampL key) 0 = byN key from rfl]
        have hz4 := hb4.size
        have hw4 : gv < w4.heap.size := by omega
        have Z5 := Blk.new w4 44 (ints .u32 (zeros 5))
        have Y5 := Z5.row (ints .u32 (numOf (byN key)))
        have C5 := ((C1.below' hb4).alloc (.cells (ints .u32 (zeros 5)) 44)).rowFar (show w.heap.size ≠ w4.heap.size by omega) (ints .u32 (numOf (byN key)))
        have V5 := ((V3.below' hb4).alloc (.cells (ints .u32 (zeros 5)) 44)).rowFar (show gv ≠ w4.heap.size by omega) (ints .u32 (numOf (byN key)))
        have hbel5 := bSetRow ((bCall hbel3 hb4 hbel3.size).alloc (by have := hbel3.size; omega) (.cells (ints .u32 (zeros 5)) 44)) (show w.heap.size ≤ w4.heap.size by omega) (ints .u32 (numOf (byN key)))
        have hyl := numOf_len (byN key)
        go_wp2_with (first | (refine wpList_alloc_ints rfl 44 rfl Try.z44 ?_; (try simp only [Act.put, List.setIfInBounds_toArray, List.set_cons_zero, List.set_cons_succ, World.size_alloc, setRow_size, Nat.add_assoc, Nat.reduceAdd])) | (refine wpList_store_ints (k := .u32) (xs := numOf (byN key)) rfl 44 _ _ rfl w4.heap.size rfl rfl Z5 (zeros_size _ _) Try.ar44 hyl ?_; (try simp only [Act.put, List.setIfInBounds_toArray, List.set_cons_zero, List.set_cons_succ, World.size_alloc, setRow_size, Nat.add_assoc, Nat.reduceAdd])))
        generalize ((w4.alloc (.cells (ints .u32 (zeros 5)) 44)).setRow w4.heap.size (ints .u32 (numOf (byN key)))) = w5 at *
        clear Z5 hb4 hz4 C0 C1 V1 V3 hbel1 hbel3 hb3 hz3
        generalize w4.heap.size = gy at *
        obtain ⟨N, HN⟩ : ∃ N, Hid (b.length = N) := ⟨_, Lib.hid rfl⟩
        obtain ⟨M, HM⟩ : ∃ M, Hid (M = chunks b.length) := ⟨_, Lib.hid rfl⟩
        have hch := HCH.out
        rw [← HM.out, HN.out] at hch
        obtain ⟨VA, HVA⟩ : ∃ VA, Hid (polyA key a = VA) := ⟨_, Lib.hid rfl⟩
        obtain ⟨r, HR⟩ : ∃ r, Hid (byN key = r) := ⟨_, Lib.hid rfl⟩
        have HE := Lib.hid (HEND.out M HM.out)
        rw [HVA.out] at V5 HE ⊢
        rw [HR.out] at Y5 HE hyl ⊢
        rw [HN.out] at hB hd2 hbl31 hc2 HV2 ⊢
        clear hnl
        go_loopw [9] (fun t wr => ∃ j : Nat, j ≤ M ∧ t = .int .i64 ((16 * j : Nat) : Int) ∧ Blk wr w.heap.size 22 (ints .u8 key) ∧ Blk wr gv 44 (ints .u32 (numOf (VA * r ^ j))) ∧ Blk wr gy 44 (ints .u32 (numOf r)) ∧ Below w.heap.size w wr) (fun t wr => N + 16 - (intOf t).toNat)
        case atStart => exact ⟨0, by omega, rfl, C5, by rw [Nat.pow_zero, Nat.mul_one]; exact V5, Y5, hbel5⟩
        case round =>
          obtain ⟨j, hj, rfl, D0, D1, D2, hbelr⟩ := hrel
          clear C5 V5 Y5 hbel5
          by_cases hlt : j < M
          · have hlt16 : 16 * j < N := by omega
            obtain ⟨s, Hs⟩ : ∃ s, Hid (16 * j = s) := ⟨_, Lib.hid rfl⟩
            have HI1 : Hid (16 * (j + 1) = s + 16) := Lib.hid (by have := Hs.out; omega)
            rw [Hs.out] at hlt16 ⊢
            have hd0 : decide ((s : Int) < (N : Int)) = true := by simp; omega
            have hvl := numOf_len (VA * r ^ j)
            have hvl' := numOf_len (VA * r ^ (j + 1))
            go_wp2_with (first | (refine wpList_load_ints rfl 44 _ rfl gv rfl D1 Try.ar44 hvl ?_; (try simp only [Act.put, List.setIfInBounds_toArray, List.set_cons_zero, List.set_cons_succ, World.size_alloc, setRow_size, Nat.add_assoc, Nat.reduceAdd])) | (refine wpList_load_ints rfl 44 _ rfl gy rfl D2 Try.ar44 hyl ?_; (try simp only [Act.put, List.setIfInBounds_toArray, List.set_cons_zero, List.set_cons_succ, World.size_alloc, setRow_size, Nat.add_assoc, Nat.reduceAdd])))
            refine (times_c _ _ hvl (lt32 _) hyl (lt32 _) _).mono ?_
            rintro e w6 ⟨rfl, hb6⟩
            rw [on8_step]
            have E1 := D1.below' hb6
            have E0 := (D0.below' hb6).rowFar (show w.heap.size ≠ gv by omega) (ints .u32 (numOf (VA * r ^ (j + 1))))
            have E2 := (D2.below' hb6).rowFar (show gy ≠ gv by omega) (ints .u32 (numOf (VA * r ^ (j + 1))))
            have hbel6 := bSetRow (bCall hbelr hb6 hbelr.size) (show w.heap.size ≤ gv by omega) (ints .u32 (numOf (VA * r ^ (j + 1))))
            go_wp2_with (refine wpList_store_ints (k := .u32) (xs := numOf (VA * r ^ (j + 1))) rfl 44 _ _ rfl gv rfl rfl E1 (by rw [ints_size, hvl]) Try.ar44 hvl' ?_; (try simp only [Act.put, List.setIfInBounds_toArray, List.set_cons_zero, List.set_cons_succ, World.size_alloc, setRow_size, Nat.add_assoc, Nat.reduceAdd]))
            exact ⟨⟨j + 1, by omega, by rw [HI1.out]; go_num, E0, E1.row _, E2, hbel6⟩, by simp [intOf] <;> omega⟩
          · obtain rfl : j = M := by omega
            have hn0 : ¬ 16 * j < N := by omega
            clear hch hlt hj
            have HE' := HE
            have HM' := HM
            generalize 16 * j = s at *
            have hd0 : decide ((s : Int) < (N : Int)) = false := by simp; omega
            have hvl := numOf_len (VA * r ^ j)
            have hs5 := hs1.below hbelr
            have hs6 := hs2.below hbelr
            have hlnn : ([] : List Nat).length + a.length < 2 ^ 40 := by simp; omega
            have hlnb : ([] ++ a).length + b.length < 2 ^ 40 := by simp; rw [HN.out]; omega
            go_wp2_with fail
            have HE2 := Lib.hid (HE.out)
            have HR0 : Hid (key.length = 16) := Lib.hid hl
            refine wp_region_inv (by kernel_rfl) (by kernel_rfl) (fun D act_ W => ∃ u6 u39 u40 u41 u42 u43 u44 u45 u46 u47 u48 u49 u50 u51 u52 u53 u54 : Value, act_ = { tmps := #[Value.agg (ints IntKind.u8 key), Value.slice a1 a.length c1, Value.slice a2 N c2, Value.pointer (some { block := w.heap.size, off := 0 }), undef, undef, u6, Value.pointer (some { block := gv, off := 0 }), Value.pointer (some { block := gy, off := 0 }), Value.int IntKind.i64 ↑s, Value.slice a1 a.length c1, Value.int IntKind.i64 ↑a.length, Value.bool false, Value.bool false, Value.slice a2 N c2, Value.int IntKind.i64 ↑N, Value.bool false, Value.bool false, Value.bool false, Value.slice a1 a.length c1, Value.int IntKind.i64 ↑a.length, Value.int IntKind.i64 0, Value.bool false, Value.bool false, Value.agg (ints IntKind.u8 key), Value.slice a1 a.length c1, Value.agg (ints IntKind.u32 (numOf VA)), Value.agg (ints IntKind.u8 key), Value.agg (ints IntKind.u8 (clampL key)), Value.agg (ints IntKind.u32 (numOf r)), Value.int IntKind.i64 ↑s, Value.slice a2 N c2, Value.int IntKind.i64 ↑N, Value.bool false, u34, u35, u36, u37, u38, u39, u40, u41, u42, u43, u44, u45, u46, u47, u48, u49, u50, u51, u52, u53, u54], defers := [] } ∧ Below wr.heap.size wr W ∧ (D 0 → u39 = .agg (ints .u8 key)) ∧ (D 1 → ¬ D 3 → Own W wr.heap.size 5 .u8 u40 []) ∧ (D 2 → u41 = .slice a1 a.length c1) ∧ (D 3 → ¬ D 5 → Own W wr.heap.size 5 .u8 u42 ([] ++ a)) ∧ (D 4 → u43 = .slice a2 N c2) ∧ (D 5 → Own W wr.heap.size 5 .u8 u44 ([] ++ a ++ b)) ∧ (D 6 → u45 = .agg (ints .u32 (numOf (polyA key (a ++ b))))) ∧ (D 7 → u46 = .agg (ints .u32 (numOf (VA * r ^ j)))) ∧ (D 8 → u47 = .agg (ints .u8 key)) ∧ (D 9 → u48 = .slice a2 N c2) ∧ (D 10 → u49 = .agg (ints .u32 (numOf (polyA key b)))) ∧ (D 11 → u50 = .agg (ints .u32 (numOf (val (numOf (VA * r ^ j)) + val (numOf (polyA key b)))))) ∧ (D 12 → u51 = .bool true) ∧ (D 13 → u52 = .bool true) ∧ (D 14 → u53 = .bool true) ∧ (D 15 → u54 = .bool true) ∧ (D 16 → u6 = .bool true) ∧ (D 3 → D 1) ∧ (D 5 → D 3)) ?_ ?_ ?_
            · exact ⟨_, _, _, _, _, _, _, _, _, _, _, _, _, _, _, _, _, rfl, ⟨rfl, rfl, rfl, Nat.le_refl _, fun _ _ => rfl⟩, (fun h => h.elim), (fun h => h.elim), (fun h => h.elim), (fun h => h.elim), (fun h => h.elim), (fun h => h.elim), (fun h => h.elim), (fun h => h.elim), (fun h => h.elim), (fun h => h.elim), (fun h => h.elim), (fun h => h.elim), (fun h => h.elim), (fun h => h.elim), (fun h => h.elim), (fun h => h.elim), (fun h => h.elim), (fun h => h.elim), (fun h => h.elim)⟩
            · intro i o hi D act_ W hI hnD hall
              obtain ⟨u6, u39, u40, u41, u42, u43, u44, u45, u46, u47, u48, u49, u50, u51, u52, u53, u54, rfl, hW, f0, f1, f2, f3, f4, f5, f6, f7, f8, f9, f10, f11, f12, f13, f14, f15, f16, f17, f18⟩ := hI
              rcases i with _ | _ | _ | _ | _ | _ | _ | _ | _ | _ | _ | _ | _ | _ | _ | _ | _ | i
              · simp only [Nat.zero_add, Nat.reduceAdd, List.getElem?_toArray, List.getElem?_cons_succ, List.getElem?_cons_zero, Option.some.injEq] at hi
                subst hi
                refine wpOp_load rfl rfl rfl rfl (D0.below' hW) Try.ar22 hl ?_
                exact ⟨_, _, _, _, _, _, _, _, _, _, _, _, _, _, _, _, _, rfl, hW, (fun _ => rfl), (fun h hn => f1 (h.resolve_left (by decide)) (fun hc => hn (.inr hc))), (fun h => f2 (h.resolve_left (by decide))), (fun h hn => f3 (h.resolve_left (by decide)) (fun hc => hn (.inr hc))), (fun h => f4 (h.resolve_left (by decide))), (fun h => f5 (h.resolve_left (by decide))), (fun h => f6 (h.resolve_left (by decide))), (fun h => f7 (h.resolve_left (by decide))), (fun h => f8 (h.resolve_left (by decide))), (fun h => f9 (h.resolve_left (by decide))), (fun h => f10 (h.resolve_left (by decide))), (fun h => f11 (h.resolve_left (by decide))), (fun h => f12 (h.resolve_left (by decide))), (fun h => f13 (h.resolve_left (by decide))), (fun h => f14 (h.resolve_left (by decide))), (fun h => f15 (h.resolve_left (by decide))), (fun h => f16 (h.resolve_left (by decide))), (fun h => .inr (f17 (h.resolve_left (by decide)))), (fun h => .inr (f18 (h.resolve_left (by decide))))⟩
              · simp only [Nat.zero_add, Nat.reduceAdd, List.getElem?_toArray, List.getElem?_cons_succ, List.getElem?_cons_zero, Option.some.injEq] at hi
                subst hi
                refine wpOp_step (v := .slice (some ⟨W.heap.size, 0, none⟩) 0 0) (w' := W.alloc (.cells #[] 5)) rfl rfl (by kernel_rfl) ?_; have hW' := (Below.refl W.heap.size W).alloc (Nat.le_refl _) (.cells #[] 5)
                exact ⟨_, _, _, _, _, _, _, _, _, _, _, _, _, _, _, _, _, rfl, bCall hW hW' hW.size, (fun h => f0 (h.resolve_left (by decide))), (fun _ _ => Own.made (xs := []) (Blk.new W 5 #[]) hW.size (by simp [maxLen])), (fun h => f2 (h.resolve_left (by decide))), (fun h hn => (Own.below) (f3 (h.resolve_left (by decide)) (fun hc => hn (.inr hc))) hW'), (fun h => f4 (h.resolve_left (by decide))), (fun h => (Own.below) (f5 (h.resolve_left (by decide))) hW'), (fun h => f6 (h.resolve_left (by decide))), (fun h => f7 (h.resolve_left (by decide))), (fun h => f8 (h.resolve_left (by decide))), (fun h => f9 (h.resolve_left (by decide))), (fun h => f10 (h.resolve_left (by decide))), (fun h => f11 (h.resolve_left (by decide))), (fun h => f12 (h.resolve_left (by decide))), (fun h => f13 (h.resolve_left (by decide))), (fun h => f14 (h.resolve_left (by decide))), (fun h => f15 (h.resolve_left (by decide))), (fun h => f16 (h.resolve_left (by decide))), (fun _ => .inl rfl), (fun h => .inr (f18 (h.resolve_left (by decide))))⟩
              · simp only [Nat.zero_add, Nat.reduceAdd, List.getElem?_toArray, List.getElem?_cons_succ, List.getElem?_cons_zero, Option.some.injEq] at hi
                subst hi
                refine wpOp_value (v := .slice a1 a.length c1) rfl rfl rfl ?_
                exact ⟨_, _, _, _, _, _, _, _, _, _, _, _, _, _, _, _, _, rfl, hW, (fun h => f0 (h.resolve_left (by decide))), (fun h hn => f1 (h.resolve_left (by decide)) (fun hc => hn (.inr hc))), (fun _ => rfl), (fun h hn => f3 (h.resolve_left (by decide)) (fun hc => hn (.inr hc))), (fun h => f4 (h.resolve_left (by decide))), (fun h => f5 (h.resolve_left (by decide))), (fun h => f6 (h.resolve_left (by decide))), (fun h => f7 (h.resolve_left (by decide))), (fun h => f8 (h.resolve_left (by decide))), (fun h => f9 (h.resolve_left (by decide))), (fun h => f10 (h.resolve_left (by decide))), (fun h => f11 (h.resolve_left (by decide))), (fun h => f12 (h.resolve_left (by decide))), (fun h => f13 (h.resolve_left (by decide))), (fun h => f14 (h.resolve_left (by decide))), (fun h => f15 (h.resolve_left (by decide))), (fun h => f16 (h.resolve_left (by decide))), (fun h => .inr (f17 (h.resolve_left (by decide)))), (fun h => .inr (f18 (h.resolve_left (by decide))))⟩
              · simp only [Nat.zero_add, Nat.reduceAdd, List.getElem?_toArray, List.getElem?_cons_succ, List.getElem?_cons_zero, Option.some.injEq] at hi
                subst hi
                obtain rfl := f2 (pre_of hall 2 rfl)
                have ho := (f1 (pre_of hall 1 rfl) hnD); refine wpOp_append_o (zs := a) rfl rfl rfl Try.underlying30 Try.inf8 rfl (by omega) rfl ho rfl rfl hn1 (hs5.below hW) hlnn hW.size ?_; intro v' W' ho' hgr; have hWB := bGrown hW hgr hW.size ho (Nat.le_refl _)
                exact ⟨_, _, _, _, _, _, _, _, _, _, _, _, _, _, _, _, _, rfl, hWB, (fun h => f0 (h.resolve_left (by decide))), (fun _ hn => (hn (.inl rfl)).elim), (fun h => f2 (h.resolve_left (by decide))), (fun _ _ => ho'), (fun h => f4 (h.resolve_left (by decide))), (fun h => absurd (f18 (h.resolve_left (by decide))) hnD), (fun h => f6 (h.resolve_left (by decide))), (fun h => f7 (h.resolve_left (by decide))), (fun h => f8 (h.resolve_left (by decide))), (fun h => f9 (h.resolve_left (by decide))), (fun h => f10 (h.resolve_left (by decide))), (fun h => f11 (h.resolve_left (by decide))), (fun h => f12 (h.resolve_left (by decide))), (fun h => f13 (h.resolve_left (by decide))), (fun h => f14 (h.resolve_left (by decide))), (fun h => f15 (h.resolve_left (by decide))), (fun h => f16 (h.resolve_left (by decide))), (fun _ => .inr (pre_of hall 1 rfl)), (fun _ => .inl rfl)⟩
              · simp only [Nat.zero_add, Nat.reduceAdd, List.getElem?_toArray, List.getElem?_cons_succ, List.getElem?_cons_zero, Option.some.injEq] at hi
                subst hi
                refine wpOp_value (v := .slice a2 N c2) rfl rfl rfl ?_
                exact ⟨_, _, _, _, _, _, _, _, _, _, _, _, _, _, _, _, _, rfl, hW, (fun h => f0 (h.resolve_left (by decide))), (fun h hn => f1 (h.resolve_left (by decide)) (fun hc => hn (.inr hc))), (fun h => f2 (h.resolve_left (by decide))), (fun h hn => f3 (h.resolve_left (by decide)) (fun hc => hn (.inr hc))), (fun _ => rfl), (fun h => f5 (h.resolve_left (by decide))), (fun h => f6 (h.resolve_left (by decide))), (fun h => f7 (h.resolve_left (by decide))), (fun h => f8 (h.resolve_left (by decide))), (fun h => f9 (h.resolve_left (by decide))), (fun h => f10 (h.resolve_left (by decide))), (fun h => f11 (h.resolve_left (by decide))), (fun h => f12 (h.resolve_left (by decide))), (fun h => f13 (h.resolve_left (by decide))), (fun h => f14 (h.resolve_left (by decide))), (fun h => f15 (h.resolve_left (by decide))), (fun h => f16 (h.resolve_left (by decide))), (fun h => .inr (f17 (h.resolve_left (by decide)))), (fun h => .inr (f18 (h.resolve_left (by decide))))⟩
              · simp only [Nat.zero_add, Nat.reduceAdd, List.getElem?_toArray, List.getElem?_cons_succ, List.getElem?_cons_zero, Option.some.injEq] at hi
                subst hi
                obtain rfl := f4 (pre_of hall 4 rfl)
                have ho := (f3 (pre_of hall 3 rfl) hnD); refine wpOp_append_o (zs := b) rfl rfl rfl Try.underlying30 Try.inf8 rfl (by omega) rfl ho rfl HN.out.symm hn2 (hs6.below hW) hlnb hW.size ?_; intro v' W' ho' hgr; have hWB := bGrown hW hgr hW.size ho (Nat.le_refl _)
                exact ⟨_, _, _, _, _, _, _, _, _, _, _, _, _, _, _, _, _, rfl, hWB, (fun h => f0 (h.resolve_left (by decide))), (fun _ hn => (hn (.inr (pre_of hall 3 rfl))).elim), (fun h => f2 (h.resolve_left (by decide))), (fun _ hn => (hn (.inl rfl)).elim), (fun h => f4 (h.resolve_left (by decide))), (fun _ => ho'), (fun h => f6 (h.resolve_left (by decide))), (fun h => f7 (h.resolve_left (by decide))), (fun h => f8 (h.resolve_left (by decide))), (fun h => f9 (h.resolve_left (by decide))), (fun h => f10 (h.resolve_left (by decide))), (fun h => f11 (h.resolve_left (by decide))), (fun h => f12 (h.resolve_left (by decide))), (fun h => f13 (h.resolve_left (by decide))), (fun h => f14 (h.resolve_left (by decide))), (fun h => f15 (h.resolve_left (by decide))), (fun h => f16 (h.resolve_left (by decide))), (fun h => .inr (f17 (h.resolve_left (by decide)))), (fun _ => .inr (pre_of hall 3 rfl))⟩
              · simp only [Nat.zero_add, Nat.reduceAdd, List.getElem?_toArray, List.getElem?_cons_succ, List.getElem?_cons_zero, Option.some.injEq] at hi
                subst hi
                obtain rfl := f0 (pre_of hall 0 rfl)
                have hx := (f5 (pre_of hall 5 rfl)); refine wpOp_call 27 rfl rfl rfl Try.func27 (by kernel_rfl) (by kernel_rfl) (valOwn8 hl hb hab2 hlen2 hx) ?_; intro W' hW'
                exact ⟨_, _, _, _, _, _, _, _, _, _, _, _, _, _, _, _, _, rfl, bCall hW hW' hW.size, (fun h => f0 (h.resolve_left (by decide))), (fun h hn => (Own.below) (f1 (h.resolve_left (by decide)) (fun hc => hn (.inr hc))) hW'), (fun h => f2 (h.resolve_left (by decide))), (fun h hn => (Own.below) (f3 (h.resolve_left (by decide)) (fun hc => hn (.inr hc))) hW'), (fun h => f4 (h.resolve_left (by decide))), (fun h => (Own.below) (f5 (h.resolve_left (by decide))) hW'), (fun _ => rfl), (fun h => f7 (h.resolve_left (by decide))), (fun h => f8 (h.resolve_left (by decide))), (fun h => f9 (h.resolve_left (by decide))), (fun h => f10 (h.resolve_left (by decide))), (fun h => f11 (h.resolve_left (by decide))), (fun h => f12 (h.resolve_left (by decide))), (fun h => f13 (h.resolve_left (by decide))), (fun h => f14 (h.resolve_left (by decide))), (fun h => f15 (h.resolve_left (by decide))), (fun h => f16 (h.resolve_left (by decide))), (fun h => .inr (f17 (h.resolve_left (by decide)))), (fun h => .inr (f18 (h.resolve_left (by decide))))⟩
              · simp only [Nat.zero_add, Nat.reduceAdd, List.getElem?_toArray, List.getElem?_cons_succ, List.getElem?_cons_zero, Option.some.injEq] at hi
                subst hi
                refine wpOp_load rfl rfl rfl rfl (D1.below' hW) Try.ar44 hvl ?_
                exact ⟨_, _, _, _, _, _, _, _, _, _, _, _, _, _, _, _, _, rfl, hW, (fun h => f0 (h.resolve_left (by decide))), (fun h hn => f1 (h.resolve_left (by decide)) (fun hc => hn (.inr hc))), (fun h => f2 (h.resolve_left (by decide))), (fun h hn => f3 (h.resolve_left (by decide)) (fun hc => hn (.inr hc))), (fun h => f4 (h.resolve_left (by decide))), (fun h => f5 (h.resolve_left (by decide))), (fun h => f6 (h.resolve_left (by decide))), (fun _ => rfl), (fun h => f8 (h.resolve_left (by decide))), (fun h => f9 (h.resolve_left (by decide))), (fun h => f10 (h.resolve_left (by decide))), (fun h => f11 (h.resolve_left (by decide))), (fun h => f12 (h.resolve_left (by decide))), (fun h => f13 (h.resolve_left (by decide))), (fun h => f14 (h.resolve_left (by decide))), (fun h => f15 (h.resolve_left (by decide))), (fun h => f16 (h.resolve_left (by decide))), (fun h => .inr (f17 (h.resolve_left (by decide)))), (fun h => .inr (f18 (h.resolve_left (by decide))))⟩
              · simp only [Nat.zero_add, Nat.reduceAdd, List.getElem?_toArray, List.getElem?_cons_succ, List.getElem?_cons_zero, Option.some.injEq] at hi
                subst hi
                refine wpOp_load rfl rfl rfl rfl (D0.below' hW) Try.ar22 hl ?_
                exact ⟨_, _, _, _, _, _, _, _, _, _, _, _, _, _, _, _, _, rfl, hW, (fun h => f0 (h.resolve_left (by decide))), (fun h hn => f1 (h.resolve_left (by decide)) (fun hc => hn (.inr hc))), (fun h => f2 (h.resolve_left (by decide))), (fun h hn => f3 (h.resolve_left (by decide)) (fun hc => hn (.inr hc))), (fun h => f4 (h.resolve_left (by decide))), (fun h => f5 (h.resolve_left (by decide))), (fun h => f6 (h.resolve_left (by decide))), (fun h => f7 (h.resolve_left (by decide))), (fun _ => rfl), (fun h => f9 (h.resolve_left (by decide))), (fun h => f10 (h.resolve_left (by decide))), (fun h => f11 (h.resolve_left (by decide))), (fun h => f12 (h.resolve_left (by decide))), (fun h => f13 (h.resolve_left (by decide))), (fun h => f14 (h.resolve_left (by decide))), (fun h => f15 (h.resolve_left (by decide))), (fun h => f16 (h.resolve_left (by decide))), (fun h => .inr (f17 (h.resolve_left (by decide)))), (fun h => .inr (f18 (h.resolve_left (by decide))))⟩
              · simp only [Nat.zero_add, Nat.reduceAdd, List.getElem?_toArray, List.getElem?_cons_succ, List.getElem?_cons_zero, Option.some.injEq] at hi
                subst hi
                refine wpOp_value (v := .slice a2 N c2) rfl rfl rfl ?_
                exact ⟨_, _, _, _, _, _, _, _, _, _, _, _, _, _, _, _, _, rfl, hW, (fun h => f0 (h.resolve_left (by decide))), (fun h hn => f1 (h.resolve_left (by decide)) (fun hc => hn (.inr hc))), (fun h => f2 (h.resolve_left (by decide))), (fun h hn => f3 (h.resolve_left (by decide)) (fun hc => hn (.inr hc))), (fun h => f4 (h.resolve_left (by decide))), (fun h => f5 (h.resolve_left (by decide))), (fun h => f6 (h.resolve_left (by decide))), (fun h => f7 (h.resolve_left (by decide))), (fun h => f8 (h.resolve_left (by decide))), (fun _ => rfl), (fun h => f10 (h.resolve_left (by decide))), (fun h => f11 (h.resolve_left (by decide))), (fun h => f12 (h.resolve_left (by decide))), (fun h => f13 (h.resolve_left (by decide))), (fun h => f14 (h.resolve_left (by decide))), (fun h => f15 (h.resolve_left (by decide))), (fun h => f16 (h.resolve_left (by decide))), (fun h => .inr (f17 (h.resolve_left (by decide)))), (fun h => .inr (f18 (h.resolve_left (by decide))))⟩
              · simp only [Nat.zero_add, Nat.reduceAdd, List.getElem?_toArray, List.getElem?_cons_succ, List.getElem?_cons_zero, Option.some.injEq] at hi
                subst hi
                obtain rfl := f8 (pre_of hall 8 rfl)
                obtain rfl := f9 (pre_of hall 9 rfl)
                refine wpOp_call 27 rfl rfl rfl Try.func27 (by kernel_rfl) (by kernel_rfl) (HV2.out W (hs6.below hW)) ?_
                intro W' hW'
                exact ⟨_, _, _, _, _, _, _, _, _, _, _, _, _, _, _, _, _, rfl, bCall hW hW' hW.size, (fun h => f0 (h.resolve_left (by decide))), (fun h hn => (Own.below) (f1 (h.resolve_left (by decide)) (fun hc => hn (.inr hc))) hW'), (fun h => f2 (h.resolve_left (by decide))), (fun h hn => (Own.below) (f3 (h.resolve_left (by decide)) (fun hc => hn (.inr hc))) hW'), (fun h => f4 (h.resolve_left (by decide))), (fun h => (Own.below) (f5 (h.resolve_left (by decide))) hW'), (fun h => f6 (h.resolve_left (by decide))), (fun h => f7 (h.resolve_left (by decide))), (fun h => f8 (h.resolve_left (by decide))), (fun h => f9 (h.resolve_left (by decide))), (fun _ => rfl), (fun h => f11 (h.resolve_left (by decide))), (fun h => f12 (h.resolve_left (by decide))), (fun h => f13 (h.resolve_left (by decide))), (fun h => f14 (h.resolve_left (by decide))), (fun h => f15 (h.resolve_left (by decide))), (fun h => f16 (h.resolve_left (by decide))), (fun h => .inr (f17 (h.resolve_left (by decide)))), (fun h => .inr (f18 (h.resolve_left (by decide))))⟩
              · simp only [Nat.zero_add, Nat.reduceAdd, List.getElem?_toArray, List.getElem?_cons_succ, List.getElem?_cons_zero, Option.some.injEq] at hi
                subst hi
                obtain rfl := f7 (pre_of hall 7 rfl)
                obtain rfl := f10 (pre_of hall 10 rfl)
                refine wpOp_call 30 rfl rfl rfl Try.func30 (by kernel_rfl) (by kernel_rfl) (plus_c _ _ (numOf_len _) (lt32 _) (numOf_len _) (lt32 _) W) ?_
                intro W' hW'
                exact ⟨_, _, _, _, _, _, _, _, _, _, _, _, _, _, _, _, _, rfl, bCall hW hW' hW.size, (fun h => f0 (h.resolve_left (by decide))), (fun h hn => (Own.below) (f1 (h.resolve_left (by decide)) (fun hc => hn (.inr hc))) hW'), (fun h => f2 (h.resolve_left (by decide))), (fun h hn => (Own.below) (f3 (h.resolve_left (by decide)) (fun hc => hn (.inr hc))) hW'), (fun h => f4 (h.resolve_left (by decide))), (fun h => (Own.below) (f5 (h.resolve_left (by decide))) hW'), (fun h => f6 (h.resolve_left (by decide))), (fun h => f7 (h.resolve_left (by decide))), (fun h => f8 (h.resolve_left (by decide))), (fun h => f9 (h.resolve_left (by decide))), (fun h => f10 (h.resolve_left (by decide))), (fun _ => rfl), (fun h => f12 (h.resolve_left (by decide))), (fun h => f13 (h.resolve_left (by decide))), (fun h => f14 (h.resolve_left (by decide))), (fun h => f15 (h.resolve_left (by decide))), (fun h => f16 (h.resolve_left (by decide))), (fun h => .inr (f17 (h.resolve_left (by decide)))), (fun h => .inr (f18 (h.resolve_left (by decide))))⟩
              · simp only [Nat.zero_add, Nat.reduceAdd, List.getElem?_toArray, List.getElem?_cons_succ, List.getElem?_cons_zero, Option.some.injEq] at hi
                subst hi
                obtain rfl := f6 (pre_of hall 6 rfl)
                obtain rfl := f11 (pre_of hall 11 rfl)
                refine wpOp_value (v := .bool true) rfl rfl (run_eqlOp rfl rfl rfl Try.eg8n (n8eq _ _ (numOf_len _) HE.out)) ?_
                exact ⟨_, _, _, _, _, _, _, _, _, _, _, _, _, _, _, _, _, rfl, hW, (fun h => f0 (h.resolve_left (by decide))), (fun h hn => f1 (h.resolve_left (by decide)) (fun hc => hn (.inr hc))), (fun h => f2 (h.resolve_left (by decide))), (fun h hn => f3 (h.resolve_left (by decide)) (fun hc => hn (.inr hc))), (fun h => f4 (h.resolve_left (by decide))), (fun h => f5 (h.resolve_left (by decide))), (fun h => f6 (h.resolve_left (by decide))), (fun h => f7 (h.resolve_left (by decide))), (fun h => f8 (h.resolve_left (by decide))), (fun h => f9 (h.resolve_left (by decide))), (fun h => f10 (h.resolve_left (by decide))), (fun h => f11 (h.resolve_left (by decide))), (fun _ => rfl), (fun h => f13 (h.resolve_left (by decide))), (fun h => f14 (h.resolve_left (by decide))), (fun h => f15 (h.resolve_left (by decide))), (fun h => f16 (h.resolve_left (by decide))), (fun h => .inr (f17 (h.resolve_left (by decide)))), (fun h => .inr (f18 (h.resolve_left (by decide))))⟩
              · simp only [Nat.zero_add, Nat.reduceAdd, List.getElem?_toArray, List.getElem?_cons_succ, List.getElem?_cons_zero, Option.some.injEq] at hi
                subst hi
                obtain rfl := f12 (pre_of hall 12 rfl)
                refine wpOp_value (v := .bool true) rfl rfl rfl ?_
                exact ⟨_, _, _, _, _, _, _, _, _, _, _, _, _, _, _, _, _, rfl, hW, (fun h => f0 (h.resolve_left (by decide))), (fun h hn => f1 (h.resolve_left (by decide)) (fun hc => hn (.inr hc))), (fun h => f2 (h.resolve_left (by decide))), (fun h hn => f3 (h.resolve_left (by decide)) (fun hc => hn (.inr hc))), (fun h => f4 (h.resolve_left (by decide))), (fun h => f5 (h.resolve_left (by decide))), (fun h => f6 (h.resolve_left (by decide))), (fun h => f7 (h.resolve_left (by decide))), (fun h => f8 (h.resolve_left (by decide))), (fun h => f9 (h.resolve_left (by decide))), (fun h => f10 (h.resolve_left (by decide))), (fun h => f11 (h.resolve_left (by decide))), (fun h => f12 (h.resolve_left (by decide))), (fun _ => rfl), (fun h => f14 (h.resolve_left (by decide))), (fun h => f15 (h.resolve_left (by decide))), (fun h => f16 (h.resolve_left (by decide))), (fun h => .inr (f17 (h.resolve_left (by decide)))), (fun h => .inr (f18 (h.resolve_left (by decide))))⟩
              · simp only [Nat.zero_add, Nat.reduceAdd, List.getElem?_toArray, List.getElem?_cons_succ, List.getElem?_cons_zero, Option.some.injEq] at hi
                subst hi
                obtain rfl := f13 (pre_of hall 13 rfl)
                refine wpOp_call 24 rfl rfl rfl Try.func24 (by kernel_rfl) (by kernel_rfl) (awake8_c W) ?_
                intro W' hW'
                exact ⟨_, _, _, _, _, _, _, _, _, _, _, _, _, _, _, _, _, rfl, bCall hW hW' hW.size, (fun h => f0 (h.resolve_left (by decide))), (fun h hn => (Own.below) (f1 (h.resolve_left (by decide)) (fun hc => hn (.inr hc))) hW'), (fun h => f2 (h.resolve_left (by decide))), (fun h hn => (Own.below) (f3 (h.resolve_left (by decide)) (fun hc => hn (.inr hc))) hW'), (fun h => f4 (h.resolve_left (by decide))), (fun h => (Own.below) (f5 (h.resolve_left (by decide))) hW'), (fun h => f6 (h.resolve_left (by decide))), (fun h => f7 (h.resolve_left (by decide))), (fun h => f8 (h.resolve_left (by decide))), (fun h => f9 (h.resolve_left (by decide))), (fun h => f10 (h.resolve_left (by decide))), (fun h => f11 (h.resolve_left (by decide))), (fun h => f12 (h.resolve_left (by decide))), (fun h => f13 (h.resolve_left (by decide))), (fun _ => rfl), (fun h => f15 (h.resolve_left (by decide))), (fun h => f16 (h.resolve_left (by decide))), (fun h => .inr (f17 (h.resolve_left (by decide)))), (fun h => .inr (f18 (h.resolve_left (by decide))))⟩
              · simp only [Nat.zero_add, Nat.reduceAdd, List.getElem?_toArray, List.getElem?_cons_succ, List.getElem?_cons_zero, Option.some.injEq] at hi
                subst hi
                obtain rfl := f13 (pre_of hall 13 rfl)
                obtain rfl := f14 (pre_of hall 14 rfl)
                refine wpOp_value (v := .bool true) rfl rfl (by kernel_rfl) ?_
                exact ⟨_, _, _, _, _, _, _, _, _, _, _, _, _, _, _, _, _, rfl, hW, (fun h => f0 (h.resolve_left (by decide))), (fun h hn => f1 (h.resolve_left (by decide)) (fun hc => hn (.inr hc))), (fun h => f2 (h.resolve_left (by decide))), (fun h hn => f3 (h.resolve_left (by decide)) (fun hc => hn (.inr hc))), (fun h => f4 (h.resolve_left (by decide))), (fun h => f5 (h.resolve_left (by decide))), (fun h => f6 (h.resolve_left (by decide))), (fun h => f7 (h.resolve_left (by decide))), (fun h => f8 (h.resolve_left (by decide))), (fun h => f9 (h.resolve_left (by decide))), (fun h => f10 (h.resolve_left (by decide))), (fun h => f11 (h.resolve_left (by decide))), (fun h => f12 (h.resolve_left (by decide))), (fun h => f13 (h.resolve_left (by decide))), (fun h => f14 (h.resolve_left (by decide))), (fun _ => rfl), (fun h => f16 (h.resolve_left (by decide))), (fun h => .inr (f17 (h.resolve_left (by decide)))), (fun h => .inr (f18 (h.resolve_left (by decide))))⟩
              · simp only [Nat.zero_add, Nat.reduceAdd, List.getElem?_toArray, List.getElem?_cons_succ, List.getElem?_cons_zero, Option.some.injEq] at hi
                subst hi
                obtain rfl := f15 (pre_of hall 15 rfl)
                refine wpOp_value (v := .bool true) rfl rfl (by kernel_rfl) ?_
                exact ⟨_, _, _, _, _, _, _, _, _, _, _, _, _, _, _, _, _, rfl, hW, (fun h => f0 (h.resolve_left (by decide))), (fun h hn => f1 (h.resolve_left (by decide)) (fun hc => hn (.inr hc))), (fun h => f2 (h.resolve_left (by decide))), (fun h hn => f3 (h.resolve_left (by decide)) (fun hc => hn (.inr hc))), (fun h => f4 (h.resolve_left (by decide))), (fun h => f5 (h.resolve_left (by decide))), (fun h => f6 (h.resolve_left (by decide))), (fun h => f7 (h.resolve_left (by decide))), (fun h => f8 (h.resolve_left (by decide))), (fun h => f9 (h.resolve_left (by decide))), (fun h => f10 (h.resolve_left (by decide))), (fun h => f11 (h.resolve_left (by decide))), (fun h => f12 (h.resolve_left (by decide))), (fun h => f13 (h.resolve_left (by decide))), (fun h => f14 (h.resolve_left (by decide))), (fun h => f15 (h.resolve_left (by decide))), (fun _ => rfl), (fun h => .inr (f17 (h.resolve_left (by decide)))), (fun h => .inr (f18 (h.resolve_left (by decide))))⟩
              · exfalso; simp at hi
            · rintro D act_ W ⟨u6, u39, u40, u41, u42, u43, u44, u45, u46, u47, u48, u49, u50, u51, u52, u53, u54, rfl, hW, f0, f1, f2, f3, f4, f5, f6, f7, f8, f9, f10, f11, f12, f13, f14, f15, f16, f17, f18⟩ hall
              obtain rfl := f0 (hall 0 (by decide))
              obtain rfl := f2 (hall 2 (by decide))
              obtain rfl := f4 (hall 4 (by decide))
              obtain rfl := f6 (hall 6 (by decide))
              obtain rfl := f7 (hall 7 (by decide))
              obtain rfl := f8 (hall 8 (by decide))
              obtain rfl := f9 (hall 9 (by decide))
              obtain rfl := f10 (hall 10 (by decide))
              obtain rfl := f11 (hall 11 (by decide))
              obtain rfl := f12 (hall 12 (by decide))
              obtain rfl := f13 (hall 13 (by decide))
              obtain rfl := f14 (hall 14 (by decide))
              obtain rfl := f15 (hall 15 (by decide))
              obtain rfl := f16 (hall 16 (by decide))
              have x44 := f5 (hall 5 (by decide))
              clear f0 f1 f2 f3 f4 f5 f6 f7 f8 f9 f10 f11 f12 f13 f14 f15 f16 f17 f18 hall
              go_wp2
              go_ret
              exact ⟨rfl, bCall hbelr hW hbelr.size⟩
      · have hr : ((((a.length % 16 : Nat) : Int)) == 0) = false := by simp; omega
        have hr2 : (a.length : Int) % 16 = ((a.length % 16 : Nat) : Int) := by omega
        generalize a.length % 16 = ra at *
        go_enter Try.func6, Try.ntmps6
        go_wp2
        go_ret
        exact ⟨rfl, hbel⟩
    · have hd2 : decide ((b.length : Int) > 160) = true := by simp; omega
      go_enter Try.func6, Try.ntmps6
      go_wp2
      go_ret
      exact ⟨rfl, hbel⟩
  · have hd1 : decide ((a.length : Int) > 160) = true := by simp; omega
    go_enter Try.func6, Try.ntmps6
    go_wp2
    go_ret
    exact ⟨rfl, hbel⟩
end Go.Proofs.Ytppideomehdhjaa
