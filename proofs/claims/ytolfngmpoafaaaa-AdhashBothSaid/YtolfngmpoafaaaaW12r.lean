/- wringerref12's Head, Body, Sum. No condition but that bytes are below 256 and rows shorter than 2^30. -/
import Derived.Test.YtolfngmpoafaaaaW12d
import Derived.Test.YtolfngmpoafaaaaOA
namespace Go.Proofs.Ytolfngmpoafaaaa
set_option linter.unusedSimpArgs false
set_option linter.unusedVariables false
set_option linter.unusedSectionVars false
set_option linter.unusedVariables false
open Go.RowKit
theorem Own.slz {w : World} {B : Nat} {e : TypeId} {k : IntKind} {v : Value} {xs : List Nat} (h : Own w B e k v xs) : ∃ a c, v = .slice a xs.length c ∧ Sl w a k xs ∧ xs.length ≤ c ∧ c ≤ maxLen ∧ (a = none → c = 0) := by
  obtain ⟨a, c, rfl, h1, h2, h3⟩ := h.sl
  refine ⟨a, c, rfl, h1, h2, h3, fun ha => ?_⟩
  obtain ⟨-, ⟨q, -⟩ | ⟨g, cap, cur, q, -⟩⟩ := h
  · injection q with q1 q2 q3
  · injection q with q1 q2 q3
    rw [ha] at q1; cases q1
section
variable {P : Program} {ops : Array Oper} {rest : List Oper} {o : Oper} {a : Act} {w : World} {Q : Exit → Act → World → Prop}
/-- x[m:n], a part of a slice. -/
theorem wpList_sliceLH {T e m n N c : Nat} {x y z : Operand} {ad : Option Addr} {k : IntKind} {xs : List Nat} (hgd : o.guard = none) (ho : o.op = .slice T x (some y) (some z) none) (hT : P.underlying T = some (.slice e)) (hs : (P.info? e).map (·.size) = some 1)
    (hx : a.eval x = .slice ad N c) (hy : a.eval y = .int .i64 (m : Int)) (hz : a.eval z = .int .i64 (n : Int)) (hmn : m ≤ n) (hn : n ≤ c) (hl : xs.length ≤ c) (hsl : Sl w ad k xs)
    (h : ∀ ad2, Sl w ad2 k ((xs.drop m).take (n - m)) → wpList P ops Q rest (a.put o.dst (.slice ad2 (n - m) (c - m))) w) : wpList P ops Q (o :: rest) a w :=
  wpList_plain hgd fun _ hK => by
    obtain ⟨d, hd, hd1⟩ := Option.map_eq_some_iff.1 hs
    have he := elem_of hT
    have hT' : P.underlying T = some (.slice (P.elem T)) := by rw [he]; exact hT
    have hr := run_slice_lh (P := P) (w := w) T ad N c hT' .i64 .i64 m n (by omega) (by omega) (by omega)
    have hsz : (sizeOf (P.elem T)).run P w = .ok 1 w := by simp [sizeOf, typeInfo, he, hd, hd1]
    rw [hsz] at hr
    unfold Oper.wp execOp
    simp only [ho, hx, hy, hz, Option.map_some, Option.map_none, Sem.run_bind, Sem.run_pure, run_sliceAt_slice w T _ _ _ _ hT', hr, Result.andThen_ok, Int.toNat_natCast, sliced]
    exact hK _ _ (h _ ((hsl.sliced hl).take _))
end
theorem blockN_take (key : List Nat) : blockN (key.take 16) = blockN key := by
  unfold blockN
  apply List.map_congr_left
  intro i hi
  rw [List.getD_eq_getElem?_getD, List.getD_eq_getElem?_getD, List.getElem?_take, if_pos (List.mem_range.1 hi)]
theorem blockN_mid (key : List Nat) : blockN ((key.drop 16).take 16) = blockN (key.drop 16) := blockN_take _
section
variable {P : Program} {ops : Array Oper} {rest : List Oper} {o : Oper} {a : Act} {w : World} {Q : Exit → Act → World → Prop}
theorem Own.belowOf {w w' : World} {B e : Nat} {k : IntKind} {v : Value} {xs : List Nat} (h : Own w B e k v xs) (hb : Below w.heap.size w w') : Own w' B e k v xs := h.below hb
end
set_option maxRecDepth 100000 in
set_option maxHeartbeats 8000000 in
theorem rhead12_c (key tweak : List Nat) (hkl : key.length = 1104) (hkb : ∀ x ∈ key, x < 256) (htb : ∀ x ∈ tweak, x < 256) (htl : tweak.length < 2 ^ 30) (n : Nat) (hn : n < 2 ^ 63) (a1 a2 : Option Addr) (c1 c2 : Nat) (hc1 : 1104 ≤ c1) (hn2 : a2 = none → c2 = 0) (w : World) (hs1 : Sl w a1 .u8 key) (hs2 : Sl w a2 .u8 tweak) :
    Calls Try.prog 16 #[.slice a1 1104 c1, .slice a2 tweak.length c2, .int .i64 n] w fun e w' => e = .returned (.agg (ints .u8 (hashP (blockN key) (dig 256 16 (8 * n) ++ tweak)))) ∧ Below w.heap.size w w' := by
  have B0 := Blk.new w 35 (ints .u8 (zeros 16))
  have hbel := (Below.refl w.heap.size w).alloc (Nat.le_refl _) (.cells (ints .u8 (zeros 16)) 35)
  have hw1 : IntKind.u64.wrap (n : Int) = (n : Int) := by rw [IntKind.wrap_u64]; omega
  have hw2 : IntKind.u64.wrap ((n : Int) * 8) = ((8 * n % 18446744073709551616 : Nat) : Int) := by rw [IntKind.wrap_u64]; omega
  have hlo : 8 * n % 18446744073709551616 < 18446744073709551616 := by omega
  have hhi : 8 * n / 18446744073709551616 % 18446744073709551616 < 18446744073709551616 := by omega
  have E1 : Hid (8 * (n : Int) % 18446744073709551616 = ((8 * n % 18446744073709551616 : Nat) : Int)) := Lib.hid (by omega)
  have E2 : Hid ((n : Int) / 2305843009213693952 = ((8 * n / 18446744073709551616 % 18446744073709551616 : Nat) : Int)) := Lib.hid (by omega)
  have HB := Lib.hid (W12_bytes (8 * n))
  have hhl := hashP_len (blockN key) (dig 256 16 (8 * n) ++ tweak)
  go_enter Try.func16, Try.ntmps16
  go_wp2_with (refine wpList_alloc_ints rfl 35 rfl Try.z35 ?_; (try simp only [Act.put, List.setIfInBounds_toArray, List.set_cons_zero, List.set_cons_succ, World.size_alloc, setRow_size, Nat.add_assoc, Nat.reduceAdd]))
  rw [E1.out]
  generalize (w.alloc (.cells (ints .u8 (zeros 16)) 35)) = w1 at *
  have hr1 := B0.lt
  refine (put_c _ 8 hlo (by omega) _).mono ?_
  rintro e w2 ⟨v2, rfl, hown2, hb2⟩
  have hbel2 := bCall hbel hb2 hbel.size
  have hz2 := hb2.size
  go_wp2_with fail
  rw [E2.out]
  refine (put_c _ 8 hhi (by omega) _).mono ?_
  rintro e w3 ⟨v3, rfl, hown3, hb3⟩
  have hown2' := hown2.below hb3
  have hbel3 := bCall hbel2 hb3 hbel2.size
  have hz3 := hb3.size
  obtain ⟨a3, c3, rfl, hsl3, -, -, hn3⟩ := hown3.slz
  have hs13 := hs1.below hbel3
  have hs23 := hs2.below hbel3
  have R3 := (B0.below' hb2).below' hb3
  have hl3 : (dig 256 8 (8 * n / 18446744073709551616 % 18446744073709551616)).length = 8 := dig_length _ _ _
  go_wp2_with (refine wpList_append_sl rfl rfl Try.underlying22 Try.inf8 rfl (by omega) rfl hown2' rfl rfl hn3 hsl3 (by rw [dig_length, dig_length]; omega) (by omega) ?_; intro v4 w4 hown4 hgr4; rw [HB.out] at hown4; have hbel4 := bGrown hbel3 hgr4 (by omega) hown2' (by omega); have R4 := R3.grownOwn hgr4 hown2' hr1; have hs14 := hs1.below hbel4; have hs24 := hs2.below hbel4; have hz4 := hgr4.size; clear hgr4 hown2' hown3 hsl3)
  have hkt : (key.take 16).length = 16 := by rw [List.length_take]; omega
  have hbk := blkR_c a1 c1 (key.take 16) (fun x hx => hkb x (List.mem_of_mem_take hx)) (by rw [hkt]; simp [maxLen]) w4 (hs14.take 16)
  rw [hkt, blockN_take] at hbk
  refine hbk.mono ?_
  rintro e w5 ⟨rfl, hb5⟩
  have hown5 := hown4.below hb5
  have hbel5 := bCall hbel4 hb5 hbel4.size
  have R5 := R4.below' hb5
  have hs25 := hs24.below hb5
  have hz5 := hb5.size
  have hrow : ∀ x ∈ dig 256 16 (8 * n) ++ tweak, x < 256 := fun x hx => (List.mem_append.1 hx).elim (dig_lt (by omega) _ _ x) (htb x)
  have hrl : (dig 256 16 (8 * n) ++ tweak).length < 2 ^ 31 := by rw [List.length_append, dig_length]; omega
  go_wp2_with (refine wpList_append_sl rfl rfl Try.underlying22 Try.inf8 rfl (by omega) rfl hown5 rfl rfl hn2 hs25 (by rw [dig_length]; omega) (by omega) ?_; intro v6 w6 hown6 hgr6; have hbel6 := bGrown hbel5 hgr6 (by omega) hown5 (by omega); have R6 := R5.grownOwn hgr6 hown5 hr1; clear hgr6)
  obtain ⟨a6, c6, rfl, hsl6, hc6, -⟩ := hown6.sl
  refine (rhash8_c (blockN key) _ (blockN_len _) (blockN_lt hkb) hrow hrl a6 c6 _ hsl6).mono ?_
  rintro e w7 ⟨rfl, hb7⟩
  have R7 := R6.below' hb7
  have hbel7 := bCall hbel6 hb7 hbel6.size
  go_wp2_with (refine wpList_store_ints (k := .u8) (xs := hashP (blockN key) (dig 256 16 (8 * n) ++ tweak)) rfl 35 _ _ rfl w.heap.size rfl rfl R7 (zeros_size _ _) Try.ar35 hhl ?_; (try simp only [Act.put, List.setIfInBounds_toArray, List.set_cons_zero, List.set_cons_succ, World.size_alloc, setRow_size, Nat.add_assoc, Nat.reduceAdd]))
  exact ret_ints rfl rfl (R7.row _) Try.ar35 hhl ⟨rfl, bSetRow hbel7 (Nat.le_refl _) _⟩
/-- What the reference's loop has put together. -/
theorem rpiece (m : List Nat) (q e : Nat) (h1 : e ≤ m.length) (h2 : e = m.length ∧ e ≤ 1024 * q + 1024 ∨ e = 1024 * q + 1024) : (m.drop (1024 * q)).take (e - 1024 * q) = pieceL m q := by
  unfold pieceL
  rcases h2 with ⟨rfl, h2⟩ | rfl
  · rw [List.take_of_length_le (by rw [List.length_drop]; omega), List.take_of_length_le (by rw [List.length_drop]; omega)]
  · rw [show 1024 * q + 1024 - 1024 * q = 1024 by omega]
set_option maxRecDepth 100000 in
set_option maxHeartbeats 16000000 in
theorem rbody12_c (key b : List Nat) (hkl : key.length = 1104) (hkb : ∀ x ∈ key, x < 256) (hbb : ∀ x ∈ b, x < 256) (hbl : b.length < 2 ^ 30) (a1 a2 : Option Addr) (c1 c2 : Nat) (hc1 : 1104 ≤ c1) (hn2 : a2 = none → c2 = 0) (w : World) (hs1 : Sl w a1 .u8 key) (hs2 : Sl w a2 .u8 b) :
    Calls Try.prog 17 #[.slice a1 1104 c1, .slice a2 b.length c2] w fun e w' => e = .returned (.agg (ints .u8 (hashP (blockN (key.drop 16)) (nhAll (wordsN (key.drop 32)) (padL b) (piecesN (padL b).length))))) ∧ Below w.heap.size w w' := by
  have B0 := Blk.new w 35 (ints .u8 (zeros 16))
  have hbel := (Below.refl w.heap.size w).alloc (Nat.le_refl _) (.cells (ints .u8 (zeros 16)) 35)
  have hs11 := hs1.below hbel
  have hs21 := hs2.below hbel
  have hdl : (key.drop 32).length = 1072 := by rw [List.length_drop]; omega
  have hrw := fun W a3 c3 h => rwords_c a3 c3 (key.drop 32) (fun x hx => hkb x (List.mem_of_mem_drop hx)) hdl W h
  rw [hdl] at hrw
  go_enter Try.func17, Try.ntmps17
  go_wp2_with (first | (refine wpList_alloc_ints rfl 35 rfl Try.z35 ?_; (try simp only [Act.put, List.setIfInBounds_toArray, List.set_cons_zero, List.set_cons_succ, World.size_alloc, setRow_size, Nat.add_assoc, Nat.reduceAdd])) | (refine wpList_sliceLo (n := 32) rfl rfl Try.underlying22 Try.s15 rfl rfl hkl (by omega) hc1 hs11 ?_; intro ad3 c3 hsl3 hne3 hc3 _))
  generalize (w.alloc (.cells (ints .u8 (zeros 16)) 35)) = w1 at *
  have hr1 := B0.lt
  refine (hrw _ _ _ hsl3).mono ?_
  rintro e w2 ⟨v2, rfl, hown2, hb2⟩
  have hbel2 := bCall hbel hb2 hbel.size
  have R2 := B0.below' hb2
  have hs22 := hs21.below hb2
  have hz2 := hb2.size
  go_wp2_with fail
  refine (padR_c a2 c2 b hn2 (by omega) _ hs22).mono ?_
  rintro e w3 ⟨v3, rfl, hown3, hb3⟩
  have hbel3 := bCall hbel2 hb3 hbel2.size
  have R3 := R2.below' hb3
  have hown2' := hown2.below hb3
  have hz3 := hb3.size
  obtain ⟨aw, cw, rfl, hslw, -, -⟩ := hown2'.sl
  obtain ⟨am, cm, rfl, hslm, hcm, -⟩ := hown3.sl
  rw [wordsN_len]
  obtain ⟨N, HN⟩ : ∃ N, Hid ((padL b).length = N) := ⟨_, Lib.hid rfl⟩
  have hpm := padL_mod b
  have hpl := padL_len b
  have hpb := padL_lt hbb
  rw [HN.out] at hpm hpl hcm ⊢
  have hNb : N < 2 ^ 31 := by omega
  clear hrw hs11 hs21 hsl3 B0 R2 hs22 hown2 hown3 hown2' hb2 hb3 hbel hbel2 hpl hne3
  go_wp2_with fail
  have hPN : piecesN N = (N + 1023) / 1024 := rfl
  obtain ⟨M, HM⟩ : ∃ M, Hid (piecesN N = M) := ⟨_, Lib.hid rfl⟩
  have hM1 : N ≤ 1024 * M ∧ 1024 * M < N + 1024 := by rw [← HM.out, hPN]; omega
  clear hPN
  have hwl := wordsN_len (key.drop 32)
  have hwlt := wordsN_lt (key := key.drop 32) fun x hx => hkb x (List.mem_of_mem_drop hx)
  obtain ⟨B, HB⟩ : ∃ B, Hid (w3.heap.size = B) := ⟨_, Lib.hid rfl⟩
  have hB : w.heap.size < B := by have := HB.out; omega
  have HSW : Hid (∀ W, Below B w3 W → Sl W aw .u32 (wordsN (key.drop 32)) ∧ Sl W am .u8 (padL b)) := Lib.hid fun W hW => by
    rw [← HB.out] at hW
    exact ⟨hslw.below hW, hslm.below hW⟩
  clear hslw hslm
  obtain ⟨words, HWD⟩ : ∃ ws, Hid (wordsN (key.drop 32) = ws) := ⟨_, Lib.hid rfl⟩
  obtain ⟨m, HMM⟩ : ∃ m, Hid (padL b = m) := ⟨_, Lib.hid rfl⟩
  rw [HWD.out] at hwl hwlt HSW
  have HN0 := HN
  rw [HMM.out] at HN hpb HSW
  go_loopw [8, 9] (fun v t wr => ∃ q : Nat, q ≤ M ∧ t = .int .i64 ((1024 * q : Nat) : Int) ∧ Own wr B 5 .u8 v (nhAll words m q) ∧ B ≤ wr.heap.size ∧ Blk wr w.heap.size 35 (ints .u8 (zeros 16)) ∧ Below B w3 wr) (fun v t wr => N + 1024 - (intOf t).toNat)
  case atStart => exact ⟨0, by omega, rfl, Own.nil _ _ _ _, by rw [HB.out]; omega, R3, Below.refl _ _⟩
  case round =>
    obtain ⟨q, hq, rfl, hown, hBs, R4, hbelr⟩ := hrel
    clear R3
    have hnl := nhAll_len words m q
    by_cases hlt : q < M
    · have hlt2 : 1024 * q < N := by omega
      obtain ⟨hslw, hslm⟩ := HSW.out _ hbelr
      obtain ⟨s, Hs⟩ : ∃ s, Hid (1024 * q = s) := ⟨_, Lib.hid rfl⟩
      have HI1 : Hid (1024 * (q + 1) = s + 1024) := Lib.hid (by have := Hs.out; omega)
      have hsN : s < N := by rw [← Hs.out]; exact hlt2
      have hpn := fun e h1 h2 => rpiece m q e h1 h2
      have hpb2 := pieceL_lt hpb q
      have HNX : Hid (nhAll words m (q + 1) = nhAll words m q ++ nhOut words (pieceL m q)) := Lib.hid rfl
      have hol := nhOut_len words (pieceL m q)
      have hlna : (nhAll words m q).length + 32 < 2 ^ 40 := by rw [hnl]; omega
      rw [Hs.out, HN.out] at hpn
      rw [Hs.out]
      have HPN := Lib.hid hpn
      have hd0 : decide ((s : Int) < (N : Int)) = true := by simp; omega
      clear hpn hlt2 hM1 hnl
      by_cases hbig : s + 1024 < N
      · have hd1 : decide ((N : Int) > (s : Int) + 1024) = true := by simp; omega
        have hpc := HPN.out (s + 1024) (by omega) (.inr rfl)
        have HPC := Lib.hid hpc
        have hpl2 : (pieceL m q).length = 1024 := by rw [pieceL_len, HN.out]; have := Hs.out; omega
        have hrh := fun ad (h : Sl _ ad .u8 (pieceL m q)) => rhash_c aw ad cw (cm - s) words (pieceL m q) hpb2 hwlt (by omega) (by omega) _ hslw h
        rw [hwl, hpl2] at hrh
        have hm1 : s ≤ s + 1024 := by omega
        have hm2 : s + 1024 ≤ cm := by omega
        have hm3 : m.length ≤ cm := by rw [HN.out]; exact hcm
        have hcst : ((s + 1024 : Nat) : Int) = (s : Int) + 1024 := by omega
        have e1024 : s + 1024 - s = 1024 := by omega
        clear hpc
        go_wp2_with (refine wpList_sliceLH (m := s) (n := s + 1024) rfl rfl Try.underlying22 Try.s15 rfl rfl rfl hm1 hm2 hm3 hslm ?_; intro ad5 hsl5)
        rw [HPC.out] at hsl5
        refine (hrh ad5 hsl5).mono ?_
        rintro e w6 ⟨rfl, hb6⟩
        have hbel6 := bCall hbelr hb6 (by have := hbelr.size; have := HB.out; omega)
        have hown6 := hown.below hb6
        have R6 := R4.below' hb6
        have hz6 := hb6.size
        obtain ⟨out, HO⟩ : ∃ out, Hid (nhOut words (pieceL m q) = out) := ⟨_, Lib.hid rfl⟩
        rw [HO.out] at hol HNX
        rw [HO.out]
        have Z := Blk.new w6 47 (ints .u8 (zeros 32))
        have O7 := Z.row (ints .u8 out)
        have hb7 : Below w6.heap.size w6 ((w6.alloc (.cells (ints .u8 (zeros 32)) 47)).setRow w6.heap.size (ints .u8 out)) := bSetRow ((Below.refl _ _).alloc (Nat.le_refl _) (.cells (ints .u8 (zeros 32)) 47)) (Nat.le_refl _) (ints .u8 out)
        have hown7 := hown6.below hb7
        have R7 := R6.below' hb7
        have hbel7 := bCall hbel6 hb7 (by omega)
        have hz7 := hb7.size
        have hs7 := Sl.blk O7
        have hln7 : (nhAll words m q).length + out.length < 2 ^ 40 := by rw [hol]; exact hlna
        have hB7 : B ≤ ((w6.alloc (.cells (ints .u8 (zeros 32)) 47)).setRow w6.heap.size (ints .u8 out)).heap.size := by omega
        go_wp2_with (first | (refine wpList_alloc_ints rfl 47 rfl Try.z47 ?_; (try simp only [Act.put, List.setIfInBounds_toArray, List.set_cons_zero, List.set_cons_succ, World.size_alloc, setRow_size, Nat.add_assoc, Nat.reduceAdd])) | (refine wpList_store_ints (k := .u8) (xs := out) rfl 47 _ _ rfl w6.heap.size rfl rfl Z (zeros_size _ _) Try.ar47 hol ?_; (try simp only [Act.put, List.setIfInBounds_toArray, List.set_cons_zero, List.set_cons_succ, World.size_alloc, setRow_size, Nat.add_assoc, Nat.reduceAdd])) | (refine wpList_append_sl (zs := out) rfl rfl Try.underlying22 Try.inf8 rfl (by omega) rfl hown7 rfl hol.symm (fun h => by cases h) hs7 hln7 hB7 ?_; intro v8 w8 hown8 hgr8; have hbel8 := bGrown hbel7 hgr8 hB7 hown7 (Nat.le_refl _); have R8 := R7.grownOwn hgr8 hown7 hB; have hz8 := hgr8.size; (try simp only [Act.put, List.setIfInBounds_toArray, List.set_cons_zero, List.set_cons_succ, World.size_alloc, setRow_size, Nat.add_assoc, Nat.reduceAdd])))
        exact ⟨⟨q + 1, by omega, by rw [HI1.out]; go_num, by rw [HNX.out]; exact hown8, by omega, R8, hbel8⟩, by simp [intOf] <;> omega⟩
      · have hd1 : decide ((N : Int) > (s : Int) + 1024) = false := by simp; omega
        have hpc := HPN.out N (by omega) (.inl ⟨rfl, by omega⟩)
        have HPC := Lib.hid hpc
        have hpl2 : (pieceL m q).length = N - s := by rw [pieceL_len, HN.out]; have := Hs.out; omega
        have hrh := fun ad (h : Sl _ ad .u8 (pieceL m q)) => rhash_c aw ad cw (cm - s) words (pieceL m q) hpb2 hwlt (by omega) (by omega) _ hslw h
        rw [hwl, hpl2] at hrh
        have hm1 : s ≤ N := by omega
        have hm3 : m.length ≤ cm := by rw [HN.out]; exact hcm
        clear hpc
        go_wp2_with (refine wpList_sliceLH (m := s) (n := N) rfl rfl Try.underlying22 Try.s15 rfl rfl rfl hm1 hcm hm3 hslm ?_; intro ad5 hsl5)
        rw [HPC.out] at hsl5
        refine (hrh ad5 hsl5).mono ?_
        rintro e w6 ⟨rfl, hb6⟩
        have hbel6 := bCall hbelr hb6 (by have := hbelr.size; have := HB.out; omega)
        have hown6 := hown.below hb6
        have R6 := R4.below' hb6
        have hz6 := hb6.size
        obtain ⟨out, HO⟩ : ∃ out, Hid (nhOut words (pieceL m q) = out) := ⟨_, Lib.hid rfl⟩
        rw [HO.out] at hol HNX
        rw [HO.out]
        have Z := Blk.new w6 47 (ints .u8 (zeros 32))
        have O7 := Z.row (ints .u8 out)
        have hb7 : Below w6.heap.size w6 ((w6.alloc (.cells (ints .u8 (zeros 32)) 47)).setRow w6.heap.size (ints .u8 out)) := bSetRow ((Below.refl _ _).alloc (Nat.le_refl _) (.cells (ints .u8 (zeros 32)) 47)) (Nat.le_refl _) (ints .u8 out)
        have hown7 := hown6.below hb7
        have R7 := R6.below' hb7
        have hbel7 := bCall hbel6 hb7 (by omega)
        have hz7 := hb7.size
        have hs7 := Sl.blk O7
        have hln7 : (nhAll words m q).length + out.length < 2 ^ 40 := by rw [hol]; exact hlna
        have hB7 : B ≤ ((w6.alloc (.cells (ints .u8 (zeros 32)) 47)).setRow w6.heap.size (ints .u8 out)).heap.size := by omega
        go_wp2_with (first | (refine wpList_alloc_ints rfl 47 rfl Try.z47 ?_; (try simp only [Act.put, List.setIfInBounds_toArray, List.set_cons_zero, List.set_cons_succ, World.size_alloc, setRow_size, Nat.add_assoc, Nat.reduceAdd])) | (refine wpList_store_ints (k := .u8) (xs := out) rfl 47 _ _ rfl w6.heap.size rfl rfl Z (zeros_size _ _) Try.ar47 hol ?_; (try simp only [Act.put, List.setIfInBounds_toArray, List.set_cons_zero, List.set_cons_succ, World.size_alloc, setRow_size, Nat.add_assoc, Nat.reduceAdd])) | (refine wpList_append_sl (zs := out) rfl rfl Try.underlying22 Try.inf8 rfl (by omega) rfl hown7 rfl hol.symm (fun h => by cases h) hs7 hln7 hB7 ?_; intro v8 w8 hown8 hgr8; have hbel8 := bGrown hbel7 hgr8 hB7 hown7 (Nat.le_refl _); have R8 := R7.grownOwn hgr8 hown7 hB; have hz8 := hgr8.size; (try simp only [Act.put, List.setIfInBounds_toArray, List.set_cons_zero, List.set_cons_succ, World.size_alloc, setRow_size, Nat.add_assoc, Nat.reduceAdd])))
        exact ⟨⟨q + 1, by omega, by rw [HI1.out]; go_num, by rw [HNX.out]; exact hown8, by omega, R8, hbel8⟩, by simp [intOf] <;> omega⟩
    · obtain rfl : q = M := by omega
      have hn0 : ¬ 1024 * q < N := by omega
      have hq31 : 32 * q < 2 ^ 31 := by omega
      clear hM1 hlt hq
      generalize 1024 * q = s at *
      have hd0 : decide ((s : Int) < (N : Int)) = false := by simp; omega
      have hwb := bCall hbel3 (by rw [HB.out]; exact hbelr) hbel3.size
      have hs15 := hs1.below hwb
      have hm16 : 16 ≤ 32 := by omega
      have hm32 : 32 ≤ c1 := by omega
      have hkc : key.length ≤ c1 := by omega
      have HHASH : Hid (hashP (blockN (key.drop 16)) (nhAll (wordsN (key.drop 32)) (padL b) (piecesN N)) = hashP (blockN (key.drop 16)) (nhAll words m q)) := Lib.hid (by rw [HWD.out, HMM.out, HM.out])
      go_wp2_with (refine wpList_sliceLH (m := 16) (n := 32) rfl rfl Try.underlying22 Try.s15 rfl rfl rfl hm16 hm32 hkc hs15 ?_; intro ad6 hsl6)
      have hkt : ((key.drop 16).take 16).length = 16 := by rw [List.length_take, List.length_drop]; omega
      have hbk := fun W h => blkR_c ad6 (c1 - 16) ((key.drop 16).take 16) (fun x hx => hkb x (List.mem_of_mem_drop (List.mem_of_mem_take hx))) (by rw [hkt]; simp [maxLen]) W h
      rw [hkt, blockN_mid] at hbk
      refine (hbk _ hsl6).mono ?_
      rintro e w6 ⟨rfl, hb6⟩
      have hown6 := hown.below hb6
      have R6 := R4.below' hb6
      have hbel6 := bCall hwb hb6 hwb.size
      obtain ⟨av, cv, rfl, hslv, -, -⟩ := hown6.sl
      have hal31 : (nhAll words m q).length < 2 ^ 31 := by rw [hnl]; exact hq31
      clear hnl
      go_wp2_with fail
      refine (rhash8_c (blockN (key.drop 16)) _ (blockN_len _) (blockN_lt fun x hx => hkb x (List.mem_of_mem_drop hx)) (nhAll_lt _ _ _) hal31 av cv _ hslv).mono ?_
      rintro e w7 ⟨rfl, hb7⟩
      have R7 := R6.below' hb7
      have hbel7 := bCall hbel6 hb7 hbel6.size
      have hhl := hashP_len (blockN (key.drop 16)) (nhAll words m q)
      go_wp2_with (refine wpList_store_ints (k := .u8) (xs := hashP (blockN (key.drop 16)) (nhAll words m q)) rfl 35 _ _ rfl w.heap.size rfl rfl R7 (zeros_size _ _) Try.ar35 hhl ?_; (try simp only [Act.put, List.setIfInBounds_toArray, List.set_cons_zero, List.set_cons_succ, World.size_alloc, setRow_size, Nat.add_assoc, Nat.reduceAdd]))
      exact ret_ints rfl rfl (R7.row _) Try.ar35 hhl ⟨by rw [HN0.out, HHASH.out], bSetRow hbel7 (Nat.le_refl _) _⟩
theorem le_hashP (key bs : List Nat) : le (hashP key bs) = polyA key bs % 340282366920938463463374607431768211456 := by unfold hashP; exact le_dig16 _
theorem dig_sum (a b : Nat) : dig 256 16 (a % 340282366920938463463374607431768211456 + b % 340282366920938463463374607431768211456) = dig 256 16 (a + b) := by
  rw [← dig_mod 256 16 (a % _ + _), ← dig_mod 256 16 (a + b)]
  congr 1
  have : (256 : Nat) ^ 16 = 340282366920938463463374607431768211456 := by decide
  rw [this]
  omega
set_option maxRecDepth 100000 in
set_option maxHeartbeats 4000000 in
theorem rsum12_c (key tweak b : List Nat) (hkl : key.length = 1104) (hkb : ∀ x ∈ key, x < 256) (htb : ∀ x ∈ tweak, x < 256) (htl : tweak.length < 2 ^ 30) (hbb : ∀ x ∈ b, x < 256) (hbl : b.length < 2 ^ 30) (a1 a2 a3 : Option Addr) (c1 c2 c3 : Nat) (hc1 : 1104 ≤ c1) (hn2 : a2 = none → c2 = 0) (hn3 : a3 = none → c3 = 0) (w : World) (hs1 : Sl w a1 .u8 key) (hs2 : Sl w a2 .u8 tweak) (hs3 : Sl w a3 .u8 b) :
    Calls Try.prog 18 #[.slice a1 1104 c1, .slice a2 tweak.length c2, .slice a3 b.length c3] w fun e w' => e = .returned (.agg (ints .u8 (dig 256 16 (headN (blockN key) tweak b.length + bodyN (blockN (key.drop 16)) (wordsN (key.drop 32)) b)))) ∧ Below w.heap.size w w' := by
  have B0 := Blk.new w 35 (ints .u8 (zeros 16))
  have hbel := (Below.refl w.heap.size w).alloc (Nat.le_refl _) (.cells (ints .u8 (zeros 16)) 35)
  have s1 := hs1.below hbel
  have s2 := hs2.below hbel
  have s3 := hs3.below hbel
  go_enter Try.func18, Try.ntmps18
  go_wp2_with (refine wpList_alloc_ints rfl 35 rfl Try.z35 ?_; (try simp only [Act.put, List.setIfInBounds_toArray, List.set_cons_zero, List.set_cons_succ, World.size_alloc, setRow_size, Nat.add_assoc, Nat.reduceAdd]))
  generalize (w.alloc (.cells (ints .u8 (zeros 16)) 35)) = w1 at *
  refine (rhead12_c key tweak hkl hkb htb htl b.length (by omega) a1 a2 c1 c2 hc1 hn2 _ s1 s2).mono ?_
  rintro e w2 ⟨rfl, hb2⟩
  have B2 := B0.below' hb2
  have hbel2 := bCall hbel hb2 hbel.size
  go_wp2_with fail
  refine (rbody12_c key b hkl hkb hbb hbl a1 a3 c1 c3 hc1 hn3 _ (s1.below hb2) (s3.below hb2)).mono ?_
  rintro e w3 ⟨rfl, hb3⟩
  have B3 := B2.below' hb3
  have hbel3 := bCall hbel2 hb3 hbel2.size
  go_wp2_with fail
  refine (rplus12_c _ _ (hashP_len _ _) (hashP_lt _ _) (hashP_len _ _) (hashP_lt _ _) _).mono ?_
  rintro e w4 ⟨rfl, hb4⟩
  have B4 := B3.below' hb4
  have hbel4 := bCall hbel3 hb4 hbel3.size
  rw [le_hashP, le_hashP, dig_sum]
  have hdl : (dig 256 16 (polyA (blockN key) (dig 256 16 (8 * b.length) ++ tweak) + polyA (blockN (key.drop 16)) (nhAll (wordsN (key.drop 32)) (padL b) (piecesN (padL b).length)))).length = 16 := dig_length _ _ _
  go_wp2_with (refine wpList_store_ints (k := .u8) (xs := dig 256 16 (polyA (blockN key) (dig 256 16 (8 * b.length) ++ tweak) + polyA (blockN (key.drop 16)) (nhAll (wordsN (key.drop 32)) (padL b) (piecesN (padL b).length)))) rfl 35 _ _ rfl w.heap.size rfl rfl B4 (zeros_size _ _) Try.ar35 hdl ?_; (try simp only [Act.put, List.setIfInBounds_toArray, List.set_cons_zero, List.set_cons_succ, World.size_alloc, setRow_size, Nat.add_assoc, Nat.reduceAdd]))
  exact ret_ints rfl rfl (B4.row _) Try.ar35 hdl ⟨rfl, bSetRow hbel4 (Nat.le_refl _) _⟩
end Go.Proofs.Ytolfngmpoafaaaa
