/- The walk of AdhashPieces. No condition but that bytes are below 256. -/
import Derived.Test.YtolfngmpoafaaaaL12c
namespace Go.Proofs.Ytolfngmpoafaaaa
set_option linter.unusedSimpArgs false
set_option linter.unusedVariables false
set_option linter.unusedSectionVars false
set_option linter.unusedVariables false
open Go.RowKit
theorem pieces_body (mk W b : List Nat) (M : Nat) (h : piecesN (padL b).length = M) : W12 (bodyN mk W b) = W12 (polyA mk (nhAll W (padL b) M)) := by subst h; rfl
section
variable {P : Program} {ops : Array Oper} {rest : List Oper} {o : Oper} {a : Act} {w : World} {Q : Exit → Act → World → Prop}
/-- x[n:], in whatever world. -/
theorem wpList_sliceLoW {T e n N c : Nat} {x y : Operand} {ad : Option Addr} (hgd : o.guard = none) (ho : o.op = .slice T x (some y) none none) (hT : P.underlying T = some (.slice e)) (hs : (P.info? e).map (·.size) = some 1)
    (hx : a.eval x = .slice ad N c) (hy : a.eval y = .int .i64 (n : Int)) (hn : n ≤ N)
    (h : ∀ ad2 c2, (∀ (W : World) (k : IntKind) (xs : List Nat), Sl W ad k xs → xs.length ≤ c → Sl W ad2 k (xs.drop n)) → (N ≤ c → N - n ≤ c2) → wpList P ops Q rest (a.put o.dst (.slice ad2 (N - n) c2)) w) : wpList P ops Q (o :: rest) a w :=
  wpList_plain hgd fun _ hK => by
    obtain ⟨d, hd, hd1⟩ := Option.map_eq_some_iff.1 hs
    have he := elem_of hT
    have hT' : P.underlying T = some (.slice (P.elem T)) := by rw [he]; exact hT
    have hr := run_slice_l (P := P) (w := w) T ad N c hT' .i64 n (by omega) (by omega)
    have hsz : (sizeOf (P.elem T)).run P w = .ok 1 w := by simp [sizeOf, typeInfo, he, hd, hd1]
    rw [hsz] at hr
    unfold Oper.wp execOp
    simp only [ho, hx, hy, Option.map_some, Option.map_none, Sem.run_bind, Sem.run_pure, run_sliceAt_slice w T _ _ _ _ hT', hr, Result.andThen_ok, Int.toNat_natCast, sliced]
    exact hK _ _ (h _ _ (fun W k xs hsl hl => hsl.sliced hl) (fun hc => by omega))
end
set_option maxRecDepth 100000 in
set_option maxHeartbeats 16000000 in
theorem adhashPieces_c (key b : List Nat) (hkb : ∀ x ∈ key, x < 256) (hbb : ∀ x ∈ b, x < 256) (a1 a2 : Option Addr) (c1 c2 : Nat) (hc1 : key.length ≤ c1) (w : World) (s1 : Sl w a1 .u8 key) (s2 : Sl w a2 .u8 b) :
    Calls Try.prog 7 #[.slice a1 key.length c1, .slice a2 b.length c2] w fun e w' => e = .returned (.bool true) ∧ Below w.heap.size w w' := by
  by_cases hkl : key.length = 1104
  · have hkl0 := hkl
    rw [hkl] at hc1 ⊢
    by_cases hbl : b.length ≤ 2500
    · have hd0 : decide ((b.length : Int) > 2500) = false := by simp; omega
      have hdl : (key.drop 32).length = 1072 := by rw [List.length_drop]; omega
      have hrw := fun W a3 c3 h => words_c a3 c3 (key.drop 32) (fun x hx => hkb x (List.mem_of_mem_drop hx)) hdl W h
      rw [hdl] at hrw
      have HB2 := Lib.hid fun W g gw (hK : IsK W g gw key) (h : Sl W a2 .u8 b) => body12_c g gw key b hkb hbb (by omega) a2 c2 W hK h
      go_enter Try.func7, Try.ntmps7
      go_wp2_with fail
      refine (long_yes _ _ _).mono ?_
      rintro e w' ⟨rfl, rfl⟩
      go_wp2_with fail
      refine (new12_c key hkb hkl a1 c1 hc1 _ s1).mono ?_
      rintro e w2 ⟨g, gw, rfl, hg, hgw, K2, hb2⟩
      have s12 := s1.below hb2
      go_wp2_with (refine wpList_sliceLo (n := 32) rfl rfl Try.underlying22 Try.s15 rfl rfl hkl0 (by omega) hc1 s12 ?_; intro ad3 c3 hsl3 hne3 hc3 _)
      refine (hrw _ _ _ hsl3).mono ?_
      rintro e w3 ⟨rfl, W3, hb3⟩
      have K3 := K2.below hb3
      have hbel3 := bCall hb2 hb3 hb2.size
      have s23 := s2.below hbel3
      go_wp2_with fail
      refine (padded_c a2 c2 b (by omega) _ s23).mono ?_
      rintro e w4 ⟨rfl, hb4, M4⟩
      have K4 := K3.below hb4
      have W4 := W3.below' hb4
      have hbel4 := bCall hbel3 hb4 hbel3.size
      obtain ⟨N, HN⟩ : ∃ N, Hid ((padL b).length = N) := ⟨_, Lib.hid rfl⟩
      have hpm := padL_mod b
      have hpl := padL_len b
      have hpb := padL_lt hbb
      rw [HN.out] at hpm hpl ⊢
      have hNb : N < 2 ^ 31 := by omega
      clear hpl
      go_wp2_with fail
      obtain ⟨M, HM⟩ : ∃ M, Hid (piecesN N = M) := ⟨_, Lib.hid rfl⟩
      have hM1 : N ≤ 1024 * M ∧ 1024 * M < N + 1024 := by rw [← HM.out]; unfold piecesN; omega
      have hwl := wordsN_len (key.drop 32)
      have hwlt := wordsN_lt (key := key.drop 32) fun x hx => hkb x (List.mem_of_mem_drop hx)
      have HPB := Lib.hid (pieces_body (blockN (key.drop 16)) (wordsN (key.drop 32)) b M (by rw [HN.out, HM.out]))
      obtain ⟨B, HB⟩ : ∃ B, Hid (w4.heap.size = B) := ⟨_, Lib.hid rfl⟩
      have hwB : w.heap.size ≤ B := by rw [← HB.out]; exact hbel4.size
      have hslm0 := Sl.blk M4
      have HSW : Hid (∀ W, Below B w4 W → Sl W (some ⟨w2.heap.size, 0, none⟩) .u32 (wordsN (key.drop 32)) ∧ IsK W g gw key) := Lib.hid fun W hW => by
        rw [← HB.out] at hW
        exact ⟨(Sl.blk W4).below hW, K4.below hW⟩
      have HS0 : Hid (∀ W, Below B w4 W → Sl W (some ⟨w3.heap.size, 0, none⟩) .u8 (padL b)) := Lib.hid fun W hW => by
        rw [← HB.out] at hW
        exact hslm0.below hW
      obtain ⟨words, HWD⟩ : ∃ ws, Hid (wordsN (key.drop 32) = ws) := ⟨_, Lib.hid rfl⟩
      obtain ⟨pm, HMM⟩ : ∃ m, Hid (padL b = m) := ⟨_, Lib.hid rfl⟩
      rw [HWD.out] at hwl hwlt HSW HPB HB2
      rw [HMM.out] at HN hpb HS0 HPB
      clear hslm0 W4 K4 M4 W3 K3 s23 hsl3 hne3 hc3 s12 K2 hrw hdl
      go_loopw [9, 10] (fun mv v wr => ∃ (q : Nat) (a' : Option Addr) (c' : Nat), q ≤ M ∧ mv = .slice a' (N - 1024 * q) c' ∧ N - 1024 * q ≤ c' ∧ Hid (∀ W, Below B w4 W → Sl W a' .u8 (pm.drop (1024 * q))) ∧ Own wr B 5 .u8 v (nhAll words pm q) ∧ B ≤ wr.heap.size ∧ Below B w4 wr) (fun mv v wr => lenV12 mv)
      case atStart => exact ⟨0, _, _, by omega, rfl, by omega, by rw [Nat.mul_zero, List.drop_zero]; exact HS0, Own.nil _ _ _ _, by rw [HB.out]; omega, Below.refl _ _⟩
      case round =>
        obtain ⟨q, a', c', hq, rfl, hc', HSM, hown, hBs, hbelr⟩ := hrel
        clear HS0
        have hnl := nhAll_len words pm q
        by_cases hlt : q < M
        · have hlt2 : 0 < N - 1024 * q := by omega
          obtain ⟨hslw, hKr⟩ := HSW.out _ hbelr
          have hslm := HSM.out _ hbelr
          obtain ⟨n, hn⟩ : ∃ n, n = min (N - 1024 * q) 1024 := ⟨_, rfl⟩
          have HPT := Lib.hid (piece_take pm q)
          have hpl2 : (pieceL pm q).length = n := by rw [pieceL_len, HN.out]; omega
          rw [HN.out, ← hn] at HPT
          have hpb2 := pieceL_lt hpb q
          have herr : nhErr words (pieceL pm q) = 0 := nhErr_ok hwl (by omega) (by omega)
          have hrh := fun ad (h : Sl _ ad .u8 (pieceL pm q)) => hash_c (some ⟨w2.heap.size, 0, none⟩) ad 268 c' words (pieceL pm q) hpb2 hwlt (by omega) (by omega) (by omega) (by simp [maxLen]) _ hslw h
          rw [hwl, hpl2, herr] at hrh
          have HRH := Lib.hid hrh
          have hol := nhOut_len words (pieceL pm q)
          have HNX : Hid (nhAll words pm (q + 1) = nhAll words pm q ++ nhOut words (pieceL pm q)) := Lib.hid rfl
          have hlna : (nhAll words pm q).length + 32 < 2 ^ 40 := by rw [hnl]; omega
          have hdl : (pm.drop (1024 * q)).length = N - 1024 * q := by rw [List.length_drop, HN.out]
          have HR1 : Hid (N - 1024 * (q + 1) = N - 1024 * q - n) := Lib.hid (by omega)
          have HD1 : Hid ((pm.drop (1024 * q)).drop n = pm.drop (1024 * (q + 1))) := Lib.hid (by
            rw [List.drop_drop]
            by_cases h1 : N - 1024 * q ≤ 1024
            · rw [List.drop_eq_nil_of_le (by rw [HN.out]; omega), List.drop_eq_nil_of_le (by rw [HN.out]; omega)]
            · rw [show 1024 * q + n = 1024 * (q + 1) by omega])
          have hq1 : q + 1 ≤ M := hlt
          clear hrh hnl hlt hq hM1
          obtain ⟨out, HO⟩ : ∃ out, Hid (nhOut words (pieceL pm q) = out) := ⟨_, Lib.hid rfl⟩
          rw [HO.out] at hol HNX HRH
          obtain ⟨R, HR⟩ : ∃ R, Hid (N - 1024 * q = R) := ⟨_, Lib.hid rfl⟩
          rw [HR.out] at hlt2 hn hdl HR1 hc' ⊢
          have hnR : n ≤ R := by omega
          have hnc : n ≤ c' := by omega
          have hnpos : 0 < n := by omega
          have hRb : R < 2 ^ 31 := by have := HR.out; omega
          have hd1 : decide ((R : Int) > 0) = true := by simp; omega
          by_cases hbig : R < 1024
          · obtain rfl : n = R := by omega
            have hd2 : decide ((1024 : Int) > (n : Int)) = true := by simp; omega
            clear hn
            go_wp2_with (refine wpList_sliceHi (n := n) rfl rfl Try.underlying22 Try.s15 rfl rfl hnc hslm ?_; intro ad5 hsl5 _)
            rw [HPT.out] at hsl5
            refine (HRH.out ad5 hsl5).mono ?_
            rintro e w6 ⟨rfl, hb6⟩
            have hbel6 := bCall hbelr hb6 hBs
            have hown6 := hown.below hb6
            have hz6 := hb6.size
            have Z := Blk.new w6 47 (ints .u8 (zeros 32))
            have O7 := Z.row (ints .u8 out)
            have hb7 : Below w6.heap.size w6 ((w6.alloc (.cells (ints .u8 (zeros 32)) 47)).setRow w6.heap.size (ints .u8 out)) := bSetRow ((Below.refl _ _).alloc (Nat.le_refl _) (.cells (ints .u8 (zeros 32)) 47)) (Nat.le_refl _) (ints .u8 out)
            have hown7 := hown6.below hb7
            have hbel7 := bCall hbel6 hb7 (Nat.le_trans hBs hz6)
            have hs7 := Sl.blk O7
            have hln7 : (nhAll words pm q).length + out.length < 2 ^ 40 := by rw [hol]; exact hlna
            have hB7 : B ≤ ((w6.alloc (.cells (ints .u8 (zeros 32)) 47)).setRow w6.heap.size (ints .u8 out)).heap.size := Nat.le_trans (Nat.le_trans hBs hz6) hb7.size
            go_wp2_with (first | (refine wpList_alloc_ints rfl 47 rfl Try.z47 ?_; (try simp only [Act.put, List.setIfInBounds_toArray, List.set_cons_zero, List.set_cons_succ, World.size_alloc, setRow_size, Nat.add_assoc, Nat.reduceAdd])) | (refine wpList_store_ints (k := .u8) (xs := out) rfl 47 _ _ rfl w6.heap.size rfl rfl Z (zeros_size _ _) Try.ar47 hol ?_; (try simp only [Act.put, List.setIfInBounds_toArray, List.set_cons_zero, List.set_cons_succ, World.size_alloc, setRow_size, Nat.add_assoc, Nat.reduceAdd])) | (refine wpList_append_sl (zs := out) rfl rfl Try.underlying22 Try.inf8 rfl (by omega) rfl hown7 rfl hol.symm (fun h => by cases h) hs7 hln7 hB7 ?_; intro v8 w8 hown8 hgr8; have hbel8 := bGrown hbel7 hgr8 hB7 hown7 (Nat.le_refl _); have hB8 := Nat.le_trans hB7 hgr8.size; (try simp only [Act.put, List.setIfInBounds_toArray, List.set_cons_zero, List.set_cons_succ, World.size_alloc, setRow_size, Nat.add_assoc, Nat.reduceAdd])) | (refine wpList_sliceLoW (n := n) rfl rfl Try.underlying22 Try.s15 rfl rfl hnR ?_; intro ad9 c9 hsl9 hc9))
            have HS9 : Hid (∀ W, Below B w4 W → Sl W ad9 .u8 (pm.drop (1024 * (q + 1)))) := Lib.hid fun W hW => by
              rw [← HD1.out]
              exact hsl9 W _ _ (HSM.out W hW) (by rw [hdl]; exact hc')
            exact ⟨⟨q + 1, ad9, c9, hq1, by rw [HR1.out]; simp, by rw [HR1.out]; exact hc9 hc', HS9, by rw [HNX.out]; exact hown8, hB8, hbel8⟩, by simp only [lenV12]; omega⟩
          · obtain rfl : n = 1024 := by omega
            have hd2 : decide ((1024 : Int) > (R : Int)) = false := by simp; omega
            clear hn
            go_wp2_with (refine wpList_sliceHi (n := 1024) rfl rfl Try.underlying22 Try.s15 rfl rfl hnc hslm ?_; intro ad5 hsl5 _)
            rw [HPT.out] at hsl5
            refine (HRH.out ad5 hsl5).mono ?_
            rintro e w6 ⟨rfl, hb6⟩
            have hbel6 := bCall hbelr hb6 hBs
            have hown6 := hown.below hb6
            have hz6 := hb6.size
            have Z := Blk.new w6 47 (ints .u8 (zeros 32))
            have O7 := Z.row (ints .u8 out)
            have hb7 : Below w6.heap.size w6 ((w6.alloc (.cells (ints .u8 (zeros 32)) 47)).setRow w6.heap.size (ints .u8 out)) := bSetRow ((Below.refl _ _).alloc (Nat.le_refl _) (.cells (ints .u8 (zeros 32)) 47)) (Nat.le_refl _) (ints .u8 out)
            have hown7 := hown6.below hb7
            have hbel7 := bCall hbel6 hb7 (Nat.le_trans hBs hz6)
            have hs7 := Sl.blk O7
            have hln7 : (nhAll words pm q).length + out.length < 2 ^ 40 := by rw [hol]; exact hlna
            have hB7 : B ≤ ((w6.alloc (.cells (ints .u8 (zeros 32)) 47)).setRow w6.heap.size (ints .u8 out)).heap.size := Nat.le_trans (Nat.le_trans hBs hz6) hb7.size
            go_wp2_with (first | (refine wpList_alloc_ints rfl 47 rfl Try.z47 ?_; (try simp only [Act.put, List.setIfInBounds_toArray, List.set_cons_zero, List.set_cons_succ, World.size_alloc, setRow_size, Nat.add_assoc, Nat.reduceAdd])) | (refine wpList_store_ints (k := .u8) (xs := out) rfl 47 _ _ rfl w6.heap.size rfl rfl Z (zeros_size _ _) Try.ar47 hol ?_; (try simp only [Act.put, List.setIfInBounds_toArray, List.set_cons_zero, List.set_cons_succ, World.size_alloc, setRow_size, Nat.add_assoc, Nat.reduceAdd])) | (refine wpList_append_sl (zs := out) rfl rfl Try.underlying22 Try.inf8 rfl (by omega) rfl hown7 rfl hol.symm (fun h => by cases h) hs7 hln7 hB7 ?_; intro v8 w8 hown8 hgr8; have hbel8 := bGrown hbel7 hgr8 hB7 hown7 (Nat.le_refl _); have hB8 := Nat.le_trans hB7 hgr8.size; (try simp only [Act.put, List.setIfInBounds_toArray, List.set_cons_zero, List.set_cons_succ, World.size_alloc, setRow_size, Nat.add_assoc, Nat.reduceAdd])) | (refine wpList_sliceLoW (n := 1024) rfl rfl Try.underlying22 Try.s15 rfl rfl hnR ?_; intro ad9 c9 hsl9 hc9))
            have HS9 : Hid (∀ W, Below B w4 W → Sl W ad9 .u8 (pm.drop (1024 * (q + 1)))) := Lib.hid fun W hW => by
              rw [← HD1.out]
              exact hsl9 W _ _ (HSM.out W hW) (by rw [hdl]; exact hc')
            exact ⟨⟨q + 1, ad9, c9, hq1, by rw [HR1.out], by rw [HR1.out]; exact hc9 hc', HS9, by rw [HNX.out]; exact hown8, hB8, hbel8⟩, by simp only [lenV12]; omega⟩
        · obtain rfl : q = M := by omega
          obtain ⟨-, K9⟩ := HSW.out _ hbelr
          have hn0 : N - 1024 * q = 0 := by omega
          have hwb := bCall hbel4 (by rw [HB.out]; exact hbelr) hbel4.size
          have s15 := s1.below hwb
          have hq31 : 32 * q < 2 ^ 31 := by omega
          have hal31 : (nhAll words pm q).length < 2 ^ 31 := by rw [hnl]; exact hq31
          have hm32 : 32 ≤ c1 := by omega
          have hkc : key.length ≤ c1 := by omega
          rw [hn0]
          clear hM1 hlt hq hnl hc'
          obtain ⟨av, cv, rfl, hslv, hcv, -⟩ := hown.sl
          go_wp2_with (refine wpList_sliceLH (m := 16) (n := 32) rfl rfl Try.underlying22 Try.s15 rfl rfl rfl (by omega) hm32 hkc s15 ?_; intro ad6 hsl6)
          have hkt : ((key.drop 16).take 16).length = 16 := by rw [List.length_take, List.length_drop]; omega
          have hbk := fun W h => block_c ad6 (c1 - 16) ((key.drop 16).take 16) W h
          rw [hkt, blockN_mid] at hbk
          refine (hbk _ hsl6).mono ?_
          rintro e w6 ⟨rfl, hb6⟩
          have K6 := K9.below hb6
          have hbel6 := bCall hwb hb6 hwb.size
          go_wp2_with fail
          refine (hash8_c (blockN (key.drop 16)) (nhAll words pm q) (blockN_len _) (blockN_lt fun x hx => hkb x (List.mem_of_mem_drop hx)) (nhAll_lt _ _ _) hal31 av cv hcv _ (hslv.below hb6)).mono ?_
          rintro e w7 ⟨rfl, hb7⟩
          have hbel7 := bCall hbel6 hb7 hbel6.size
          have hhl := hashP_len (blockN (key.drop 16)) (nhAll words pm q)
          have hhb := hashP_lt (blockN (key.drop 16)) (nhAll words pm q)
          have hld := fun W (h : Sl W (some ⟨w7.heap.size, 0, none⟩) .u8 (hashP (blockN (key.drop 16)) (nhAll words pm q))) => load_c (some ⟨w7.heap.size, 0, none⟩) 16 (hashP (blockN (key.drop 16)) (nhAll words pm q)) hhb (by rw [hhl]; simp [maxLen]) W h
          rw [hhl, W12_load hhl hhb, W12_hash] at hld
          have HLD := Lib.hid hld
          clear hld
          have Z := Blk.new w7 35 (ints .u8 (zeros 16))
          have T8 := Z.row (ints .u8 (hashP (blockN (key.drop 16)) (nhAll words pm q)))
          have hb8 : Below w6.heap.size w6 ((w7.alloc (.cells (ints .u8 (zeros 16)) 35)).setRow w7.heap.size (ints .u8 (hashP (blockN (key.drop 16)) (nhAll words pm q)))) := bSetRow (hb7.alloc hb7.size (.cells (ints .u8 (zeros 16)) 35)) hb7.size (ints .u8 (hashP (blockN (key.drop 16)) (nhAll words pm q)))
          have K8 := K6.below hb8
          have hbel8 := bCall hbel6 hb8 hbel6.size
          have s28 := s2.below hbel8
          have hst := Sl.blk T8
          go_wp2_with (first | (refine wpList_alloc_ints rfl 35 rfl Try.z35 ?_; (try simp only [Act.put, List.setIfInBounds_toArray, List.set_cons_zero, List.set_cons_succ, World.size_alloc, setRow_size, Nat.add_assoc, Nat.reduceAdd])) | (refine wpList_store_ints (k := .u8) (xs := hashP (blockN (key.drop 16)) (nhAll words pm q)) rfl 35 _ _ rfl w7.heap.size rfl rfl Z (zeros_size _ _) Try.ar35 hhl ?_; (try simp only [Act.put, List.setIfInBounds_toArray, List.set_cons_zero, List.set_cons_succ, World.size_alloc, setRow_size, Nat.add_assoc, Nat.reduceAdd])))
          generalize ((w7.alloc (.cells (ints .u8 (zeros 16)) 35)).setRow w7.heap.size (ints .u8 (hashP (blockN (key.drop 16)) (nhAll words pm q)))) = w8 at *
          refine wp_region_below (by kernel_rfl) (by kernel_rfl) ?_
          refine quiet_move rfl rfl rfl ?_
          (try simp only [Act.put, List.setIfInBounds_toArray, List.set_cons_zero, List.set_cons_succ, World.size_alloc, setRow_size, Nat.add_assoc, Nat.reduceAdd])
          refine quiet_move rfl rfl rfl ?_
          (try simp only [Act.put, List.setIfInBounds_toArray, List.set_cons_zero, List.set_cons_succ, World.size_alloc, setRow_size, Nat.add_assoc, Nat.reduceAdd])
          refine quiet_call 13 rfl rfl Try.func13 (by kernel_rfl) (by kernel_rfl) (fun W hQ => HB2.out W g gw (K8.below hQ) (s28.below hQ)) ?_
          (try simp only [Act.put, List.setIfInBounds_toArray, List.set_cons_zero, List.set_cons_succ, World.size_alloc, setRow_size, Nat.add_assoc, Nat.reduceAdd])
          refine quiet_run (v := .slice (some ⟨w7.heap.size, 0, none⟩) 16 16) rfl (fun W => by kernel_rfl) ?_
          (try simp only [Act.put, List.setIfInBounds_toArray, List.set_cons_zero, List.set_cons_succ, World.size_alloc, setRow_size, Nat.add_assoc, Nat.reduceAdd])
          refine quiet_call 24 rfl rfl Try.func24 (by kernel_rfl) (by kernel_rfl) (fun W hQ => HLD.out W (hst.below hQ)) ?_
          (try simp only [Act.put, List.setIfInBounds_toArray, List.set_cons_zero, List.set_cons_succ, World.size_alloc, setRow_size, Nat.add_assoc, Nat.reduceAdd])
          refine quiet_eql rfl rfl rfl rfl Try.egW (W12eq _ _ rfl HPB.out) ?_
          (try simp only [Act.put, List.setIfInBounds_toArray, List.set_cons_zero, List.set_cons_succ, World.size_alloc, setRow_size, Nat.add_assoc, Nat.reduceAdd])
          refine quiet_move rfl rfl rfl ?_
          (try simp only [Act.put, List.setIfInBounds_toArray, List.set_cons_zero, List.set_cons_succ, World.size_alloc, setRow_size, Nat.add_assoc, Nat.reduceAdd])
          refine quiet_call 14 rfl rfl Try.func14 (by kernel_rfl) (by kernel_rfl) (fun W hQ => awake12_c W) ?_
          (try simp only [Act.put, List.setIfInBounds_toArray, List.set_cons_zero, List.set_cons_succ, World.size_alloc, setRow_size, Nat.add_assoc, Nat.reduceAdd])
          refine quiet_pickt (by rfl) (by rfl) (by rfl) (by rfl) (by rfl) ?_
          (try simp only [Act.put, List.setIfInBounds_toArray, List.set_cons_zero, List.set_cons_succ, World.size_alloc, setRow_size, Nat.add_assoc, Nat.reduceAdd])
          refine quiet_assign rfl rfl rfl ?_
          (try simp only [Act.put, List.setIfInBounds_toArray, List.set_cons_zero, List.set_cons_succ, World.size_alloc, setRow_size, Nat.add_assoc, Nat.reduceAdd])
          refine wpQuiet_nil ?_
          intro w' hw'
          go_wp2
          go_ret
          exact ⟨rfl, bCall hbel8 hw' hbel8.size⟩
    · have hd0 : decide ((b.length : Int) > 2500) = true := by simp; omega
      go_enter Try.func7, Try.ntmps7
      go_wp2_with fail
      refine (long_yes _ _ _).mono ?_
      rintro e w' ⟨rfl, rfl⟩
      go_wp2
      go_ret
      exact ⟨rfl, Below.refl _ _⟩
  · go_enter Try.func7, Try.ntmps7
    go_wp2_with fail
    refine (long_no _ _ _ hkl _).mono ?_
    rintro e w' ⟨rfl, rfl⟩
    go_wp2
    go_ret
    exact ⟨rfl, Below.refl _ _⟩
end Go.Proofs.Ytolfngmpoafaaaa
