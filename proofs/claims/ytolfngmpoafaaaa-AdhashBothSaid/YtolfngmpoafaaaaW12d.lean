/- adhash: Body and its pieces, Sum. No condition but that bytes are below 256 and rows shorter than 2^30. -/
import Derived.Test.YtolfngmpoafaaaaW12c
import Derived.StillTailTactics
namespace Go.Proofs.Ytolfngmpoafaaaa
set_option linter.unusedSimpArgs false
set_option linter.unusedVariables false
set_option linter.unusedSectionVars false
set_option linter.unusedVariables false
open Go.RowKit
/-- A block of one cell. -/
def ptrC (g : Nat) : Array Value := #[.pointer (some ⟨g, 0, none⟩)]
theorem smT (w : World) (g : Nat) (key bs : List Nat) (h : IsSm w g key bs) : ∃ cs, Blk w g 87 cs := h.blk
set_option maxRecDepth 100000 in
set_option maxHeartbeats 8000000 in
theorem do12_c (gk gsb g gw gs : Nat) (key L part : List Nat) (hkb : ∀ x ∈ key, x < 256) (hpb : ∀ x ∈ part, x < 256) (hp1 : part.length ≤ 1024) (hp2 : part.length % 16 = 0) (hLl : L.length < 2 ^ 31) (hLb : ∀ x ∈ L, x < 256) (a : Option Addr) (c : Nat) (w : World)
    (hK : IsK w g gw key) (hS : IsSm w gs (blockN (key.drop 16)) L) (k1 : Blk w gk 23 (ptrC g)) (k2 : Blk w gsb 60 (ptrC gs)) (hs0 : Sl w a .u8 part) :
    Calls Try.prog 32 #[.slice a part.length c, .pointer (some ⟨gk, 0, none⟩), .pointer (some ⟨gsb, 0, none⟩)] w fun e w' => e = .returned (.tuple #[]) ∧ IsSm w' gs (blockN (key.drop 16)) (L ++ nhOut (wordsN (key.drop 32)) part) ∧ Ch gs w w' := by
  have c1 : w.cell? ⟨gk, 0, none⟩ = some (.pointer (some ⟨g, 0, none⟩)) := by rw [k1.cell]; rfl
  have c2 : w.cell? ⟨g, 32, none⟩ = some (.slice (some ⟨gw, 0, none⟩) 268 268) := by rw [hK.1.cell, kyC_w (blockN_len _) (blockN_len _)]
  have hwl := wordsN_len (key.drop 32)
  have hh := fun W hsw hsb => hash_c (some ⟨gw, 0, none⟩) a 268 c (wordsN (key.drop 32)) part hpb (wordsN_lt fun x hx => hkb x (List.mem_of_mem_drop hx)) (by omega) (by omega) (by omega) (by simp [maxLen]) W hsw hsb
  rw [hwl] at hh
  have hol := nhOut_len (wordsN (key.drop 32)) part
  have hob := nhOut_lt (wordsN (key.drop 32)) part
  obtain ⟨out, HO⟩ : ∃ out, Hid (nhOut (wordsN (key.drop 32)) part = out) := ⟨_, Lib.hid rfl⟩
  rw [HO.out] at hh hol hob
  go_enter Try.func32, Try.ntmps32
  go_wp2_with fail
  refine (hh _ (Sl.blk hK.2) hs0).mono ?_
  rintro e w1 ⟨rfl, hb1⟩
  have S1 := hS.below hb1
  have K2 := k2.below' hb1
  have hz1 := hb1.size
  have Z := Blk.new w1 47 (ints .u8 (zeros 32))
  have O2 := Z.row (ints .u8 out)
  have hb2 : Below w.heap.size w ((w1.alloc (.cells (ints .u8 (zeros 32)) 47)).setRow w1.heap.size (ints .u8 out)) := bSetRow (hb1.alloc hz1 (.cells (ints .u8 (zeros 32)) 47)) hz1 (ints .u8 out)
  have S2 := hS.below hb2
  have K2' := k2.below' hb2
  go_wp2_with (first | (refine wpList_alloc_ints rfl 47 rfl Try.z47 ?_; (try simp only [Act.put, List.setIfInBounds_toArray, List.set_cons_zero, List.set_cons_succ, World.size_alloc, setRow_size, Nat.add_assoc, Nat.reduceAdd])) | (refine wpList_store_ints (k := .u8) (xs := out) rfl 47 _ _ rfl w1.heap.size rfl rfl Z (zeros_size _ _) Try.ar47 hol ?_; (try simp only [Act.put, List.setIfInBounds_toArray, List.set_cons_zero, List.set_cons_succ, World.size_alloc, setRow_size, Nat.add_assoc, Nat.reduceAdd])))
  generalize ((w1.alloc (.cells (ints .u8 (zeros 32)) 47)).setRow w1.heap.size (ints .u8 out)) = w2 at *
  have c3 : w2.cell? ⟨gsb, 0, none⟩ = some (.pointer (some ⟨gs, 0, none⟩)) := by rw [K2'.cell]; rfl
  go_still_tail 2, (by kernel_rfl)
  change wpList _ _ _ _ _ w2.drew
  have O3 := O2.drew
  have S3 : IsSm w2.drew gs (blockN (key.drop 16)) L := S2.only fun _ _ h => h.drew
  have hch := (Ch.of_below (g := gs) hb2).drew
  have hsl := hS.lt
  generalize w2.drew = w3 at *
  have hwr := write8_c gs (blockN (key.drop 16)) L out hob hLl (by omega) (some ⟨w1.heap.size, 0, none⟩) 32 (by omega) (fun _ p hp => by cases hp; show w1.heap.size ≠ gs; omega) w3 S3 (Sl.blk O3)
  rw [hol] at hwr
  go_wp2_with fail
  refine hwr.mono ?_
  rintro e w4 ⟨rfl, S4, hch4⟩
  go_wp2_with fail
  refine bodyPost_end (v := .tuple #[]) (by simp [results, Try.results32]) rfl ⟨rfl, by rw [HO.out]; exact S4, hch.trans hch4⟩
theorem piece_take (m : List Nat) (i : Nat) : (m.drop (1024 * i)).take (min (m.length - 1024 * i) 1024) = pieceL m i := by
  unfold pieceL
  by_cases h : m.length - 1024 * i ≤ 1024
  · rw [Nat.min_eq_left h, List.take_of_length_le (by rw [List.length_drop]; omega), List.take_of_length_le (by rw [List.length_drop]; omega)]
  · rw [Nat.min_eq_right (by omega)]
section
variable {P : Program} {ops : Array Oper} {rest : List Oper} {o : Oper} {a : Act} {w : World} {Q : Exit → Act → World → Prop}
/-- x[:n], the head of a slice. -/
theorem wpList_sliceHi {T e n N c : Nat} {x y : Operand} {ad : Option Addr} {k : IntKind} {xs : List Nat} (hgd : o.guard = none) (ho : o.op = .slice T x none (some y) none) (hT : P.underlying T = some (.slice e)) (hs : (P.info? e).map (·.size) = some 1)
    (hx : a.eval x = .slice ad N c) (hy : a.eval y = .int .i64 (n : Int)) (hn : n ≤ c) (hsl : Sl w ad k xs)
    (h : ∀ ad2, Sl w ad2 k (xs.take n) → (ad2 = none → ad = none) → wpList P ops Q rest (a.put o.dst (.slice ad2 n c)) w) : wpList P ops Q (o :: rest) a w :=
  wpList_plain hgd fun _ hK => by
    obtain ⟨d, hd, hd1⟩ := Option.map_eq_some_iff.1 hs
    have he := elem_of hT
    have hT' : P.underlying T = some (.slice (P.elem T)) := by rw [he]; exact hT
    have hr := run_slice_h (P := P) (w := w) T ad N c hT' .i64 n (by omega) (by omega)
    have hsz : (sizeOf (P.elem T)).run P w = .ok 1 w := by simp [sizeOf, typeInfo, he, hd, hd1]
    rw [hsz] at hr
    unfold Oper.wp execOp
    have hadd : ∀ ad : Option Addr, (if c = 0 then ad else ad.map (·.add (0 * 1))) = ad := fun ad => by
      split
      · rfl
      · cases ad with
        | none => rfl
        | some p => simp [Addr.add]
    simp only [ho, hx, hy, Option.map_some, Option.map_none, Sem.run_bind, Sem.run_pure, run_sliceAt_slice w T _ _ _ _ hT', hr, Result.andThen_ok, Int.toNat_natCast, sliced, hadd, Nat.sub_zero]
    exact hK _ _ (h _ (hsl.take n) (fun h => h))
end
set_option maxRecDepth 100000 in
set_option maxHeartbeats 8000000 in
theorem pieces12_c (gk gsb g gw gs : Nat) (key m : List Nat) (hkb : ∀ x ∈ key, x < 256) (hmb : ∀ x ∈ m, x < 256) (hml : m.length < 2 ^ 31) (hmm : m.length % 16 = 0) (a : Option Addr) (c : Nat) (hc : m.length ≤ c) (w : World)
    (hK : IsK w g gw key) (hS : IsSm w gs (blockN (key.drop 16)) []) (k1 : Blk w gk 23 (ptrC g)) (k2 : Blk w gsb 60 (ptrC gs)) (hs0 : Sl w a .u8 m) (hne : ANe a gs m) :
    Calls Try.prog 31 #[.slice a m.length c, .func (.func 32) #[] #[.pointer (some ⟨gk, 0, none⟩), .pointer (some ⟨gsb, 0, none⟩)]] w fun e w' => e = .returned (.tuple #[]) ∧ IsSm w' gs (blockN (key.drop 16)) (nhAll (wordsN (key.drop 32)) m (piecesN m.length)) ∧ Ch gs w w' := by
  obtain ⟨N, HN⟩ : ∃ N, Hid (m.length = N) := ⟨_, Lib.hid rfl⟩
  rw [HN.out] at hml hmm hc ⊢
  obtain ⟨cs, hSb⟩ := hS.blk
  have k1n := k1.ne_ hSb (by decide)
  have k2n := k2.ne_ hSb (by decide)
  go_enter Try.func31, Try.ntmps31
  obtain ⟨J, HJ, HI⟩ : ∃ J : Act → World → Prop, Hid (∀ (a : Act) (w' : World), J a w' → ∃ (U : Nat → Value) (q : Nat) (a' : Option Addr) (c' : Nat), a = { tmps := #[.slice a' (N - 1024 * q) c', .func (.func 32) #[] #[.pointer (some ⟨gk, 0, none⟩), .pointer (some ⟨gsb, 0, none⟩)], U 2, U 3, U 4, U 5, U 6, U 7, U 8, U 9, U 10, U 11, U 12, U 13, U 14, U 15, U 16, U 17, U 18], defers := [] } ∧ q ≤ piecesN N ∧ N - 1024 * q ≤ c' ∧ Sl w' a' .u8 (m.drop (1024 * q)) ∧ ANe a' gs (m.drop (1024 * q)) ∧ IsK w' g gw key ∧ IsSm w' gs (blockN (key.drop 16)) (nhAll (wordsN (key.drop 32)) m q) ∧ Blk w' gk 23 (ptrC g) ∧ Blk w' gsb 60 (ptrC gs) ∧ Ch gs w w') ∧
      Hid (∀ (T : Array Value) (w' : World), (∃ (q : Nat) (a' : Option Addr) (c' : Nat), T = #[.slice a' (N - 1024 * q) c', .func (.func 32) #[] #[.pointer (some ⟨gk, 0, none⟩), .pointer (some ⟨gsb, 0, none⟩)], T.getD 2 undef, T.getD 3 undef, T.getD 4 undef, T.getD 5 undef, T.getD 6 undef, T.getD 7 undef, T.getD 8 undef, T.getD 9 undef, T.getD 10 undef, T.getD 11 undef, T.getD 12 undef, T.getD 13 undef, T.getD 14 undef, T.getD 15 undef, T.getD 16 undef, T.getD 17 undef, T.getD 18 undef] ∧ q ≤ piecesN N ∧ N - 1024 * q ≤ c' ∧ Sl w' a' .u8 (m.drop (1024 * q)) ∧ ANe a' gs (m.drop (1024 * q)) ∧ IsK w' g gw key ∧ IsSm w' gs (blockN (key.drop 16)) (nhAll (wordsN (key.drop 32)) m q) ∧ Blk w' gk 23 (ptrC g) ∧ Blk w' gsb 60 (ptrC gs) ∧ Ch gs w w') → J { tmps := T, defers := [] } w') :=
    ⟨fun a w' => ∃ (U : Nat → Value) (q : Nat) (a' : Option Addr) (c' : Nat), a = { tmps := #[.slice a' (N - 1024 * q) c', .func (.func 32) #[] #[.pointer (some ⟨gk, 0, none⟩), .pointer (some ⟨gsb, 0, none⟩)], U 2, U 3, U 4, U 5, U 6, U 7, U 8, U 9, U 10, U 11, U 12, U 13, U 14, U 15, U 16, U 17, U 18], defers := [] } ∧ q ≤ piecesN N ∧ N - 1024 * q ≤ c' ∧ Sl w' a' .u8 (m.drop (1024 * q)) ∧ ANe a' gs (m.drop (1024 * q)) ∧ IsK w' g gw key ∧ IsSm w' gs (blockN (key.drop 16)) (nhAll (wordsN (key.drop 32)) m q) ∧ Blk w' gk 23 (ptrC g) ∧ Blk w' gsb 60 (ptrC gs) ∧ Ch gs w w', Lib.hid fun _ _ h => h, Lib.hid fun T w' ⟨q, a', c', h, r⟩ => ⟨fun i => T.getD i undef, q, a', c', congrArg (fun T => ({ tmps := T, defers := [] } : Act)) h, r⟩⟩
  obtain ⟨μ, Hμ⟩ : ∃ μ : Act → World → Nat, Hid (∀ a w', μ a w' = lenOf8 (a.tmps.getD 0 undef)) := ⟨_, Lib.hid fun _ _ => rfl⟩
  refine wp_scope_top 0 J μ ?_ ?_
  · exact HI.out _ _ ⟨0, a, c, rfl, by omega, by omega, by rw [Nat.mul_zero, List.drop_zero]; exact hs0, by rw [Nat.mul_zero, List.drop_zero]; exact hne, hK, hS, k1, k2, Ch.refl _ _⟩
  · intro a0 wr hj
    obtain ⟨U, q, a', c', rfl, hq, hc', hsl, hne', hK', hS', k1', k2', hch⟩ := HJ.out _ _ hj
    clear hj hK hS k1 k2 hs0 hne
    have hμ := Hμ.out
    clear Hμ
    by_cases h0 : N - 1024 * q = 0
    · have HQ : Hid (piecesN N = q) := Lib.hid (by unfold piecesN at hq ⊢; omega)
      rw [h0]
      have hd0 : (((0 : Nat) : Int) == 0) = true := by simp
      go_wp2_with fail
      simp only [Exit.jump]
      refine bodyPost_ret (v := .tuple #[]) (by simp [results, Try.results31]) rfl ⟨rfl, ?_, hch⟩
      rw [HQ.out]
      exact hS'
    · obtain ⟨n, hn⟩ : ∃ n, n = min (N - 1024 * q) 1024 := ⟨_, rfl⟩
      have HPT := Lib.hid (piece_take m q)
      have hpl : (pieceL m q).length = n := by rw [pieceL_len, HN.out]; omega
      rw [HN.out, ← hn] at HPT
      have hpb := pieceL_lt hmb q
      have hn1 : n ≤ 1024 := by omega
      have hn2 : n % 16 = 0 := by omega
      have hall := nhAll_len (wordsN (key.drop 32)) m q
      have hal31 : (nhAll (wordsN (key.drop 32)) m q).length < 2 ^ 31 := by rw [hall]; unfold piecesN at hq; omega
      have hdo := fun ad h => do12_c gk gsb g gw gs key (nhAll (wordsN (key.drop 32)) m q) (pieceL m q) hkb hpb (by omega) (by omega) hal31 (nhAll_lt _ _ _) ad c' wr hK' hS' k1' k2' h
      rw [hpl] at hdo
      have HDO := Lib.hid hdo
      clear hdo
      have hdl : (m.drop (1024 * q)).length = N - 1024 * q := by rw [List.length_drop, HN.out]
      have hnR : n ≤ N - 1024 * q := by omega
      have hnc : n ≤ c' := by omega
      have HQ1 : Hid (q + 1 ≤ piecesN N) := Lib.hid (by unfold piecesN at hq ⊢; omega)
      have HR1 : Hid (N - 1024 * (q + 1) = N - 1024 * q - n) := Lib.hid (by omega)
      have HD1 : Hid ((m.drop (1024 * q)).drop n = m.drop (1024 * (q + 1))) := Lib.hid (by
        rw [List.drop_drop]
        by_cases h1 : N - 1024 * q ≤ 1024
        · rw [List.drop_eq_nil_of_le (by rw [HN.out]; omega), List.drop_eq_nil_of_le (by rw [HN.out]; omega)]
        · rw [show 1024 * q + n = 1024 * (q + 1) by omega])
      have hnpos : 0 < n := by omega
      obtain ⟨R, HR⟩ : ∃ R, Hid (N - 1024 * q = R) := ⟨_, Lib.hid rfl⟩
      rw [HR.out] at h0 hn hdl hnR HR1 hc' ⊢
      have HMIN : Hid (min (R : Int) 1024 = (n : Int)) := Lib.hid (by omega)
      have hd0 : ((R : Int) == 0) = false := by simp; omega
      have hRb : R < 2 ^ 31 := by have := HR.out; omega
      clear hn
      go_wp2_with (refine wpList_sliceHi (n := n) rfl rfl Try.underlying22 Try.s15 rfl (congrArg (Value.int IntKind.i64) HMIN.out) hnc hsl ?_; intro ad2 hsl2 _)
      rw [HPT.out] at hsl2
      refine (HDO.out ad2 hsl2).mono ?_
      rintro e w2 ⟨rfl, S2, hch2⟩
      have hslR := hch2.sl' hsl hne'
      obtain ⟨cs', hSb'⟩ := hS'.blk
      have K2 := hK'.ch hch2 hSb' (by decide) (by decide)
      have k1'' := hch2.blk k1' k1n
      have k2'' := hch2.blk k2' k2n
      have hch3 := hch.trans hch2
      clear hsl hsl2 hS' hK' k1' k2' hch hch2 hSb' HDO
      go_wp2_with (refine wpList_sliceLo (n := n) rfl rfl Try.underlying22 Try.s15 rfl (congrArg (Value.int IntKind.i64) HMIN.out) hdl hnR hc' hslR ?_; intro ad3 c3 hsl3 hne3 hc3 _)
      go_step3
      refine ⟨rfl, HI.out _ _ ⟨q + 1, ad3, c3, by rw [HR1.out]; rfl, HQ1.out, by rw [HR1.out]; exact hc3, by rw [← HD1.out]; exact hsl3, by rw [← HD1.out]; exact hne3 gs hne', K2, S2, k1'', k2'', hch3⟩, ?_⟩
      rw [hμ, hμ]
      change R - n < R
      omega
/-- A row of the call's own, as far as a Sum's block is concerned. -/
theorem sm_ne {w : World} {g g' t : Nat} {key bs : List Nat} {cs : Array Value} (h : IsSm w g key bs) (hb : Blk w g' t cs) (hne : t ≠ 87) : g' ≠ g := by
  obtain ⟨c2, h2⟩ := h.blk
  exact hb.ne_ h2 hne
set_option maxRecDepth 100000 in
set_option maxHeartbeats 8000000 in
theorem body12_c (g gw : Nat) (key b : List Nat) (hkb : ∀ x ∈ key, x < 256) (hbb : ∀ x ∈ b, x < 256) (hbl : b.length < 2 ^ 30) (a : Option Addr) (c : Nat) (w : World) (hK : IsK w g gw key) (hs0 : Sl w a .u8 b) :
    Calls Try.prog 13 #[.pointer (some ⟨g, 0, none⟩), .slice a b.length c] w fun e w' => e = .returned (.agg (ints .u64 (W12 (bodyN (blockN (key.drop 16)) (wordsN (key.drop 32)) b)))) ∧ Below w.heap.size w w' := by
  have P0 := (Blk.new w 23 #[.pointer (some ⟨g, 0, none⟩)]).alloc (.cells (ints .u64 (zeros 2)) 30)
  have R0 := Blk.new (w.alloc (.cells #[.pointer (some ⟨g, 0, none⟩)] 23)) 30 (ints .u64 (zeros 2))
  rw [World.size_alloc] at R0
  have hbel := ((Below.refl w.heap.size w).alloc (Nat.le_refl _) (.cells #[.pointer (some ⟨g, 0, none⟩)] 23)).alloc (by simp) (.cells (ints .u64 (zeros 2)) 30)
  have K1 := hK.below hbel
  have hs1 := hs0.below hbel
  have hmk := blockN_len (key.drop 16)
  have hmkb := blockN_lt (bs := key.drop 16) fun x hx => hkb x (List.mem_of_mem_drop hx)
  have c1 : ((w.alloc (.cells #[.pointer (some ⟨g, 0, none⟩)] 23)).alloc (.cells (ints .u64 (zeros 2)) 30)).cell? ⟨w.heap.size, 0, none⟩ = some (.pointer (some ⟨g, 0, none⟩)) := by rw [P0.cell]; rfl
  have KM := K1.1
  rw [kyC_m] at KM
  go_enter Try.func13, Try.ntmps13
  go_wp2_with (first | (refine wpList_alloc_ints rfl 30 rfl Try.zW ?_; (try simp only [Act.put, List.setIfInBounds_toArray, List.set_cons_zero, List.set_cons_succ, World.size_alloc, setRow_size, Nat.add_assoc, Nat.reduceAdd])) | (refine wpList_load_part (pre := vals .u8 (blockN key)) (old := vals .u8 (blockN (key.drop 16))) rfl 35 _ rfl 16 rfl KM (by rw [vals_len, blockN_len]) Try.ar35 (by rw [vals_len]; exact hmk) ?_; (try simp only [Act.put, List.setIfInBounds_toArray, List.set_cons_zero, List.set_cons_succ, World.size_alloc, setRow_size, Nat.add_assoc, Nat.reduceAdd])))
  generalize ((w.alloc (.cells #[.pointer (some ⟨g, 0, none⟩)] 23)).alloc (.cells (ints .u64 (zeros 2)) 30)) = w1 at *
  have hr1 := R0.lt
  refine (new8_c (blockN (key.drop 16)) hmk hmkb _).mono ?_
  rintro e w2 ⟨gs, rfl, hgs, hS2, hb2⟩
  have hsl2 := hS2.lt
  have hz2 := hb2.size
  have V3 := Blk.new w2 60 #[.pointer (some ⟨gs, 0, none⟩)]
  have hb3 : Below w1.heap.size w1 (w2.alloc (.cells #[.pointer (some ⟨gs, 0, none⟩)] 60)) := hb2.alloc hz2 (.cells #[.pointer (some ⟨gs, 0, none⟩)] 60)
  have hb3' := (Below.refl w2.heap.size w2).alloc (Nat.le_refl _) (.cells #[.pointer (some ⟨gs, 0, none⟩)] 60)
  have P3 := P0.below' hb3
  have R3 := R0.below' hb3
  have K3 := K1.below hb3
  have hs3 := hs1.below hb3
  have S3 := hS2.below hb3'
  have hbel3 := bCall hbel hb3 hbel.size
  have hz3 := hb3'.size
  go_wp2_with fail
  generalize (w2.alloc (.cells #[.pointer (some ⟨gs, 0, none⟩)] 60)) = w3 at *
  have hgv : w1.heap.size ≤ w2.heap.size := hz2
  generalize w2.heap.size = gv at *
  clear hb2 hb3' hS2 P0 R0 K1 KM hs1 c1 hb3
  refine (padded_c a c b (by omega) _ hs3).mono ?_
  rintro e w4 ⟨rfl, hb4, M4⟩
  have P4 := P3.below' hb4
  have R4 := R3.below' hb4
  have K4 := K3.below hb4
  have S4 := S3.below hb4
  have V4 := V3.below' hb4
  have hbel4 := bCall hbel3 hb4 hbel3.size
  have hS3l := S3.lt
  have hpl := padL_len b
  have hpm := padL_mod b
  have hpb := padL_lt hbb
  have hpi := pieces12_c w.heap.size gv g gw gs key (padL b) hkb hpb (by omega) hpm (some ⟨w3.heap.size, 0, none⟩) (padL b).length (Nat.le_refl _) w4 K4 S4 P4 V4 (Sl.blk M4) (fun _ p hp => by cases hp; show w3.heap.size ≠ gs; omega)
  have HPI := Lib.hid hpi
  clear hpi hpl hpm
  go_wp2_with fail
  refine HPI.out.mono ?_
  rintro e w5 ⟨rfl, S5, hch5⟩
  have hRs := sm_ne S4 R4 (by decide)
  have hVs := sm_ne S4 V4 (by decide)
  have R5 := hch5.blk R4 hRs
  have V5 := hch5.blk V4 hVs
  have hbel5 := hch5.below hbel4 (by omega) hbel4.size
  have c5 : w5.cell? ⟨gv, 0, none⟩ = some (.pointer (some ⟨gs, 0, none⟩)) := by rw [V5.cell]; rfl
  go_wp2_with fail
  refine (number12_c gs (blockN (key.drop 16)) _ (nhAll_lt _ _ _) _ S5).mono ?_
  rintro e w6 ⟨rfl, hb6⟩
  have R6 := R5.below' hb6
  have hbel6 := bCall hbel5 hb6 hbel5.size
  go_wp2_with (refine wpList_store_ints (k := .u64) (xs := W12 (polyA (blockN (key.drop 16)) (nhAll (wordsN (key.drop 32)) (padL b) (piecesN (padL b).length)))) rfl 30 _ _ rfl (w.heap.size + 1) rfl rfl R6 (zeros_size _ _) Try.arW (W12_len _) ?_; (try simp only [Act.put, List.setIfInBounds_toArray, List.set_cons_zero, List.set_cons_succ, World.size_alloc, setRow_size, Nat.add_assoc, Nat.reduceAdd]))
  exact ret_ints rfl rfl (R6.row _) Try.arW (W12_len _) ⟨rfl, bSetRow hbel6 (by omega) _⟩
set_option maxRecDepth 100000 in
set_option maxHeartbeats 2000000 in
theorem bodyNil12_c (v : Value) (w : World) :
    Calls Try.prog 13 #[.pointer none, v] w fun e w' => e = .returned (.agg (ints .u64 (W12 0))) ∧ Below w.heap.size w w' := by
  have B0 := Blk.new (w.alloc (.cells #[.pointer none] 23)) 30 (ints .u64 (zeros 2))
  rw [World.size_alloc] at B0
  have hbel := ((Below.refl w.heap.size w).alloc (Nat.le_refl _) (.cells #[.pointer none] 23)).alloc (by simp) (.cells (ints .u64 (zeros 2)) 30)
  go_enter Try.func13, Try.ntmps13
  go_wp2_with (first | (refine wpList_alloc_ints rfl 30 rfl Try.zW ?_; (try simp only [Act.put, List.setIfInBounds_toArray, List.set_cons_zero, List.set_cons_succ, World.size_alloc, setRow_size, Nat.add_assoc, Nat.reduceAdd])) | (refine wpList_store_ints (k := .u64) (xs := W12 0) rfl 30 _ _ rfl (w.heap.size + 1) rfl rfl B0 (zeros_size _ _) Try.arW rfl ?_; (try simp only [Act.put, List.setIfInBounds_toArray, List.set_cons_zero, List.set_cons_succ, World.size_alloc, setRow_size, Nat.add_assoc, Nat.reduceAdd])))
  exact ret_ints rfl rfl (B0.row _) Try.arW rfl ⟨rfl, bSetRow hbel (by omega) _⟩
set_option maxRecDepth 100000 in
set_option maxHeartbeats 4000000 in
theorem sum12_c (g gw : Nat) (key tweak b : List Nat) (hkb : ∀ x ∈ key, x < 256) (htb : ∀ x ∈ tweak, x < 256) (htl : tweak.length < 2 ^ 30) (hbb : ∀ x ∈ b, x < 256) (hbl : b.length < 2 ^ 30) (a1 a2 : Option Addr) (c1 c2 : Nat) (hc1 : tweak.length ≤ c1) (w : World) (hK : IsK w g gw key) (hs1 : Sl w a1 .u8 tweak) (hs2 : Sl w a2 .u8 b) :
    Calls Try.prog 11 #[.pointer (some ⟨g, 0, none⟩), .slice a1 tweak.length c1, .slice a2 b.length c2] w fun e w' => e = .returned (.agg (ints .u64 (W12 (headN (blockN key) tweak b.length + bodyN (blockN (key.drop 16)) (wordsN (key.drop 32)) b)))) ∧ Below w.heap.size w w' := by
  have B0 := Blk.new w 30 (ints .u64 (zeros 2))
  have hbel := (Below.refl w.heap.size w).alloc (Nat.le_refl _) (.cells (ints .u64 (zeros 2)) 30)
  have K1 := hK.below hbel
  have s1 := hs1.below hbel
  have s2 := hs2.below hbel
  go_enter Try.func11, Try.ntmps11
  go_wp2_with (refine wpList_alloc_ints rfl 30 rfl Try.zW ?_; (try simp only [Act.put, List.setIfInBounds_toArray, List.set_cons_zero, List.set_cons_succ, World.size_alloc, setRow_size, Nat.add_assoc, Nat.reduceAdd]))
  generalize (w.alloc (.cells (ints .u64 (zeros 2)) 30)) = w1 at *
  refine (head12_c g gw key tweak hkb htb htl _ b.length (by omega) (.inl rfl) a1 c1 hc1 _ K1 s1).mono ?_
  rintro e w2 ⟨rfl, hb2⟩
  have B2 := B0.below' hb2
  have K2 := K1.below hb2
  have t2 := s2.below hb2
  have hbel2 := bCall hbel hb2 hbel.size
  go_wp2_with fail
  refine (body12_c g gw key b hkb hbb hbl a2 c2 _ K2 t2).mono ?_
  rintro e w3 ⟨rfl, hb3⟩
  have B3 := B2.below' hb3
  have hbel3 := bCall hbel2 hb3 hbel2.size
  go_wp2_with fail
  refine (wplus_c _ _ _).mono ?_
  rintro e w4 ⟨rfl, hb4⟩
  have B4 := B3.below' hb4
  have hbel4 := bCall hbel3 hb4 hbel3.size
  go_wp2_with (refine wpList_store_ints (k := .u64) (xs := W12 (headN (blockN key) tweak b.length + bodyN (blockN (key.drop 16)) (wordsN (key.drop 32)) b)) rfl 30 _ _ rfl w.heap.size rfl rfl B4 (zeros_size _ _) Try.arW (W12_len _) ?_; (try simp only [Act.put, List.setIfInBounds_toArray, List.set_cons_zero, List.set_cons_succ, World.size_alloc, setRow_size, Nat.add_assoc, Nat.reduceAdd]))
  exact ret_ints rfl rfl (B4.row _) Try.arW (W12_len _) ⟨rfl, bSetRow hbel4 (Nat.le_refl _) _⟩
set_option maxRecDepth 100000 in
set_option maxHeartbeats 4000000 in
theorem sumNil12_c (v : Value) (a : Option Addr) (n c : Nat) (hn : n < 2 ^ 62) (w : World) :
    Calls Try.prog 11 #[.pointer none, v, .slice a n c] w fun e w' => e = .returned (.agg (ints .u64 (W12 0))) ∧ Below w.heap.size w w' := by
  have B0 := Blk.new w 30 (ints .u64 (zeros 2))
  have hbel := (Below.refl w.heap.size w).alloc (Nat.le_refl _) (.cells (ints .u64 (zeros 2)) 30)
  go_enter Try.func11, Try.ntmps11
  go_wp2_with (refine wpList_alloc_ints rfl 30 rfl Try.zW ?_; (try simp only [Act.put, List.setIfInBounds_toArray, List.set_cons_zero, List.set_cons_succ, World.size_alloc, setRow_size, Nat.add_assoc, Nat.reduceAdd]))
  generalize (w.alloc (.cells (ints .u64 (zeros 2)) 30)) = w1 at *
  refine (headNil12_c _ _ _).mono ?_
  rintro e w2 ⟨rfl, hb2⟩
  have B2 := B0.below' hb2
  have hbel2 := bCall hbel hb2 hbel.size
  go_wp2_with fail
  refine (bodyNil12_c _ _).mono ?_
  rintro e w3 ⟨rfl, hb3⟩
  have B3 := B2.below' hb3
  have hbel3 := bCall hbel2 hb3 hbel2.size
  go_wp2_with fail
  refine (wplus_c 0 0 _).mono ?_
  rintro e w4 ⟨rfl, hb4⟩
  have B4 := B3.below' hb4
  have hbel4 := bCall hbel3 hb4 hbel3.size
  go_wp2_with (refine wpList_store_ints (k := .u64) (xs := W12 (0 + 0)) rfl 30 _ _ rfl w.heap.size rfl rfl B4 (zeros_size _ _) Try.arW (W12_len _) ?_; (try simp only [Act.put, List.setIfInBounds_toArray, List.set_cons_zero, List.set_cons_succ, World.size_alloc, setRow_size, Nat.add_assoc, Nat.reduceAdd]))
  exact ret_ints rfl rfl (B4.row _) Try.arW (W12_len _) ⟨rfl, bSetRow hbel4 (Nat.le_refl _) _⟩
end Go.Proofs.Ytolfngmpoafaaaa
