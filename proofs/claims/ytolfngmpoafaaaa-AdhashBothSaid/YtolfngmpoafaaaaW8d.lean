/- poly's Sum.Write. No condition but that bytes are below 256 and rows shorter than 2^31. -/
import Derived.Test.YtolfngmpoafaaaaW8c
import Derived.StillTailTactics
namespace Go.Proofs.Ytolfngmpoafaaaa
set_option linter.unusedSimpArgs false
set_option linter.unusedVariables false
set_option linter.unusedSectionVars false
set_option linter.unusedVariables false
open Go.RowKit
theorem Try.oneI : IsOne Try.prog 3 := by unfold IsOne; kernel_rfl
def lenOf8 : Value → Nat
  | .slice _ n _ => n
  | _ => 0
theorem smC_cell (r v : Nat) {rest : List Nat} {m : Nat} (hl : rest.length = 16) : (smC (numOf r) (numOf v) rest m)[26]? = some (.int .i64 (m : Int)) := by
  have h : ((vals .u32 (numOf r) ++ vals .u32 (numOf v) ++ vals .u8 rest) : List Value).length = 26 := by simp [vals_len, numOf_len, hl]
  unfold smC
  rw [List.getElem?_toArray, List.getElem?_append_right (by omega), h]; rfl
/-- What is left, with more put behind its first m bytes. -/
def restN (rest : List Nat) (m : Nat) (zs : List Nat) : List Nat := rest.take m ++ zs ++ rest.drop (m + zs.length)
section
variable {rest zs : List Nat} {m : Nat}
theorem restN_len (h : rest.length = 16) (hm : m + zs.length ≤ 16) : (restN rest m zs).length = 16 := by
  unfold restN
  rw [List.length_append, List.length_append, List.length_take, List.length_drop]; omega
theorem restN_lt (h : ∀ x ∈ rest, x < 256) (hz : ∀ x ∈ zs, x < 256) : ∀ x ∈ restN rest m zs, x < 256 := fun x hx => by
  unfold restN at hx
  rcases List.mem_append.1 hx with hx | hx
  · rcases List.mem_append.1 hx with hx | hx
    · exact h x (List.mem_of_mem_take hx)
    · exact hz x hx
  · exact h x (List.mem_of_mem_drop hx)
theorem restN_take (h : rest.length = 16) (hm : m + zs.length ≤ 16) : (restN rest m zs).take (m + zs.length) = rest.take m ++ zs := by
  unfold restN
  rw [List.take_left' (by rw [List.length_append, List.length_take]; omega)]
end
theorem smC_new (r v : List Nat) (rest zs : List Nat) (m k : Nat) : ((vals .u32 r ++ vals .u32 v ++ vals .u8 (rest.take k)) ++ vals .u8 zs ++ (vals .u8 (rest.drop (k + zs.length)) ++ [Value.int .i64 (m : Int)])).toArray = smC r v (restN rest k zs) m := by
  simp [smC, restN, vals_append]
section
variable {key L zs rest : List Nat} {q m : Nat}
/-- Bytes put behind that fill no part. -/
theorem sm_more (hL : L.length = 16 * q + m) (hm : m + zs.length < 16) (hr : rest.length = 16) (ht : rest.take m = L.drop (16 * q)) :
    (L ++ zs).length / 16 = q ∧ (L ++ zs).length % 16 = m + zs.length ∧ (restN rest m zs).take (m + zs.length) = (L ++ zs).drop (16 * q) ∧ polyV (byN key) 0 (L ++ zs) q = polyV (byN key) 0 L q := by
  refine ⟨by rw [List.length_append]; omega, by rw [List.length_append]; omega, ?_, polyV_append_l _ _ _ _ (by omega)⟩
  rw [restN_take hr (by omega), ht, List.drop_append_of_le_length (by omega)]
/-- Bytes put behind that fill one. -/
theorem sm_full (hL : L.length = 16 * q + m) (hm : m + zs.length = 16) (hr : rest.length = 16) (ht : rest.take m = L.drop (16 * q)) :
    (L ++ zs).length / 16 = q + 1 ∧ (L ++ zs).length % 16 = 0 ∧ (L ++ zs).drop (16 * (q + 1)) = [] ∧ numOf ((polyV (byN key) 0 L q + ofN (restN rest m zs) 1) * byN key) = numOf (polyV (byN key) 0 (L ++ zs) (q + 1)) := by
  refine ⟨by rw [List.length_append]; omega, by rw [List.length_append]; omega, List.drop_eq_nil_of_le (by rw [List.length_append]; omega), ?_⟩
  have hb : blk (L ++ zs) q = restN rest m zs := by
    unfold blk
    rw [List.drop_append_of_le_length (by omega), ← ht, ← restN_take hr (by omega), hm, List.take_take, Nat.min_self, List.take_of_length_le (by rw [restN_len hr (by omega)]; omega)]
  rw [polyV_succ, polyV_append_l _ _ _ _ (by omega), chunk_whole (by rw [List.length_append]; omega), hb, numOf_mod]
end
theorem Sl.sliced {w : World} {a : Option Addr} {k : IntKind} {xs : List Nat} (h : Sl w a k xs) {c n : Nat} (hc : xs.length ≤ c) : Sl w (if c = n then a else a.map (·.add (n * 1))) k (xs.drop n) := fun hn => by
  have hlt : n < xs.length := by
    rcases Nat.lt_or_ge n xs.length with h1 | h1
    · exact h1
    · exact absurd (List.drop_eq_nil_of_le h1) hn
  obtain ⟨g, off, rfl, h2, h3⟩ := h (by rintro rfl; simp at hlt)
  rw [if_neg (by omega), Option.map_some, Nat.mul_one, Addr.add_mid]
  refine ⟨g, off + n, rfl, h2, fun i hi => ?_⟩
  rw [List.length_drop] at hi
  rw [Nat.add_assoc, h3 (n + i) (by omega)]
  congr 3
  rw [List.getD_eq_getElem?_getD, List.getD_eq_getElem?_getD, List.getElem?_drop]
/-- The cells of a slice lie not in block g. -/
def ANe (a : Option Addr) (g : Nat) (xs : List Nat) : Prop := xs ≠ [] → ∀ p, a = some p → p.block ≠ g
theorem Ch.sl' {g : Nat} {w w' : World} (h : Ch g w w') {ad : Option Addr} {k : IntKind} {xs : List Nat} (hs : Sl w ad k xs) (hne : ANe ad g xs) : Sl w' ad k xs := fun hn => h.sl hs (fun b off e => hne hn _ e) hn
theorem ANe.sliced {a : Option Addr} {g c n : Nat} {xs : List Nat} (h : ANe a g xs) : ANe (if c = n then a else a.map (·.add (n * 1))) g (xs.drop n) := by
  intro hn p
  have hn' : xs ≠ [] := by rintro rfl; simp at hn
  split
  · exact h hn' p
  · cases a with
    | none => intro e; cases e
    | some a =>
      intro e
      rw [Option.map_some] at e
      cases e
      have := h hn' a rfl
      unfold Addr.add
      split <;> exact this
theorem ANe.of_sl {w : World} {a : Option Addr} {k : IntKind} {xs : List Nat} {g : Nat} (h : Sl w a k xs) (hg : w.heap.size ≤ g) : ANe a g xs := fun hn p e => by
  obtain ⟨b, off, q1, q2, -⟩ := h hn
  rw [q1] at e
  cases e
  show b ≠ g
  omega
section
variable {P : Program} {ops : Array Oper} {rest : List Oper} {o : Oper} {a : Act} {w : World} {Q : Exit → Act → World → Prop}
/-- x[n:], the rest of a slice. -/
theorem wpList_sliceLo {T e n N c : Nat} {x y : Operand} {ad : Option Addr} {k : IntKind} {xs : List Nat} (hgd : o.guard = none) (ho : o.op = .slice T x (some y) none none) (hT : P.underlying T = some (.slice e)) (hs : (P.info? e).map (·.size) = some 1)
    (hx : a.eval x = .slice ad N c) (hy : a.eval y = .int .i64 (n : Int)) (hN : xs.length = N) (hn : n ≤ N) (hc : N ≤ c) (hsl : Sl w ad k xs)
    (h : ∀ ad2 c2, Sl w ad2 k (xs.drop n) → (∀ g, ANe ad g xs → ANe ad2 g (xs.drop n)) → N - n ≤ c2 → (c ≤ maxLen → c2 ≤ maxLen) → wpList P ops Q rest (a.put o.dst (.slice ad2 (N - n) c2)) w) : wpList P ops Q (o :: rest) a w :=
  wpList_plain hgd fun _ hK => by
    obtain ⟨d, hd, hd1⟩ := Option.map_eq_some_iff.1 hs
    have he := elem_of hT
    have hT' : P.underlying T = some (.slice (P.elem T)) := by rw [he]; exact hT
    have hr := run_slice_l (P := P) (w := w) T ad N c hT' .i64 n (by omega) (by omega)
    have hsz : (sizeOf (P.elem T)).run P w = .ok 1 w := by simp [sizeOf, typeInfo, he, hd, hd1]
    rw [hsz] at hr
    unfold Oper.wp execOp
    simp only [ho, hx, hy, Option.map_some, Option.map_none, Sem.run_bind, Sem.run_pure, run_sliceAt_slice w T _ _ _ _ hT', hr, Result.andThen_ok, Int.toNat_natCast, sliced]
    exact hK _ _ (h _ _ (hsl.sliced (by omega)) (fun g hg => hg.sliced) (by omega) (fun hm => by omega))
end
set_option maxRecDepth 100000 in
set_option maxHeartbeats 8000000 in
theorem write8_c (g : Nat) (key al b : List Nat) (hbb : ∀ x ∈ b, x < 256) (hal : al.length < 2 ^ 31) (hbl : b.length < 2 ^ 31) (ad : Option Addr) (c : Nat) (hc : b.length ≤ c) (hne : ANe ad g b) (w : World) (hS : IsSm w g key al) (hs0 : Sl w ad .u8 b) :
    Calls Try.prog 29 #[.pointer (some ⟨g, 0, none⟩), .slice ad b.length c] w fun e w' => e = .returned (.tuple #[]) ∧ IsSm w' g key (al ++ b) ∧ Ch g w w' := by
  obtain ⟨N, HN⟩ : ∃ N, Hid (b.length = N) := ⟨_, Lib.hid rfl⟩
  rw [HN.out] at hc hbl ⊢
  go_enter Try.func29, Try.ntmps29
  obtain ⟨J, HJ, HI⟩ : ∃ J : Act → World → Prop, Hid (∀ (a : Act) (w' : World), J a w' → ∃ (U : Nat → Value) (i : Nat) (ad' : Option Addr) (c' : Nat), a = { tmps := #[.pointer (some ⟨g, 0, none⟩), .slice ad' (N - i) c', U 2, U 3, U 4, U 5, U 6, U 7, U 8, U 9, U 10, U 11, U 12, U 13, U 14, U 15, U 16, U 17, U 18, U 19, U 20, U 21, U 22, U 23, U 24, U 25, U 26, U 27, U 28, U 29, U 30, U 31, U 32, U 33, U 34, U 35, U 36, U 37, U 38, U 39, U 40, U 41, U 42], defers := [] } ∧ i ≤ N ∧ N - i ≤ c' ∧ ANe ad' g (b.drop i) ∧ Sl w' ad' .u8 (b.drop i) ∧ IsSm w' g key (al ++ b.take i) ∧ Ch g w w') ∧
      Hid (∀ (T : Array Value) (w' : World), (∃ (i : Nat) (ad' : Option Addr) (c' : Nat), T = #[.pointer (some ⟨g, 0, none⟩), .slice ad' (N - i) c', T.getD 2 undef, T.getD 3 undef, T.getD 4 undef, T.getD 5 undef, T.getD 6 undef, T.getD 7 undef, T.getD 8 undef, T.getD 9 undef, T.getD 10 undef, T.getD 11 undef, T.getD 12 undef, T.getD 13 undef, T.getD 14 undef, T.getD 15 undef, T.getD 16 undef, T.getD 17 undef, T.getD 18 undef, T.getD 19 undef, T.getD 20 undef, T.getD 21 undef, T.getD 22 undef, T.getD 23 undef, T.getD 24 undef, T.getD 25 undef, T.getD 26 undef, T.getD 27 undef, T.getD 28 undef, T.getD 29 undef, T.getD 30 undef, T.getD 31 undef, T.getD 32 undef, T.getD 33 undef, T.getD 34 undef, T.getD 35 undef, T.getD 36 undef, T.getD 37 undef, T.getD 38 undef, T.getD 39 undef, T.getD 40 undef, T.getD 41 undef, T.getD 42 undef] ∧ i ≤ N ∧ N - i ≤ c' ∧ ANe ad' g (b.drop i) ∧ Sl w' ad' .u8 (b.drop i) ∧ IsSm w' g key (al ++ b.take i) ∧ Ch g w w') → J { tmps := T, defers := [] } w') :=
    ⟨fun a w' => ∃ (U : Nat → Value) (i : Nat) (ad' : Option Addr) (c' : Nat), a = { tmps := #[.pointer (some ⟨g, 0, none⟩), .slice ad' (N - i) c', U 2, U 3, U 4, U 5, U 6, U 7, U 8, U 9, U 10, U 11, U 12, U 13, U 14, U 15, U 16, U 17, U 18, U 19, U 20, U 21, U 22, U 23, U 24, U 25, U 26, U 27, U 28, U 29, U 30, U 31, U 32, U 33, U 34, U 35, U 36, U 37, U 38, U 39, U 40, U 41, U 42], defers := [] } ∧ i ≤ N ∧ N - i ≤ c' ∧ ANe ad' g (b.drop i) ∧ Sl w' ad' .u8 (b.drop i) ∧ IsSm w' g key (al ++ b.take i) ∧ Ch g w w', Lib.hid fun _ _ h => h, Lib.hid fun T w' ⟨i, ad', c', h, r⟩ => ⟨fun i => T.getD i undef, i, ad', c', congrArg (fun T => ({ tmps := T, defers := [] } : Act)) h, r⟩⟩
  obtain ⟨μ, Hμ⟩ : ∃ μ : Act → World → Nat, Hid (∀ a w', μ a w' = lenOf8 (a.tmps.getD 1 undef)) := ⟨_, Lib.hid fun _ _ => rfl⟩
  refine wp_scope_mid 0 J μ (by simp only [findLabel]; rfl) ?_ ?_
  · intro a wr hj
    obtain ⟨U, i, ad', c', rfl, hi, hc', hne', hsl, ⟨rest, hrl, hrb, hrt, S0⟩, hch⟩ := HJ.out _ _ hj
    clear hj
    have hμ := Hμ.out
    clear Hμ
    obtain ⟨L, HL⟩ : ∃ L, Hid (al ++ b.take i = L) := ⟨_, Lib.hid rfl⟩
    rw [HL.out] at hrt S0
    obtain ⟨q, Hq⟩ : ∃ q, Hid (L.length / 16 = q) := ⟨_, Lib.hid rfl⟩
    obtain ⟨m, Hm⟩ : ∃ m, Hid (L.length % 16 = m) := ⟨_, Lib.hid rfl⟩
    rw [Hq.out, Hm.out] at S0 hrt
    have hm16 : m < 16 := by rw [← Hm.out]; omega
    have hLl : Hid (L.length = 16 * q + m) := Lib.hid (by rw [← Hq.out, ← Hm.out]; omega)
    obtain ⟨v, Hv⟩ : ∃ v, Hid (polyV (byN key) 0 L q = v) := ⟨_, Lib.hid rfl⟩
    rw [Hv.out] at S0
    obtain ⟨n, Hn⟩ : ∃ n, Hid (min (N - i) (16 - m) = n) := ⟨_, Lib.hid rfl⟩
    have hn0 : n ≤ N - i := by rw [← Hn.out]; omega
    have hn1 : n ≤ 16 - m := by rw [← Hn.out]; omega
    have hn2 : m + n < 16 → n = N - i := by rw [← Hn.out]; omega
    obtain ⟨zs, Hzs⟩ : ∃ zs, Hid ((b.drop i).take n = zs) := ⟨_, Lib.hid rfl⟩
    have hzl : zs.length = n := by rw [← Hzs.out, List.length_take, List.length_drop, HN.out]; omega
    have HZ : Sl wr ad' .u8 zs := by rw [← Hzs.out]; exact hsl.take n
    have hzb : ∀ x ∈ zs, x < 256 := fun x hx => by rw [← Hzs.out] at hx; exact hbb x (List.mem_of_mem_drop (List.mem_of_mem_take hx))
    have hmin : zs.length = Nat.min (N - i) (16 - m) := by rw [hzl]; exact Hn.out.symm
    have S1 := S0
    rw [smC_tail _ _ m m zs.length (by omega)] at S1
    have hcm : wr.cell? ⟨g, 26, none⟩ = some (.int .i64 (m : Int)) := by rw [S0.cell, smC_cell _ _ hrl]
    have hnm : ¬ 16 = m := by omega
    have hmI : (m : Int) ≤ 16 := by omega
    have hgl := S0.lt
    go_wp2_with fail
    go_still_tail 9, (by kernel_rfl)
    change wpList _ _ _ _ _ wr.drew
    replace S0 := S0.drew
    replace S1 := S1.drew
    have HZ' : Sl wr.drew ad' .u8 zs := HZ
    have hsl' : Sl wr.drew ad' .u8 (b.drop i) := hsl
    have hch' := hch.drew
    clear HZ hsl hch hcm hgl
    generalize wr.drew = w2 at *
    have hgl := S1.lt
    refine wpList_copy_part rfl rfl Try.underlying22 Try.s15 rfl rfl S1 HZ' hmin (by simp [vals_len, numOf_len, hrl]; omega) (by simp [vals_len, hrl]; omega) ?_
    intro w3 S3 F3
    rw [smC_new] at S3
    have hsl3 := (Ch.of_far F3).sl' hsl' hne'
    have hch3 := hch'.trans (Ch.of_far F3)
    have hr3 := restN_len (rest := rest) (zs := zs) hrl (by omega : m + zs.length ≤ 16)
    have hb3 := restN_lt (rest := rest) (zs := zs) (m := m) hrb hzb
    have Ht3 := Lib.hid (restN_take (rest := rest) (zs := zs) hrl (by omega : m + zs.length ≤ 16))
    have hcm : w3.cell? ⟨g, 26, none⟩ = some (.int .i64 (m : Int)) := by rw [S3.cell, smC_cell _ _ hr3]
    clear S0 S1 HZ' hsl' hch'
    have Hrt := Lib.hid hrt
    clear hrt hmin
    have HR : Hid (restN rest m zs = restN rest m zs) := Lib.hid rfl
    have Hzl := Lib.hid hzl
    rw [hzl]
    clear hzl
    have hw1 : IntKind.i64.wrap (n : Int) = (n : Int) := by rw [IntKind.wrap_i64]; omega
    have hw2 : IntKind.i64.wrap ((m : Int) + (n : Int)) = ((m + n : Nat) : Int) := by rw [IntKind.wrap_i64]; omega
    rw [smC_many] at S3
    have hdl : (b.drop i).length = N - i := by rw [List.length_drop, HN.out]
    have hHb : Hid (∀ w4, Far g w3 w4 → Sl w4 ad' .u8 (b.drop i)) := Lib.hid fun w4 F4 => (Ch.of_far F4).sl' hsl3 hne'
    have HLn : Hid (al ++ b.take (i + n) = L ++ zs) := Lib.hid (by rw [← HL.out, ← Hzs.out, List.append_assoc, List.take_add])
    have Hdn : Hid ((b.drop i).drop n = b.drop (i + n)) := Lib.hid (by rw [List.drop_drop])
    have Hin : Hid (N - (i + n) = N - i - n) := Lib.hid (by omega)
    by_cases hfull : m + n < 16
    · have hd : decide (((m + n : Nat) : Int) < 16) = true := by simp; omega
      have hd' : decide ((m : Int) + (n : Int) < 16) = true := by simp; omega
      have HM := Lib.hid (sm_more (key := key) (zs := zs) hLl.out (by rw [Hzl.out]; exact hfull) hrl Hrt.out)
      have hiN : i + n = N := by have := hn2 hfull; omega
      have HLN : Hid (al ++ b = L ++ zs) := Lib.hid (by rw [← HLn.out, List.take_of_length_le (by rw [HN.out]; omega)])
      go_wp2_with (first
        | (refine wpList_store_cell rfl 3 _ _ rfl Try.oneI 26 (v := .int .i64 ((m + n : Nat) : Int)) rfl rfl rfl rfl S3 (by simp [vals_len, numOf_len, hr3]) ?_; intro w4 S4 F4; rw [← smC_many] at S4; have hcm4 : w4.cell? ⟨g, 26, none⟩ = some (.int .i64 ((m + n : Nat) : Int)) := (by rw [S4.cell, smC_cell _ _ hr3]); have hsl4 := hHb.out _ F4)
        | (refine wpList_sliceLo rfl rfl Try.underlying22 Try.s15 rfl rfl hdl hn0 hc' hsl4 ?_; intro ad2 c2 hsl5 hne5 hc5 _))
      simp only [Exit.jump]
      obtain ⟨e1, e2, e3, e4⟩ := HM.out
      refine bodyPost_ret (v := .tuple #[]) (by simp [results, Try.results29]) rfl ⟨rfl, ⟨restN rest m zs, hr3, hb3, ?_, ?_⟩, hch3.trans (Ch.of_far F4)⟩
      · rw [HLN.out, e1, e2, e3]
      · rw [HLN.out, e1, e2, e4, Hv.out, Hzl.out]; exact S4
    · have hfull : m + n = 16 := by omega
      have hd : decide (((m + n : Nat) : Int) < 16) = false := by simp; omega
      have hd' : decide ((m : Int) + (n : Int) < 16) = false := by simp; omega
      have HM := Lib.hid (sm_full (key := key) (zs := zs) hLl.out (by rw [Hzl.out]; exact hfull) hrl Hrt.out)
      have HR3 := Lib.hid hr3
      have HB3 := Lib.hid hb3
      obtain ⟨rs, HRS⟩ : ∃ rs, Hid (restN rest m zs = rs) := ⟨_, Lib.hid rfl⟩
      rw [HRS.out] at S3 hr3 hb3 HM
      go_wp2_with (first
        | (refine wpList_store_cell rfl 3 _ _ rfl Try.oneI 26 (v := .int .i64 ((16 : Nat) : Int)) rfl rfl rfl rfl S3 (by simp [vals_len, numOf_len, hr3]) ?_; intro w4 S4 F4; rw [← smC_many] at S4; have hcm4 : w4.cell? ⟨g, 26, none⟩ = some (.int .i64 ((16 : Nat) : Int)) := (by rw [S4.cell, smC_cell _ _ hr3]); have hsl4 := hHb.out _ F4; have S4' := S4; rw [smC_rest] at S4')
        | (refine wpList_sliceLo rfl rfl Try.underlying22 Try.s15 rfl rfl hdl hn0 hc' hsl4 ?_; intro ad2 c2 hsl5 hne5 hc5 _)
        | (refine wpList_load_part (old := vals .u8 rs) rfl 35 _ rfl 10 rfl S4' (by simp [vals_len, numOf_len]) Try.ar35 (by rw [vals_len]; exact hr3) ?_; (try simp only [Act.put, List.setIfInBounds_toArray, List.set_cons_zero, List.set_cons_succ, World.size_alloc, setRow_size, Nat.add_assoc, Nat.reduceAdd])))
      refine (of_c rs hr3 hb3 1 (by omega) _).mono ?_
      rintro e w5 ⟨rfl, hb5⟩
      have S5 := S4.below' hb5
      have hch5 := (hch3.trans (Ch.of_far F4)).trans (Ch.of_below (g := g) hb5)
      have hsl6 := hsl5.below hb5
      go_wp2_with fail
      refine (part8_c g (byN key) v (ofN rs 1) rs 16 _ S5).mono ?_
      rintro e w6 ⟨rfl, S6, hch6⟩
      have hch7 := hch5.trans hch6
      have hsl7 := hch6.sl' hsl6 (hne5 g hne')
      obtain ⟨e1, e2, e3, e4⟩ := HM.out
      rw [← Hv.out, e4] at S6
      rw [smC_many] at S6
      go_wp2_with (refine wpList_store_cell rfl 3 _ _ rfl Try.oneI 26 (v := .int .i64 ((0 : Nat) : Int)) rfl rfl rfl rfl S6 (by simp [vals_len, numOf_len, hr3]) ?_; intro w8 S8 F8; rw [← smC_many] at S8)
      have hsl8 := (Ch.of_far F8).sl' hsl7 (hne5 g hne')
      rw [Hdn.out] at hsl8
      have hch8 := hch7.trans (Ch.of_far F8)
      go_wp2_with fail
      go_step3
      refine ⟨rfl, HI.out _ _ ⟨i + n, ad2, c2, by rw [Hin.out]; rfl, by omega, by rw [Hin.out]; exact hc5, by rw [← Hdn.out]; exact hne5 g hne', hsl8, ⟨rs, hr3, hb3, ?_, ?_⟩, hch8⟩, ?_⟩
      · rw [HLn.out, e1, e2, e3]; rfl
      · rw [HLn.out, e1, e2]; exact S8
      · rw [hμ, hμ]
        change N - i - n < N - i
        omega
  · intro hgo
    go_wp2_with fail
    refine wp_label ?_
    rename_i hK
    refine hK _ _ ?_
    refine hgo _ _ (HI.out _ _ ⟨0, ad, c, rfl, by omega, by omega, hne, hs0, ?_, Ch.refl _ _⟩)
    rw [List.take_zero, List.append_nil]
    exact hS
end Go.Proofs.Ytolfngmpoafaaaa
