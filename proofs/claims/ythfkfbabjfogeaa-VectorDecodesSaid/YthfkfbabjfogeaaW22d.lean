/- Chapter 22: vector.Decode. No condition but that rows are shorter than 2^31. -/
import Derived.Test.YthfkfbabjfogeaaW22c
import Derived.Deep.QuietTactic
import Derived.Deep.Cut
import Derived.Deep.CutRange
import Derived.Deep.DeepCutAuto
import Derived.BigQuiet
namespace Go.Proofs.Ythfkfbabjfogeaa
set_option linter.unusedSimpArgs false
set_option linter.unusedVariables false
set_option linter.unusedSectionVars false
set_option linter.unusedVariables false
open Go.RowKit
theorem One.slNe {w : World} {g : Nat} {a ad : Option Addr} {n c : Nat} {xs : List Nat} {k : IntKind} (h : One w g 22 (.slice a n c)) (hs : Sl w ad k xs) (hne : xs ≠ []) : ∀ b off, ad = some ⟨b, off, none⟩ → b ≠ g := by
  rintro b off rfl rfl
  obtain ⟨g', off', q1, q2, q3⟩ := hs hne
  cases q1
  have h0 := q3 0 (List.length_pos_iff.2 hne)
  have hB : Blk w b 22 #[.slice a n c] := h
  rw [hB.cell] at h0
  match off with
  | 0 => simp at h0
  | _ + 1 => simp at h0
theorem OwnS.ch {w w' : World} {B g n c : Nat} {a : Option Addr} {v : Value} {xss : List (List Nat)} (h : OwnS w B v xss) (hc : Ch g w w') (h1 : One w g 22 (.slice a n c)) (hg : g < B) : OwnS w' B v xss := by
  obtain ⟨vs, ⟨q1, q2⟩, q3, q4⟩ := h
  refine ⟨vs, ⟨q1, q2.imp id ?_⟩, q3, fun i hi => ?_⟩
  · rintro ⟨g', cap, cur, hv, hgB, hh, r⟩
    exact ⟨g', cap, cur, hv, hgB, hc.blk hh (by omega), r⟩
  · obtain ⟨a', c', r1, r2, r3, r4⟩ := q4 i hi
    exact ⟨a', c', r1, fun hne => hc.sl r2 (h1.slNe r2 hne) hne, r3, r4⟩
theorem Tk.grown {w0 w w' : World} {g : Nat} {b : List Nat} {row : Option Nat} (h : Tk w0 w g b) (hgr : w.grownBy w' row) (hr : ∀ k, row = some k → g < k) : Tk w0 w' g b :=
  let ⟨a, c, h1, h2, h3⟩ := h
  ⟨a, c, (hgr.block g (Blk.lt h1) (fun e => by have := hr g e.symm; omega)).trans h1, h2, h3⟩
/-- So many pieces and one. -/
theorem decL_step {L : Nat} {r : List Nat} : decL (L + 1) r = match decP r with
    | none => none
    | some (x, s) => match decL L s with
      | none => none
      | some (xs, r') => some (x :: xs, r') := rfl
theorem decC_of {b : List Nat} (h9 : 9 ≤ b.length) (h16 : b.getD 0 0 ≤ 16) : decC b = match decL (numAt b 1 8 + 1) (b.drop 9) with
    | some (x :: xs, []) => some (b.getD 0 0, x, xs)
    | _ => none := by
  unfold decC
  rw [if_neg (by omega), decL_step]
  cases decP (b.drop 9) with
  | none => rfl
  | some p =>
    obtain ⟨x, r⟩ := p
    simp only []
    cases decL (numAt b 1 8) r with
    | none => rfl
    | some q =>
      obtain ⟨xs, s⟩ := q
      cases s <;> rfl
/-- What is known while the pieces are taken: xss are taken, L + 1 are to come, from the row r. -/
def DecS (b : List Nat) (L : Nat) (xss : List (List Nat)) (r : List Nat) : Prop := decL (numAt b 1 8 + 1) (b.drop 9) = match decL (L + 1) r with
    | none => none
    | some (ys, s) => some (xss ++ ys, s)
theorem DecS.none_ {b : List Nat} {L : Nat} {xss : List (List Nat)} {r : List Nat} (h9 : 9 ≤ b.length) (h16 : b.getD 0 0 ≤ 16) (h : DecS b L xss r) (hp : decP r = none) : decC b = none := by
  rw [decC_of h9 h16, h, decL_step, hp]
theorem DecS.next {b : List Nat} {L : Nat} {xss : List (List Nat)} {r x s : List Nat} (h : DecS b (L + 1) xss r) (hp : decP r = some (x, s)) : DecS b L (xss ++ [x]) s := by
  unfold DecS at *
  rw [h, decL_step, hp]
  simp only []
  cases decL (L + 1) s with
  | none => rfl
  | some p => obtain ⟨ys, s'⟩ := p; simp
theorem DecS.last {b : List Nat} {xss : List (List Nat)} {r x s : List Nat} (h9 : 9 ≤ b.length) (h16 : b.getD 0 0 ≤ 16) (h : DecS b 0 xss r) (hp : decP r = some (x, s)) : decC b = match xss ++ [x], s with
    | y :: ys, [] => some (b.getD 0 0, y, ys)
    | _, _ => none := by
  have e : decL (0 + 1) r = some ([x], s) := by rw [decL_step, hp]; rfl
  unfold DecS at h
  rw [e] at h
  rw [decC_of h9 h16, h]
  cases xss <;> cases s <;> rfl
theorem decP_none8 {r : List Nat} (h : r.length < 8) : decP r = none := by unfold decP; rw [if_pos h]
theorem decP_noneN {r : List Nat} (h : ¬ r.length < 8) (h2 : (r.drop 8).length < numAt r 0 8) : decP r = none := by
  unfold decP
  rw [List.length_drop] at h2
  rw [if_neg h, if_pos h2]
theorem decP_is {r : List Nat} (h : ¬ r.length < 8) (h2 : numAt r 0 8 ≤ (r.drop 8).length) : decP r = some ((r.drop 8).take (numAt r 0 8), (r.drop 8).drop (numAt r 0 8)) := by
  unfold decP
  rw [List.length_drop] at h2
  rw [if_neg h, if_neg (by omega), List.drop_drop]
theorem numAt_take8 (r : List Nat) (h : 8 ≤ r.length) : numAt (r.take 8) 0 8 = numAt r 0 8 := by
  rw [numAt_take (by simp; omega), numAt_take (by omega), List.drop_zero, List.drop_zero, List.take_take]; rfl
set_option maxRecDepth 100000 in
set_option maxHeartbeats 8000000 in
theorem decode22_c (ab : Option Addr) (cb : Nat) (b : List Nat) (hb : ∀ x ∈ b, x < 256) (hl : b.length < 2 ^ 31) (hc : b.length ≤ cb) (w : World) (hs : Sl w ab .u8 b) :
    Calls Try.prog 19 #[.slice ab b.length cb] w fun e w' => Below w.heap.size w w' ∧
      ((decC b = none ∧ e = .returned (.tuple #[.int .i64 0, .slice none 0 0, .slice none 0 0, .int .i64 23])) ∨
      (∃ t x xs a1 c1 a2 c2, decC b = some (t, x, xs) ∧ e = .returned (.tuple #[.int .i64 (t : Nat), .slice a1 x.length c1, .slice a2 xs.length c2, .int .i64 0]) ∧ Sl w' a1 .u8 x ∧ SlS w' a2 xs ∧ (a1 = none → c1 = 0) ∧ (a2 = none → c2 = 0))) := by
  have T0 : Tk w (w.alloc (.cells #[.slice ab b.length cb] 22)) w.heap.size b :=
    ⟨ab, cb, Blk.new w 22 #[.slice ab b.length cb], hs, hc⟩
  have hbel0 := (Below.refl w.heap.size w).alloc (Nat.le_refl _) (.cells #[.slice ab b.length cb] 22)
  have hmf : ∀ (fn : Fn) (first cap : Array Value) (w : World), (Instr.makeFunc fn first cap).run Try.prog w = .ok (.func fn first cap) w := fun _ _ _ _ => rfl
  have hnot : ∀ (x : Bool) (w : World), (Op.unary .not (.bool x)).run Try.prog w = .ok (.bool (!x)) w := fun _ _ => rfl
  have h9 : b.length < 9 → decC b = none := fun h => by unfold decC; rw [if_pos (.inl h)]
  obtain ⟨g, HG⟩ : ∃ g, Hid (g = w.heap.size) := ⟨_, Lib.hid rfl⟩
  obtain ⟨w0, HW⟩ : ∃ w0, Hid (w0 = w.alloc (.cells #[.slice ab b.length cb] 22)) := ⟨_, Lib.hid rfl⟩
  have hz0 : w0.heap.size = g + 1 := by rw [HW.out, HG.out, World.size_alloc]
  rw [← HG.out, ← HW.out] at T0
  rw [← HW.out] at hbel0
  have hgw : w.heap.size ≤ g := by rw [HG.out]; omega
  go_enter Try.func19, Try.ntmps19
  go_wp2_with fail
  rw [← HG.out, ← HW.out]
  obtain ⟨J, HJ, HI⟩ : ∃ J : Act → World → Prop, Hid (∀ (a : Act) (w' : World), J a w' → ∃ (U : Nat → Value) (q : List Nat) (f : Option Addr) (cf : Nat) (L : Nat) (va : Value) (xss : List (List Nat)), a = { tmps := #[.slice ab b.length cb, .pointer (some ⟨g, 0, none⟩), U 2, U 3, U 4, U 5, .func (.func 26) #[] #[.pointer (some ⟨g, 0, none⟩)], .slice f 9 cf, U 8, .int .u64 (L : Int), va, U 11, U 12, U 13, U 14, U 15, U 16, U 17, U 18, U 19, U 20, U 21, U 22, U 23, U 24, U 25, U 26, U 27, U 28, U 29, U 30, U 31, U 32, U 33, U 34, U 35, U 36, U 37, U 38, U 39, U 40, U 41, U 42, U 43, U 44, U 45, U 46, U 47, U 48, U 49, U 50, U 51, U 52, U 53, U 54, U 55, U 56, U 57, U 58, U 59, U 60, U 61, U 62, U 63, U 64, U 65, U 66], defers := [] } ∧ Tk w w' g q ∧ Own w' (g + 1) 5 .u8 (.slice f 9 cf) (b.take 9) ∧ OwnS w' (g + 1) va xss ∧ Below w.heap.size w w' ∧ L < 18446744073709551616 ∧ xss.length + q.length ≤ b.length ∧ (∀ y ∈ q, y < 256) ∧ 9 ≤ b.length ∧ b.getD 0 0 ≤ 16 ∧ DecS b L xss q) ∧
      Hid (∀ (T : Array Value) (w' : World), (∃ (q : List Nat) (f : Option Addr) (cf : Nat) (L : Nat) (va : Value) (xss : List (List Nat)), T = #[.slice ab b.length cb, .pointer (some ⟨g, 0, none⟩), T.getD 2 undef, T.getD 3 undef, T.getD 4 undef, T.getD 5 undef, .func (.func 26) #[] #[.pointer (some ⟨g, 0, none⟩)], .slice f 9 cf, T.getD 8 undef, .int .u64 (L : Int), va, T.getD 11 undef, T.getD 12 undef, T.getD 13 undef, T.getD 14 undef, T.getD 15 undef, T.getD 16 undef, T.getD 17 undef, T.getD 18 undef, T.getD 19 undef, T.getD 20 undef, T.getD 21 undef, T.getD 22 undef, T.getD 23 undef, T.getD 24 undef, T.getD 25 undef, T.getD 26 undef, T.getD 27 undef, T.getD 28 undef, T.getD 29 undef, T.getD 30 undef, T.getD 31 undef, T.getD 32 undef, T.getD 33 undef, T.getD 34 undef, T.getD 35 undef, T.getD 36 undef, T.getD 37 undef, T.getD 38 undef, T.getD 39 undef, T.getD 40 undef, T.getD 41 undef, T.getD 42 undef, T.getD 43 undef, T.getD 44 undef, T.getD 45 undef, T.getD 46 undef, T.getD 47 undef, T.getD 48 undef, T.getD 49 undef, T.getD 50 undef, T.getD 51 undef, T.getD 52 undef, T.getD 53 undef, T.getD 54 undef, T.getD 55 undef, T.getD 56 undef, T.getD 57 undef, T.getD 58 undef, T.getD 59 undef, T.getD 60 undef, T.getD 61 undef, T.getD 62 undef, T.getD 63 undef, T.getD 64 undef, T.getD 65 undef, T.getD 66 undef] ∧ Tk w w' g q ∧ Own w' (g + 1) 5 .u8 (.slice f 9 cf) (b.take 9) ∧ OwnS w' (g + 1) va xss ∧ Below w.heap.size w w' ∧ L < 18446744073709551616 ∧ xss.length + q.length ≤ b.length ∧ (∀ y ∈ q, y < 256) ∧ 9 ≤ b.length ∧ b.getD 0 0 ≤ 16 ∧ DecS b L xss q) → J { tmps := T, defers := [] } w') :=
    ⟨fun a w' => ∃ (U : Nat → Value) (q : List Nat) (f : Option Addr) (cf : Nat) (L : Nat) (va : Value) (xss : List (List Nat)), a = { tmps := #[.slice ab b.length cb, .pointer (some ⟨g, 0, none⟩), U 2, U 3, U 4, U 5, .func (.func 26) #[] #[.pointer (some ⟨g, 0, none⟩)], .slice f 9 cf, U 8, .int .u64 (L : Int), va, U 11, U 12, U 13, U 14, U 15, U 16, U 17, U 18, U 19, U 20, U 21, U 22, U 23, U 24, U 25, U 26, U 27, U 28, U 29, U 30, U 31, U 32, U 33, U 34, U 35, U 36, U 37, U 38, U 39, U 40, U 41, U 42, U 43, U 44, U 45, U 46, U 47, U 48, U 49, U 50, U 51, U 52, U 53, U 54, U 55, U 56, U 57, U 58, U 59, U 60, U 61, U 62, U 63, U 64, U 65, U 66], defers := [] } ∧ Tk w w' g q ∧ Own w' (g + 1) 5 .u8 (.slice f 9 cf) (b.take 9) ∧ OwnS w' (g + 1) va xss ∧ Below w.heap.size w w' ∧ L < 18446744073709551616 ∧ xss.length + q.length ≤ b.length ∧ (∀ y ∈ q, y < 256) ∧ 9 ≤ b.length ∧ b.getD 0 0 ≤ 16 ∧ DecS b L xss q, Lib.hid fun _ _ h => h, Lib.hid fun T w' ⟨q, f, cf, L, va, xss, h, r⟩ => ⟨fun i => T.getD i undef, q, f, cf, L, va, xss, congrArg (fun T => ({ tmps := T, defers := [] } : Act)) h, r⟩⟩
  obtain ⟨μ, Hμ⟩ : ∃ μ : Act → World → Nat, Hid (∀ a w', μ a w' = (intOf (a.tmps.getD 9 undef)).toNat) := ⟨_, Lib.hid fun _ _ => rfl⟩
  refine wp_scope_mid 0 J μ (by simp only [findLabel]; rfl) ?_ ?_
  · intro a' wr hj
    obtain ⟨U, r, f, cf, L, va, xss, rfl, T1, hf, hS, hbel, hL, hn, hr, h9l, h16, HD0⟩ := HJ.out _ _ hj
    have HD := Lib.hid HD0
    clear HD0 hj T0 hbel0 hz0
    go_wp2_with fail
    refine (take22_c g 8 r (by omega) (by omega) w wr hbel hgw T1).mono ?_
    rintro e w1 (⟨hlt, rfl, rfl⟩ | ⟨hle, v1, rfl, hown1, T2, hch1⟩)
    · go_wp2_with fail
      simp only [Exit.jump, Exit.inBlock, Exit.then]
      refine bodyPost_ret (v := .tuple #[.int .i64 0, .slice none 0 0, .slice none 0 0, .int .i64 23]) ?_ rfl ?_
      · simp [results, Try.results19]
      exact ⟨hbel, .inl ⟨HD.out.none_ h9l h16 (decP_none8 hlt), rfl⟩⟩
    · obtain ⟨ah, ch, rfl, hslh, -, -, -⟩ := hown1.slz
      have hl8 : (r.take 8).length = 8 := by rw [List.length_take]; omega
      have hb8 : ∀ x ∈ r.take 8, x < 256 := fun x hx => hr x (List.mem_of_mem_take hx)
      have hlong := long_c ah ch (r.take 8) hb8 (by rw [hl8]; decide) 0 (by decide) w1 hslh
      rw [hl8, numAt_take8 r hle] at hlong
      rw [hl8]
      have hN : numAt r 0 8 < 18446744073709551616 := numAt_lt hr 0 8
      have hf1 := hf.ch hch1 T1.choose_spec.choose_spec.1 (by decide)
      have hS1 := hS.ch hch1 T1.choose_spec.choose_spec.1 (by omega)
      have hbel1 := hch1.below hbel hgw hbel.size
      obtain ⟨N, HN⟩ : ∃ N, Hid (numAt r 0 8 = N) := ⟨_, Lib.hid rfl⟩
      have hr8 : ¬ r.length < 8 := by omega
      rw [HN.out] at hlong hN
      obtain ⟨s, Hs⟩ : ∃ s, Hid (r.drop 8 = s) := ⟨_, Lib.hid rfl⟩
      rw [Hs.out] at T2
      have hsl : s.length + 8 = r.length := by rw [← Hs.out, List.length_drop]; omega
      have HP := Lib.hid (decP_noneN hr8)
      have HP2 := Lib.hid (decP_is hr8)
      rw [HN.out, Hs.out] at HP HP2
      have hs256 : ∀ y ∈ s, y < 256 := fun y hy => hr y (List.mem_of_mem_drop (by rw [Hs.out]; exact hy))
      clear T1 hch1 hf hS hbel hown1 hslh hl8 hb8
      go_wp2_with fail
      refine hlong.mono ?_
      rintro e w2 ⟨rfl, hb2⟩
      have hbel2 := bCall hbel1 hb2 hbel1.size
      have T3 := T2.below hb2
      have hf2 := hf1.below hb2
      have hS2 := hS1.below hb2
      clear hlong T2 hf1 hS1 hbel1
      go_wp2_with fail
      refine (take22_c g N s hN (by omega) w w2 hbel2 hgw T3).mono ?_
      rintro e w3 (⟨hlt, rfl, rfl⟩ | ⟨hle3, v3, rfl, hown3, T4, hch3⟩)
      · go_wp2_with fail
        simp only [Exit.jump, Exit.inBlock, Exit.then]
        refine bodyPost_ret (v := .tuple #[.int .i64 0, .slice none 0 0, .slice none 0 0, .int .i64 23]) ?_ rfl ?_
        · simp [results, Try.results19]
        exact ⟨hbel2, .inl ⟨HD.out.none_ h9l h16 (HP.out hlt), rfl⟩⟩
      · have hf3 := hf2.ch hch3 T3.choose_spec.choose_spec.1 (by decide)
        have hS3 := hS2.ch hch3 T3.choose_spec.choose_spec.1 (by omega)
        have hbel3 := hch3.below hbel2 hgw hbel2.size
        have HPx := Lib.hid (HP2.out hle3)
        have hz3 := hbel3.size
        clear T3 hf2 hS2 hbel2 hch3 HP HP2
        obtain ⟨x, Hx⟩ : ∃ x, Hid (s.take N = x) := ⟨_, Lib.hid rfl⟩
        obtain ⟨t, Ht⟩ : ∃ t, Hid (s.drop N = t) := ⟨_, Lib.hid rfl⟩
        rw [Hx.out, Ht.out] at HPx
        rw [Hx.out] at hown3
        rw [Ht.out] at T4
        have htl : t.length ≤ s.length := by rw [← Ht.out, List.length_drop]; omega
        have ht256 : ∀ y ∈ t, y < 256 := fun y hy => hs256 y (List.mem_of_mem_drop (by rw [Ht.out]; exact hy))
        obtain ⟨ax, cx, rfl, -, -, -, -⟩ := hown3.slz
        have hb4 := (Below.refl w3.heap.size w3).alloc (Nat.le_refl _) (.cells [Value.slice ax x.length cx].toArray 22)
        have hS4 := hS3.below hb4
        have hf4 := hf3.below hb4
        have T5 := T4.below hb4
        have B4 := Blk.new w3 22 [Value.slice ax x.length cx].toArray
        have hbel4 := hbel3.alloc hbel3.size (.cells [Value.slice ax x.length cx].toArray 22)
        have E4 := ElS.ofOwn (hown3.below hb4) hS4.nb
        have hE4 : ∀ i, i < [x].length → ∃ g off u, some (⟨w3.heap.size, 0, none⟩ : Addr) = some ⟨g, off, none⟩ ∧ (w3.alloc (.cells [Value.slice ax x.length cx].toArray 22)).cell? ⟨g, off + i, none⟩ = some u ∧ ElS (w3.alloc (.cells [Value.slice ax x.length cx].toArray 22)) va.ownBlock u (([x] : List (List Nat)).getD i []) := by
          intro i hi
          obtain rfl : i = 0 := by simp at hi; omega
          exact ⟨_, 0, .slice ax x.length cx, rfl, by rw [B4.cell]; rfl, E4⟩
        have hgz : g + 1 ≤ (w3.alloc (.cells [Value.slice ax x.length cx].toArray 22)).heap.size := Blk.lt T5.choose_spec.choose_spec.1
        clear hS3 hf3 T4 hown3 hb4 B4 hbel3 E4
        by_cases hL0 : 0 < L
        · have hd : decide ((L : Int) > 0) = true := by simp; omega
          obtain ⟨M, rfl⟩ : ∃ M, L = M + 1 := ⟨L - 1, by omega⟩
          have hm1 : ((M + 1 : Nat) : Int) - 1 = (M : Int) := by omega
          go_wp2_with (refine wpList_append_S (v := va) (yss := [x]) rfl rfl rfl hS4 rfl rfl (fun h => by cases h) hE4 (by simp; omega) hgz ?_; intro v7 w7 hown7 hgr7; have hbel7 := hbel4.grown hgr7 hbel4.size fun k hk => by have := hS4.ge_ k hk; omega)
          have T7 := T5.grown hgr7 fun k hk => by have := hS4.ge_ k hk; omega
          have hf7 := hf4.grownDis hgr7 fun k h1 h2 => by
            obtain ⟨cs, hcs⟩ := hS4.nb k h1
            exact own_blk hf4 hcs (by decide) h2
          go_step3
          refine ⟨rfl, HI.out _ _ ⟨t, f, cf, M, v7, xss ++ [x], rfl, T7, hf7, hown7, hbel7, by omega, ?_, ht256, h9l, h16, HD.out.next HPx.out⟩, ?_⟩
          · rw [List.length_append, List.length_singleton]; omega
          · rw [Hμ.out, Hμ.out]
            change ((M : Int)).toNat < (((M + 1 : Nat) : Int)).toNat
            omega
        · obtain rfl : L = 0 := by omega
          have hd : decide (((0 : Nat) : Int) > 0) = false := by simp
          have hd0 : decide ((0 : Int) > 0) = false := by simp
          by_cases ht0 : 0 < t.length
          · have hd2 : decide ((t.length : Int) > 0) = true := by simp; omega
            have HDn : Hid (decC b = none) := Lib.hid (by
              rw [HD.out.last h9l h16 HPx.out]
              cases t with
              | nil => simp at ht0
              | cons _ _ => cases xss <;> rfl)
            go_wp2_with (refine wpList_append_S (v := va) (yss := [x]) rfl rfl rfl hS4 rfl rfl (fun h => by cases h) hE4 (by simp; omega) hgz ?_; intro v7 w7 hown7 hgr7; have hbel7 := hbel4.grown hgr7 hbel4.size (fun k hk => by have := hS4.ge_ k hk; omega); have T7 := T5.grown hgr7 (fun k hk => by have := hS4.ge_ k hk; omega); obtain ⟨ar, cr, T8, -, hcr⟩ := T7; have k7 := T8.cell)
            simp only [Exit.jump, Exit.inBlock, Exit.then]
            refine bodyPost_ret (v := .tuple #[.int .i64 0, .slice none 0 0, .slice none 0 0, .int .i64 23]) ?_ rfl ?_
            · simp [results, Try.results19]
            exact ⟨hbel7, .inl ⟨HDn.out, rfl⟩⟩
          · obtain rfl : t = [] := List.length_eq_zero_iff.1 (by omega)
            obtain ⟨y, ys, hys⟩ : ∃ y ys, xss ++ [x] = y :: ys := by cases xss <;> exact ⟨_, _, rfl⟩
            have HDs : Hid (decC b = some (b.getD 0 0, y, ys)) := Lib.hid (by rw [HD.out.last h9l h16 HPx.out, hys])
            have hne9 : b.take 9 ≠ [] := fun h => by
              have := congrArg List.length h
              rw [List.length_take, List.length_nil] at this
              omega
            have hT8 := Lib.hid T5
            have HYS := Lib.hid hys
            have HNE := Lib.hid hne9
            clear T5 hys hne9 ht256 htl hs256 hr hsl hle3 ht0
            go_wp2_with (refine wpList_append_S (v := va) (yss := [x]) rfl rfl rfl hS4 rfl rfl (fun h => by cases h) hE4 (by simp; omega) hgz ?_; intro v7 w7 hown7 hgr7; have hbel7 := hbel4.grown hgr7 hbel4.size (fun k hk => by have := hS4.ge_ k hk; omega); have T7 := hT8.out.grown hgr7 (fun k hk => by have := hS4.ge_ k hk; omega); obtain ⟨ar, cr, T8, -, hcr⟩ := T7; rw [List.length_nil] at T8; have k7 := T8.cell)
            have hf7 := hf4.grownDis hgr7 fun k h1 h2 => by
              obtain ⟨cs, hcs⟩ := hS4.nb k h1
              exact own_blk hf4 hcs (by decide) h2
            obtain ⟨gf, cf', hfe, hgf, hgf2, hslf, -, -⟩ := hf7.sl2 HNE.out
            injection hfe with hfe hx1 hx2
            clear hx1 hx2
            subst hfe
            have k0 := hslf.eq (i := 0) (by rw [List.length_take]; omega)
            rw [Nat.zero_add, List.getD_eq_getElem?_getD, List.getElem?_take, if_pos (by decide), ← List.getD_eq_getElem?_getD] at k0
            rw [HYS.out] at hown7
            obtain ⟨a7, c7, rfl, hsS, hc7, hm7, hn7⟩ := hown7.slS
            obtain ⟨g7, o7, ay, cy, rfl, hg7, k1, hsy, hny⟩ := hsS 0 (by simp)
            rw [Nat.add_zero] at k1
            rw [List.getD_cons_zero] at k1 hsy
            rw [List.length_cons] at hc7 ⊢
            have hi1 : (0 : Int) < (((ys.length + 1 : Nat)) : Int) := by omega
            clear hE4 hS4 hf4 hbel4 hgz hT8 k7 T8 hcr hown7 hf7 HNE hgr7
            obtain ⟨t0, Ht0⟩ : ∃ t0, Hid (b.getD 0 0 = t0) := ⟨_, Lib.hid rfl⟩
            rw [Ht0.out] at k0 h16 HDs
            have ht0 : t0 < 256 := by omega
            clear h16 hb hl hc hs h9 h9l hn hN hr8 hle hL hL0 hnot hmf hd hd0 hb2 hz3 hgw hn7 hgf hgf2
            go_quiet (fail)
            generalize hav : (if c7 = 1 then some (⟨g7, o7, none⟩ : Addr) else some ⟨g7, o7 + 1, none⟩) = av
            have HAV := Lib.hid hav
            clear hav
            go_wp2
            have hb8 : Below w.heap.size w (w7.drewN nq) := bDrewN hbel7 _
            have hd8 : Below w7.heap.size w7 (w7.drewN nq) := bDrewN (Below.refl _ _) _
            simp only [Exit.jump, Exit.inBlock, Exit.then]
            refine bodyPost_ret (v := .tuple #[.int .i64 (t0 : Int), .slice ay y.length cy, .slice av ys.length (c7 - 1), .int .i64 0]) ?_ rfl ?_
            · simp [results, Try.results19]
            refine ⟨hb8, .inr ⟨t0, y, ys, ay, cy, av, _, HDs.out, rfl, hsy.below hd8, ?_, hny, ?_⟩⟩
            · intro i hi
              have hne : ¬ c7 = 1 := by omega
              rw [← HAV.out, if_neg hne]
              obtain ⟨g8, o8, ai, ci, q1, q2, q3, q4, q5⟩ := hsS (i + 1) (by simp; exact hi)
              cases q1
              rw [List.getD_cons_succ] at q3 q4
              rw [← Nat.add_assoc, Nat.add_right_comm] at q3
              exact ⟨_, _, ai, ci, rfl, q2, (hd8.cell q2).trans q3, q4.below hd8, q5⟩
            · rw [← HAV.out]
              split <;> intro h <;> cases h
  · intro pass
    have HT := take22_c g 9 b (by omega) hl w w0 hbel0 hgw T0
    go_wp2_with fail
    refine HT.mono ?_
    clear HT
    rintro e w1 (⟨hlt, rfl, rfl⟩ | ⟨hle, v1, rfl, hown1, T1, hch1⟩)
    · go_wp2_with fail
      simp only [Exit.jump, Exit.inBlock, Exit.then]
      refine bodyPost_ret (v := .tuple #[.int .i64 0, .slice none 0 0, .slice none 0 0, .int .i64 23]) ?_ rfl ?_
      · simp [results, Try.results19]
      exact ⟨hbel0, .inl ⟨h9 hlt, rfl⟩⟩
    · obtain ⟨f, cf, rfl, hslf, -, -, -⟩ := hown1.slz
      have hl9 : (b.take 9).length = 9 := by rw [List.length_take]; omega
      have hb9 : ∀ x ∈ b.take 9, x < 256 := fun x hx => hb x (List.mem_of_mem_take hx)
      rw [hl9] at hown1 ⊢
      have hne9 : b.take 9 ≠ [] := fun h => by rw [h] at hl9; simp at hl9
      have hbel1 := hch1.below hbel0 hgw hbel0.size
      have hf1 := hown1.mono (B' := g + 1) (by omega)
      obtain ⟨gf, off, hfe, hgf2, hcl⟩ := hslf hne9
      subst hfe
      have k0 := hcl 0 (by omega)
      rw [Nat.add_zero, List.getD_eq_getElem?_getD, List.getElem?_take, if_pos (by decide), ← List.getD_eq_getElem?_getD] at k0
      have hlong := long_c (some ⟨gf, off, none⟩) cf (b.take 9) hb9 (by rw [hl9]; decide) 1 (by decide) w1 hslf
      rw [hl9] at hlong
      have hN : numAt b 1 8 < 18446744073709551616 := numAt_lt hb 1 8
      have hN9 : numAt (b.take 9) 1 8 = numAt b 1 8 := by
        rw [numAt_take (by rw [hl9]; omega), numAt_take (by omega)]
        congr 1
        rw [List.drop_take, List.take_take]; rfl
      rw [hN9] at hlong
      obtain ⟨t0, Ht0⟩ : ∃ t0, Hid (b.getD 0 0 = t0) := ⟨_, Lib.hid rfl⟩
      have ht0 : t0 < 256 := by rw [← Ht0.out]; exact getD_bound hb (by omega) 0
      rw [Ht0.out] at k0
      have hw0 : ((t0 : Nat) : Int) < 9223372036854775808 := by omega
      have hr := right_c (t0 : Int)
      clear hl9 hb9 hN9 hcl hown1 hslf hch1 hbel0 T0 hz0 hne9
      have hT := Lib.hid T1
      have hF := Lib.hid hf1
      clear T1 hf1
      go_wp2_with fail
      refine (hr _).mono ?_
      rintro e w2 ⟨rfl, rfl⟩
      clear hr
      by_cases h16 : t0 ≤ 16
      · rw [if_pos (by omega)]
        go_wp2_with fail
        refine hlong.mono ?_
        rintro e w3 ⟨rfl, hb3⟩
        clear hlong
        go_wp2_with fail
        refine wp_label ?_
        rename_i hK
        refine hK _ _ ?_
        refine pass _ _ (HI.out _ _ ⟨b.drop 9, some ⟨gf, off, none⟩, cf, numAt b 1 8, .slice none 0 0, [], rfl, hT.out.below hb3, hF.out.below hb3, OwnS.nil _ _, bCall hbel1 hb3 hbel1.size, hN, ?_, fun y hy => hb y (List.mem_of_mem_drop hy), hle, by rw [Ht0.out]; exact h16, ?_⟩)
        · rw [List.length_drop, List.length_nil]; omega
        · unfold DecS
          cases decL (numAt b 1 8 + 1) (b.drop 9) with
          | none => rfl
          | some p => rfl
      · rw [if_neg (by omega)]
        go_wp2_with fail
        simp only [Exit.jump, Exit.inBlock, Exit.then]
        refine bodyPost_ret (v := .tuple #[.int .i64 0, .slice none 0 0, .slice none 0 0, .int .i64 23]) ?_ rfl ?_
        · simp [results, Try.results19]
        refine ⟨hbel1, .inl ⟨?_, rfl⟩⟩
        unfold decC
        rw [if_pos (.inr (by rw [Ht0.out]; omega))]
end Go.Proofs.Ythfkfbabjfogeaa
