/- Chapter 22: the reference's Decode. No condition but that rows are short. -/
import Derived.Test.YthfkfbabjfogeaaW22d
import Derived.Test.YthfkfbabjfogeaaW22e
namespace Go.Proofs.Ythfkfbabjfogeaa
set_option linter.unusedSimpArgs false
set_option linter.unusedVariables false
set_option linter.unusedSectionVars false
set_option linter.unusedVariables false
open Go.RowKit
/-- What is known while the reference takes pieces: n pieces are to be taken in all behind the first; the state is the place (none: it went wrong) and those taken. -/
def RefS (n : Nat) (r : List Nat) (xss : List (List Nat)) (s : Option (List Nat)) : Prop := match s with
  | some q => ∃ m, n = xss.length + m ∧ decL n r = match decL m q with
    | none => none
    | some (ys, r') => some (xss ++ ys, r')
  | none => decL n r = none
theorem RefS.start (n : Nat) (r : List Nat) : RefS n r [] (some r) := ⟨n, by simp, by cases decL n r with | none => rfl | some p => rfl⟩
theorem RefS.next {n : Nat} {r q x s : List Nat} {xss : List (List Nat)} (h : RefS n r xss (some q)) (hlt : xss.length < n) (hp : decP q = some (x, s)) : RefS n r (xss ++ [x]) (some s) := by
  obtain ⟨m, h1, h2⟩ := h
  obtain ⟨m, rfl⟩ : ∃ m', m = m' + 1 := ⟨m - 1, by omega⟩
  refine ⟨m, by rw [List.length_append, List.length_singleton]; omega, ?_⟩
  rw [h2, decL_step, hp]
  simp only []
  cases decL m s with
  | none => rfl
  | some p => obtain ⟨ys, r'⟩ := p; simp
theorem RefS.bad {n : Nat} {r q : List Nat} {xss : List (List Nat)} (h : RefS n r xss (some q)) (hlt : xss.length < n) (hp : decP q = none) (ys : List (List Nat)) : RefS n r ys none := by
  obtain ⟨m, h1, h2⟩ := h
  obtain ⟨m, rfl⟩ : ∃ m', m = m' + 1 := ⟨m - 1, by omega⟩
  rw [decL_step, hp] at h2
  exact h2
theorem RefS.done {n : Nat} {r q : List Nat} {xss : List (List Nat)} (h : RefS n r xss (some q)) (hlt : ¬ xss.length < n) : decL n r = some (xss, q) := by
  obtain ⟨m, h1, h2⟩ := h
  obtain rfl : m = 0 := by omega
  rw [h2]
  show some (xss ++ [], q) = _
  rw [List.append_nil]
theorem decC_rest {b x r : List Nat} (h9 : 9 ≤ b.length) (h16 : b.getD 0 0 ≤ 16) (hp : decP (b.drop 9) = some (x, r)) : decC b = match decL (numAt b 1 8) r with
    | some (xs, []) => some (b.getD 0 0, x, xs)
    | _ => none := by
  unfold decC
  rw [if_neg (by omega), hp]
  simp only []
  cases decL (numAt b 1 8) r with
  | none => rfl
  | some q => obtain ⟨xs, s⟩ := q; cases s <;> rfl
set_option maxRecDepth 100000 in
set_option maxHeartbeats 8000000 in
theorem rDecode22_c (ab : Option Addr) (cb : Nat) (b : List Nat) (hb : ∀ x ∈ b, x < 256) (hl : b.length ≤ 500) (hc : b.length ≤ cb) (w : World) (hs : Sl w ab .u8 b) :
    Calls Try.prog 20 #[.slice ab b.length cb] w fun e w' => Below w.heap.size w w' ∧
      ((decC b = none ∧ e = .returned (.tuple #[.int .i64 0, .slice none 0 0, .slice none 0 0, .bool false])) ∨
      (∃ t x xs a1 c1 a2 c2, decC b = some (t, x, xs) ∧ e = .returned (.tuple #[.int .i64 (t : Nat), .slice a1 x.length c1, .slice a2 xs.length c2, .bool true]) ∧ Sl w' a1 .u8 x ∧ SlS w' a2 xs)) := by
  obtain ⟨L, HL⟩ : ∃ L, Hid (b.length = L) := ⟨_, Lib.hid rfl⟩
  rw [HL.out] at hl hc ⊢
  by_cases h9 : L < 9
  · have hd : decide ((L : Int) < 9) = true := by simp; omega
    go_enter Try.func20, Try.ntmps20
    go_wp2
    (try simp only [Exit.inBlock, Exit.then])
    refine bodyPost_ret (v := .tuple #[.int .i64 0, .slice none 0 0, .slice none 0 0, .bool false]) ?_ rfl ?_
    · simp [results, Try.results20]
    refine ⟨Below.refl _ _, .inl ⟨?_, rfl⟩⟩
    unfold decC
    rw [if_pos (.inl (by rw [HL.out]; exact h9))]
  have hd : decide ((L : Int) < 9) = false := by simp; omega
  obtain ⟨g, off, hae, hg, hcl⟩ := hs (fun h => by rw [← HL.out, h] at h9; simp at h9)
  have k0 := hcl 0 (by rw [HL.out]; omega)
  subst hae
  rw [Nat.add_zero] at k0
  obtain ⟨t0, Ht0⟩ : ∃ t0, Hid (b.getD 0 0 = t0) := ⟨_, Lib.hid rfl⟩
  have ht0 : t0 < 256 := by rw [← Ht0.out]; exact getD_bound hb (by omega) 0
  rw [Ht0.out] at k0
  have hi0 : (0 : Int) < (L : Int) := by omega
  by_cases h16 : 16 < t0
  · have hd2 : decide ((t0 : Int) > 16) = true := by simp; omega
    go_enter Try.func20, Try.ntmps20
    go_wp2
    (try simp only [Exit.inBlock, Exit.then])
    refine bodyPost_ret (v := .tuple #[.int .i64 0, .slice none 0 0, .slice none 0 0, .bool false]) ?_ rfl ?_
    · simp [results, Try.results20]
    refine ⟨Below.refl _ _, .inl ⟨?_, rfl⟩⟩
    unfold decC
    rw [if_pos (.inr (by rw [Ht0.out]; exact h16))]
  have hd2 : decide ((t0 : Int) > 16) = false := by simp; omega
  have hnum := number_c (some ⟨g, off, none⟩) cb b hb (by rw [HL.out]; simp [maxLen]; omega) 1 8 (by omega) (by omega) w hs
  have hpc := fun p hp W h => piece_c (some ⟨g, off, none⟩) cb p b hb (by rw [HL.out]; omega) hp (by rw [HL.out]; exact hc) W h
  have hnl : numAt b 1 8 < 18446744073709551616 := numAt_lt hb 1 8
  rw [HL.out] at hnum hpc
  have HR := Lib.hid fun x r => decC_rest (b := b) (x := x) (r := r) (by rw [HL.out]; omega) (by rw [Ht0.out]; omega)
  have H9 : Hid (decP (b.drop 9) = none → decC b = none) := Lib.hid fun h => by
    unfold decC
    split
    · rfl
    · rw [h]
  obtain ⟨M, HM⟩ : ∃ M, Hid (numAt b 1 8 = M) := ⟨_, Lib.hid rfl⟩
  rw [HM.out] at hnum hnl HR
  have hP := hpc 9 (by omega) w hs
  clear hcl
  go_enter Try.func20, Try.ntmps20
  go_wp2_with fail
  refine hnum.mono ?_
  clear hnum
  rintro e w2 ⟨rfl, rfl⟩
  go_wp2_with fail
  refine hP.mono ?_
  clear hP
  rintro e w2 (⟨h0, rfl, rfl⟩ | ⟨x, r, a2, c2, h0, rfl, rfl, hsx, hr, hple, -⟩)
  · have H0 := Lib.hid (H9.out h0)
    clear h0 hpc
    go_wp2_with fail
    go_loopw [8] (fun s wr => s = .int .i64 (-1) ∧ w = wr) (fun s wr => 0)
    case atStart => exact ⟨rfl, rfl⟩
    case round =>
      obtain ⟨rfl, rfl⟩ := hrel
      have hd3 : ((-1 : Int) == (L : Int)) = false := by rw [Bool.eq_false_iff]; intro h; rw [beq_iff_eq] at h; omega
      go_wp2
      (try simp only [Exit.inBlock, Exit.then])
      refine bodyPost_ret (v := .tuple #[.int .i64 0, .slice none 0 0, .slice none 0 0, .bool false]) ?_ rfl ?_
      · simp [results, Try.results20]
      exact ⟨Below.refl _ _, .inl ⟨H0.out, rfl⟩⟩
  · obtain ⟨p0, HP0⟩ : ∃ p0, Hid (9 + 8 + x.length = p0) := ⟨_, Lib.hid rfl⟩
    rw [HP0.out] at hr hple ⊢
    have HR2 := Lib.hid (HR.out x r h0)
    have HRs : Hid (RefS M r [] (some (b.drop p0))) := Lib.hid (by rw [← hr]; exact RefS.start M r)
    have HPC := Lib.hid hpc
    clear h0 hpc hr H9 HR
    go_wp2_with fail
    go_loopw [8, 9] (fun s v wr => (s = .int .i64 (-1) ∧ decC b = none ∧ Below w.heap.size w wr) ∨ (∃ p xss, s = .int .i64 ((p : Nat) : Int) ∧ p ≤ L ∧ OwnS wr w.heap.size v xss ∧ xss.length ≤ p ∧ RefS M r xss (some (b.drop p)) ∧ Below w.heap.size w wr)) (fun s v wr => if intOf s < 0 then 0 else L + 1 - (intOf s).toNat)
    case atStart => exact .inr ⟨p0, [], rfl, hple, OwnS.nil _ _, Nat.zero_le _, HRs.out, Below.refl _ _⟩
    case round =>
      rcases hrel with ⟨rfl, h0, hbel⟩ | ⟨p, xss, rfl, hp, hS, hxp, hRS, hbel⟩
      · have H0 := Lib.hid h0
        clear h0
        have hd3 : ((-1 : Int) == (L : Int)) = false := by rw [Bool.eq_false_iff]; intro h; rw [beq_iff_eq] at h; omega
        go_wp2
        (try simp only [Exit.inBlock, Exit.then])
        refine bodyPost_ret (v := .tuple #[.int .i64 0, .slice none 0 0, .slice none 0 0, .bool false]) ?_ rfl ?_
        · simp [results, Try.results20]
        exact ⟨hbel, .inl ⟨H0.out, rfl⟩⟩
      · obtain ⟨av, cv, rfl, hSS, hcv, hmv, hnv⟩ := hS.slS
        by_cases hlt : xss.length < M
        · have hd3 : decide ((xss.length : Int) < (M : Int)) = true := by simp; omega
          have hM := fun (W : World) (hW : Sl W (some ⟨g, off, none⟩) .u8 b) => HPC.out p hp W hW
          have hsr := hs.below hbel
          have HRS := Lib.hid hRS
          have HS := Lib.hid hS
          clear hRS hS
          go_wp2_with fail
          refine (hM _ hsr).mono ?_
          clear hM
          rintro e w2 (⟨h0, rfl, rfl⟩ | ⟨y, s, a3, c3, h0, rfl, rfl, hsy, hsd, hple3, hnn, hbk⟩)
          · have H0 : Hid (decC b = none) := Lib.hid (by
              rw [HR2.out, HRS.out.bad hlt h0 []])
            clear h0
            have hS0 := HS.out
            have hb6 := (Below.refl wr.heap.size wr).alloc (Nat.le_refl _) (.cells [Value.slice none 0 0].toArray 22)
            have hS6 := hS0.below hb6
            have B6 := Blk.new wr 22 [Value.slice none 0 0].toArray
            have hbel6 := hbel.alloc hbel.size (.cells [Value.slice none 0 0].toArray 22)
            have hE6 : ∀ i, i < [([] : List Nat)].length → ∃ g off u, some (⟨wr.heap.size, 0, none⟩ : Addr) = some ⟨g, off, none⟩ ∧ (wr.alloc (.cells [Value.slice none 0 0].toArray 22)).cell? ⟨g, off + i, none⟩ = some u ∧ ElS (wr.alloc (.cells [Value.slice none 0 0].toArray 22)) (Value.slice av xss.length cv).ownBlock u (([[]] : List (List Nat)).getD i []) := by
              intro i hi
              obtain rfl : i = 0 := by simp at hi; omega
              exact ⟨_, 0, .slice none 0 0, rfl, by rw [B6.cell]; rfl, none, 0, rfl, fun h => absurd rfl h, fun _ => rfl, fun h => absurd rfl h⟩
            clear hS0 B6 hb6
            go_wp2_with (refine wpList_append_S (v := .slice av xss.length cv) (yss := [[]]) rfl rfl rfl hS6 rfl rfl (fun h => by cases h) hE6 (by simp; omega) hbel6.size ?_; intro v7 w7 hown7 hgr7; have hbel7 := hbel6.grown hgr7 hbel6.size hS6.ge_; clear hgr7)
            refine ⟨.inl ⟨rfl, H0.out, hbel7⟩, ?_⟩
            change (if (-1 : Int) < 0 then 0 else _) < (if ((p : Nat) : Int) < 0 then 0 else L + 1 - ((p : Nat) : Int).toNat)
            rw [if_pos (by decide), if_neg (by omega)]
            omega
          · have HN := Lib.hid (HRS.out.next hlt h0)
            obtain ⟨p1, HP1⟩ : ∃ p1, Hid (p + 8 + y.length = p1) := ⟨_, Lib.hid rfl⟩
            have hp1 : p < p1 := by rw [← HP1.out]; omega
            rw [HP1.out] at hsd hple3 ⊢
            rw [hsd] at HN
            have hpL : p1 ≤ L := hple3
            clear h0 hsd hple3 hnv hmv hcv hSS
            have hn3 : a3 = none → c3 = 0 := fun h => absurd h (hnn (by simp))
            clear hnn
            have HOld : Hid (∀ q off', a3 = some ⟨q, off', none⟩ → q < w.heap.size) := Lib.hid fun q off' ha => by
              obtain ⟨p', h1, h2⟩ := hbk _ ha
              injection h1 with h1
              rw [← h1] at h2
              have h3 : g = q := h2
              rw [← h3]; exact hg
            clear hbk
            have hS0 := HS.out
            have hb6 := (Below.refl wr.heap.size wr).alloc (Nat.le_refl _) (.cells [Value.slice a3 y.length c3].toArray 22)
            have hS6 := hS0.below hb6
            have B6 := Blk.new wr 22 [Value.slice a3 y.length c3].toArray
            have hbel6 := hbel.alloc hbel.size (.cells [Value.slice a3 y.length c3].toArray 22)
            have hlt6 : ∀ q, (Value.slice av xss.length cv).ownBlock = some q → w.heap.size ≤ q := hS6.ge_
            have hE6 : ∀ i, i < [y].length → ∃ g off u, some (⟨wr.heap.size, 0, none⟩ : Addr) = some ⟨g, off, none⟩ ∧ (wr.alloc (.cells [Value.slice a3 y.length c3].toArray 22)).cell? ⟨g, off + i, none⟩ = some u ∧ ElS (wr.alloc (.cells [Value.slice a3 y.length c3].toArray 22)) (Value.slice av xss.length cv).ownBlock u (([y] : List (List Nat)).getD i []) := by
              intro i hi
              obtain rfl : i = 0 := by simp at hi; omega
              exact ⟨_, 0, .slice a3 y.length c3, rfl, by rw [B6.cell]; rfl, ElS.ofOld (hsy.below hb6) hn3 (C := w.heap.size) (fun q off' hne ha => HOld.out q off' ha) hlt6⟩
            clear hS0 B6 hb6 hlt6
            go_wp2_with (refine wpList_append_S (v := .slice av xss.length cv) (yss := [y]) rfl rfl rfl hS6 rfl rfl (fun h => by cases h) hE6 (by simp; omega) hbel6.size ?_; intro v7 w7 hown7 hgr7; have hbel7 := hbel6.grown hgr7 hbel6.size hS6.ge_; clear hgr7)
            refine ⟨.inr ⟨p1, xss ++ [y], rfl, hpL, hown7, by rw [List.length_append, List.length_singleton]; omega, HN.out, hbel7⟩, ?_⟩
            change (if ((p1 : Nat) : Int) < 0 then 0 else L + 1 - ((p1 : Nat) : Int).toNat) < (if ((p : Nat) : Int) < 0 then 0 else L + 1 - ((p : Nat) : Int).toNat)
            rw [if_neg (by omega), if_neg (by omega)]
            omega
        · have hd3 : decide ((xss.length : Int) < (M : Int)) = false := by simp; omega
          obtain ⟨XS, HXS⟩ : ∃ XS, Hid (decL M r = some (xss, b.drop p) ∧ XS = 0) := ⟨0, Lib.hid ⟨hRS.done hlt, rfl⟩⟩
          clear hRS hS HPC
          by_cases hpl : p = L
          · obtain rfl := hpl
            have HDc : Hid (decC b = some (t0, x, xss)) := Lib.hid (by
              rw [HR2.out, HXS.out.1, List.drop_of_length_le (by rw [HL.out]; exact Nat.le_refl _), Ht0.out])
            have hd4 : (((p : Nat) : Int) == ((p : Nat) : Int)) = true := by simp
            have k1 := (hbel.cell (p := ⟨g, off, none⟩) hg).trans k0
            go_wp2
            (try simp only [Exit.inBlock, Exit.then])
            refine bodyPost_ret (v := .tuple #[.int .i64 (t0 : Int), .slice a2 x.length c2, .slice av xss.length cv, .bool true]) ?_ rfl ?_
            · simp [results, Try.results20]
            exact ⟨hbel, .inr ⟨t0, x, xss, a2, c2, av, cv, HDc.out, rfl, hsx.below hbel, hSS⟩⟩
          · have HDc : Hid (decC b = none) := Lib.hid (by
              rw [HR2.out, HXS.out.1]
              match hq : b.drop p with
              | [] =>
                have := congrArg List.length hq
                rw [List.length_drop, HL.out, List.length_nil] at this
                omega
              | _ :: _ => rfl)
            have hd4 : (((p : Nat) : Int) == (L : Int)) = false := by simp; omega
            go_wp2
            (try simp only [Exit.inBlock, Exit.then])
            refine bodyPost_ret (v := .tuple #[.int .i64 0, .slice none 0 0, .slice none 0 0, .bool false]) ?_ rfl ?_
            · simp [results, Try.results20]
            exact ⟨hbel, .inl ⟨HDc.out, rfl⟩⟩
end Go.Proofs.Ythfkfbabjfogeaa
