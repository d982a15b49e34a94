/- Chapter 22: the reference's piece. No condition but that rows are shorter than 2^31. -/
import Derived.Test.YthfkfbabjfogeaaW22c
namespace Go.Proofs.Ythfkfbabjfogeaa
set_option linter.unusedSimpArgs false
set_option linter.unusedVariables false
set_option linter.unusedSectionVars false
set_option linter.unusedVariables false
open Go.RowKit
theorem numAt_drop (b : List Nat) (p n : Nat) : numAt (b.drop p) 0 n = numAt b p n := by
  unfold numAt
  congr 1
  apply List.map_congr_left
  intro k _
  rw [List.getD_eq_getElem?_getD, List.getD_eq_getElem?_getD, List.getElem?_drop, Nat.zero_add]
section
variable {P : Program} {ops : Array Oper} {rest : List Oper} {o : Oper} {a : Act} {w : World} {Q : Exit → Act → World → Prop}
/-- x[m:n]; it is nil only if x is. -/
theorem wpList_sliceLH2 {T e m n N c : Nat} {x y z : Operand} {ad : Option Addr} {k : IntKind} {xs : List Nat} (hgd : o.guard = none) (ho : o.op = .slice T x (some y) (some z) none) (hT : P.underlying T = some (.slice e)) (hs : (P.info? e).map (·.size) = some 1)
    (hx : a.eval x = .slice ad N c) (hy : a.eval y = .int .i64 (m : Int)) (hz : a.eval z = .int .i64 (n : Int)) (hmn : m ≤ n) (hn : n ≤ c) (hl : xs.length ≤ c) (hsl : Sl w ad k xs)
    (h : ∀ ad2, Sl w ad2 k ((xs.drop m).take (n - m)) → (ad ≠ none → ad2 ≠ none) → (∀ p, ad2 = some p → ∃ p', ad = some p' ∧ p'.block = p.block) → wpList P ops Q rest (a.put o.dst (.slice ad2 (n - m) (c - m))) w) : wpList P ops Q (o :: rest) a w :=
  wpList_plain hgd fun _ hK => by
    obtain ⟨d, hd, hd1⟩ := Option.map_eq_some_iff.1 hs
    have he := elem_of hT
    have hT' : P.underlying T = some (.slice (P.elem T)) := by rw [he]; exact hT
    have hr := run_slice_lh (P := P) (w := w) T ad N c hT' .i64 .i64 m n (by omega) (by omega) (by omega)
    have hsz : (sizeOf (P.elem T)).run P w = .ok 1 w := by simp [sizeOf, typeInfo, he, hd, hd1]
    rw [hsz] at hr
    unfold Oper.wp execOp
    simp only [ho, hx, hy, hz, Option.map_some, Option.map_none, Sem.run_bind, Sem.run_pure, run_sliceAt_slice w T _ _ _ _ hT', hr, Result.andThen_ok, Int.toNat_natCast, sliced]
    exact hK _ _ (h _ ((hsl.sliced hl).take _) (fun hne => by
      cases ad with
      | none => exact absurd rfl hne
      | some p => split <;> simp) fun p hg => by
      split at hg
      · exact ⟨p, hg, rfl⟩
      · cases ad with
        | none => cases hg
        | some p' =>
          rw [Option.map_some] at hg
          injection hg with hg
          refine ⟨p', rfl, ?_⟩
          rw [← hg]
          unfold Addr.add
          split <;> rfl)
end
set_option maxRecDepth 100000 in
set_option maxHeartbeats 8000000 in
theorem piece_c (a : Option Addr) (c p : Nat) (b : List Nat) (hb : ∀ x ∈ b, x < 256) (hl : b.length < 2 ^ 31) (hp : p ≤ b.length) (hc : b.length ≤ c) (w : World) (hs : Sl w a .u8 b) :
    Calls Try.prog 29 #[.slice a b.length c, .int .i64 p] w fun e w' =>
      (decP (b.drop p) = none ∧ e = .returned (.tuple #[.slice none 0 0, .int .i64 (-1)]) ∧ w = w') ∨
      (∃ x r a2 c2, decP (b.drop p) = some (x, r) ∧ e = .returned (.tuple #[.slice a2 x.length c2, .int .i64 ((p + 8 + x.length : Nat) : Int)]) ∧ w = w' ∧ Sl w a2 .u8 x ∧ r = b.drop (p + 8 + x.length) ∧ p + 8 + x.length ≤ b.length ∧ (a ≠ none → a2 ≠ none) ∧ (∀ p, a2 = some p → ∃ p', a = some p' ∧ p'.block = p.block)) := by
  have hnum := fun W h => number_c a c b hb (by simp [maxLen]; omega) p 8 (by omega) (by omega) W h
  have hnl : numAt b p 8 < 18446744073709551616 := numAt_lt hb p 8
  have HD : Hid (decP (b.drop p) = if b.length - p < 8 then none else if b.length - p - 8 < numAt b p 8 then none else some (((b.drop p).drop 8).take (numAt b p 8), (b.drop p).drop (8 + numAt b p 8))) := Lib.hid (by
    unfold decP
    rw [numAt_drop, List.length_drop])
  obtain ⟨L, HL⟩ : ∃ L, Hid (b.length = L) := ⟨_, Lib.hid rfl⟩
  rw [HL.out] at hl hp hc hnum HD ⊢
  by_cases h8 : L - p < 8
  · have hd : decide ((L : Int) - (p : Int) < 8) = true := by simp; omega
    have H0 : Hid (decP (b.drop p) = none) := Lib.hid (by rw [HD.out, if_pos h8])
    go_enter Try.func29, Try.ntmps29
    go_wp2
    go_ret2
    exact .inl ⟨H0.out, rfl, rfl⟩
  · obtain ⟨m, hm⟩ : ∃ m, L = p + 8 + m := ⟨L - p - 8, by omega⟩
    have hd : decide ((L : Int) - (p : Int) < 8) = false := by simp; omega
    have hm2 : (L : Int) - p - 8 = (m : Int) := by omega
    have HD2 : Hid (decP (b.drop p) = if m < numAt b p 8 then none else some (((b.drop p).drop 8).take (numAt b p 8), (b.drop p).drop (8 + numAt b p 8))) := Lib.hid (by rw [HD.out, if_neg h8, show L - p - 8 = m by omega])
    clear HD
    have HMm := Lib.hid hm
    clear hm
    go_enter Try.func29, Try.ntmps29
    go_wp2_with fail
    refine (hnum _ hs).mono ?_
    rintro e w1 ⟨rfl, rfl⟩
    clear hnum
    generalize numAt b p 8 = n at *
    by_cases hlt : m < n
    · have hd2 : decide ((n : Int) > (m : Int)) = true := by simp; omega
      have H0 : Hid (decP (b.drop p) = none) := Lib.hid (by rw [HD2.out, if_pos hlt])
      go_wp2
      go_ret2
      exact .inl ⟨H0.out, rfl, rfl⟩
    · have hd2 : decide ((n : Int) > (m : Int)) = false := by simp; omega
      have hx : (((b.drop p).drop 8).take n).length = n := by rw [List.length_take, List.length_drop, List.length_drop, HL.out]; omega
      have H0 : Hid (decP (b.drop p) = some (((b.drop p).drop 8).take n, (b.drop p).drop (8 + n))) := Lib.hid (by rw [HD2.out, if_neg hlt])
      have HX := Lib.hid hx
      have e1 : ((p + 8 : Nat) : Int) = (p : Int) + 8 := by omega
      have e2 : ((p + 8 + n : Nat) : Int) = (p : Int) + 8 + (n : Int) := by omega
      have e3 : p + 8 + n - (p + 8) = n := by omega
      have hmn : p + 8 ≤ p + 8 + n := by omega
      have hnc : p + 8 + n ≤ c := by omega
      have hbc : b.length ≤ c := by rw [HL.out]; exact hc
      have HLL : Hid (p + 8 + n ≤ L) := Lib.hid (by omega)
      clear hx
      go_wp2_with (refine wpList_sliceLH2 (m := p + 8) (n := p + 8 + n) rfl rfl Try.underlying22 Try.s15 rfl (by rw [e1]; rfl) (by rw [e2]; rfl) hmn hnc hbc hs ?_; intro ad2 hsl2 hne2 hbk2; rw [e3] at hsl2 ⊢; (try simp only [Act.put, List.setIfInBounds_toArray, List.set_cons_zero, List.set_cons_succ, World.size_alloc, setRow_size, Nat.add_assoc, Nat.reduceAdd]))
      go_ret2
      rw [← List.drop_drop] at hsl2
      refine .inr ⟨_, _, ad2, c - (p + 8), H0.out, ?_, rfl, hsl2, ?_, ?_, hne2, hbk2⟩
      · rw [HX.out]
        simp
      · rw [HX.out, List.drop_drop, Nat.add_assoc]
      · rw [HX.out]; exact HLL.out
end Go.Proofs.Ythfkfbabjfogeaa
