/- Chapter 22: the closure that vector.Decode takes bytes with. No condition but that rows are shorter than 2^31. -/
import Derived.Test.YthfkfbabjfogeaaW22b
import Derived.Test.YthfkfbabjfogeaaP22b
namespace Go.Proofs.Ythfkfbabjfogeaa
set_option linter.unusedSimpArgs false
set_option linter.unusedVariables false
set_option linter.unusedSectionVars false
set_option linter.unusedVariables false
open Go.RowKit
section
variable {P : Program} {ops : Array Oper} {rest : List Oper} {o : Oper} {a : Act} {w : World} {Q : Exit → Act → World → Prop}
/-- x[n:] by a uint64. -/
theorem wpList_sliceLoU {T e n N c : Nat} {x y : Operand} {ad : Option Addr} (hgd : o.guard = none) (ho : o.op = .slice T x (some y) none none) (hT : P.underlying T = some (.slice e)) (hs : (P.info? e).map (·.size) = some 1)
    (hx : a.eval x = .slice ad N c) (hy : a.eval y = .int .u64 (n : Int)) (hn : n ≤ N) (hc : N ≤ c)
    (h : ∀ ad2 c2, (∀ (W : World) (k : IntKind) (xs : List Nat), Sl W ad k xs → xs.length ≤ c → Sl W ad2 k (xs.drop n)) → N - n ≤ c2 → (∀ p, ad2 = some p → ∃ p', ad = some p' ∧ p'.block = p.block) → wpList P ops Q rest (a.put o.dst (.slice ad2 (N - n) c2)) w) : wpList P ops Q (o :: rest) a w :=
  wpList_plain hgd fun _ hK => by
    obtain ⟨d, hd, hd1⟩ := Option.map_eq_some_iff.1 hs
    have he := elem_of hT
    have hT' : P.underlying T = some (.slice (P.elem T)) := by rw [he]; exact hT
    have hr := run_slice_l (P := P) (w := w) T ad N c hT' .u64 n (by omega) (by omega)
    have hsz : (sizeOf (P.elem T)).run P w = .ok 1 w := by simp [sizeOf, typeInfo, he, hd, hd1]
    rw [hsz] at hr
    unfold Oper.wp execOp
    simp only [ho, hx, hy, Option.map_some, Option.map_none, Sem.run_bind, Sem.run_pure, run_sliceAt_slice w T _ _ _ _ hT', hr, Result.andThen_ok, Int.toNat_natCast, sliced]
    refine hK _ _ (h _ _ (fun W k xs hsl hl => hsl.sliced hl) (by omega) fun p hg => ?_)
    split at hg
    · exact ⟨p, hg, rfl⟩
    · cases ad with
      | none => cases hg
      | some p' =>
        rw [Option.map_some] at hg
        injection hg with hg
        refine ⟨p', rfl, ?_⟩
        rw [← hg]
        unfold Addr.add
        split <;> rfl
/-- x[:n] by a uint64. -/
theorem wpList_sliceHiU {T e n N c : Nat} {x y : Operand} {ad : Option Addr} {k : IntKind} {xs : List Nat} (hgd : o.guard = none) (ho : o.op = .slice T x none (some y) none) (hT : P.underlying T = some (.slice e)) (hs : (P.info? e).map (·.size) = some 1)
    (hx : a.eval x = .slice ad N c) (hy : a.eval y = .int .u64 (n : Int)) (hn : n ≤ c) (hsl : Sl w ad k xs)
    (h : ∀ ad2, Sl w ad2 k (xs.take n) → wpList P ops Q rest (a.put o.dst (.slice ad2 n c)) w) : wpList P ops Q (o :: rest) a w :=
  wpList_plain hgd fun _ hK => by
    obtain ⟨d, hd, hd1⟩ := Option.map_eq_some_iff.1 hs
    have he := elem_of hT
    have hT' : P.underlying T = some (.slice (P.elem T)) := by rw [he]; exact hT
    have hr := run_slice_h (P := P) (w := w) T ad N c hT' .u64 n (by omega) (by omega)
    have hsz : (sizeOf (P.elem T)).run P w = .ok 1 w := by simp [sizeOf, typeInfo, he, hd, hd1]
    rw [hsz] at hr
    unfold Oper.wp execOp
    have hadd : ∀ ad : Option Addr, (if c = 0 then ad else ad.map (·.add (0 * 1))) = ad := fun ad => by
      split
      · rfl
      · cases ad with
        | none => rfl
        | some p => simp [Addr.add]
    simp only [ho, hx, hy, Option.map_some, Option.map_none, Sem.run_bind, Sem.run_pure, run_sliceAt_slice w T _ _ _ _ hT', hr, Result.andThen_ok, Int.toNat_natCast, sliced, hadd, Nat.sub_zero]
    exact hK _ _ (h _ (hsl.take n))
end
/-- slices.Clone of whatever slice. -/
theorem clone2_c (a : Option Addr) (c n : Nat) (xs : List Nat) (hnl : n = xs.length) (hl : xs.length < 2 ^ 31) (w : World) (hs : Sl w a .u8 xs) :
    Calls Try.prog 24 #[.slice a n c] w fun e w' => ∃ v, e = .returned v ∧ Own w' w.heap.size 5 .u8 v xs ∧ Below w.heap.size w w' := by
  subst hnl
  cases a with
  | none =>
    have hx : xs = [] := Classical.byContradiction fun hne => by obtain ⟨_, _, q, -⟩ := hs hne; cases q
    subst hx
    have hnil : ∀ W, (binOp .eql 22 (.slice none 0 c) (.slice none 0 0)).run Try.prog W = .ok (.bool true) W := fun W => Lib.run_eql_slice_nil W _ _ none 0 c 0 0 Try.underlying22
    rw [List.length_nil]
    go_enter Try.func24, Try.ntmps24
    go_wp2
    go_ret
    exact ⟨_, rfl, Own.nil _ _ _ _, Below.refl _ _⟩
  | some p => exact clone_c (some p) c xs (fun h => by cases h) hl w hs
/-- The block of the variable b, that holds a slice of these bytes; they lie in what there was in world w0. -/
def Tk (w0 w : World) (g : Nat) (b : List Nat) : Prop := ∃ a c, One w g 22 (.slice a b.length c) ∧ Sl w0 a .u8 b ∧ b.length ≤ c
theorem Tk.below {w0 w w' : World} {g : Nat} {b : List Nat} (h : Tk w0 w g b) (hb : Below w.heap.size w w') : Tk w0 w' g b :=
  let ⟨a, c, h1, h2, h3⟩ := h
  ⟨a, c, Blk.below' h1 hb, h2, h3⟩
set_option maxRecDepth 100000 in
set_option maxHeartbeats 8000000 in
theorem take22_c (g n : Nat) (b : List Nat) (hn : n < 18446744073709551616) (hl : b.length < 2 ^ 31) (w0 w : World) (hbel : Below w0.heap.size w0 w) (hg : w0.heap.size ≤ g) (h : Tk w0 w g b) :
    Calls Try.prog 26 #[.int .u64 n, .pointer (some ⟨g, 0, none⟩)] w fun e w' =>
      (b.length < n ∧ e = .returned (.tuple #[.slice none 0 0, .bool false]) ∧ w = w') ∨
      (n ≤ b.length ∧ ∃ v, e = .returned (.tuple #[v, .bool true]) ∧ Own w' w.heap.size 5 .u8 v (b.take n) ∧ Tk w0 w' g (b.drop n) ∧ Ch g w w') := by
  obtain ⟨a, c, h1, h20, h3⟩ := h
  have h2 := h20.below hbel
  have h4 : ∀ p, a = some p → b ≠ [] → p.block ≠ g := fun p hp hne => by
    obtain ⟨b', off, q1, q2, -⟩ := h20 hne
    rw [q1] at hp
    cases hp
    show b' ≠ g
    omega
  have k1 := h1.cell
  have hg0 : g < w.heap.size := Blk.lt h1
  obtain ⟨N, HN⟩ : ∃ N, Hid (b.length = N) := ⟨_, Lib.hid rfl⟩
  rw [HN.out] at k1 h3 hl ⊢
  by_cases hlt : N < n
  · have hd : decide ((n : Int) > (N : Int)) = true := by simp; omega
    go_enter Try.func26, Try.ntmps26
    go_wp2
    go_ret2
    exact .inl ⟨hlt, rfl, rfl⟩
  · have hd : decide ((n : Int) > (N : Int)) = false := by simp; omega
    have hnN : n ≤ N := by omega
    have hnc : n ≤ c := by omega
    have htl : n = (b.take n).length := by rw [List.length_take, HN.out]; omega
    have HTL := Lib.hid htl
    clear htl
    go_enter Try.func26, Try.ntmps26
    go_wp2_with (refine wpList_sliceHiU (n := n) rfl rfl Try.underlying22 Try.s15 rfl rfl hnc h2 ?_; intro ad2 hsl2; (try simp only [Act.put, List.setIfInBounds_toArray, List.set_cons_zero, List.set_cons_succ, World.size_alloc, setRow_size, Nat.add_assoc, Nat.reduceAdd]))
    refine (clone2_c ad2 c n (b.take n) HTL.out (by have := HTL.out; omega) _ hsl2).mono ?_
    rintro e w2 ⟨v, rfl, hown, hb2⟩
    have q1 : One w2 g 22 (.slice a b.length c) := Blk.below' h1 hb2
    rw [HN.out] at q1
    have k2 := q1.cell
    have z2 := Blk.frozen q1 0
    have HH := Lib.hid h4
    clear h1 h2 k1 hsl2 h4
    go_wp2_with (refine wpList_sliceLoU (n := n) rfl rfl Try.underlying22 Try.s15 rfl rfl hnN h3 ?_; intro ad3 c3 hsl3 hc3 had3; (try simp only [Act.put, List.setIfInBounds_toArray, List.set_cons_zero, List.set_cons_succ, World.size_alloc, setRow_size, Nat.add_assoc, Nat.reduceAdd]))
    go_ret2
    refine .inr ⟨hnN, v, rfl, ?_, ?_, ?_⟩
    · exact hown.ch (Ch.of_far (Far.set w2 g 0 _)) q1 (by decide)
    · have hdl : (b.drop n).length = N - n := by rw [List.length_drop, HN.out]
      refine ⟨ad3, c3, ?_, hsl3 w0 .u8 b h20 (by rw [HN.out]; exact h3), by rw [hdl]; exact hc3⟩
      rw [hdl]
      exact heap_setCell_same _ _ _ _ _ _ q1
    · exact (Ch.of_below hb2).trans (Ch.of_far (Far.set w2 g 0 _))
end Go.Proofs.Ythfkfbabjfogeaa
