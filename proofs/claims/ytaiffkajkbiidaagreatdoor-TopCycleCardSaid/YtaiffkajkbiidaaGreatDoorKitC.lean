/- slices.Clone of bytes, for seats without chapter 22. No condition but that rows are shorter than 2^31. -/
import Derived.Test.YtaiffkajkbiidaaGreatDoorKit12
import Derived.Test.YtaiffkajkbiidaaGreatDoorOA
namespace Go.Proofs.YtaiffkajkbiidaaGreatDoor
set_option linter.unusedSimpArgs false
set_option linter.unusedVariables false
open Go.RowKit
set_option maxHeartbeats 4000000 in
theorem clone_c (a : Option Addr) (c : Nat) (xs : List Nat) (hn : a = none → c = 0) (hl : xs.length < 2 ^ 31) (w : World) (hs : Sl w a .u8 xs) :
    Calls Tryz.prog 117 #[.slice a xs.length c] w fun e w' => ∃ v, e = .returned v ∧ Own w' w.heap.size 5 .u8 v xs ∧ Below w.heap.size w w' := by
  cases a with
  | none =>
    obtain rfl := hn rfl
    have hx : xs = [] := Classical.byContradiction fun hne => by obtain ⟨_, _, q, -⟩ := hs hne; cases q
    subst hx
    have hnil : ∀ W, (binOp .eql 23 (.slice none 0 0) (.slice none 0 0)).run Tryz.prog W = .ok (.bool true) W := fun W => Lib.run_eql_slice_nil W _ _ none 0 0 0 0 Tryz.underlying23
    rw [List.length_nil]
    go_enter Tryz.func117, Tryz.ntmps117
    go_wp2
    go_ret
    exact ⟨_, rfl, Own.nil _ _ _ _, Below.refl _ _⟩
  | some p =>
    have E : Own (w.alloc (.cells #[] 5)) w.heap.size 5 .u8 (.slice (some ⟨w.heap.size, 0, none⟩) 0 0) [] := Own.made (xs := []) (Blk.new w 5 (ints .u8 [])) (Nat.le_refl _) (by simp)
    have hbel := (Below.refl w.heap.size w).alloc (Nat.le_refl _) (.cells #[] 5)
    have hs1 := hs.below hbel
    have hnil : ∀ W, (binOp .eql 23 (.slice (some p) xs.length c) (.slice none 0 0)).run Tryz.prog W = .ok (.bool false) W := fun W => Lib.run_eql_slice_nil W _ _ (some p) _ _ 0 0 Tryz.underlying23
    go_enter Tryz.func117, Tryz.ntmps117
    go_wp2_with (refine wpList_append_sl (zs := xs) rfl rfl Tryz.underlying23 Tryz.inf8 rfl (by omega) rfl E rfl rfl (fun h => by cases h) hs1 (by simp; omega) (by simp) ?_; intro v' w' hown' hgr; rw [List.nil_append] at hown'; have hbel' := bGrown hbel hgr (by simp) E (Nat.le_refl _); (try simp only [Act.put, List.setIfInBounds_toArray, List.set_cons_zero, List.set_cons_succ, World.size_alloc, setRow_size, Nat.add_assoc, Nat.reduceAdd]))
    go_ret
    exact ⟨_, rfl, hown', hbel'⟩
/-- slices.Clone of whatever slice. -/
theorem clone2_c (a : Option Addr) (c n : Nat) (xs : List Nat) (hnl : n = xs.length) (hl : xs.length < 2 ^ 31) (w : World) (hs : Sl w a .u8 xs) :
    Calls Tryz.prog 117 #[.slice a n c] w fun e w' => ∃ v, e = .returned v ∧ Own w' w.heap.size 5 .u8 v xs ∧ Below w.heap.size w w' := by
  subst hnl
  cases a with
  | none =>
    have hx : xs = [] := Classical.byContradiction fun hne => by obtain ⟨_, _, q, -⟩ := hs hne; cases q
    subst hx
    have hnil : ∀ W, (binOp .eql 23 (.slice none 0 c) (.slice none 0 0)).run Tryz.prog W = .ok (.bool true) W := fun W => Lib.run_eql_slice_nil W _ _ none 0 c 0 0 Tryz.underlying23
    rw [List.length_nil]
    go_enter Tryz.func117, Tryz.ntmps117
    go_wp2
    go_ret
    exact ⟨_, rfl, Own.nil _ _ _ _, Below.refl _ _⟩
  | some p => exact clone_c (some p) c xs (fun h => by cases h) hl w hs
end Go.Proofs.YtaiffkajkbiidaaGreatDoor
