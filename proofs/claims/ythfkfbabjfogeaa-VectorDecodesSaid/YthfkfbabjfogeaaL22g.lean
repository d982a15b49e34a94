/- The walk of VectorDecodes. No condition but what a slice's cells are. -/
import Derived.Test.YthfkfbabjfogeaaW22f
import Derived.Test.YthfkfbabjfogeaaL22f
namespace Go.Proofs.Ythfkfbabjfogeaa
set_option linter.unusedSimpArgs false
set_option linter.unusedVariables false
set_option linter.unusedSectionVars false
set_option linter.unusedVariables false
open Go.RowKit
set_option maxRecDepth 100000 in
set_option maxHeartbeats 40000000 in
theorem vectorDecodes_c (a : Option Addr) (c : Nat) (b : List Nat) (hb : ∀ x ∈ b, x < 256) (hc : b.length ≤ c) (hm : c ≤ maxLen) (w : World) (hs : Sl w a .u8 b) :
    Calls Try.prog 6 #[.slice a b.length c] w fun e w' => e = .returned (.bool true) ∧ Below w.heap.size w w' := by
  by_cases h5 : 500 < b.length
  · have hd : decide ((b.length : Int) > 500) = true := by simp; omega
    go_enter Try.func6, Try.ntmps6
    go_wp2
    go_ret
    exact ⟨rfl, Below.refl _ _⟩
  have hd : decide ((b.length : Int) > 500) = false := by simp; omega
  have hL : b.length < 2 ^ 31 := by omega
  have HDc := decode22_c a c b hb hL hc w hs
  have H5 : Hid (b.length ≤ 500) := Lib.hid (by omega)
  have hnot : ∀ (x : Bool) (w : World), (Op.unary .not (.bool x)).run Try.prog w = .ok (.bool (!x)) w := fun _ _ => rfl
  clear h5
  go_enter Try.func6, Try.ntmps6
  go_wp2_with fail
  refine HDc.mono ?_
  clear HDc
  rintro e w1 ⟨hb1, hD⟩
  have HDr := rDecode22_c a c b hb H5.out hc w1 (hs.below hb1)
  rcases hD with ⟨h0, rfl⟩ | ⟨t, x, xs, a1, c1, a2, c2, h0, rfl, S1, S2, -, -⟩
  · rw [h0] at HDr
    clear h0
    go_wp2_with fail
    refine HDr.mono ?_
    clear HDr
    rintro e w2 ⟨hb2, (⟨-, rfl⟩ | ⟨t', x', xs', b1, d1, b2, d2, h1, -⟩)⟩
    rotate_left
    · cases h1
    have hbel2 := bCall hb1 hb2 hb1.size
    go_wp2_with fail
    refine (awake22_c _).mono ?_
    rintro e w3 ⟨rfl, hb3⟩
    go_wp2
    go_ret
    exact ⟨rfl, bCall hbel2 hb3 hbel2.size⟩
  · obtain ⟨he, ht⟩ := decC_some hb h0
    have hlen := congrArg List.length he
    rw [encC_is] at hlen
    have hge := putL_ge xs
    have h55 := H5.out
    have hxsl : xs.length ≤ 9223372036854775807 := by omega
    have hxb : ∀ y ∈ x, y < 256 := fun y hy => hb y (by rw [he]; unfold encC pcB; simp [hy])
    have hxsb : ∀ l ∈ xs, ∀ y ∈ l, y < 256 := fun l hl y hy => hb y (by
      rw [he]
      unfold encC
      refine List.mem_append_right _ ?_
      unfold putL
      exact List.mem_flatten.2 ⟨pcB l, List.mem_map.2 ⟨l, hl, rfl⟩, by unfold pcB; exact List.mem_append_right _ hy⟩)
    rw [h0] at HDr
    clear h0 he hlen hge h55
    go_wp2_with fail
    refine HDr.mono ?_
    clear HDr
    rintro e w2 ⟨hb2, (⟨h1, -⟩ | ⟨t', x', xs', b1, d1, b2, d2, h1, rfl, S3, S4⟩)⟩
    · cases h1
    injection h1 with h1
    injection h1 with h1 h2
    injection h2 with h2 h3
    subst h1 h2 h3
    have hbel2 := bCall hb1 hb2 hb1.size
    have T1 := S1.below hb2
    have T2 := S2.below hb2
    have e1 := run_str (P := Try.prog) Try.underlying22 Try.underlying5 Try.underlying9 (c := c1) rfl T1
    have e2 := run_str (P := Try.prog) Try.underlying22 Try.underlying5 Try.underlying9 (c := d1) rfl S3
    have st : ((strN x).toList == (strN x).toList) = true := strEq_same rfl
    have hd0 : ((t : Int) == (t : Int)) = true := by simp
    have HS := Lib.hid (sameS_c xs xs a2 b2 c2 d2 hxsl hxsl hxsb hxsb w2 T2 S4)
    rw [decide_eq_true (rfl : xs = xs)] at HS
    clear S1 S2 S3 S4 T1 T2 hb2 hxsl hxsb hxb
    go_wp2_with fail
    refine HS.out.mono ?_
    clear HS
    rintro e w3 ⟨rfl, hb3⟩
    have hbel3 := bCall hbel2 hb3 hbel2.size
    clear e1 e2 st
    go_wp2_with fail
    refine (awake22_c _).mono ?_
    rintro e w4 ⟨rfl, hb4⟩
    go_wp2
    go_ret
    exact ⟨rfl, bCall hbel3 hb4 hbel3.size⟩
end Go.Proofs.Ythfkfbabjfogeaa
