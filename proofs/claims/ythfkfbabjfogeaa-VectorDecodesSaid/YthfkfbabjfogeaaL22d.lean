/- The walk of VectorOnly. No condition but what a slice's cells are. -/
import Derived.Test.YthfkfbabjfogeaaW22d
import Derived.Test.YthfkfbabjfogeaaL22b
namespace Go.Proofs.Ythfkfbabjfogeaa
set_option linter.unusedSimpArgs false
set_option linter.unusedVariables false
set_option linter.unusedSectionVars false
set_option linter.unusedVariables false
open Go.RowKit
theorem putL_ge : ∀ xss : List (List Nat), xss.length ≤ (putL xss).length
  | [] => Nat.le_refl _
  | x :: xss => by
    rw [putL_cons, List.length_append, pcB_len, List.length_cons]
    have := putL_ge xss
    omega
theorem encC_is (t : Nat) (n : List Nat) (ad : List (List Nat)) : (encC t n ad).length = 17 + n.length + (putL ad).length := by
  unfold encC
  rw [List.length_append, List.length_append, List.length_append, pcB_len, dig_length]
  simp only [List.length_singleton]
  omega
set_option maxRecDepth 100000 in
set_option maxHeartbeats 40000000 in
theorem vectorOnly_c (a : Option Addr) (c : Nat) (b : List Nat) (hb : ∀ x ∈ b, x < 256) (hc : b.length ≤ c) (hm : c ≤ maxLen) (w : World) (hs : Sl w a .u8 b) :
    Calls Try.prog 8 #[.slice a b.length c] w fun e w' => e = .returned (.bool true) ∧ Below w.heap.size w w' := by
  by_cases h5 : 500 < b.length
  · have hd : decide ((b.length : Int) > 500) = true := by simp; omega
    go_enter Try.func8, Try.ntmps8
    go_wp2
    go_ret
    exact ⟨rfl, Below.refl _ _⟩
  have hd : decide ((b.length : Int) > 500) = false := by simp; omega
  have hL : b.length < 2 ^ 31 := by omega
  have HDc := decode22_c a c b hb hL hc w hs
  have H5 : Hid (b.length ≤ 500) := Lib.hid (by omega)
  clear h5
  go_enter Try.func8, Try.ntmps8
  go_wp2_with fail
  refine HDc.mono ?_
  clear HDc
  rintro e w1 ⟨hb1, (⟨h0, rfl⟩ | ⟨t, x, xs, a1, c1, a2, c2, h0, rfl, S1, S2, hn1, hn2⟩)⟩
  · clear h0
    go_wp2_with fail
    refine (awake22_c _).mono ?_
    rintro e w2 ⟨rfl, hb2⟩
    go_wp2
    go_ret
    exact ⟨rfl, bCall hb1 hb2 hb1.size⟩
  · obtain ⟨he, ht⟩ := decC_some hb h0
    have hlen := congrArg List.length he
    rw [encC_is] at hlen
    have hge := putL_ge xs
    have h55 := H5.out
    have henc := encode22_c t x xs a1 a2 c1 c2 ht (by omega) (by omega) (by omega) hn1 w1 S1 S2
    rw [← he] at henc
    have hsb := hs.below hb1
    clear h0 he hlen hge h55 S1 S2 hn1 hn2
    go_wp2_with fail
    refine henc.mono ?_
    clear henc
    rintro e w2 ⟨v, rfl, hown, hb2⟩
    obtain ⟨a3, c3, rfl, S3, -, -, -⟩ := hown.slz
    have hbel2 := bCall hb1 hb2 hb1.size
    have S4 := hsb.below hb2
    have e1 := run_str (P := Try.prog) Try.underlying22 Try.underlying5 Try.underlying9 (c := c3) rfl S3
    have e2 := run_str (P := Try.prog) Try.underlying22 Try.underlying5 Try.underlying9 (c := c) rfl S4
    have st : ((strN b).toList == (strN b).toList) = true := strEq_same rfl
    clear hown hsb hs
    go_wp2_with fail
    refine (awake22_c _).mono ?_
    rintro e w3 ⟨rfl, hb3⟩
    clear e1 e2 st
    go_wp2
    go_ret
    exact ⟨rfl, bCall hbel2 hb3 hbel2.size⟩
end Go.Proofs.Ythfkfbabjfogeaa
