/- BLAKE2b's step of four words. No condition but that words are below 2^64. -/
import Derived.Test.YtaiffkajkbiidaaGreatDoorW6b
namespace Go.Proofs.YtaiffkajkbiidaaGreatDoor
set_option linter.unusedSimpArgs false
set_option linter.unusedVariables false
set_option linter.unusedSectionVars false
set_option linter.unusedVariables false
open Go.RowKit
theorem half1_len (vs : List Nat) (a b x : Nat) : (half1 vs a b x).length = vs.length := List.length_set ..
theorem half2_len (vs : List Nat) (a b x : Nat) : (half2 vs a b x).length = vs.length := List.length_set ..
theorem half3_len (vs : List Nat) (a b : Nat) : (half3 vs a b).length = vs.length := List.length_set ..
theorem halfN_len (vs : List Nat) (a b c d x s1 s2 : Nat) : (halfN vs a b c d x s1 s2).length = vs.length := by
  unfold halfN; rw [half2_len, half3_len, half2_len, half1_len]
def stN (vs : List Nat) (i y x1 x2 : Nat) : List Nat :=
  halfN (halfN vs i (4 + (i + y) % 4) (8 + (i + 2 * y) % 4) (12 + (i + 3 * y) % 4) x1 32 40) i (4 + (i + y) % 4) (8 + (i + 2 * y) % 4) (12 + (i + 3 * y) % 4) x2 48 1
theorem stN_len (vs : List Nat) (i y x1 x2 : Nat) : (stN vs i y x1 x2).length = vs.length := by unfold stN; rw [halfN_len, halfN_len]
set_option maxRecDepth 100000 in
set_option maxHeartbeats 8000000 in
theorem stir_c (g i y : Nat) (hi : i < 4) (hy : y < 2) (x1 x2 : Nat) (h1 : x1 < 18446744073709551616) (h2 : x2 < 18446744073709551616) (w : World) (vs : List Nat) (hV : V16 w g vs) :
    Calls Tryz.prog 75 #[.pointer (some ⟨g, 0, none⟩), .int .i64 (i : Int), .int .i64 (y : Int), .int .u64 (x1 : Int), .int .u64 (x2 : Int)] w fun e w' => e = .returned (.tuple #[]) ∧ V16 w' g (stN vs i y x1 x2) ∧ Ch g w w' := by
  obtain ⟨p, Hp⟩ : ∃ p, Hid ((i + y) % 4 = p) := ⟨_, Lib.hid rfl⟩
  obtain ⟨q, Hq⟩ : ∃ q, Hid ((i + 2 * y) % 4 = q) := ⟨_, Lib.hid rfl⟩
  obtain ⟨r, Hr⟩ : ∃ r, Hid ((i + 3 * y) % 4 = r) := ⟨_, Lib.hid rfl⟩
  obtain ⟨y2, Hy2⟩ : ∃ y2, Hid (2 * y = y2) := ⟨_, Lib.hid rfl⟩
  obtain ⟨y3, Hy3⟩ : ∃ y3, Hid (3 * y = y3) := ⟨_, Lib.hid rfl⟩
  have hp : p < 4 := by rw [← Hp.out]; omega
  have hq : q < 4 := by rw [← Hq.out]; omega
  have hr : r < 4 := by rw [← Hr.out]; omega
  have HS : Hid (stN vs i y x1 x2 = halfN (halfN vs i (4 + p) (8 + q) (12 + r) x1 32 40) i (4 + p) (8 + q) (12 + r) x2 48 1) := Lib.hid (by unfold stN; rw [Hp.out, Hq.out, Hr.out])
  have e2 : 2 * (y : Int) = (y2 : Int) := by rw [← Hy2.out]; omega
  have e3 : 3 * (y : Int) = (y3 : Int) := by rw [← Hy3.out]; omega
  have b2 : (y2 : Int) < 8 := by rw [← Hy2.out]; omega
  have b3 : (y3 : Int) < 8 := by rw [← Hy3.out]; omega
  have t1 : ((i : Int) + (y : Int)).tmod 4 = (p : Int) := by rw [Int.tmod_eq_emod_of_nonneg (by omega), ← Hp.out]; omega
  have t2 : ((i : Int) + (y2 : Int)).tmod 4 = (q : Int) := by rw [Int.tmod_eq_emod_of_nonneg (by omega), ← Hq.out, ← Hy2.out]; omega
  have t3 : ((i : Int) + (y3 : Int)).tmod 4 = (r : Int) := by rw [Int.tmod_eq_emod_of_nonneg (by omega), ← Hr.out, ← Hy3.out]; omega
  have f1 := half_c g i (4 + p) (8 + q) (12 + r) (by omega) (by omega) (by omega) (by omega) x1 h1 32 24 (-32) (-24) 32 40 (by decide) (by decide) (.inl ⟨rfl, rfl⟩) (.inr (.inl ⟨rfl, rfl⟩)) w vs hV
  have f2 := fun W h => half_c g i (4 + p) (8 + q) (12 + r) (by omega) (by omega) (by omega) (by omega) x2 h2 16 63 (-16) (-63) 48 1 (by decide) (by decide) (.inr (.inr (.inl ⟨rfl, rfl⟩))) (.inr (.inr (.inr ⟨rfl, rfl⟩))) W (halfN vs i (4 + p) (8 + q) (12 + r) x1 32 40) h
  rw [← HS.out] at f2
  simp only [Int.natCast_add, Int.cast_ofNat_Int] at f1 f2
  generalize halfN vs i (4 + p) (8 + q) (12 + r) x1 32 40 = vm at *
  clear HS Hp Hq Hr Hy2 Hy3
  generalize stN vs i y x1 x2 = vz at *
  go_enter Tryz.func75, Tryz.ntmps75
  go_wp2_with fail
  refine f1.mono ?_
  rintro e w1 ⟨rfl, hV1, hc1⟩
  clear f1
  go_wp2_with fail
  refine (f2 w1 hV1).mono ?_
  rintro e w2 ⟨rfl, hV2, hc2⟩
  go_wp2_with fail
  exact bodyPost_end (v := .tuple #[]) (by simp [results, Tryz.results75]) rfl ⟨rfl, hV2, hc1.trans hc2⟩
end Go.Proofs.YtaiffkajkbiidaaGreatDoor
