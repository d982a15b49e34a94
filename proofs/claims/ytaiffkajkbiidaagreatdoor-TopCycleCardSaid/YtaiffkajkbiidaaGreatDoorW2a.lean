/- The field of 256 elements and AES's boxes (package gf). No condition but that bytes are below 256. -/
import Derived.Test.YtaiffkajkbiidaaGreatDoorOA
import Derived.Test.YtaiffkajkbiidaaGreatDoorKit12
import Derived.Deep.QuietTactic
import Derived.BigQuiet
namespace Go.Proofs.YtaiffkajkbiidaaGreatDoor
set_option linter.unusedSimpArgs false
set_option linter.unusedVariables false
set_option linter.unusedSectionVars false
set_option linter.unusedVariables false
open Go.RowKit
def gfD (a : Nat) : Nat := (a * 2 % 256) ^^^ (a / 128 * 27)
set_option maxRecDepth 20000 in
theorem gfD_lt : ∀ a, a < 256 → gfD a < 256 := by decide
set_option maxHeartbeats 4000000 in
theorem gfDouble_c (a : Nat) (ha : a < 256) (w : World) : Calls Tryz.prog 25 #[.int .u8 (a : Int)] w fun e w' => e = .returned (.int .u8 (gfD a : Nat)) ∧ w = w' := by
  have hx : bits BinOp.xor IntKind.u8 ((a : Int) * 2 % 256) ((a : Int) / 128 * 27) = ((gfD a : Nat) : Int) := by
    have := u8_xor_nat (a * 2 % 256) (a / 128 * 27) (by omega) (by omega)
    simpa [gfD] using this
  have HX := Lib.hid hx
  clear hx
  go_enter Tryz.func25, Tryz.ntmps25
  go_wp2
  rw [HX.out]
  go_ret
  exact ⟨rfl, rfl⟩
def rotN (a k : Nat) : Nat := (a * 2 ^ k % 256) ||| (a / 2 ^ (8 - k))
theorem rotN_lt {a k : Nat} (ha : a < 256) (hk : k < 5) : rotN a k < 256 := by
  have h1 : a * 2 ^ k % 256 < 2 ^ 8 := Nat.mod_lt _ (by decide)
  have h2 : a / 2 ^ (8 - k) < 2 ^ 8 := Nat.lt_of_le_of_lt (Nat.div_le_self _ _) ha
  exact Nat.or_lt_two_pow h1 h2
theorem or8_e {x y : Nat} {X Y : Int} (hx : x < 256) (hy : y < 256) (hX : X = (x : Int)) (hY : Y = (y : Int)) : Ending.returned (.int .u8 (bits BinOp.or IntKind.u8 X Y)) = Ending.returned (.int .u8 ((x ||| y : Nat) : Int)) := by
  rw [hX, hY, u8_or_nat x y hx hy]
set_option maxHeartbeats 4000000 in
theorem rot8_c (a k : Nat) (ha : a < 256) (hk : k < 5) (w : World) : Calls Tryz.prog 32 #[.int .u8 (a : Int), .int .i64 (k : Int)] w fun e w' => e = .returned (.int .u8 (rotN a k : Nat)) ∧ w = w' := by
  have h : k = 0 ∨ k = 1 ∨ k = 2 ∨ k = 3 ∨ k = 4 := by omega
  rcases h with rfl | rfl | rfl | rfl | rfl
  all_goals
    have b0 : bits BinOp.and IntKind.u64 0 7 = 0 := by decide
    have b1 : bits BinOp.and IntKind.u64 1 7 = 1 := by decide
    have b2 : bits BinOp.and IntKind.u64 2 7 = 2 := by decide
    have b3 : bits BinOp.and IntKind.u64 3 7 = 3 := by decide
    have b4 : bits BinOp.and IntKind.u64 4 7 = 4 := by decide
    go_enter Tryz.func32, Tryz.ntmps32
    go_wp2
    clear b0 b1 b2 b3 b4
    go_ret
    refine ⟨?_, rfl⟩
  · exact or8_e (x := a * 1 % 256) (y := a / 256) (by omega) (by omega) (by omega) (by omega)
  · exact or8_e (x := a * 2 % 256) (y := a / 128) (by omega) (by omega) (by omega) (by omega)
  · exact or8_e (x := a * 4 % 256) (y := a / 64) (by omega) (by omega) (by omega) (by omega)
  · exact or8_e (x := a * 8 % 256) (y := a / 32) (by omega) (by omega) (by omega) (by omega)
  · exact or8_e (x := a * 16 % 256) (y := a / 16) (by omega) (by omega) (by omega) (by omega)
/-- The product, so many bits of the second factor. -/
def gfTi : Nat → Nat → Nat → Nat → Nat
  | 0, _, _, s => s
  | n + 1, a, b, s => if b = 0 then s else gfTi n (gfD a) (b / 2) (s ^^^ (a * (b % 2)))
theorem gfTi_zero (n a s : Nat) : gfTi n a 0 s = s := by cases n <;> simp [gfTi]
theorem gfTi_lt : ∀ n {a b s : Nat}, a < 256 → s < 256 → gfTi n a b s < 256
  | 0, _, _, _, _, h => h
  | n + 1, a, b, s, ha, hs => by
    unfold gfTi
    split
    · exact hs
    · refine gfTi_lt n (gfD_lt a ha) (Nat.xor_lt_two_pow (n := 8) hs ?_)
      rcases Nat.mod_two_eq_zero_or_one b with h | h <;> rw [h] <;> omega
def gfT (a b : Nat) : Nat := gfTi 8 a b 0
theorem gfT_lt {a b : Nat} (ha : a < 256) : gfT a b < 256 := gfTi_lt 8 ha (by decide)
set_option maxRecDepth 100000 in
set_option maxHeartbeats 4000000 in
theorem gfTimes_c (a b : Nat) (ha : a < 256) (hb : b < 256) (w : World) : Calls Tryz.prog 31 #[.int .u8 (a : Int), .int .u8 (b : Int)] w fun e w' => e = .returned (.int .u8 (gfT a b : Nat)) ∧ w = w' := by
  go_enter Tryz.func31, Tryz.ntmps31
  go_wp2_with fail
  obtain ⟨J, HJ, HI⟩ : ∃ J : Act → World → Prop, Hid (∀ (aJ : Act) (w' : World), J aJ w' → ∃ (U : Nat → Value) (m : Nat) (x : Nat) (y : Nat) (s : Nat), aJ = { tmps := #[.int .u8 (x : Int), .int .u8 (y : Int), U 2, U 3, U 4, .int .u8 (s : Int), U 6, U 7, U 8, U 9, U 10, U 11, U 12, U 13, U 14, U 15, U 16, U 17, U 18], defers := [] } ∧ x < 256 ∧ y < 2 ^ m ∧ m ≤ 8 ∧ s < 256 ∧ gfTi m x y s = gfT a b ∧ w = w') ∧
      Hid (∀ (T : Array Value) (w' : World), (∃ (m : Nat) (x : Nat) (y : Nat) (s : Nat), T = #[.int .u8 (x : Int), .int .u8 (y : Int), T.getD 2 undef, T.getD 3 undef, T.getD 4 undef, .int .u8 (s : Int), T.getD 6 undef, T.getD 7 undef, T.getD 8 undef, T.getD 9 undef, T.getD 10 undef, T.getD 11 undef, T.getD 12 undef, T.getD 13 undef, T.getD 14 undef, T.getD 15 undef, T.getD 16 undef, T.getD 17 undef, T.getD 18 undef] ∧ x < 256 ∧ y < 2 ^ m ∧ m ≤ 8 ∧ s < 256 ∧ gfTi m x y s = gfT a b ∧ w = w') → J { tmps := T, defers := [] } w') :=
    ⟨fun aJ w' => ∃ (U : Nat → Value) (m : Nat) (x : Nat) (y : Nat) (s : Nat), aJ = { tmps := #[.int .u8 (x : Int), .int .u8 (y : Int), U 2, U 3, U 4, .int .u8 (s : Int), U 6, U 7, U 8, U 9, U 10, U 11, U 12, U 13, U 14, U 15, U 16, U 17, U 18], defers := [] } ∧ x < 256 ∧ y < 2 ^ m ∧ m ≤ 8 ∧ s < 256 ∧ gfTi m x y s = gfT a b ∧ w = w', Lib.hid fun _ _ hJ => hJ, Lib.hid fun T w' ⟨m, x, y, s, hJ, rJ⟩ => ⟨fun i => T.getD i undef, m, x, y, s, congrArg (fun T => ({ tmps := T, defers := [] } : Act)) hJ, rJ⟩⟩
  obtain ⟨μ, Hμ⟩ : ∃ μ : Act → World → Nat, Hid (∀ a w', μ a w' = (intOf (a.tmps.getD 1 undef)).toNat) := ⟨_, Lib.hid fun _ _ => rfl⟩
  refine wp_scope_mid 0 J μ (by simp only [findLabel]; rfl) ?_ ?_
  · intro a' wr hj
    obtain ⟨U, m, x, y, s, rfl, hx, hy, hm, hs, hR, rfl⟩ := HJ.out _ _ hj
    clear hj
    have HR := Lib.hid hR
    clear hR
    by_cases h0 : y = 0
    · subst h0
      go_wp2_with fail
      (try simp only [Exit.jump, Exit.inBlock, Exit.then])
      go_ret
      refine ⟨?_, rfl⟩
      rw [← HR.out, gfTi_zero]; rfl
    · have hd : ((y : Int) == 0) = false := by simp; omega
      obtain ⟨n, rfl⟩ : ∃ n, m = n + 1 := ⟨m - 1, by
        cases m with
        | zero => exact absurd hy (by omega)
        | succ n => rfl⟩
      have hy2 : y / 2 < 2 ^ n := by rw [Nat.pow_succ] at hy; omega
      have hyb : y < 256 := Nat.lt_of_lt_of_le hy (Nat.pow_le_pow_right (by decide) hm : 2 ^ (n + 1) ≤ 2 ^ 8)
      have hand : bits BinOp.and IntKind.u8 (y : Int) 1 = ((y % 2 : Nat) : Int) := by
        have := u8_and_nat y 1 hyb (by omega)
        rw [Nat.and_one_is_mod] at this
        simpa using this
      obtain ⟨p, Hp⟩ : ∃ p, Hid (x * (y % 2) = p) := ⟨_, Lib.hid rfl⟩
      have hp : p < 256 := by rw [← Hp.out]; rcases Nat.mod_two_eq_zero_or_one y with h | h <;> rw [h] <;> omega
      have hmul : (x : Int) * ((y : Int) % 2) % 256 = (p : Int) := by
        have e : (y : Int) % 2 = ((y % 2 : Nat) : Int) := by omega
        rw [e, ← Int.natCast_mul, Hp.out]; omega
      have hxor := u8_xor_nat s p hs hp
      have hdb := gfDouble_c x hx w
      clear hy hyb
      have HXR := Lib.hid hxor
      clear hxor
      go_wp2_with fail
      refine hdb.mono ?_
      clear hdb
      rintro e w1 ⟨rfl, rfl⟩
      rw [HXR.out]
      go_wp2_with fail
      go_step3
      refine ⟨rfl, HI.out _ _ ⟨n, gfD x, y / 2, s ^^^ p, rfl, gfD_lt x hx, hy2, by omega, Nat.xor_lt_two_pow (n := 8) hs hp, ?_, rfl⟩, ?_⟩
      · rw [← HR.out, ← Hp.out]
        show _ = if y = 0 then _ else _
        rw [if_neg h0]
      · rw [Hμ.out, Hμ.out]
        change (((y / 2 : Nat) : Int)).toNat < ((y : Int)).toNat
        omega
  · intro pass
    go_wp2_with fail
    refine wp_label ?_
    rename_i hK
    refine hK _ _ ?_
    exact pass _ _ (HI.out _ _ ⟨8, a, b, 0, rfl, ha, hb, by omega, by omega, rfl, rfl⟩)
end Go.Proofs.YtaiffkajkbiidaaGreatDoor
