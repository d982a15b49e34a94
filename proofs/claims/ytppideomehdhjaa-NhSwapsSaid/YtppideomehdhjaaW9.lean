/- What the reference of layer 9 answers: a pass. No condition but that words and bytes are enough. -/
import Derived.Test.YtppideomehdhjaaP9
import Derived.Test.YtppideomehdhjaaOA
namespace Go.Proofs.Ytppideomehdhjaa
set_option linter.unusedSimpArgs false
set_option linter.unusedVariables false
set_option linter.unusedSectionVars false
set_option linter.unusedVariables false
open Go.RowKit
theorem product_c (a k b l : Nat) (ha : a < 4294967296) (hk : k < 4294967296) (hb : b < 4294967296) (hl : l < 4294967296) (w : World) :
    Calls Try.prog 32 #[.int .u32 a, .int .u32 k, .int .u32 b, .int .u32 l] w fun e w' => e = .returned (.int .u64 (((a + k) % 4294967296) * ((b + l) % 4294967296) : Nat)) ∧ w = w' := by
  go_enter Try.func32, Try.ntmps32
  have h1 : ((a : Int) + k) % 4294967296 = (((a + k) % 4294967296 : Nat) : Int) := by simp
  have h2 : ((b : Int) + l) % 4294967296 = (((b + l) % 4294967296 : Nat) : Int) := by simp
  have l1 := Nat.mod_lt (a + k) (show 0 < 4294967296 by omega)
  have l2 := Nat.mod_lt (b + l) (show 0 < 4294967296 by omega)
  have l3 : (a + k) % 4294967296 * ((b + l) % 4294967296) ≤ 4294967295 * 4294967295 := Nat.mul_le_mul (by omega) (by omega)
  have hfin : IntKind.u64.wrap (((a : Int) + k) % 4294967296 * (((b : Int) + l) % 4294967296)) = (((a + k) % 4294967296 * ((b + l) % 4294967296) : Nat) : Int) := by
    rw [h1, h2, ← Int.natCast_mul]
    exact IntWalk.u64_in _ (by omega)
  have H := Lib.hid hfin
  clear hfin h1 h2 l3
  go_wp2
  go_ret
  refine ⟨?_, rfl⟩
  exact congrArg (fun z => Ending.returned (.int .u64 z)) H.out
theorem pass_step {a s n1 k1 n2 k2 : Nat} (h : (n1 + k1) % 4294967296 * ((n2 + k2) % 4294967296) < 18446744073709551616) :
    IntKind.u64.wrap (((a : Int) + s) % 18446744073709551616 + IntKind.u64.wrap (((n1 : Int) + k1) % 4294967296 * (((n2 : Int) + k2) % 4294967296))) = (((a + (s + (n1 + k1) % 4294967296 * ((n2 + k2) % 4294967296))) % 18446744073709551616 : Nat) : Int) := by
  have e : ((n1 : Int) + k1) % 4294967296 * (((n2 : Int) + k2) % 4294967296) = (((n1 + k1) % 4294967296 * ((n2 + k2) % 4294967296) : Nat) : Int) := by simp
  rw [e]
  generalize (n1 + k1) % 4294967296 * ((n2 + k2) % 4294967296) = q at *
  rw [IntWalk.u64_in (q : Int) (by omega)]
  simp [IntKind.wrap, IntKind.bits, IntKind.signed]
  omega
end Go.Proofs.Ytppideomehdhjaa
