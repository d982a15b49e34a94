/- Plain laws of NH: sums of products of numbers in bytes and words. No program is spoken of. No condition. -/
import Derived.Test.YtolfngmpoafaaaaOA
namespace Go.Proofs.Ytolfngmpoafaaaa
set_option linter.unusedSimpArgs false
set_option linter.unusedVariables false
set_option linter.unusedSectionVars false
set_option linter.unusedVariables false
/-- The product of two sums that go round. -/
def uv (W bs : List Nat) (p u i : Nat) : Nat := ((numAt bs (16 * u + 4 * i) 4 + W.getD (4 * u + 4 * p + i) 0) % 4294967296) * ((numAt bs (16 * u + 4 * i + 8) 4 + W.getD (4 * u + 4 * p + i + 2) 0) % 4294967296)
def uvS (W bs : List Nat) (p u : Nat) : Nat → Nat
  | 0 => 0
  | i + 1 => uvS W bs p u i + uv W bs p u i
/-- The sum of so many units, by the words of pass p. -/
def nhS (W bs : List Nat) (p : Nat) : Nat → Nat
  | 0 => 0
  | u + 1 => (nhS W bs p u + uvS W bs p u 2) % 18446744073709551616
theorem uv_lt (W bs : List Nat) (p u i : Nat) : uv W bs p u i < 18446744073709551616 := by
  unfold uv
  have h1 := Nat.mod_lt (numAt bs (16 * u + 4 * i) 4 + W.getD (4 * u + 4 * p + i) 0) (show 0 < 4294967296 by omega)
  have h2 := Nat.mod_lt (numAt bs (16 * u + 4 * i + 8) 4 + W.getD (4 * u + 4 * p + i + 2) 0) (show 0 < 4294967296 by omega)
  generalize (numAt bs (16 * u + 4 * i) 4 + W.getD (4 * u + 4 * p + i) 0) % 4294967296 = x at *
  generalize (numAt bs (16 * u + 4 * i + 8) 4 + W.getD (4 * u + 4 * p + i + 2) 0) % 4294967296 = y at *
  calc x * y ≤ 4294967295 * 4294967295 := Nat.mul_le_mul (by omega) (by omega)
    _ < _ := by omega
theorem nhS_lt (W bs : List Nat) (p : Nat) : ∀ u, nhS W bs p u < 18446744073709551616
  | 0 => by simp [nhS]
  | u + 1 => Nat.mod_lt _ (by omega)
def nhB (W bs : List Nat) (p : Nat) : List Nat := dig 256 8 (nhS W bs p (bs.length / 16))
def nhH (W bs : List Nat) : List Nat := nhB W bs 0 ++ (nhB W bs 1 ++ (nhB W bs 2 ++ nhB W bs 3))
/-- The hash, and the number of an error. -/
def nhErr (W bs : List Nat) : Nat := if 1024 < bs.length then 6 else if bs.length % 16 ≠ 0 then 5 else if W.length < bs.length / 4 + 12 then 2 else 0
def nhOut (W bs : List Nat) : List Nat := if nhErr W bs = 0 then nhH W bs else List.replicate 32 0
end Go.Proofs.Ytolfngmpoafaaaa
