/- Plain laws of chapter 12: numbers of 128 bits in two words; the hashes of pieces. No program is spoken of. No condition. -/
import Derived.Test.YtolfngmpoafaaaaP8
import Derived.Test.YtolfngmpoafaaaaW9b
import Derived.Test.YtolfngmpoafaaaaW9d
namespace Go.Proofs.Ytolfngmpoafaaaa
set_option linter.unusedSimpArgs false
set_option linter.unusedVariables false
set_option linter.unusedSectionVars false
set_option linter.unusedVariables false
/-- A number of 128 bits in two words. -/
def W12 (n : Nat) : List Nat := [n % 18446744073709551616, n / 18446744073709551616 % 18446744073709551616]
theorem W12_len (n : Nat) : (W12 n).length = 2 := rfl
theorem W12_mod (n : Nat) : W12 (n % 340282366920938463463374607431768211456) = W12 n := by
  unfold W12
  have h1 : n % 340282366920938463463374607431768211456 % 18446744073709551616 = n % 18446744073709551616 := by omega
  have h2 : n % 340282366920938463463374607431768211456 / 18446744073709551616 % 18446744073709551616 = n / 18446744073709551616 % 18446744073709551616 := by omega
  rw [h1, h2]
theorem W12_zero : W12 0 = zeros 2 := by decide
theorem W12_val (n : Nat) : n % 18446744073709551616 + 18446744073709551616 * (n / 18446744073709551616 % 18446744073709551616) = n % 340282366920938463463374607431768211456 := by omega
theorem W12_inj {a b : Nat} (h : W12 a = W12 b) : a % 340282366920938463463374607431768211456 = b % 340282366920938463463374607431768211456 := by
  unfold W12 at h
  injection h with h1 h2
  injection h2 with h2 _
  rw [← W12_val a, ← W12_val b, h1, h2]
theorem W12_congr {a b : Nat} (h : a % 340282366920938463463374607431768211456 = b % 340282366920938463463374607431768211456) : W12 a = W12 b := by rw [← W12_mod a, h, W12_mod]
theorem W12_bytes (n : Nat) : dig 256 8 (n % 18446744073709551616) ++ dig 256 8 (n / 18446744073709551616 % 18446744073709551616) = dig 256 16 n := by
  rw [dig_join 256 8 8 _ _ (by omega) (by omega)]
  have e : n % 18446744073709551616 + 256 ^ 8 * (n / 18446744073709551616 % 18446744073709551616) = n % 256 ^ 16 := by omega
  rw [e, dig_mod]
theorem W12_load {bs : List Nat} (hl : bs.length = 16) (hb : ∀ x ∈ bs, x < 256) : [numAt bs 0 8, numAt bs 8 8] = W12 (le bs) := by
  have h := le_halves hl
  have h1 := numAt_lt hb 0 8
  have h2 := numAt_lt hb 8 8
  rw [h]
  generalize numAt bs 0 8 = x at *
  generalize numAt bs 8 8 = y at *
  unfold W12
  have e1 : (x + 18446744073709551616 * y) % 18446744073709551616 = x := by omega
  have e2 : (x + 18446744073709551616 * y) / 18446744073709551616 % 18446744073709551616 = y := by omega
  rw [e1, e2]
theorem le_dig16 (v : Nat) : le (dig 256 16 v) = v % 340282366920938463463374607431768211456 := by
  unfold le; rw [undig_dig]
theorem W12_hash (key bs : List Nat) : W12 (le (hashP key bs)) = W12 (polyA key bs) := by
  unfold hashP; rw [le_dig16, W12_mod]
/-- The sum's words; the difference's. -/
theorem W12_plus (a b : Nat) : [(a % 18446744073709551616 + b % 18446744073709551616) % 18446744073709551616, (a / 18446744073709551616 % 18446744073709551616 + b / 18446744073709551616 % 18446744073709551616 + (a % 18446744073709551616 + b % 18446744073709551616) / 18446744073709551616) % 18446744073709551616] = W12 (a + b) := by
  unfold W12
  congr 1
  · omega
  · congr 1
    omega
/-- The hashes of so many pieces. -/
def pieceL (m : List Nat) (i : Nat) : List Nat := (m.drop (1024 * i)).take 1024
def nhAll (W m : List Nat) : Nat → List Nat
  | 0 => []
  | q + 1 => nhAll W m q ++ nhOut W (pieceL m q)
theorem nhAll_len (W m : List Nat) : ∀ q, (nhAll W m q).length = 32 * q
  | 0 => rfl
  | q + 1 => by
    show (nhAll W m q ++ nhOut W (pieceL m q)).length = _
    rw [List.length_append, nhAll_len W m q, nhOut_len]; omega
theorem nhOut_lt (W bs : List Nat) : ∀ x ∈ nhOut W bs, x < 256 := by
  unfold nhOut nhH nhB
  split
  · intro x hx
    rcases List.mem_append.1 hx with h | hx
    · exact dig_lt (by omega) _ _ x h
    · rcases List.mem_append.1 hx with h | hx
      · exact dig_lt (by omega) _ _ x h
      · rcases List.mem_append.1 hx with h | hx
        · exact dig_lt (by omega) _ _ x h
        · exact dig_lt (by omega) _ _ x hx
  · intro x hx
    rw [(List.mem_replicate.1 hx).2]; omega
theorem nhAll_lt (W m : List Nat) : ∀ q, ∀ x ∈ nhAll W m q, x < 256
  | 0 => fun x hx => by cases hx
  | q + 1 => fun x hx => (List.mem_append.1 hx).elim (nhAll_lt W m q x) (nhOut_lt W _ x)
def piecesN (n : Nat) : Nat := (n + 1023) / 1024
theorem pieceL_lt {m : List Nat} (hb : ∀ x ∈ m, x < 256) (i : Nat) : ∀ x ∈ pieceL m i, x < 256 := fun x hx => hb x (List.mem_of_mem_drop (List.mem_of_mem_take hx))
theorem pieceL_len (m : List Nat) (i : Nat) : (pieceL m i).length = min 1024 (m.length - 1024 * i) := by
  unfold pieceL; rw [List.length_take, List.length_drop]
theorem nhErr_ok {W bs : List Nat} (hW : W.length = 268) (h1 : bs.length ≤ 1024) (h2 : bs.length % 16 = 0) : nhErr W bs = 0 := by
  unfold nhErr
  rw [if_neg (by omega), if_neg (by omega), if_neg (by omega)]
/-- The head and the body, as numbers. -/
def headN (tk tweak : List Nat) (n : Nat) : Nat := polyA tk (dig 256 16 (8 * n) ++ tweak)
def bodyN (mk W b : List Nat) : Nat := polyA mk (nhAll W (padL b) (piecesN (padL b).length))
theorem bodyN_nil (mk W : List Nat) : bodyN mk W [] = 0 := by
  show polyA mk [] = 0
  exact polyA_nil mk
theorem padL_idem (b : List Nat) : padL (padL b) = padL b := padL_whole (padL_mod b)
theorem bodyN_pad (mk W b : List Nat) : bodyN mk W (padL b) = bodyN mk W b := by unfold bodyN; rw [padL_idem]
end Go.Proofs.Ytolfngmpoafaaaa
