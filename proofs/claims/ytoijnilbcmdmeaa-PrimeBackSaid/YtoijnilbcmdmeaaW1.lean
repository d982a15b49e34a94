/- What the reference of layer 1 answers: a byte, a number of bytes, a number's bytes. No condition but that places are below 2^62. -/
import Derived.Test.YtoijnilbcmdmeaaOct
import Derived.Test.YtoijnilbcmdmeaaKit2
import Derived.BigQuiet
namespace Go.Proofs.Ytoijnilbcmdmeaa
set_option linter.unusedSimpArgs false
set_option linter.unusedVariables false
set_option linter.unusedSectionVars false
set_option linter.unusedVariables false
open Go.RowKit
set_option maxHeartbeats 400000 in
theorem at_c (a : Option Addr) (c : Nat) (bs : List Nat) (hb : ∀ x ∈ bs, x < 256) (hlen : bs.length ≤ maxLen) (p k : Nat) (hp : p < 2 ^ 62) (hk : k < 256) (w : World) (hs : Sl w a .u8 bs) :
    Calls Try.prog 106 #[.slice a bs.length c, .int .i64 p, .int .i64 k] w fun e w' => e = .returned (.int .u8 (bs.getD (p + k) 0 : Nat)) ∧ w = w' := by
  unfold maxLen at hlen
  by_cases hin : p + k < bs.length
  · obtain ⟨ga, off, rfl, hga, hcell⟩ := hs.at_ hin
    have hv := getD_bound hb (by omega) (p + k)
    generalize bs.getD (p + k) 0 = v at *
    go_enter Try.func106, Try.ntmps106
    go_wp2
    go_ret
    exact ⟨rfl, rfl⟩
  · have e : bs.getD (p + k) 0 = 0 := by rw [List.getD_eq_getElem?_getD, List.getElem?_eq_none (by omega)]; rfl
    rw [e]
    clear e
    by_cases hin2 : p < bs.length
    all_goals
      go_enter Try.func106, Try.ntmps106
      go_wp2
      go_ret
      exact ⟨rfl, rfl⟩
set_option maxHeartbeats 400000 in
theorem number_c (a : Option Addr) (c : Nat) (bs : List Nat) (hb : ∀ x ∈ bs, x < 256) (hlen : bs.length ≤ maxLen) (p n : Nat) (hp : p < 2 ^ 62) (hn : n ≤ 8) (w : World) (hs : Sl w a .u8 bs) :
    Calls Try.prog 89 #[.slice a bs.length c, .int .i64 p, .int .i64 n] w fun e w' => e = .returned (.int .u64 (numAt bs p n : Nat)) ∧ w = w' := by
  go_enter Try.func89, Try.ntmps89
  go_wp2
  go_loop [7, 8] (fun s t => ∃ j : Nat, j ≤ n ∧ t = .int .i64 ((j : Int) - 1) ∧ s = .int .u64 (numAt bs (p + j) (n - j))) (fun s t => (intOf t + 1).toNat)
  case atStart => exact ⟨n, by omega, rfl, by rw [Nat.sub_self]; rfl⟩
  case round =>
    rename_i hrel
    obtain ⟨k, hk, rfl, rfl⟩ := hrel
    rcases k with _ | k
    · have e0 : ((0 : Nat) : Int) - 1 = -1 := rfl
      rw [e0]
      go_wp2
      go_ret
      exact ⟨rfl, rfl⟩
    · have e1 : ((k + 1 : Nat) : Int) - 1 = (k : Int) := by omega
      rw [e1]
      clear e1
      have hge : (0 : Int) ≤ k := by omega
      have hd := numAt_head bs (p + k) (n - (k + 1))
      rw [show n - (k + 1) + 1 = n - k by omega, show p + k + 1 = p + (k + 1) by omega] at hd
      have hv := getD_bound hb (by omega) (p + k)
      have hm : numAt bs (p + (k + 1)) (n - (k + 1)) < 256 ^ 7 := Nat.lt_of_lt_of_le (numAt_lt hb _ _) (Nat.pow_le_pow_right (by omega) (by omega))
      have h7 : (256 : Nat) ^ 7 = 72057594037927936 := by decide
      rw [h7] at hm
      have HD := Lib.hid hd
      clear hd h7
      generalize numAt bs (p + (k + 1)) (n - (k + 1)) = m at *
      go_wp2_with (fail)
      refine (at_c a c bs hb hlen p k hp (by omega) _ hs).mono ?_
      rintro e w' ⟨rfl, rfl⟩
      generalize bs.getD (p + k) 0 = v at *
      go_wp2
      refine ⟨⟨k, by omega, rfl, ?_⟩, by simp [intOf] <;> omega⟩
      rw [HD.out]
      congr 1
      simp
      omega
theorem number_at (a : Option Addr) (c : Nat) (bs : List Nat) (hb : ∀ x ∈ bs, x < 256) (hlen : bs.length ≤ maxLen) (p n : Nat) (z : Int) (hz : z = p) (hp : p < 2 ^ 62) (hn : n ≤ 8) (w : World) (hs : Sl w a .u8 bs) :
    Calls Try.prog 89 #[.slice a bs.length c, .int .i64 z, .int .i64 n] w fun e w' => e = .returned (.int .u64 (numAt bs p n : Nat)) ∧ w = w' := by
  subst hz; exact number_c a c bs hb hlen p n hp hn w hs
theorem take_snoc {xs : List Nat} {k v : Nat} (hk : k < xs.length) (hv : xs.getD k 0 = v) : xs.take (k + 1) = xs.take k ++ [v] := by
  rw [List.take_add_one, getD_lt hk, hv]; rfl
theorem u8_inf : (Try.prog.info? 5).map (fun i => (i.zero, i.size, i.bytes)) = some (some (.int .u8 0), 1, 1) := by kernel_rfl
set_option maxHeartbeats 800000 in
theorem put_c (n m : Nat) (hn : n < 18446744073709551616) (hm : m < 2 ^ 30) (w : World) :
    Calls Try.prog 84 #[.int .u64 n, .int .i64 m] w fun e w' => ∃ v, e = .returned v ∧ Own w' w.heap.size 5 .u8 v (dig 256 m n) ∧ Below w.heap.size w w' := by
  go_enter Try.func84, Try.ntmps84
  go_wp2
  go_loopw [0, 5, 6] (fun s v t wr => ∃ k : Nat, k ≤ m ∧ t = .int .i64 k ∧ s = .int .u64 (n / 256 ^ k : Nat) ∧ Own wr w.heap.size 5 .u8 v ((dig 256 m n).take k) ∧ Below w.heap.size w wr) (fun s v t wr => m - (intOf t).toNat)
  case atStart => exact ⟨0, by omega, rfl, by simp, Own.nil _ _ _ _, Below.refl _ _⟩
  case round =>
    rename_i hrel
    obtain ⟨k, hk, rfl, rfl, hown, hbel⟩ := hrel
    have hq : n / 256 ^ k < 18446744073709551616 := Nat.lt_of_le_of_lt (Nat.div_le_self _ _) hn
    by_cases hlt : k < m
    · have hv : (dig 256 m n).getD k 0 = n / 256 ^ k % 256 := dig_getD 256 m n k hlt
      have ht := take_snoc (by simp; exact hlt) hv
      have hdd : n / 256 ^ (k + 1) = n / 256 ^ k / 256 := by rw [Nat.div_div_eq_div_mul, ← Nat.pow_succ]
      have hsz : ((dig 256 m n).take k).length < 2 ^ 40 := by simp; omega
      have HT := Lib.hid ht
      have HD := Lib.hid hdd
      clear ht hdd hv
      generalize n / 256 ^ k = q at *
      go_wp2_with (first | (refine wpList_append_one (n := q % 256) rfl rfl Try.underlying37 u8_inf rfl (by omega) rfl (hown.alloc _) rfl (by simp) hsz (Nat.le_trans hbel.size (by simp)) ?_; intro v' w' hown' hgr; (try simp only [Act.put, List.setIfInBounds_toArray, List.set_cons_zero, List.set_cons_succ, World.size_alloc, setRow_size, Nat.add_assoc, Nat.reduceAdd])))
      refine ⟨⟨k + 1, by omega, by go_num, ?_, ?_, bGrown (hbel.alloc hbel.size _) hgr (Nat.le_trans hbel.size (by simp)) (hown.alloc _) (Nat.le_refl _)⟩, by simp [intOf] <;> omega⟩
      · rw [HD.out]; simp
      · rw [HT.out]; exact hown'
    · obtain rfl : k = m := by omega
      have he : (dig 256 k n).take k = dig 256 k n := List.take_of_length_le (by simp)
      rw [he] at hown
      clear he
      go_wp2
      go_ret
      exact ⟨_, rfl, hown, hbel⟩
end Go.Proofs.Ytoijnilbcmdmeaa
