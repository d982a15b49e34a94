/- What the reference makes of a row of numbers, each to be counted at its place in bytes: bytes of the same value. The numbers are not below 0 and below 2^54. -/
import Derived.Test.YtolfngmpoafaaaaW7d
import Derived.Test.YtolfngmpoafaaaaKA
namespace Go.Proofs.Ytolfngmpoafaaaa
set_option linter.unusedSimpArgs false
set_option linter.unusedVariables false
set_option linter.unusedSectionVars false
set_option linter.unusedVariables false
open Go.RowKit
theorem u8_info : (Try.prog.info? 5).map (fun i => (i.zero, i.size, i.bytes)) = some (some (.int .u8 0), 1, 1) := by kernel_rfl
theorem undig_drop (b : Nat) (l : List Nat) (i : Nat) (hi : i < l.length) : undig b (l.drop i) = l.getD i 0 + b * undig b (l.drop (i + 1)) := by
  rw [List.drop_eq_getElem_cons hi, List.getD_eq_getElem?_getD, List.getElem?_eq_getElem hi]; rfl
theorem bytes_step {os : List Nat} {i y z u T n q : Nat} (hl : os.length = i) (h : le os + 256 ^ i * (y + z) = T) (hn : y + z = n + 256 * (q + u)) : le (os ++ [n]) + 256 ^ (i + 1) * (q + u) = T := by
  unfold le at *
  rw [undig_append, hl, ← h, hn, Nat.pow_succ]
  simp only [undig, Nat.mul_zero, Nat.add_zero]
  rw [Nat.mul_add (256 ^ i) n, Nat.mul_assoc]
  omega
set_option maxRecDepth 100000 in
set_option maxHeartbeats 2000000 in
theorem bytes_c (a : Option Addr) (c : Nat) (l : List Nat) (hb : ∀ x ∈ l, x < 2 ^ 54) (hlen : l.length < 2 ^ 20) (w : World) (hs : Sl w a .i64 l) :
    Calls Try.prog 73 #[.slice a l.length c] w fun e w' => ∃ bs a' c', e = .returned (.slice a' bs.length c') ∧ Sl w' a' .u8 bs ∧ (∀ x ∈ bs, x < 256) ∧ le bs = undig 256 l ∧ bs.length ≤ l.length + 8 ∧ Below w.heap.size w w' := by
  go_enter Try.func73, Try.ntmps73
  go_wp2
  go_loopw [3, 4, 5] (fun v cy t wr => ∃ (i y : Nat) (os : List Nat), i ≤ l.length + 8 ∧ t = .int .i64 i ∧ cy = .int .i64 y ∧ os.length = i ∧ (∀ x ∈ os, x < 256) ∧ Hid (le os + 256 ^ i * (y + undig 256 (l.drop i)) = undig 256 l) ∧ Hid (y * 256 ^ (i - l.length) < 2 ^ 56) ∧ Own wr w.heap.size 5 .u8 v os ∧ Below w.heap.size w wr)
    (fun v cy t wr => l.length + 8 - (intOf t).toNat)
  case atStart => exact ⟨0, 0, [], by omega, rfl, rfl, rfl, by simp, by simp [Hid, le, undig], by simp [Hid], Own.nil _ _ _ _, Below.refl _ _⟩
  case round =>
    rename_i hrel
    obtain ⟨i, y, os, hi, rfl, rfl, hol, hob, hval, hy, hown, hbel⟩ := hrel
    have hyb : y < 2 ^ 56 := by
      have := hy.out
      have h1 : 1 ≤ 256 ^ (i - l.length) := Nat.pow_pos (by omega)
      exact Nat.lt_of_le_of_lt (Nat.le_mul_of_pos_right y h1) this
    by_cases hlt : i < l.length
    · obtain ⟨g, off, rfl, hgl, hcell⟩ := hs.at_ hlt
      have hc0 := (hbel.cell (p := ⟨g, off + i, none⟩) hgl).trans hcell
      have hx := getD_bound hb (by omega) i
      have hdr := undig_drop 256 l i hlt
      have Hdr := Lib.hid hdr
      have Hcell := Lib.hid hcell
      have Hol := Lib.hid hol
      clear hdr hcell hol
      generalize l.getD i 0 = x at *
      have hsz : os.length < 2 ^ 40 := by have := Hol.out; omega
      go_wp2_with (first | (refine wpList_append_one (n := (y + x) % 256) rfl rfl Try.underlying22 u8_info rfl (by omega) rfl (hown.alloc _) rfl (by simp) hsz (Nat.le_trans hbel.size (by simp)) ?_; intro v' w' hown' hgr; (try simp only [Act.put, List.setIfInBounds_toArray, List.set_cons_zero, List.set_cons_succ, World.size_alloc, setRow_size, Nat.add_assoc, Nat.reduceAdd])))
      refine ⟨⟨i + 1, (y + x) / 256, os ++ [(y + x) % 256], by omega, by go_num, by simp, by simp [Hol.out], ?_, ?_, ?_, hown', bGrown (hbel.alloc hbel.size _) hgr (Nat.le_trans hbel.size (by simp)) (hown.alloc _) (Nat.le_refl _)⟩, by simp [intOf] <;> omega⟩
      · intro b hbm
        rcases List.mem_append.1 hbm with h | h
        · exact hob b h
        · simp only [List.mem_singleton] at h; subst h; exact Nat.mod_lt _ (by omega)
      · refine Lib.hid (bytes_step Hol.out hval.out ?_)
        rw [Hdr.out]
        omega
      · refine Lib.hid ?_
        rw [show i + 1 - l.length = 0 by omega, Nat.pow_zero]
        omega
    · have hdl : l.drop i = [] := List.drop_eq_nil_of_le (by omega)
      have hval' := hval.out
      rw [hdl] at hval'
      have hge : ¬ (i : Int) < (l.length : Int) := by omega
      rcases Nat.eq_zero_or_pos y with rfl | hpos
      · have hy0 : ¬ (0 : Int) < ((0 : Nat) : Int) := by omega
        have Hval' := Lib.hid hval'
        have Hol := Lib.hid hol
        clear hval' hdl hol
        go_wp2
        go_ret
        obtain ⟨a', c', rfl, hsl, -, -⟩ := hown.sl
        refine ⟨os, a', ⟨c', rfl⟩, hsl, hob, ?_, by rw [Hol.out]; exact hi, hbel⟩
        have := Hval'.out
        simpa [undig] using this
      · have hi7 : i < l.length + 7 := by
          refine Classical.byContradiction fun hn => ?_
          have h1 : 256 ^ 7 ≤ 256 ^ (i - l.length) := Nat.pow_le_pow_right (by omega) (by omega)
          have h2 := Nat.mul_le_mul hpos h1
          have h3 := hy.out
          omega
        have hpos' : (0 : Int) < (y : Int) := by omega
        have Hval' := Lib.hid hval'
        have Hol := Lib.hid hol
        have hsz : os.length < 2 ^ 40 := by omega
        have Hdl := Lib.hid hdl
        clear hval' hdl hol
        go_wp2_with (first | (refine wpList_append_one (n := y % 256) rfl rfl Try.underlying22 u8_info rfl (by omega) rfl (hown.alloc _) rfl (by simp) hsz (Nat.le_trans hbel.size (by simp)) ?_; intro v' w' hown' hgr; (try simp only [Act.put, List.setIfInBounds_toArray, List.set_cons_zero, List.set_cons_succ, World.size_alloc, setRow_size, Nat.add_assoc, Nat.reduceAdd])))
        refine ⟨⟨i + 1, y / 256, os ++ [y % 256], by omega, by go_num, by simp, by simp [Hol.out], ?_, ?_, ?_, hown', bGrown (hbel.alloc hbel.size _) hgr (Nat.le_trans hbel.size (by simp)) (hown.alloc _) (Nat.le_refl _)⟩, by simp [intOf] <;> omega⟩
        · intro b hbm
          rcases List.mem_append.1 hbm with h | h
          · exact hob b h
          · simp only [List.mem_singleton] at h; subst h; exact Nat.mod_lt _ (by omega)
        · refine Lib.hid (bytes_step Hol.out Hval'.out ?_)
          rw [List.drop_eq_nil_of_le (by omega)]
          simp only [undig]
          omega
        · refine Lib.hid ?_
          have h3 := hy.out
          rw [show i + 1 - l.length = (i - l.length) + 1 by omega, Nat.pow_succ, Nat.mul_comm _ 256, ← Nat.mul_assoc]
          exact Nat.lt_of_le_of_lt (Nat.mul_le_mul_right _ (Nat.div_mul_le_self y 256)) h3
end Go.Proofs.Ytolfngmpoafaaaa
