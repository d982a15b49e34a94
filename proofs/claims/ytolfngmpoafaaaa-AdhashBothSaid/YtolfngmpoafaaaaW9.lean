/- What the reference of layer 9 answers: a pass. No condition but that words and bytes are enough. -/
import Derived.Test.YtolfngmpoafaaaaP9
import Derived.Test.YtolfngmpoafaaaaOA
namespace Go.Proofs.Ytolfngmpoafaaaa
set_option linter.unusedSimpArgs false
set_option linter.unusedVariables false
set_option linter.unusedSectionVars false
set_option linter.unusedVariables false
open Go.RowKit
theorem plus9_c (x k : Nat) (hx : x < 18446744069414584320) (hk : k < 4294967296) (w : World) :
    Calls Try.prog 68 #[.int .u64 x, .int .u32 k] w fun e w' => e = .returned (.int .u64 ((x + k) % 4294967296 : Nat)) ∧ w = w' := by
  go_enter Try.func68, Try.ntmps68
  go_wp2
  go_ret
  exact ⟨by simp, rfl⟩
theorem product_c (a k b l : Nat) (ha : a < 4294967296) (hk : k < 4294967296) (hb : b < 4294967296) (hl : l < 4294967296) (w : World) :
    Calls Try.prog 42 #[.int .u32 a, .int .u32 k, .int .u32 b, .int .u32 l] w fun e w' => e = .returned (.int .u64 (((a + k) % 4294967296) * ((b + l) % 4294967296) : Nat)) ∧ w = w' := by
  go_enter Try.func42, Try.ntmps42
  have h1 : ((a : Int) + k) % 4294967296 = (((a + k) % 4294967296 : Nat) : Int) := by simp
  have h2 : ((b : Int) + l) % 4294967296 = (((b + l) % 4294967296 : Nat) : Int) := by simp
  have l1 := Nat.mod_lt (a + k) (show 0 < 4294967296 by omega)
  have l2 := Nat.mod_lt (b + l) (show 0 < 4294967296 by omega)
  have l3 : (a + k) % 4294967296 * ((b + l) % 4294967296) ≤ 4294967295 * 4294967295 := Nat.mul_le_mul (by omega) (by omega)
  have hfin : IntKind.u64.wrap (((a : Int) + k) % 4294967296 * (((b : Int) + l) % 4294967296)) = (((a + k) % 4294967296 * ((b + l) % 4294967296) : Nat) : Int) := by
    rw [h1, h2, ← Int.natCast_mul]
    exact IntWalk.u64_in _ (by omega)
  have H := Lib.hid hfin
  clear hfin h1 h2 l3
  go_wp2
  go_ret
  refine ⟨?_, rfl⟩
  exact congrArg (fun z => Ending.returned (.int .u64 z)) H.out
theorem pass_step {a s n1 k1 n2 k2 : Nat} (h : (n1 + k1) % 4294967296 * ((n2 + k2) % 4294967296) < 18446744073709551616) :
    IntKind.u64.wrap (((a : Int) + s) % 18446744073709551616 + IntKind.u64.wrap (((n1 : Int) + k1) % 4294967296 * (((n2 : Int) + k2) % 4294967296))) = (((a + (s + (n1 + k1) % 4294967296 * ((n2 + k2) % 4294967296))) % 18446744073709551616 : Nat) : Int) := by
  have e : ((n1 : Int) + k1) % 4294967296 * (((n2 : Int) + k2) % 4294967296) = (((n1 + k1) % 4294967296 * ((n2 + k2) % 4294967296) : Nat) : Int) := by simp
  rw [e]
  generalize (n1 + k1) % 4294967296 * ((n2 + k2) % 4294967296) = q at *
  rw [IntWalk.u64_in (q : Int) (by omega)]
  simp [IntKind.wrap, IntKind.bits, IntKind.signed]
  omega
set_option maxRecDepth 100000 in
set_option maxHeartbeats 2000000 in
theorem pass_c (aw ab : Option Addr) (cw cb : Nat) (W bs : List Nat) (hb : ∀ x ∈ bs, x < 256) (hW : ∀ x ∈ W, x < 4294967296) (hlb : bs.length < 2 ^ 40) (hlW : W.length < 2 ^ 40) (p : Nat) (hp : p ≤ 3) (hen : bs.length / 4 + 12 ≤ W.length) (w : World) (hsw : Sl w aw .u32 W) (hsb : Sl w ab .u8 bs) :
    Calls Try.prog 55 #[.slice aw W.length cw, .slice ab bs.length cb, .int .i64 p] w fun e w' => e = .returned (.int .u64 (nhS W bs p (bs.length / 16) : Nat)) ∧ Below w.heap.size w w' := by
  have hlb' : bs.length ≤ maxLen := by unfold maxLen; omega
  go_enter Try.func55, Try.ntmps55
  go_wp2
  go_loopw [7, 8] (fun s t wr => ∃ u : Nat, u ≤ bs.length / 16 ∧ t = .int .i64 u ∧ s = .int .u64 (nhS W bs p u : Nat) ∧ Below w.heap.size w wr) (fun s t wr => bs.length / 16 - (intOf t).toNat)
  case atStart => exact ⟨0, by omega, rfl, rfl, Below.refl _ _⟩
  case round =>
    rename_i hrel
    obtain ⟨u, hu, rfl, rfl, hbel⟩ := hrel
    by_cases hlt : u < bs.length / 16
    · have hd1 : decide ((u : Int) < (bs.length : Int) / 16) = true := by simp; omega
      go_wp2
      clear hd1
      go_loopw [7, 10] (fun s t wr => ∃ i : Nat, i ≤ 2 ∧ t = .int .i64 i ∧ s = .int .u64 ((nhS W bs p u + uvS W bs p u i) % 18446744073709551616 : Nat) ∧ Below w.heap.size w wr) (fun s t wr => 2 - (intOf t).toNat)
      case atStart => exact ⟨0, by omega, rfl, by simp [uvS]; have := nhS_lt W bs p u; omega, hbel⟩
      case round =>
        rename_i hrel
        obtain ⟨i, hi, rfl, rfl, hbel2⟩ := hrel
        by_cases hlt2 : i < 2
        · obtain ⟨g1, o1, rfl, hg1, c1⟩ := (hsw.below hbel2).at_ (i := 4 * u + 4 * p + i) (by omega)
          obtain ⟨g2, o2, e2, hg2, c2⟩ := (hsw.below hbel2).at_ (i := 4 * u + 4 * p + i + 2) (by omega)
          injection e2 with e2
          injection e2 with e2 e3
          subst e2 e3
          have hn1 := numAt_lt hb (16 * u + 4 * i) 4
          have hn2 := numAt_lt hb (16 * u + 4 * i + 8) 4
          have hw1 := getD_bound hW (by omega) (4 * u + 4 * p + i)
          have hw2 := getD_bound hW (by omega) (4 * u + 4 * p + i + 2)
          have hN1 := fun (W0 : World) (h0 : Below w.heap.size w W0) => number_at ab cb bs hb hlb' (16 * u + 4 * i) 4 (16 * (u : Int) + 4 * i) (by omega) (by omega) (by omega) W0 (hsb.below h0)
          have hN2 := fun (W0 : World) (h0 : Below w.heap.size w W0) => number_at ab cb bs hb hlb' (16 * u + 4 * i + 8) 4 (16 * (u : Int) + 4 * i + 8) (by omega) (by omega) (by omega) W0 (hsb.below h0)
          have huv : uvS W bs p u (i + 1) = uvS W bs p u i + uv W bs p u i := rfl
          have huvl := uv_lt W bs p u i
          unfold uv at huv huvl
          generalize numAt bs (16 * u + 4 * i) 4 = n1 at *
          generalize numAt bs (16 * u + 4 * i + 8) 4 = n2 at *
          generalize W.getD (4 * u + 4 * p + i) 0 = k1 at *
          generalize W.getD (4 * u + 4 * p + i + 2) 0 = k2 at *
          have HN1 := Lib.hid hN1
          have HN2 := Lib.hid hN2
          clear hN1 hN2
          have HUV := Lib.hid huv
          have HUL := Lib.hid huvl
          clear huv huvl
          generalize uvS W bs p u i = s0 at *
          go_wp2
          go_quiet ((first | (go_at_call 54; exact qsame (HN1.out _ (bDrewN hbel2 _))) | (go_at_call 68; exact qsame (plus9_c n1 k1 (by omega) hw1 _))))
          go_wp2
          have hb3 := bDrewN hbel2 nq
          have c3 : (wr.drewN nq).cell? ⟨g1, o1 + (4 * u + 4 * p + i + 2), none⟩ = some (.int .u32 (k2 : Int)) := c2
          clear c1 c2 hbel2
          generalize wr.drewN nq = w3 at *
          go_quiet ((first | (go_at_call 54; exact qsame (HN2.out _ (bDrewN hb3 _))) | (go_at_call 68; exact qsame (plus9_c n2 k2 (by omega) hw2 _))))
          go_wp2
          refine ⟨⟨i + 1, by omega, by go_num, ?_, bDrewN hb3 _⟩, by simp [intOf] <;> omega⟩
          rw [HUV.out]
          exact congrArg (Value.int .u64) (pass_step HUL.out)
        · obtain rfl : i = 2 := by omega
          have hs : nhS W bs p (u + 1) = (nhS W bs p u + uvS W bs p u 2) % 18446744073709551616 := rfl
          rw [← hs]
          clear hs
          go_wp2
          exact ⟨⟨u + 1, by omega, by go_num, rfl, hbel2⟩, by simp [intOf] <;> omega⟩
    · obtain rfl : u = bs.length / 16 := by omega
      go_wp2
      go_ret
      exact ⟨rfl, hbel⟩
end Go.Proofs.Ytolfngmpoafaaaa
