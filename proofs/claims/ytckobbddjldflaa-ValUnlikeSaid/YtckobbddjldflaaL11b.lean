/- The walks of ValSums and ValLengths. No condition but that bytes are below 256 and the length fits. -/
import Derived.Test.YtckobbddjldflaaL11a
namespace Go.Proofs.Ytckobbddjldflaa
set_option linter.unusedSimpArgs false
set_option linter.unusedVariables false
set_option linter.unusedSectionVars false
set_option linter.unusedVariables false
open Go.RowKit
theorem eg16 : Try.prog.eqGuardType Try.prog.depth 22 = false := by kernel_rfl
theorem same16d (xs ys : List Nat) (hx : xs.length = 16) (h : xs = ys) (W : World) : (binOp .eql 22 (.agg (ints .u8 xs)) (.agg (ints .u8 ys))).run Try.prog W = .ok (.bool true) W := by
  subst h
  rw [eq16d xs xs hx hx W]; simp
set_option maxRecDepth 100000 in
set_option maxHeartbeats 8000000 in
theorem valSums_c (hs bs : List Nat) (a : Option Addr) (c : Nat) (hc : a = none → c = 0) (hl : hs.length = 16) (hb : ∀ x ∈ hs, x < 2 ^ 8) (hbb : ∀ x ∈ bs, x < 2 ^ 8) (w : World) (hs0 : Sl w a .u8 bs) :
    Calls Try.prog 3 #[.agg (ints .u8 hs), .slice a bs.length c] w fun e w' => e = .returned (.bool true) ∧ Below w.heap.size w w' := by
  have B0 := Blk.new w 22 (ints .u8 hs)
  have hbel := (Below.refl w.heap.size w).alloc (Nat.le_refl _) (.cells (ints .u8 hs) 22)
  by_cases h3 : bs.length ≤ 300
  · have hd : decide ((bs.length : Int) > 300) = false := by simp; omega
    have S := hs0.below hbel
    have hlen : bs.length < 2 ^ 31 := by omega
    go_enter Try.func3, Try.ntmps3
    go_wp2
    generalize (w.alloc (.cells (ints .u8 hs) 22)) = w0 at *
    refine wp_region_below (by kernel_rfl) (by kernel_rfl) ?_
    refine quiet_load rfl rfl rfl B0 Try.ar22 hl ?_
    (try simp only [Act.put, List.setIfInBounds_toArray, List.set_cons_zero, List.set_cons_succ, World.size_alloc, setRow_size, Nat.add_assoc, Nat.reduceAdd])
    refine quiet_move rfl rfl rfl ?_
    (try simp only [Act.put, List.setIfInBounds_toArray, List.set_cons_zero, List.set_cons_succ, World.size_alloc, setRow_size, Nat.add_assoc, Nat.reduceAdd])
    refine quiet_call 11 rfl rfl Try.func11 (by kernel_rfl) (by kernel_rfl) (fun W hQ => sum11_c hs bs hl hb hlen hbb a c W (S.below hQ)) ?_
    (try simp only [Act.put, List.setIfInBounds_toArray, List.set_cons_zero, List.set_cons_succ, World.size_alloc, setRow_size, Nat.add_assoc, Nat.reduceAdd])
    refine quiet_load rfl rfl rfl B0 Try.ar22 hl ?_
    (try simp only [Act.put, List.setIfInBounds_toArray, List.set_cons_zero, List.set_cons_succ, World.size_alloc, setRow_size, Nat.add_assoc, Nat.reduceAdd])
    refine quiet_move rfl rfl rfl ?_
    (try simp only [Act.put, List.setIfInBounds_toArray, List.set_cons_zero, List.set_cons_succ, World.size_alloc, setRow_size, Nat.add_assoc, Nat.reduceAdd])
    refine quiet_call 12 rfl rfl Try.func12 (by kernel_rfl) (by kernel_rfl) (fun W hQ => sum_ref hs bs hl hb hlen hbb a c hc W (S.below hQ)) ?_
    (try simp only [Act.put, List.setIfInBounds_toArray, List.set_cons_zero, List.set_cons_succ, World.size_alloc, setRow_size, Nat.add_assoc, Nat.reduceAdd])
    refine quiet_eql rfl rfl rfl rfl eg16 (same16d _ _ (onL_len (zeros_len _) _) rfl) ?_
    (try simp only [Act.put, List.setIfInBounds_toArray, List.set_cons_zero, List.set_cons_succ, World.size_alloc, setRow_size, Nat.add_assoc, Nat.reduceAdd])
    refine quiet_move rfl rfl rfl ?_
    (try simp only [Act.put, List.setIfInBounds_toArray, List.set_cons_zero, List.set_cons_succ, World.size_alloc, setRow_size, Nat.add_assoc, Nat.reduceAdd])
    refine quiet_call 13 rfl rfl Try.func13 (by kernel_rfl) (by kernel_rfl) (fun W hQ => awake11_c W) ?_
    (try simp only [Act.put, List.setIfInBounds_toArray, List.set_cons_zero, List.set_cons_succ, World.size_alloc, setRow_size, Nat.add_assoc, Nat.reduceAdd])
    refine quiet_pickt (by rfl) (by rfl) (by rfl) (by rfl) (by rfl) ?_
    (try simp only [Act.put, List.setIfInBounds_toArray, List.set_cons_zero, List.set_cons_succ, World.size_alloc, setRow_size, Nat.add_assoc, Nat.reduceAdd])
    refine quiet_assign rfl rfl rfl ?_
    (try simp only [Act.put, List.setIfInBounds_toArray, List.set_cons_zero, List.set_cons_succ, World.size_alloc, setRow_size, Nat.add_assoc, Nat.reduceAdd])
    refine wpQuiet_nil ?_
    intro w' hw'
    go_wp2
    go_ret
    exact ⟨rfl, bCall hbel hw' hbel.size⟩
  · have hd : decide ((bs.length : Int) > 300) = true := by simp; omega
    go_enter Try.func3, Try.ntmps3
    go_wp2
    go_ret
    exact ⟨rfl, hbel⟩
theorem awk11 {k : Int} (hw : (Lit.int .i64 k).wf = true) : -9223372036854775808 ≤ k ∧ k ≤ 9223372036854775807 := by
  unfold Lit.wf at hw
  simp only [Bool.and_eq_true, decide_eq_true_eq] at hw
  exact ⟨hw.1, hw.2⟩
set_option maxRecDepth 100000 in
set_option maxHeartbeats 8000000 in
theorem valLengths_c (n : Int) (b : Bool) (hw : (Lit.int .i64 n).wf = true) (w : World) :
    Calls Try.prog 4 #[.int .i64 n, .bool b] w fun e w' => e = .returned (.bool true) ∧ Below w.heap.size w w' := by
  obtain ⟨h1, h2⟩ := awk11 hw
  clear hw
  by_cases h0 : n < 0
  · have hd : decide (n < 0) = true := by simpa using h0
    go_enter Try.func4, Try.ntmps4
    go_wp2_with fail
    refine (lengthNeg_c n h0 b _).mono ?_
    rintro e w1 ⟨rfl, hb1⟩
    have f1 := fun W => same16d (zeros 16) (zeros 16) (zeros_len _) rfl W
    rw [zeros16_c] at f1 ⊢
    go_wp2_with fail
    refine (awake11_c _).mono ?_
    rintro e w2 ⟨rfl, hb2⟩
    go_wp2_with fail
    go_ret
    exact ⟨rfl, bCall hb1 hb2 hb1.size⟩
  · obtain ⟨m, rfl⟩ : ∃ m : Nat, n = (m : Int) := ⟨n.toNat, by omega⟩
    have hd : decide ((m : Int) < 0) = false := by simp
    have hm : Hid (m < 2 ^ 63) := Lib.hid (by omega)
    go_enter Try.func4, Try.ntmps4
    go_wp2_with fail
    refine (length11_c m hm.out b _).mono ?_
    rintro e w1 ⟨rfl, hb1⟩
    go_wp2_with fail
    refine (length_ref m hm.out b _).mono ?_
    rintro e w2 ⟨rfl, hb2⟩
    have f1 := fun W => same16d (lenL m b) (lenL m b) (lenL_len _ _) rfl W
    go_wp2_with fail
    refine (awake11_c _).mono ?_
    rintro e w3 ⟨rfl, hb3⟩
    go_wp2_with fail
    go_ret
    have hb12 := bCall hb1 hb2 hb1.size
    exact ⟨rfl, bCall hb12 hb3 hb12.size⟩
end Go.Proofs.Ytckobbddjldflaa
