/- The walk of PrimeCancel. No condition but that parts fit 32 bits. -/
import Derived.Test.YtoijnilbcmdmeaaL7
import Derived.Test.YtoijnilbcmdmeaaKit2
namespace Go.Proofs.Ytoijnilbcmdmeaa
set_option linter.unusedSimpArgs false
set_option linter.unusedVariables false
set_option linter.unusedSectionVars false
set_option linter.unusedVariables false
open Go.RowKit
theorem val_zeros5 : val (zeros 5) = 0 := by kernel_rfl
theorem lt32 {v : Nat} : ∀ x ∈ numOf v, x < 2 ^ 32 := fun x hx => Nat.lt_trans (numOf_lt v x hx) (by omega)
theorem mod_cancel {p a b c : Nat} (hp : 0 < p) (h : (a + c) % p = (b + c) % p) : a % p = b % p := by
  obtain ⟨q, rfl⟩ : ∃ q, p = q + 1 := ⟨p - 1, by omega⟩
  have e : ∀ x : Nat, (x + c + c * q) % (q + 1) = x % (q + 1) := by
    intro x
    have : x + c + c * q = x + c * (q + 1) := by rw [Nat.mul_add]; omega
    rw [this, Nat.add_mul_mod_self_right]
  rw [← e a, ← e b, Nat.add_mod (a + c), h, ← Nat.add_mod]
theorem cancelN (a b c : Nat) : (numOf (a + c) == numOf (b + c)) = (numOf a == numOf b) := by
  have h : numOf (a + c) = numOf (b + c) ↔ numOf a = numOf b := by
    rw [numOf_iff, numOf_iff]
    constructor
    · exact mod_cancel pp_pos
    · intro h; rw [Nat.add_mod, h, ← Nat.add_mod]
  by_cases h1 : numOf a = numOf b
  · rw [beq_iff_eq.2 h1, beq_iff_eq.2 (h.2 h1)]
  · rw [beq_eq_false_iff_ne.2 h1, beq_eq_false_iff_ne.2 (fun e => h1 (h.1 e))]
set_option maxRecDepth 100000 in
set_option maxHeartbeats 4000000 in
theorem primeCancel_c (xs ys zs : List Nat) (hl : xs.length = 5) (hb : ∀ x ∈ xs, x < 2 ^ 32) (hl' : ys.length = 5) (hb' : ∀ x ∈ ys, x < 2 ^ 32) (hl3 : zs.length = 5) (hb3 : ∀ x ∈ zs, x < 2 ^ 32) (w : World) :
    Calls Try.prog 4 #[.agg (ints .u32 xs), .agg (ints .u32 ys), .agg (ints .u32 zs)] w fun e w' => e = .returned (.bool true) ∧ Below w.heap.size w w' := by
  obtain ⟨b, hE1, hE2⟩ : ∃ b, (∀ W, (binOp .eql 28 (.agg (ints .u32 (numOf (val xs + val zs)))) (.agg (ints .u32 (numOf (val ys + val zs))))).run Try.prog W = .ok (.bool b) W) ∧ (∀ W, (binOp .eql 28 (.agg (ints .u32 (numOf (val xs)))) (.agg (ints .u32 (numOf (val ys))))).run Try.prog W = .ok (.bool b) W) :=
    ⟨_, fun W => (numEq _ _ (numOf_len _) (numOf_len _) W).trans (by rw [cancelN]), fun W => numEq _ _ (numOf_len _) (numOf_len _) W⟩
  have hff : numOf (val (numOf (val xs))) = numOf (val xs) := by rw [val_numOf, numOf_mod]
  have hfz : numOf (val xs + val (zeros 5)) = numOf (val xs) := by rw [val_zeros5, Nat.add_zero]
  go_enter Try.func4, Try.ntmps4
  go_wp2
  have B1 := ((Blk.new w 28 (ints .u32 xs)).alloc (.cells (ints .u32 ys) 28)).alloc (.cells (ints .u32 zs) 28)
  have B2 := (Blk.new (w.alloc (.cells (ints .u32 xs) 28)) 28 (ints .u32 ys)).alloc (.cells (ints .u32 zs) 28)
  have B3 := Blk.new ((w.alloc (.cells (ints .u32 xs) 28)).alloc (.cells (ints .u32 ys) 28)) 28 (ints .u32 zs)
  rw [World.size_alloc] at B2
  rw [World.size_alloc, World.size_alloc] at B3
  have hbel := (((Below.refl w.heap.size w).alloc (Nat.le_refl _) (.cells (ints .u32 xs) 28)).alloc (by simp) (.cells (ints .u32 ys) 28)).alloc (by simp; omega) (.cells (ints .u32 zs) 28)
  generalize (((w.alloc (.cells (ints .u32 xs) 28)).alloc (.cells (ints .u32 ys) 28)).alloc (.cells (ints .u32 zs) 28)) = w0 at *
  have Hff := Lib.hid hff
  have Hfz := Lib.hid hfz
  clear hff hfz
  cases b
  all_goals
    refine wp_region_below (by kernel_rfl) (by kernel_rfl) ?_
    refine quiet_load rfl rfl rfl B1 Try.ar28 hl ?_
    (try simp only [Act.put, List.setIfInBounds_toArray, List.set_cons_zero, List.set_cons_succ, World.size_alloc, setRow_size, Nat.add_assoc, Nat.reduceAdd])
    refine quiet_load rfl rfl rfl B3 Try.ar28 hl3 ?_
    (try simp only [Act.put, List.setIfInBounds_toArray, List.set_cons_zero, List.set_cons_succ, World.size_alloc, setRow_size, Nat.add_assoc, Nat.reduceAdd])
    refine quiet_call 32 rfl rfl Try.func32 (by kernel_rfl) (by kernel_rfl) (fun W _ => plus_c xs zs hl hb hl3 hb3 W) ?_
    (try simp only [Act.put, List.setIfInBounds_toArray, List.set_cons_zero, List.set_cons_succ, World.size_alloc, setRow_size, Nat.add_assoc, Nat.reduceAdd])
    refine quiet_load rfl rfl rfl B2 Try.ar28 hl' ?_
    (try simp only [Act.put, List.setIfInBounds_toArray, List.set_cons_zero, List.set_cons_succ, World.size_alloc, setRow_size, Nat.add_assoc, Nat.reduceAdd])
    refine quiet_load rfl rfl rfl B3 Try.ar28 hl3 ?_
    (try simp only [Act.put, List.setIfInBounds_toArray, List.set_cons_zero, List.set_cons_succ, World.size_alloc, setRow_size, Nat.add_assoc, Nat.reduceAdd])
    refine quiet_call 32 rfl rfl Try.func32 (by kernel_rfl) (by kernel_rfl) (fun W _ => plus_c ys zs hl' hb' hl3 hb3 W) ?_
    (try simp only [Act.put, List.setIfInBounds_toArray, List.set_cons_zero, List.set_cons_succ, World.size_alloc, setRow_size, Nat.add_assoc, Nat.reduceAdd])
    refine quiet_eql rfl rfl rfl rfl Try.eg28 hE1 ?_
    (try simp only [Act.put, List.setIfInBounds_toArray, List.set_cons_zero, List.set_cons_succ, World.size_alloc, setRow_size, Nat.add_assoc, Nat.reduceAdd])
    refine quiet_load rfl rfl rfl B1 Try.ar28 hl ?_
    (try simp only [Act.put, List.setIfInBounds_toArray, List.set_cons_zero, List.set_cons_succ, World.size_alloc, setRow_size, Nat.add_assoc, Nat.reduceAdd])
    refine quiet_call 35 rfl rfl Try.func35 (by kernel_rfl) (by kernel_rfl) (fun W _ => form_c xs hl hb W) ?_
    (try simp only [Act.put, List.setIfInBounds_toArray, List.set_cons_zero, List.set_cons_succ, World.size_alloc, setRow_size, Nat.add_assoc, Nat.reduceAdd])
    refine quiet_load rfl rfl rfl B2 Try.ar28 hl' ?_
    (try simp only [Act.put, List.setIfInBounds_toArray, List.set_cons_zero, List.set_cons_succ, World.size_alloc, setRow_size, Nat.add_assoc, Nat.reduceAdd])
    refine quiet_call 35 rfl rfl Try.func35 (by kernel_rfl) (by kernel_rfl) (fun W _ => form_c ys hl' hb' W) ?_
    (try simp only [Act.put, List.setIfInBounds_toArray, List.set_cons_zero, List.set_cons_succ, World.size_alloc, setRow_size, Nat.add_assoc, Nat.reduceAdd])
    refine quiet_eql rfl rfl rfl rfl Try.eg28 hE2 ?_
    (try simp only [Act.put, List.setIfInBounds_toArray, List.set_cons_zero, List.set_cons_succ, World.size_alloc, setRow_size, Nat.add_assoc, Nat.reduceAdd])
    refine quiet_eqlBool rfl rfl rfl rfl Try.underlying4 ?_
    (try simp only [Act.put, List.setIfInBounds_toArray, List.set_cons_zero, List.set_cons_succ, World.size_alloc, setRow_size, Nat.add_assoc, Nat.reduceAdd])
    refine quiet_move rfl rfl rfl ?_
    (try simp only [Act.put, List.setIfInBounds_toArray, List.set_cons_zero, List.set_cons_succ, World.size_alloc, setRow_size, Nat.add_assoc, Nat.reduceAdd])
    refine quiet_load rfl rfl rfl B1 Try.ar28 hl ?_
    (try simp only [Act.put, List.setIfInBounds_toArray, List.set_cons_zero, List.set_cons_succ, World.size_alloc, setRow_size, Nat.add_assoc, Nat.reduceAdd])
    refine quiet_call 35 rfl rfl Try.func35 (by kernel_rfl) (by kernel_rfl) (fun W _ => form_c xs hl hb W) ?_
    (try simp only [Act.put, List.setIfInBounds_toArray, List.set_cons_zero, List.set_cons_succ, World.size_alloc, setRow_size, Nat.add_assoc, Nat.reduceAdd])
    refine quiet_call 35 rfl rfl Try.func35 (by kernel_rfl) (by kernel_rfl) (fun W _ => form_c _ (numOf_len _) lt32 W) ?_
    (try simp only [Act.put, List.setIfInBounds_toArray, List.set_cons_zero, List.set_cons_succ, World.size_alloc, setRow_size, Nat.add_assoc, Nat.reduceAdd])
    refine quiet_load rfl rfl rfl B1 Try.ar28 hl ?_
    (try simp only [Act.put, List.setIfInBounds_toArray, List.set_cons_zero, List.set_cons_succ, World.size_alloc, setRow_size, Nat.add_assoc, Nat.reduceAdd])
    refine quiet_call 35 rfl rfl Try.func35 (by kernel_rfl) (by kernel_rfl) (fun W _ => form_c xs hl hb W) ?_
    (try simp only [Act.put, List.setIfInBounds_toArray, List.set_cons_zero, List.set_cons_succ, World.size_alloc, setRow_size, Nat.add_assoc, Nat.reduceAdd])
    refine quiet_eql rfl rfl rfl rfl Try.eg28 (numSame _ _ (numOf_len _) Hff.out) ?_
    (try simp only [Act.put, List.setIfInBounds_toArray, List.set_cons_zero, List.set_cons_succ, World.size_alloc, setRow_size, Nat.add_assoc, Nat.reduceAdd])
    refine quiet_pickt (by rfl) (by rfl) (by rfl) (by rfl) (by rfl) ?_
    (try simp only [Act.put, List.setIfInBounds_toArray, List.set_cons_zero, List.set_cons_succ, World.size_alloc, setRow_size, Nat.add_assoc, Nat.reduceAdd])
    refine quiet_move rfl rfl rfl ?_
    (try simp only [Act.put, List.setIfInBounds_toArray, List.set_cons_zero, List.set_cons_succ, World.size_alloc, setRow_size, Nat.add_assoc, Nat.reduceAdd])
    refine quiet_load rfl rfl rfl B1 Try.ar28 hl ?_
    (try simp only [Act.put, List.setIfInBounds_toArray, List.set_cons_zero, List.set_cons_succ, World.size_alloc, setRow_size, Nat.add_assoc, Nat.reduceAdd])
    refine quiet_run (v := .agg (ints .u32 (zeros 5))) rfl (fun W => by kernel_rfl) ?_
    (try simp only [Act.put, List.setIfInBounds_toArray, List.set_cons_zero, List.set_cons_succ, World.size_alloc, setRow_size, Nat.add_assoc, Nat.reduceAdd])
    refine quiet_call 32 rfl rfl Try.func32 (by kernel_rfl) (by kernel_rfl) (fun W _ => plus_c xs (zeros 5) hl hb rfl (by simp [zeros]) W) ?_
    (try simp only [Act.put, List.setIfInBounds_toArray, List.set_cons_zero, List.set_cons_succ, World.size_alloc, setRow_size, Nat.add_assoc, Nat.reduceAdd])
    refine quiet_load rfl rfl rfl B1 Try.ar28 hl ?_
    (try simp only [Act.put, List.setIfInBounds_toArray, List.set_cons_zero, List.set_cons_succ, World.size_alloc, setRow_size, Nat.add_assoc, Nat.reduceAdd])
    refine quiet_call 35 rfl rfl Try.func35 (by kernel_rfl) (by kernel_rfl) (fun W _ => form_c xs hl hb W) ?_
    (try simp only [Act.put, List.setIfInBounds_toArray, List.set_cons_zero, List.set_cons_succ, World.size_alloc, setRow_size, Nat.add_assoc, Nat.reduceAdd])
    refine quiet_eql rfl rfl rfl rfl Try.eg28 (numSame _ _ (numOf_len _) Hfz.out) ?_
    (try simp only [Act.put, List.setIfInBounds_toArray, List.set_cons_zero, List.set_cons_succ, World.size_alloc, setRow_size, Nat.add_assoc, Nat.reduceAdd])
    refine quiet_pickt (by rfl) (by rfl) (by rfl) (by rfl) (by rfl) ?_
    (try simp only [Act.put, List.setIfInBounds_toArray, List.set_cons_zero, List.set_cons_succ, World.size_alloc, setRow_size, Nat.add_assoc, Nat.reduceAdd])
    refine quiet_move rfl rfl rfl ?_
    (try simp only [Act.put, List.setIfInBounds_toArray, List.set_cons_zero, List.set_cons_succ, World.size_alloc, setRow_size, Nat.add_assoc, Nat.reduceAdd])
    refine quiet_call 34 rfl rfl Try.func34 (by kernel_rfl) (by kernel_rfl) (fun W _ => awake7_c W) ?_
    (try simp only [Act.put, List.setIfInBounds_toArray, List.set_cons_zero, List.set_cons_succ, World.size_alloc, setRow_size, Nat.add_assoc, Nat.reduceAdd])
    refine quiet_pickt (by rfl) (by rfl) (by rfl) (by rfl) (by rfl) ?_
    (try simp only [Act.put, List.setIfInBounds_toArray, List.set_cons_zero, List.set_cons_succ, World.size_alloc, setRow_size, Nat.add_assoc, Nat.reduceAdd])
    refine quiet_assign rfl rfl rfl ?_
    (try simp only [Act.put, List.setIfInBounds_toArray, List.set_cons_zero, List.set_cons_succ, World.size_alloc, setRow_size, Nat.add_assoc, Nat.reduceAdd])
    refine wpQuiet_nil ?_
    intro w' hw'
    go_wp2
    go_ret
    exact ⟨rfl, bCall hbel hw' hbel.size⟩
end Go.Proofs.Ytoijnilbcmdmeaa
