/- The walk of RingApart. No condition but that bytes are below 256. -/
import Derived.Test.YtehhipanbjhffaaL10a
namespace Go.Proofs.Ytehhipanbjhffaa
set_option linter.unusedSimpArgs false
set_option linter.unusedVariables false
set_option linter.unusedSectionVars false
set_option linter.unusedVariables false
open Go.RowKit
open Gf (W2 up down upN downN mulS mul dot dotS R1 D1)
theorem zeros16_c : ints .u8 (zeros 16) = #[.int .u8 0, .int .u8 0, .int .u8 0, .int .u8 0, .int .u8 0, .int .u8 0, .int .u8 0, .int .u8 0, .int .u8 0, .int .u8 0, .int .u8 0, .int .u8 0, .int .u8 0, .int .u8 0, .int .u8 0, .int .u8 0] := by kernel_rfl
theorem beq_iff {a b c d : List Nat} (h : a = b ↔ c = d) : (a == b) = (c == d) := by
  rw [Bool.eq_iff_iff, beq_iff_eq, beq_iff_eq]; exact h
theorem num_inj {xs ys : List Nat} (hl : xs.length = 16) (hb : ∀ x ∈ xs, x < 256) (hl' : ys.length = 16) (hb' : ∀ x ∈ ys, x < 256) (h : num xs = num ys) : xs = ys := by
  rw [← elem_num hl hb, ← elem_num hl' hb', h]
set_option maxRecDepth 100000 in
set_option maxHeartbeats 8000000 in
theorem ringApart_c (xs ys zs : List Nat) (hl : xs.length = 16) (hb : ∀ x ∈ xs, x < 2 ^ 8) (hl' : ys.length = 16) (hb' : ∀ x ∈ ys, x < 2 ^ 8) (hl3 : zs.length = 16) (hb3 : ∀ x ∈ zs, x < 2 ^ 8) (w : World) :
    Calls Try.prog 6 #[.agg (ints .u8 xs), .agg (ints .u8 ys), .agg (ints .u8 zs)] w fun e w' => e = .returned (.bool true) ∧ Below w.heap.size w w' := by
  have hx := num_lt hl hb
  have hy := num_lt hl' hb'
  have hz := num_lt hl3 hb3
  have B1 := ((Blk.new w 22 (ints .u8 xs)).alloc (.cells (ints .u8 ys) 22)).alloc (.cells (ints .u8 zs) 22)
  have B2 := (Blk.new (w.alloc (.cells (ints .u8 xs) 22)) 22 (ints .u8 ys)).alloc (.cells (ints .u8 zs) 22)
  have B3 := Blk.new ((w.alloc (.cells (ints .u8 xs) 22)).alloc (.cells (ints .u8 ys) 22)) 22 (ints .u8 zs)
  rw [World.size_alloc] at B2
  rw [World.size_alloc, World.size_alloc] at B3
  have hbel := (((Below.refl w.heap.size w).alloc (Nat.le_refl _) (.cells (ints .u8 xs) 22)).alloc (by simp) (.cells (ints .u8 ys) 22)).alloc (by simp; omega) (.cells (ints .u8 zs) 22)
  simp only [Nat.add_assoc, Nat.reduceAdd] at B1 B2 B3
  have hq0 := fun W => eq16 zs (zeros 16) hl3 rfl W
  rw [zeros16_c] at hq0
  by_cases hc : zs = zeros 16
  · have hn0 : num zs = 0 := by rw [hc]; exact num_zero
    have e0 : elem 0 = zeros 16 := by decide
    have F1 := Lib.hid (show elem (mul R1 (num xs) (num zs)) = zs by
      rw [hn0, show mul R1 (num xs) 0 = 0 from (Gf.mul_lin_r R1 (num xs)).zero, e0, hc])
    have F2 := Lib.hid (show elem (dot R1 D1 (num ys) (num zs)) = zs by
      unfold dot
      rw [hn0, show mul R1 (num ys) 0 = 0 from (Gf.mul_lin_r R1 (num ys)).zero, (Gf.downN_lin D1 128).zero, e0, hc])
    rw [beq_iff_eq.2 hc] at hq0
    clear hc hn0 e0
    go_enter Try.func6, Try.ntmps6
    go_wp2_with (refine wpList_load_ints rfl 22 _ rfl (w.heap.size + 2) rfl B3 Try.ar22 hl3 ?_; (try simp only [Act.put, List.setIfInBounds_toArray, List.set_cons_zero, List.set_cons_succ, World.size_alloc, setRow_size, Nat.add_assoc, Nat.reduceAdd]))
    generalize (((w.alloc (.cells (ints .u8 xs) 22)).alloc (.cells (ints .u8 ys) 22)).alloc (.cells (ints .u8 zs) 22)) = w0 at *
    refine wp_region_below (by kernel_rfl) (by kernel_rfl) ?_
    refine quiet_load rfl rfl rfl B1 Try.ar22 hl ?_
    (try simp only [Act.put, List.setIfInBounds_toArray, List.set_cons_zero, List.set_cons_succ, World.size_alloc, setRow_size, Nat.add_assoc, Nat.reduceAdd])
    refine quiet_load rfl rfl rfl B3 Try.ar22 hl3 ?_
    (try simp only [Act.put, List.setIfInBounds_toArray, List.set_cons_zero, List.set_cons_succ, World.size_alloc, setRow_size, Nat.add_assoc, Nat.reduceAdd])
    refine quiet_call 12 rfl rfl Try.func12 (by kernel_rfl) (by kernel_rfl) (fun W hQ => times10_c xs zs hl hb hl3 hb3 W) ?_
    (try simp only [Act.put, List.setIfInBounds_toArray, List.set_cons_zero, List.set_cons_succ, World.size_alloc, setRow_size, Nat.add_assoc, Nat.reduceAdd])
    refine quiet_load rfl rfl rfl B3 Try.ar22 hl3 ?_
    (try simp only [Act.put, List.setIfInBounds_toArray, List.set_cons_zero, List.set_cons_succ, World.size_alloc, setRow_size, Nat.add_assoc, Nat.reduceAdd])
    refine quiet_eql rfl rfl rfl rfl Try.eg22 (same16 _ _ (elem_len _) F1.out) ?_
    (try simp only [Act.put, List.setIfInBounds_toArray, List.set_cons_zero, List.set_cons_succ, World.size_alloc, setRow_size, Nat.add_assoc, Nat.reduceAdd])
    refine quiet_move rfl rfl rfl ?_
    (try simp only [Act.put, List.setIfInBounds_toArray, List.set_cons_zero, List.set_cons_succ, World.size_alloc, setRow_size, Nat.add_assoc, Nat.reduceAdd])
    refine quiet_load rfl rfl rfl B2 Try.ar22 hl' ?_
    (try simp only [Act.put, List.setIfInBounds_toArray, List.set_cons_zero, List.set_cons_succ, World.size_alloc, setRow_size, Nat.add_assoc, Nat.reduceAdd])
    refine quiet_load rfl rfl rfl B3 Try.ar22 hl3 ?_
    (try simp only [Act.put, List.setIfInBounds_toArray, List.set_cons_zero, List.set_cons_succ, World.size_alloc, setRow_size, Nat.add_assoc, Nat.reduceAdd])
    refine quiet_call 14 rfl rfl Try.func14 (by kernel_rfl) (by kernel_rfl) (fun W hQ => dot10_c ys zs hl' hb' hl3 hb3 W) ?_
    (try simp only [Act.put, List.setIfInBounds_toArray, List.set_cons_zero, List.set_cons_succ, World.size_alloc, setRow_size, Nat.add_assoc, Nat.reduceAdd])
    refine quiet_load rfl rfl rfl B3 Try.ar22 hl3 ?_
    (try simp only [Act.put, List.setIfInBounds_toArray, List.set_cons_zero, List.set_cons_succ, World.size_alloc, setRow_size, Nat.add_assoc, Nat.reduceAdd])
    refine quiet_eql rfl rfl rfl rfl Try.eg22 (same16 _ _ (elem_len _) F2.out) ?_
    (try simp only [Act.put, List.setIfInBounds_toArray, List.set_cons_zero, List.set_cons_succ, World.size_alloc, setRow_size, Nat.add_assoc, Nat.reduceAdd])
    refine quiet_pickt (by rfl) (by rfl) (by rfl) (by rfl) (by rfl) ?_
    (try simp only [Act.put, List.setIfInBounds_toArray, List.set_cons_zero, List.set_cons_succ, World.size_alloc, setRow_size, Nat.add_assoc, Nat.reduceAdd])
    refine quiet_move rfl rfl rfl ?_
    (try simp only [Act.put, List.setIfInBounds_toArray, List.set_cons_zero, List.set_cons_succ, World.size_alloc, setRow_size, Nat.add_assoc, Nat.reduceAdd])
    refine quiet_call 16 rfl rfl Try.func16 (by kernel_rfl) (by kernel_rfl) (fun W hQ => awake10_c W) ?_
    (try simp only [Act.put, List.setIfInBounds_toArray, List.set_cons_zero, List.set_cons_succ, World.size_alloc, setRow_size, Nat.add_assoc, Nat.reduceAdd])
    refine quiet_pickt (by rfl) (by rfl) (by rfl) (by rfl) (by rfl) ?_
    (try simp only [Act.put, List.setIfInBounds_toArray, List.set_cons_zero, List.set_cons_succ, World.size_alloc, setRow_size, Nat.add_assoc, Nat.reduceAdd])
    refine quiet_assign rfl rfl rfl ?_
    (try simp only [Act.put, List.setIfInBounds_toArray, List.set_cons_zero, List.set_cons_succ, World.size_alloc, setRow_size, Nat.add_assoc, Nat.reduceAdd])
    refine wpQuiet_nil ?_
    intro w' hw'
    go_wp2
    go_ret
    exact ⟨rfl, bCall hbel hw' hbel.size⟩
  · have hne : num zs ≠ 0 := fun h => hc (num_inj hl3 hb3 rfl (by decide) (h.trans num_zero.symm))
    rw [beq_eq_false_iff_ne.2 hc] at hq0
    have hmx := Gf.mul_lt Gf.R1_lt hx (num zs)
    have hmy := Gf.mul_lt Gf.R1_lt hy (num zs)
    have hdx := Gf.dot_lt Gf.pair1 hx (num zs)
    have hdy := Gf.dot_lt Gf.pair1 hy (num zs)
    have i1 : (elem (mul R1 (num xs) (num zs)) == elem (mul R1 (num ys) (num zs))) = (xs == ys) := beq_iff ⟨fun h => num_inj hl hb hl' hb' ((Gf.field1 hx hy hz hne).1 (elem_inj hmx hmy h)), fun h => by rw [h]⟩
    have i2 : (elem (dot R1 D1 (num xs) (num zs)) == elem (dot R1 D1 (num ys) (num zs))) = (xs == ys) := beq_iff ⟨fun h => num_inj hl hb hl' hb' ((Gf.fieldDot1 hx hy hz hne).1 (elem_inj hdx hdy h)), fun h => by rw [h]⟩
    obtain ⟨b, hE0, hE1, hE2⟩ : ∃ b, (∀ W, (binOp .eql 22 (.agg (ints .u8 xs)) (.agg (ints .u8 ys))).run Try.prog W = .ok (.bool b) W) ∧ (∀ W, (binOp .eql 22 (.agg (ints .u8 (elem (mul R1 (num xs) (num zs))))) (.agg (ints .u8 (elem (mul R1 (num ys) (num zs)))))).run Try.prog W = .ok (.bool b) W) ∧ (∀ W, (binOp .eql 22 (.agg (ints .u8 (elem (dot R1 D1 (num xs) (num zs))))) (.agg (ints .u8 (elem (dot R1 D1 (num ys) (num zs)))))).run Try.prog W = .ok (.bool b) W) :=
      ⟨xs == ys, fun W => eq16 _ _ hl hl' W, fun W => (eq16 _ _ (elem_len _) (elem_len _) W).trans (by rw [i1]), fun W => (eq16 _ _ (elem_len _) (elem_len _) W).trans (by rw [i2])⟩
    clear i1 i2 hc hne hmx hmy hdx hdy
    have HE1 := Lib.hid hE1
    have HE2 := Lib.hid hE2
    clear hE1 hE2
    cases b
    all_goals
      go_enter Try.func6, Try.ntmps6
      go_wp2_with (first | (refine wpList_load_ints rfl 22 _ rfl (w.heap.size + 2) rfl B3 Try.ar22 hl3 ?_; (try simp only [Act.put, List.setIfInBounds_toArray, List.set_cons_zero, List.set_cons_succ, World.size_alloc, setRow_size, Nat.add_assoc, Nat.reduceAdd])) | (refine wpList_load_ints rfl 22 _ rfl w.heap.size rfl B1 Try.ar22 hl ?_; (try simp only [Act.put, List.setIfInBounds_toArray, List.set_cons_zero, List.set_cons_succ, World.size_alloc, setRow_size, Nat.add_assoc, Nat.reduceAdd])) | (refine wpList_load_ints rfl 22 _ rfl (w.heap.size + 1) rfl B2 Try.ar22 hl' ?_; (try simp only [Act.put, List.setIfInBounds_toArray, List.set_cons_zero, List.set_cons_succ, World.size_alloc, setRow_size, Nat.add_assoc, Nat.reduceAdd])))
      generalize (((w.alloc (.cells (ints .u8 xs) 22)).alloc (.cells (ints .u8 ys) 22)).alloc (.cells (ints .u8 zs) 22)) = w0 at *
      refine wp_region_below (by kernel_rfl) (by kernel_rfl) ?_
      refine quiet_load rfl rfl rfl B1 Try.ar22 hl ?_
      (try simp only [Act.put, List.setIfInBounds_toArray, List.set_cons_zero, List.set_cons_succ, World.size_alloc, setRow_size, Nat.add_assoc, Nat.reduceAdd])
      refine quiet_load rfl rfl rfl B3 Try.ar22 hl3 ?_
      (try simp only [Act.put, List.setIfInBounds_toArray, List.set_cons_zero, List.set_cons_succ, World.size_alloc, setRow_size, Nat.add_assoc, Nat.reduceAdd])
      refine quiet_call 12 rfl rfl Try.func12 (by kernel_rfl) (by kernel_rfl) (fun W hQ => times10_c xs zs hl hb hl3 hb3 W) ?_
      (try simp only [Act.put, List.setIfInBounds_toArray, List.set_cons_zero, List.set_cons_succ, World.size_alloc, setRow_size, Nat.add_assoc, Nat.reduceAdd])
      refine quiet_load rfl rfl rfl B2 Try.ar22 hl' ?_
      (try simp only [Act.put, List.setIfInBounds_toArray, List.set_cons_zero, List.set_cons_succ, World.size_alloc, setRow_size, Nat.add_assoc, Nat.reduceAdd])
      refine quiet_load rfl rfl rfl B3 Try.ar22 hl3 ?_
      (try simp only [Act.put, List.setIfInBounds_toArray, List.set_cons_zero, List.set_cons_succ, World.size_alloc, setRow_size, Nat.add_assoc, Nat.reduceAdd])
      refine quiet_call 12 rfl rfl Try.func12 (by kernel_rfl) (by kernel_rfl) (fun W hQ => times10_c ys zs hl' hb' hl3 hb3 W) ?_
      (try simp only [Act.put, List.setIfInBounds_toArray, List.set_cons_zero, List.set_cons_succ, World.size_alloc, setRow_size, Nat.add_assoc, Nat.reduceAdd])
      refine quiet_eql rfl rfl rfl rfl Try.eg22 HE1.out ?_
      (try simp only [Act.put, List.setIfInBounds_toArray, List.set_cons_zero, List.set_cons_succ, World.size_alloc, setRow_size, Nat.add_assoc, Nat.reduceAdd])
      refine quiet_move rfl rfl rfl ?_
      (try simp only [Act.put, List.setIfInBounds_toArray, List.set_cons_zero, List.set_cons_succ, World.size_alloc, setRow_size, Nat.add_assoc, Nat.reduceAdd])
      refine quiet_eqlBool rfl rfl rfl rfl Try.underlying4 ?_
      (try simp only [Act.put, List.setIfInBounds_toArray, List.set_cons_zero, List.set_cons_succ, World.size_alloc, setRow_size, Nat.add_assoc, Nat.reduceAdd])
      refine quiet_move rfl rfl rfl ?_
      (try simp only [Act.put, List.setIfInBounds_toArray, List.set_cons_zero, List.set_cons_succ, World.size_alloc, setRow_size, Nat.add_assoc, Nat.reduceAdd])
      refine quiet_load rfl rfl rfl B1 Try.ar22 hl ?_
      (try simp only [Act.put, List.setIfInBounds_toArray, List.set_cons_zero, List.set_cons_succ, World.size_alloc, setRow_size, Nat.add_assoc, Nat.reduceAdd])
      refine quiet_load rfl rfl rfl B3 Try.ar22 hl3 ?_
      (try simp only [Act.put, List.setIfInBounds_toArray, List.set_cons_zero, List.set_cons_succ, World.size_alloc, setRow_size, Nat.add_assoc, Nat.reduceAdd])
      refine quiet_call 14 rfl rfl Try.func14 (by kernel_rfl) (by kernel_rfl) (fun W hQ => dot10_c xs zs hl hb hl3 hb3 W) ?_
      (try simp only [Act.put, List.setIfInBounds_toArray, List.set_cons_zero, List.set_cons_succ, World.size_alloc, setRow_size, Nat.add_assoc, Nat.reduceAdd])
      refine quiet_load rfl rfl rfl B2 Try.ar22 hl' ?_
      (try simp only [Act.put, List.setIfInBounds_toArray, List.set_cons_zero, List.set_cons_succ, World.size_alloc, setRow_size, Nat.add_assoc, Nat.reduceAdd])
      refine quiet_load rfl rfl rfl B3 Try.ar22 hl3 ?_
      (try simp only [Act.put, List.setIfInBounds_toArray, List.set_cons_zero, List.set_cons_succ, World.size_alloc, setRow_size, Nat.add_assoc, Nat.reduceAdd])
      refine quiet_call 14 rfl rfl Try.func14 (by kernel_rfl) (by kernel_rfl) (fun W hQ => dot10_c ys zs hl' hb' hl3 hb3 W) ?_
      (try simp only [Act.put, List.setIfInBounds_toArray, List.set_cons_zero, List.set_cons_succ, World.size_alloc, setRow_size, Nat.add_assoc, Nat.reduceAdd])
      refine quiet_eql rfl rfl rfl rfl Try.eg22 HE2.out ?_
      (try simp only [Act.put, List.setIfInBounds_toArray, List.set_cons_zero, List.set_cons_succ, World.size_alloc, setRow_size, Nat.add_assoc, Nat.reduceAdd])
      refine quiet_move rfl rfl rfl ?_
      (try simp only [Act.put, List.setIfInBounds_toArray, List.set_cons_zero, List.set_cons_succ, World.size_alloc, setRow_size, Nat.add_assoc, Nat.reduceAdd])
      refine quiet_eqlBool rfl rfl rfl rfl Try.underlying4 ?_
      (try simp only [Act.put, List.setIfInBounds_toArray, List.set_cons_zero, List.set_cons_succ, World.size_alloc, setRow_size, Nat.add_assoc, Nat.reduceAdd])
      refine quiet_pickt (by rfl) (by rfl) (by rfl) (by rfl) (by rfl) ?_
      (try simp only [Act.put, List.setIfInBounds_toArray, List.set_cons_zero, List.set_cons_succ, World.size_alloc, setRow_size, Nat.add_assoc, Nat.reduceAdd])
      refine quiet_move rfl rfl rfl ?_
      (try simp only [Act.put, List.setIfInBounds_toArray, List.set_cons_zero, List.set_cons_succ, World.size_alloc, setRow_size, Nat.add_assoc, Nat.reduceAdd])
      refine quiet_call 16 rfl rfl Try.func16 (by kernel_rfl) (by kernel_rfl) (fun W hQ => awake10_c W) ?_
      (try simp only [Act.put, List.setIfInBounds_toArray, List.set_cons_zero, List.set_cons_succ, World.size_alloc, setRow_size, Nat.add_assoc, Nat.reduceAdd])
      refine quiet_pickt (by rfl) (by rfl) (by rfl) (by rfl) (by rfl) ?_
      (try simp only [Act.put, List.setIfInBounds_toArray, List.set_cons_zero, List.set_cons_succ, World.size_alloc, setRow_size, Nat.add_assoc, Nat.reduceAdd])
      refine quiet_assign rfl rfl rfl ?_
      (try simp only [Act.put, List.setIfInBounds_toArray, List.set_cons_zero, List.set_cons_succ, World.size_alloc, setRow_size, Nat.add_assoc, Nat.reduceAdd])
      refine wpQuiet_nil ?_
      intro w' hw'
      go_wp2
      go_ret
      exact ⟨rfl, bCall hbel hw' hbel.size⟩
end Go.Proofs.Ytehhipanbjhffaa
