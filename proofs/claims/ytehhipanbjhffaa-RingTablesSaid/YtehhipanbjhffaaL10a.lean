/- The walks of RingLaws, RingDots and RingApart. No condition but that bytes are below 256. -/
import Derived.Test.YtehhipanbjhffaaW10c
namespace Go.Proofs.Ytehhipanbjhffaa
set_option linter.unusedSimpArgs false
set_option linter.unusedVariables false
set_option linter.unusedSectionVars false
set_option linter.unusedVariables false
open Go.RowKit
open Gf (W2 up down upN downN mulS mul dot dotS R1 D1)
theorem num_xor {xs ys : List Nat} (hl : xs.length = 16) (hb : ∀ x ∈ xs, x < 256) (hl' : ys.length = 16) (hb' : ∀ x ∈ ys, x < 256) : num (xorL xs ys) = num xs ^^^ num ys := by
  have key : ∀ (n : Nat) (f g : Nat → Nat), (∀ i, f i < 256) → (∀ i, g i < 256) → undig 256 ((List.range n).map fun i => f i ^^^ g i) = undig 256 ((List.range n).map f) ^^^ undig 256 ((List.range n).map g) := by
    intro n
    induction n with
    | zero => intro f g _ _; simp [undig]
    | succ n ih =>
      intro f g hf hg
      rw [List.range_succ, List.map_append, List.map_append, List.map_append, undig_append, undig_append, undig_append, ih f g hf hg]
      simp only [List.length_map, List.length_range, List.map_cons, List.map_nil, undig, Nat.mul_zero, Nat.add_zero]
      have l1 : undig 256 ((List.range n).map f) < 256 ^ n := by
        have := undig_lt ((List.range n).map f) (b := 256) (fun x hx => by obtain ⟨i, -, rfl⟩ := List.mem_map.1 hx; exact hf i)
        rw [List.length_map, List.length_range] at this
        exact this
      have l2 : undig 256 ((List.range n).map g) < 256 ^ n := by
        have := undig_lt ((List.range n).map g) (b := 256) (fun x hx => by obtain ⟨i, -, rfl⟩ := List.mem_map.1 hx; exact hg i)
        rw [List.length_map, List.length_range] at this
        exact this
      generalize undig 256 ((List.range n).map f) = u at *
      generalize undig 256 ((List.range n).map g) = v at *
      have e8 : (256 : Nat) ^ n = 2 ^ (8 * n) := by rw [Nat.pow_mul]
      rw [e8] at l1 l2 ⊢
      rw [Nat.mul_comm _ (f n), Nat.mul_comm _ (g n), Nat.mul_comm _ (f n ^^^ g n), ← Gf.xor_add (8 * n) l1, ← Gf.xor_add (8 * n) l2, ← Gf.xor_add (8 * n) (Nat.xor_lt_two_pow l1 l2), Gf.xor4]
      congr 1
      apply Gf.bit_ext; intro j
      rw [Nat.testBit_xor, Nat.testBit_mul_two_pow, Nat.testBit_mul_two_pow, Nat.testBit_mul_two_pow, Nat.testBit_xor]
      cases decide (8 * n ≤ j) <;> simp
  have h := key 16 (fun i => xs.getD i 0) (fun i => ys.getD i 0) (fun i => getD_bound hb (by omega) i) (fun i => getD_bound hb' (by omega) i)
  rw [range_getD' hl, range_getD' hl'] at h
  exact h
theorem elem_xor {m n : Nat} (hm : m < 2 ^ 128) (hn : n < 2 ^ 128) : xorL (elem m) (elem n) = elem (m ^^^ n) := by
  have h := num_xor (elem_len m) (elem_lt m) (elem_len n) (elem_lt n)
  rw [num_elem hm, num_elem hn] at h
  rw [← h, elem_num (xorL_len _ _) (xorL_lt (elem_lt m) (elem_lt n))]
theorem elem_inj {m n : Nat} (hm : m < 2 ^ 128) (hn : n < 2 ^ 128) (h : elem m = elem n) : m = n := by
  rw [← num_elem hm, ← num_elem hn, h]
def one16 : List Nat := [1, 0, 0, 0, 0, 0, 0, 0, 0, 0, 0, 0, 0, 0, 0, 0]
theorem num_one : num one16 = 1 := by kernel_rfl
theorem num_up : num awA = Gf.upN R1 128 1 := by kernel_rfl
theorem num_zero : num (zeros 16) = 0 := by kernel_rfl
set_option maxRecDepth 100000 in
set_option maxHeartbeats 8000000 in
theorem ringLaws_c (xs ys zs : List Nat) (hl : xs.length = 16) (hb : ∀ x ∈ xs, x < 2 ^ 8) (hl' : ys.length = 16) (hb' : ∀ x ∈ ys, x < 2 ^ 8) (hl3 : zs.length = 16) (hb3 : ∀ x ∈ zs, x < 2 ^ 8) (w : World) :
    Calls Try.prog 4 #[.agg (ints .u8 xs), .agg (ints .u8 ys), .agg (ints .u8 zs)] w fun e w' => e = .returned (.bool true) ∧ Below w.heap.size w w' := by
  have hx := num_lt hl hb
  have hy := num_lt hl' hb'
  have hz := num_lt hl3 hb3
  have hxy := Gf.mul_lt Gf.R1_lt hx (num ys)
  have hyz := Gf.mul_lt Gf.R1_lt hy (num zs)
  have hxz := Gf.mul_lt Gf.R1_lt hx (num zs)
  have E1 := Lib.hid (show elem (mul R1 (num xs) (num ys)) = elem (mul R1 (num ys) (num xs)) by rw [Gf.mul_comm R1 hx hy])
  have E2 := Lib.hid (show elem (mul R1 (num (elem (mul R1 (num xs) (num ys)))) (num zs)) = elem (mul R1 (num xs) (num (elem (mul R1 (num ys) (num zs))))) by rw [num_elem hxy, num_elem hyz, Gf.mul_assoc R1 Gf.R1_lt hx hy hz])
  have E3 := Lib.hid (show elem (mul R1 (num (xorL xs ys)) (num zs)) = xorL (elem (mul R1 (num xs) (num zs))) (elem (mul R1 (num ys) (num zs))) by rw [elem_xor hxz hyz, num_xor hl hb hl' hb', show mul R1 (num xs ^^^ num ys) (num zs) = _ from Gf.mul_lin_l R1 (num zs) (num xs) (num ys)])
  have E4 := Lib.hid (show elem (mul R1 (num xs) (num one16)) = xs by rw [num_one, Gf.mul_one, elem_num hl hb])
  have B1 := ((Blk.new w 22 (ints .u8 xs)).alloc (.cells (ints .u8 ys) 22)).alloc (.cells (ints .u8 zs) 22)
  have B2 := (Blk.new (w.alloc (.cells (ints .u8 xs) 22)) 22 (ints .u8 ys)).alloc (.cells (ints .u8 zs) 22)
  have B3 := Blk.new ((w.alloc (.cells (ints .u8 xs) 22)).alloc (.cells (ints .u8 ys) 22)) 22 (ints .u8 zs)
  rw [World.size_alloc] at B2
  rw [World.size_alloc, World.size_alloc] at B3
  have hbel := (((Below.refl w.heap.size w).alloc (Nat.le_refl _) (.cells (ints .u8 xs) 22)).alloc (by simp) (.cells (ints .u8 ys) 22)).alloc (by simp; omega) (.cells (ints .u8 zs) 22)
  simp only [Nat.add_assoc, Nat.reduceAdd] at B1 B2 B3
  go_enter Try.func4, Try.ntmps4
  go_wp2
  generalize (((w.alloc (.cells (ints .u8 xs) 22)).alloc (.cells (ints .u8 ys) 22)).alloc (.cells (ints .u8 zs) 22)) = w0 at *
  refine wp_region_below (by kernel_rfl) (by kernel_rfl) ?_
  refine quiet_load rfl rfl rfl B1 Try.ar22 hl ?_
  (try simp only [Act.put, List.setIfInBounds_toArray, List.set_cons_zero, List.set_cons_succ, World.size_alloc, setRow_size, Nat.add_assoc, Nat.reduceAdd])
  refine quiet_load rfl rfl rfl B2 Try.ar22 hl' ?_
  (try simp only [Act.put, List.setIfInBounds_toArray, List.set_cons_zero, List.set_cons_succ, World.size_alloc, setRow_size, Nat.add_assoc, Nat.reduceAdd])
  refine quiet_call 12 rfl rfl Try.func12 (by kernel_rfl) (by kernel_rfl) (fun W hQ => times10_c xs ys hl hb hl' hb' W) ?_
  (try simp only [Act.put, List.setIfInBounds_toArray, List.set_cons_zero, List.set_cons_succ, World.size_alloc, setRow_size, Nat.add_assoc, Nat.reduceAdd])
  refine quiet_load rfl rfl rfl B2 Try.ar22 hl' ?_
  (try simp only [Act.put, List.setIfInBounds_toArray, List.set_cons_zero, List.set_cons_succ, World.size_alloc, setRow_size, Nat.add_assoc, Nat.reduceAdd])
  refine quiet_load rfl rfl rfl B1 Try.ar22 hl ?_
  (try simp only [Act.put, List.setIfInBounds_toArray, List.set_cons_zero, List.set_cons_succ, World.size_alloc, setRow_size, Nat.add_assoc, Nat.reduceAdd])
  refine quiet_call 12 rfl rfl Try.func12 (by kernel_rfl) (by kernel_rfl) (fun W hQ => times10_c ys xs hl' hb' hl hb W) ?_
  (try simp only [Act.put, List.setIfInBounds_toArray, List.set_cons_zero, List.set_cons_succ, World.size_alloc, setRow_size, Nat.add_assoc, Nat.reduceAdd])
  refine quiet_neq rfl rfl rfl rfl Try.eg22 (diff16 _ _ (elem_len _) E1.out) ?_
  (try simp only [Act.put, List.setIfInBounds_toArray, List.set_cons_zero, List.set_cons_succ, World.size_alloc, setRow_size, Nat.add_assoc, Nat.reduceAdd])
  refine quiet_move rfl rfl rfl ?_
  (try simp only [Act.put, List.setIfInBounds_toArray, List.set_cons_zero, List.set_cons_succ, World.size_alloc, setRow_size, Nat.add_assoc, Nat.reduceAdd])
  refine quiet_load rfl rfl rfl B1 Try.ar22 hl ?_
  (try simp only [Act.put, List.setIfInBounds_toArray, List.set_cons_zero, List.set_cons_succ, World.size_alloc, setRow_size, Nat.add_assoc, Nat.reduceAdd])
  refine quiet_load rfl rfl rfl B2 Try.ar22 hl' ?_
  (try simp only [Act.put, List.setIfInBounds_toArray, List.set_cons_zero, List.set_cons_succ, World.size_alloc, setRow_size, Nat.add_assoc, Nat.reduceAdd])
  refine quiet_call 12 rfl rfl Try.func12 (by kernel_rfl) (by kernel_rfl) (fun W hQ => times10_c xs ys hl hb hl' hb' W) ?_
  (try simp only [Act.put, List.setIfInBounds_toArray, List.set_cons_zero, List.set_cons_succ, World.size_alloc, setRow_size, Nat.add_assoc, Nat.reduceAdd])
  refine quiet_load rfl rfl rfl B3 Try.ar22 hl3 ?_
  (try simp only [Act.put, List.setIfInBounds_toArray, List.set_cons_zero, List.set_cons_succ, World.size_alloc, setRow_size, Nat.add_assoc, Nat.reduceAdd])
  refine quiet_call 12 rfl rfl Try.func12 (by kernel_rfl) (by kernel_rfl) (fun W hQ => times10_c _ zs (elem_len _) (elem_lt _) hl3 hb3 W) ?_
  (try simp only [Act.put, List.setIfInBounds_toArray, List.set_cons_zero, List.set_cons_succ, World.size_alloc, setRow_size, Nat.add_assoc, Nat.reduceAdd])
  refine quiet_load rfl rfl rfl B1 Try.ar22 hl ?_
  (try simp only [Act.put, List.setIfInBounds_toArray, List.set_cons_zero, List.set_cons_succ, World.size_alloc, setRow_size, Nat.add_assoc, Nat.reduceAdd])
  refine quiet_load rfl rfl rfl B2 Try.ar22 hl' ?_
  (try simp only [Act.put, List.setIfInBounds_toArray, List.set_cons_zero, List.set_cons_succ, World.size_alloc, setRow_size, Nat.add_assoc, Nat.reduceAdd])
  refine quiet_load rfl rfl rfl B3 Try.ar22 hl3 ?_
  (try simp only [Act.put, List.setIfInBounds_toArray, List.set_cons_zero, List.set_cons_succ, World.size_alloc, setRow_size, Nat.add_assoc, Nat.reduceAdd])
  refine quiet_call 12 rfl rfl Try.func12 (by kernel_rfl) (by kernel_rfl) (fun W hQ => times10_c ys zs hl' hb' hl3 hb3 W) ?_
  (try simp only [Act.put, List.setIfInBounds_toArray, List.set_cons_zero, List.set_cons_succ, World.size_alloc, setRow_size, Nat.add_assoc, Nat.reduceAdd])
  refine quiet_call 12 rfl rfl Try.func12 (by kernel_rfl) (by kernel_rfl) (fun W hQ => times10_c xs _ hl hb (elem_len _) (elem_lt _) W) ?_
  (try simp only [Act.put, List.setIfInBounds_toArray, List.set_cons_zero, List.set_cons_succ, World.size_alloc, setRow_size, Nat.add_assoc, Nat.reduceAdd])
  refine quiet_neq rfl rfl rfl rfl Try.eg22 (diff16 _ _ (elem_len _) E2.out) ?_
  (try simp only [Act.put, List.setIfInBounds_toArray, List.set_cons_zero, List.set_cons_succ, World.size_alloc, setRow_size, Nat.add_assoc, Nat.reduceAdd])
  refine quiet_pickf (by rfl) (by rfl) (by rfl) (by rfl) (by rfl) ?_
  (try simp only [Act.put, List.setIfInBounds_toArray, List.set_cons_zero, List.set_cons_succ, World.size_alloc, setRow_size, Nat.add_assoc, Nat.reduceAdd])
  refine wpQuiet_nil ?_
  intro w' hw'
  have C1 := B1.below' hw'
  have C2 := B2.below' hw'
  have C3 := B3.below' hw'
  have hbel1 := bCall hbel hw' hbel.size
  clear B1 B2 B3 hw'
  generalize w' = w1 at *
  go_wp2
  refine wp_region_below (by kernel_rfl) (by kernel_rfl) ?_
  refine quiet_load rfl rfl rfl C1 Try.ar22 hl ?_
  (try simp only [Act.put, List.setIfInBounds_toArray, List.set_cons_zero, List.set_cons_succ, World.size_alloc, setRow_size, Nat.add_assoc, Nat.reduceAdd])
  refine quiet_load rfl rfl rfl C2 Try.ar22 hl' ?_
  (try simp only [Act.put, List.setIfInBounds_toArray, List.set_cons_zero, List.set_cons_succ, World.size_alloc, setRow_size, Nat.add_assoc, Nat.reduceAdd])
  refine quiet_call 17 rfl rfl Try.func17 (by kernel_rfl) (by kernel_rfl) (fun W hQ => plus16_c xs ys hl hb hl' hb' W) ?_
  (try simp only [Act.put, List.setIfInBounds_toArray, List.set_cons_zero, List.set_cons_succ, World.size_alloc, setRow_size, Nat.add_assoc, Nat.reduceAdd])
  refine quiet_load rfl rfl rfl C3 Try.ar22 hl3 ?_
  (try simp only [Act.put, List.setIfInBounds_toArray, List.set_cons_zero, List.set_cons_succ, World.size_alloc, setRow_size, Nat.add_assoc, Nat.reduceAdd])
  refine quiet_call 12 rfl rfl Try.func12 (by kernel_rfl) (by kernel_rfl) (fun W hQ => times10_c _ zs (xorL_len _ _) (xorL_lt hb hb') hl3 hb3 W) ?_
  (try simp only [Act.put, List.setIfInBounds_toArray, List.set_cons_zero, List.set_cons_succ, World.size_alloc, setRow_size, Nat.add_assoc, Nat.reduceAdd])
  refine quiet_load rfl rfl rfl C1 Try.ar22 hl ?_
  (try simp only [Act.put, List.setIfInBounds_toArray, List.set_cons_zero, List.set_cons_succ, World.size_alloc, setRow_size, Nat.add_assoc, Nat.reduceAdd])
  refine quiet_load rfl rfl rfl C3 Try.ar22 hl3 ?_
  (try simp only [Act.put, List.setIfInBounds_toArray, List.set_cons_zero, List.set_cons_succ, World.size_alloc, setRow_size, Nat.add_assoc, Nat.reduceAdd])
  refine quiet_call 12 rfl rfl Try.func12 (by kernel_rfl) (by kernel_rfl) (fun W hQ => times10_c xs zs hl hb hl3 hb3 W) ?_
  (try simp only [Act.put, List.setIfInBounds_toArray, List.set_cons_zero, List.set_cons_succ, World.size_alloc, setRow_size, Nat.add_assoc, Nat.reduceAdd])
  refine quiet_load rfl rfl rfl C2 Try.ar22 hl' ?_
  (try simp only [Act.put, List.setIfInBounds_toArray, List.set_cons_zero, List.set_cons_succ, World.size_alloc, setRow_size, Nat.add_assoc, Nat.reduceAdd])
  refine quiet_load rfl rfl rfl C3 Try.ar22 hl3 ?_
  (try simp only [Act.put, List.setIfInBounds_toArray, List.set_cons_zero, List.set_cons_succ, World.size_alloc, setRow_size, Nat.add_assoc, Nat.reduceAdd])
  refine quiet_call 12 rfl rfl Try.func12 (by kernel_rfl) (by kernel_rfl) (fun W hQ => times10_c ys zs hl' hb' hl3 hb3 W) ?_
  (try simp only [Act.put, List.setIfInBounds_toArray, List.set_cons_zero, List.set_cons_succ, World.size_alloc, setRow_size, Nat.add_assoc, Nat.reduceAdd])
  refine quiet_call 17 rfl rfl Try.func17 (by kernel_rfl) (by kernel_rfl) (fun W hQ => plus16_c _ _ (elem_len _) (elem_lt _) (elem_len _) (elem_lt _) W) ?_
  (try simp only [Act.put, List.setIfInBounds_toArray, List.set_cons_zero, List.set_cons_succ, World.size_alloc, setRow_size, Nat.add_assoc, Nat.reduceAdd])
  refine quiet_eql rfl rfl rfl rfl Try.eg22 (same16 _ _ (elem_len _) E3.out) ?_
  (try simp only [Act.put, List.setIfInBounds_toArray, List.set_cons_zero, List.set_cons_succ, World.size_alloc, setRow_size, Nat.add_assoc, Nat.reduceAdd])
  refine quiet_move rfl rfl rfl ?_
  (try simp only [Act.put, List.setIfInBounds_toArray, List.set_cons_zero, List.set_cons_succ, World.size_alloc, setRow_size, Nat.add_assoc, Nat.reduceAdd])
  refine quiet_load rfl rfl rfl C1 Try.ar22 hl ?_
  (try simp only [Act.put, List.setIfInBounds_toArray, List.set_cons_zero, List.set_cons_succ, World.size_alloc, setRow_size, Nat.add_assoc, Nat.reduceAdd])
  refine quiet_run (v := .agg (ints .u8 one16)) rfl (fun W => by kernel_rfl) ?_
  (try simp only [Act.put, List.setIfInBounds_toArray, List.set_cons_zero, List.set_cons_succ, World.size_alloc, setRow_size, Nat.add_assoc, Nat.reduceAdd])
  refine quiet_call 12 rfl rfl Try.func12 (by kernel_rfl) (by kernel_rfl) (fun W hQ => times10_c xs one16 hl hb rfl (by decide) W) ?_
  (try simp only [Act.put, List.setIfInBounds_toArray, List.set_cons_zero, List.set_cons_succ, World.size_alloc, setRow_size, Nat.add_assoc, Nat.reduceAdd])
  refine quiet_load rfl rfl rfl C1 Try.ar22 hl ?_
  (try simp only [Act.put, List.setIfInBounds_toArray, List.set_cons_zero, List.set_cons_succ, World.size_alloc, setRow_size, Nat.add_assoc, Nat.reduceAdd])
  refine quiet_eql rfl rfl rfl rfl Try.eg22 (same16 _ _ (elem_len _) E4.out) ?_
  (try simp only [Act.put, List.setIfInBounds_toArray, List.set_cons_zero, List.set_cons_succ, World.size_alloc, setRow_size, Nat.add_assoc, Nat.reduceAdd])
  refine quiet_pickt (by rfl) (by rfl) (by rfl) (by rfl) (by rfl) ?_
  (try simp only [Act.put, List.setIfInBounds_toArray, List.set_cons_zero, List.set_cons_succ, World.size_alloc, setRow_size, Nat.add_assoc, Nat.reduceAdd])
  refine quiet_move rfl rfl rfl ?_
  (try simp only [Act.put, List.setIfInBounds_toArray, List.set_cons_zero, List.set_cons_succ, World.size_alloc, setRow_size, Nat.add_assoc, Nat.reduceAdd])
  refine quiet_call 16 rfl rfl Try.func16 (by kernel_rfl) (by kernel_rfl) (fun W hQ => awake10_c W) ?_
  (try simp only [Act.put, List.setIfInBounds_toArray, List.set_cons_zero, List.set_cons_succ, World.size_alloc, setRow_size, Nat.add_assoc, Nat.reduceAdd])
  refine quiet_pickt (by rfl) (by rfl) (by rfl) (by rfl) (by rfl) ?_
  (try simp only [Act.put, List.setIfInBounds_toArray, List.set_cons_zero, List.set_cons_succ, World.size_alloc, setRow_size, Nat.add_assoc, Nat.reduceAdd])
  refine quiet_assign rfl rfl rfl ?_
  (try simp only [Act.put, List.setIfInBounds_toArray, List.set_cons_zero, List.set_cons_succ, World.size_alloc, setRow_size, Nat.add_assoc, Nat.reduceAdd])
  refine wpQuiet_nil ?_
  intro w' hw'
  go_wp2
  go_ret
  exact ⟨rfl, bCall hbel1 hw' hbel1.size⟩
set_option maxRecDepth 100000 in
set_option maxHeartbeats 8000000 in
theorem ringDots_c (xs ys zs : List Nat) (hl : xs.length = 16) (hb : ∀ x ∈ xs, x < 2 ^ 8) (hl' : ys.length = 16) (hb' : ∀ x ∈ ys, x < 2 ^ 8) (hl3 : zs.length = 16) (hb3 : ∀ x ∈ zs, x < 2 ^ 8) (w : World) :
    Calls Try.prog 5 #[.agg (ints .u8 xs), .agg (ints .u8 ys), .agg (ints .u8 zs)] w fun e w' => e = .returned (.bool true) ∧ Below w.heap.size w w' := by
  have hx := num_lt hl hb
  have hy := num_lt hl' hb'
  have hz := num_lt hl3 hb3
  have hxy := Gf.dot_lt Gf.pair1 hx (num ys)
  have hyz := Gf.dot_lt Gf.pair1 hy (num zs)
  have hxz := Gf.dot_lt Gf.pair1 hx (num zs)
  have E1 := Lib.hid (show elem (dot R1 D1 (num xs) (num ys)) = elem (dot R1 D1 (num ys) (num xs)) by rw [Gf.dot_comm hx hy])
  have E2 := Lib.hid (show elem (dot R1 D1 (num (elem (dot R1 D1 (num xs) (num ys)))) (num zs)) = elem (dot R1 D1 (num xs) (num (elem (dot R1 D1 (num ys) (num zs))))) by rw [num_elem hxy, num_elem hyz, Gf.dot_assoc Gf.pair1 hx hy hz])
  have E3 := Lib.hid (show elem (dot R1 D1 (num (xorL xs ys)) (num zs)) = xorL (elem (dot R1 D1 (num xs) (num zs))) (elem (dot R1 D1 (num ys) (num zs))) by rw [elem_xor hxz hyz, num_xor hl hb hl' hb', Gf.dot_lin_l Gf.pair1 hx hz])
  have E4 := Lib.hid (show elem (mul R1 (num (elem (dot R1 D1 (num xs) (num ys)))) (num awA)) = elem (mul R1 (num xs) (num ys)) by rw [num_elem hxy, num_up, Gf.dot_mul_up Gf.pair1 hx hy])
  have E5 := Lib.hid (show elem (dot R1 D1 (num xs) (num awA)) = xs by
    rw [num_up]
    unfold dot
    rw [Gf.mul_upN_r R1 Gf.R1_lt hx (Nat.one_lt_two_pow (by omega)), Gf.mul_one, Gf.downN_upN Gf.pair1 hx, elem_num hl hb])
  have B1 := ((Blk.new w 22 (ints .u8 xs)).alloc (.cells (ints .u8 ys) 22)).alloc (.cells (ints .u8 zs) 22)
  have B2 := (Blk.new (w.alloc (.cells (ints .u8 xs) 22)) 22 (ints .u8 ys)).alloc (.cells (ints .u8 zs) 22)
  have B3 := Blk.new ((w.alloc (.cells (ints .u8 xs) 22)).alloc (.cells (ints .u8 ys) 22)) 22 (ints .u8 zs)
  rw [World.size_alloc] at B2
  rw [World.size_alloc, World.size_alloc] at B3
  have hbel := (((Below.refl w.heap.size w).alloc (Nat.le_refl _) (.cells (ints .u8 xs) 22)).alloc (by simp) (.cells (ints .u8 ys) 22)).alloc (by simp; omega) (.cells (ints .u8 zs) 22)
  simp only [Nat.add_assoc, Nat.reduceAdd] at B1 B2 B3
  go_enter Try.func5, Try.ntmps5
  go_wp2
  generalize (((w.alloc (.cells (ints .u8 xs) 22)).alloc (.cells (ints .u8 ys) 22)).alloc (.cells (ints .u8 zs) 22)) = w0 at *
  refine wp_region_below (by kernel_rfl) (by kernel_rfl) ?_
  refine quiet_load rfl rfl rfl B1 Try.ar22 hl ?_
  (try simp only [Act.put, List.setIfInBounds_toArray, List.set_cons_zero, List.set_cons_succ, World.size_alloc, setRow_size, Nat.add_assoc, Nat.reduceAdd])
  refine quiet_load rfl rfl rfl B2 Try.ar22 hl' ?_
  (try simp only [Act.put, List.setIfInBounds_toArray, List.set_cons_zero, List.set_cons_succ, World.size_alloc, setRow_size, Nat.add_assoc, Nat.reduceAdd])
  refine quiet_call 14 rfl rfl Try.func14 (by kernel_rfl) (by kernel_rfl) (fun W hQ => dot10_c xs ys hl hb hl' hb' W) ?_
  (try simp only [Act.put, List.setIfInBounds_toArray, List.set_cons_zero, List.set_cons_succ, World.size_alloc, setRow_size, Nat.add_assoc, Nat.reduceAdd])
  refine quiet_load rfl rfl rfl B2 Try.ar22 hl' ?_
  (try simp only [Act.put, List.setIfInBounds_toArray, List.set_cons_zero, List.set_cons_succ, World.size_alloc, setRow_size, Nat.add_assoc, Nat.reduceAdd])
  refine quiet_load rfl rfl rfl B1 Try.ar22 hl ?_
  (try simp only [Act.put, List.setIfInBounds_toArray, List.set_cons_zero, List.set_cons_succ, World.size_alloc, setRow_size, Nat.add_assoc, Nat.reduceAdd])
  refine quiet_call 14 rfl rfl Try.func14 (by kernel_rfl) (by kernel_rfl) (fun W hQ => dot10_c ys xs hl' hb' hl hb W) ?_
  (try simp only [Act.put, List.setIfInBounds_toArray, List.set_cons_zero, List.set_cons_succ, World.size_alloc, setRow_size, Nat.add_assoc, Nat.reduceAdd])
  refine quiet_neq rfl rfl rfl rfl Try.eg22 (diff16 _ _ (elem_len _) E1.out) ?_
  (try simp only [Act.put, List.setIfInBounds_toArray, List.set_cons_zero, List.set_cons_succ, World.size_alloc, setRow_size, Nat.add_assoc, Nat.reduceAdd])
  refine quiet_move rfl rfl rfl ?_
  (try simp only [Act.put, List.setIfInBounds_toArray, List.set_cons_zero, List.set_cons_succ, World.size_alloc, setRow_size, Nat.add_assoc, Nat.reduceAdd])
  refine quiet_load rfl rfl rfl B1 Try.ar22 hl ?_
  (try simp only [Act.put, List.setIfInBounds_toArray, List.set_cons_zero, List.set_cons_succ, World.size_alloc, setRow_size, Nat.add_assoc, Nat.reduceAdd])
  refine quiet_load rfl rfl rfl B2 Try.ar22 hl' ?_
  (try simp only [Act.put, List.setIfInBounds_toArray, List.set_cons_zero, List.set_cons_succ, World.size_alloc, setRow_size, Nat.add_assoc, Nat.reduceAdd])
  refine quiet_call 14 rfl rfl Try.func14 (by kernel_rfl) (by kernel_rfl) (fun W hQ => dot10_c xs ys hl hb hl' hb' W) ?_
  (try simp only [Act.put, List.setIfInBounds_toArray, List.set_cons_zero, List.set_cons_succ, World.size_alloc, setRow_size, Nat.add_assoc, Nat.reduceAdd])
  refine quiet_load rfl rfl rfl B3 Try.ar22 hl3 ?_
  (try simp only [Act.put, List.setIfInBounds_toArray, List.set_cons_zero, List.set_cons_succ, World.size_alloc, setRow_size, Nat.add_assoc, Nat.reduceAdd])
  refine quiet_call 14 rfl rfl Try.func14 (by kernel_rfl) (by kernel_rfl) (fun W hQ => dot10_c _ zs (elem_len _) (elem_lt _) hl3 hb3 W) ?_
  (try simp only [Act.put, List.setIfInBounds_toArray, List.set_cons_zero, List.set_cons_succ, World.size_alloc, setRow_size, Nat.add_assoc, Nat.reduceAdd])
  refine quiet_load rfl rfl rfl B1 Try.ar22 hl ?_
  (try simp only [Act.put, List.setIfInBounds_toArray, List.set_cons_zero, List.set_cons_succ, World.size_alloc, setRow_size, Nat.add_assoc, Nat.reduceAdd])
  refine quiet_load rfl rfl rfl B2 Try.ar22 hl' ?_
  (try simp only [Act.put, List.setIfInBounds_toArray, List.set_cons_zero, List.set_cons_succ, World.size_alloc, setRow_size, Nat.add_assoc, Nat.reduceAdd])
  refine quiet_load rfl rfl rfl B3 Try.ar22 hl3 ?_
  (try simp only [Act.put, List.setIfInBounds_toArray, List.set_cons_zero, List.set_cons_succ, World.size_alloc, setRow_size, Nat.add_assoc, Nat.reduceAdd])
  refine quiet_call 14 rfl rfl Try.func14 (by kernel_rfl) (by kernel_rfl) (fun W hQ => dot10_c ys zs hl' hb' hl3 hb3 W) ?_
  (try simp only [Act.put, List.setIfInBounds_toArray, List.set_cons_zero, List.set_cons_succ, World.size_alloc, setRow_size, Nat.add_assoc, Nat.reduceAdd])
  refine quiet_call 14 rfl rfl Try.func14 (by kernel_rfl) (by kernel_rfl) (fun W hQ => dot10_c xs _ hl hb (elem_len _) (elem_lt _) W) ?_
  (try simp only [Act.put, List.setIfInBounds_toArray, List.set_cons_zero, List.set_cons_succ, World.size_alloc, setRow_size, Nat.add_assoc, Nat.reduceAdd])
  refine quiet_neq rfl rfl rfl rfl Try.eg22 (diff16 _ _ (elem_len _) E2.out) ?_
  (try simp only [Act.put, List.setIfInBounds_toArray, List.set_cons_zero, List.set_cons_succ, World.size_alloc, setRow_size, Nat.add_assoc, Nat.reduceAdd])
  refine quiet_pickf (by rfl) (by rfl) (by rfl) (by rfl) (by rfl) ?_
  (try simp only [Act.put, List.setIfInBounds_toArray, List.set_cons_zero, List.set_cons_succ, World.size_alloc, setRow_size, Nat.add_assoc, Nat.reduceAdd])
  refine wpQuiet_nil ?_
  intro w' hw'
  have C1 := (B1.below' hw').alloc (.cells (ints .u8 (zeros 16)) 22)
  have C2 := (B2.below' hw').alloc (.cells (ints .u8 (zeros 16)) 22)
  have C3 := (B3.below' hw').alloc (.cells (ints .u8 (zeros 16)) 22)
  have l1 := (B1.below' hw').lt
  have l2 := (B2.below' hw').lt
  have l3 := (B3.below' hw').lt
  have hbel1 := bCall hbel hw' hbel.size
  clear B1 B2 B3 hw'
  generalize w' = w1 at *
  have C4 := Blk.new w1 22 (ints .u8 (zeros 16))
  have D1' := C1.rowFar (show w.heap.size ≠ w1.heap.size by omega) (ints .u8 awA)
  have D2 := C2.rowFar (show w.heap.size + 1 ≠ w1.heap.size by omega) (ints .u8 awA)
  have D3 := C3.rowFar (show w.heap.size + 2 ≠ w1.heap.size by omega) (ints .u8 awA)
  have D4 := C4.row (ints .u8 awA)
  have hbel2 := bSetRow (hbel1.alloc hbel1.size (.cells (ints .u8 (zeros 16)) 22)) hbel1.size (ints .u8 awA)
  have hal : awA.length = 16 := rfl
  have hab : ∀ x ∈ awA, x < 256 := by decide
  clear C1 C2 C3
  have HA := Lib.hid (show Value.agg #[.int .u8 1, .int .u8 0, .int .u8 0, .int .u8 0, .int .u8 0, .int .u8 0, .int .u8 0, .int .u8 0, .int .u8 0, .int .u8 0, .int .u8 0, .int .u8 0, .int .u8 0, .int .u8 0, .int .u8 0, .int .u8 194] = .agg (ints .u8 awA) by rw [awA_c])
  go_wp2_with (first | (refine wpList_alloc_ints rfl 22 rfl Try.z22 ?_; (try simp only [Act.put, List.setIfInBounds_toArray, List.set_cons_zero, List.set_cons_succ, World.size_alloc, setRow_size, Nat.add_assoc, Nat.reduceAdd])) | (refine wpList_store_ints rfl 22 _ _ rfl w1.heap.size (k := .u8) (xs := awA) rfl HA.out C4 (zeros_size _ _) Try.ar22 hal ?_; (try simp only [Act.put, List.setIfInBounds_toArray, List.set_cons_zero, List.set_cons_succ, World.size_alloc, setRow_size, Nat.add_assoc, Nat.reduceAdd])))
  clear C4
  generalize ((w1.alloc (.cells (ints .u8 (zeros 16)) 22)).setRow w1.heap.size (ints .u8 awA)) = w2 at *
  refine wp_region_below (by kernel_rfl) (by kernel_rfl) ?_
  refine quiet_load rfl rfl rfl D1' Try.ar22 hl ?_
  (try simp only [Act.put, List.setIfInBounds_toArray, List.set_cons_zero, List.set_cons_succ, World.size_alloc, setRow_size, Nat.add_assoc, Nat.reduceAdd])
  refine quiet_load rfl rfl rfl D2 Try.ar22 hl' ?_
  (try simp only [Act.put, List.setIfInBounds_toArray, List.set_cons_zero, List.set_cons_succ, World.size_alloc, setRow_size, Nat.add_assoc, Nat.reduceAdd])
  refine quiet_call 17 rfl rfl Try.func17 (by kernel_rfl) (by kernel_rfl) (fun W hQ => plus16_c xs ys hl hb hl' hb' W) ?_
  (try simp only [Act.put, List.setIfInBounds_toArray, List.set_cons_zero, List.set_cons_succ, World.size_alloc, setRow_size, Nat.add_assoc, Nat.reduceAdd])
  refine quiet_load rfl rfl rfl D3 Try.ar22 hl3 ?_
  (try simp only [Act.put, List.setIfInBounds_toArray, List.set_cons_zero, List.set_cons_succ, World.size_alloc, setRow_size, Nat.add_assoc, Nat.reduceAdd])
  refine quiet_call 14 rfl rfl Try.func14 (by kernel_rfl) (by kernel_rfl) (fun W hQ => dot10_c _ zs (xorL_len _ _) (xorL_lt hb hb') hl3 hb3 W) ?_
  (try simp only [Act.put, List.setIfInBounds_toArray, List.set_cons_zero, List.set_cons_succ, World.size_alloc, setRow_size, Nat.add_assoc, Nat.reduceAdd])
  refine quiet_load rfl rfl rfl D1' Try.ar22 hl ?_
  (try simp only [Act.put, List.setIfInBounds_toArray, List.set_cons_zero, List.set_cons_succ, World.size_alloc, setRow_size, Nat.add_assoc, Nat.reduceAdd])
  refine quiet_load rfl rfl rfl D3 Try.ar22 hl3 ?_
  (try simp only [Act.put, List.setIfInBounds_toArray, List.set_cons_zero, List.set_cons_succ, World.size_alloc, setRow_size, Nat.add_assoc, Nat.reduceAdd])
  refine quiet_call 14 rfl rfl Try.func14 (by kernel_rfl) (by kernel_rfl) (fun W hQ => dot10_c xs zs hl hb hl3 hb3 W) ?_
  (try simp only [Act.put, List.setIfInBounds_toArray, List.set_cons_zero, List.set_cons_succ, World.size_alloc, setRow_size, Nat.add_assoc, Nat.reduceAdd])
  refine quiet_load rfl rfl rfl D2 Try.ar22 hl' ?_
  (try simp only [Act.put, List.setIfInBounds_toArray, List.set_cons_zero, List.set_cons_succ, World.size_alloc, setRow_size, Nat.add_assoc, Nat.reduceAdd])
  refine quiet_load rfl rfl rfl D3 Try.ar22 hl3 ?_
  (try simp only [Act.put, List.setIfInBounds_toArray, List.set_cons_zero, List.set_cons_succ, World.size_alloc, setRow_size, Nat.add_assoc, Nat.reduceAdd])
  refine quiet_call 14 rfl rfl Try.func14 (by kernel_rfl) (by kernel_rfl) (fun W hQ => dot10_c ys zs hl' hb' hl3 hb3 W) ?_
  (try simp only [Act.put, List.setIfInBounds_toArray, List.set_cons_zero, List.set_cons_succ, World.size_alloc, setRow_size, Nat.add_assoc, Nat.reduceAdd])
  refine quiet_call 17 rfl rfl Try.func17 (by kernel_rfl) (by kernel_rfl) (fun W hQ => plus16_c _ _ (elem_len _) (elem_lt _) (elem_len _) (elem_lt _) W) ?_
  (try simp only [Act.put, List.setIfInBounds_toArray, List.set_cons_zero, List.set_cons_succ, World.size_alloc, setRow_size, Nat.add_assoc, Nat.reduceAdd])
  refine quiet_eql rfl rfl rfl rfl Try.eg22 (same16 _ _ (elem_len _) E3.out) ?_
  (try simp only [Act.put, List.setIfInBounds_toArray, List.set_cons_zero, List.set_cons_succ, World.size_alloc, setRow_size, Nat.add_assoc, Nat.reduceAdd])
  refine quiet_move rfl rfl rfl ?_
  (try simp only [Act.put, List.setIfInBounds_toArray, List.set_cons_zero, List.set_cons_succ, World.size_alloc, setRow_size, Nat.add_assoc, Nat.reduceAdd])
  refine quiet_load rfl rfl rfl D1' Try.ar22 hl ?_
  (try simp only [Act.put, List.setIfInBounds_toArray, List.set_cons_zero, List.set_cons_succ, World.size_alloc, setRow_size, Nat.add_assoc, Nat.reduceAdd])
  refine quiet_load rfl rfl rfl D2 Try.ar22 hl' ?_
  (try simp only [Act.put, List.setIfInBounds_toArray, List.set_cons_zero, List.set_cons_succ, World.size_alloc, setRow_size, Nat.add_assoc, Nat.reduceAdd])
  refine quiet_call 14 rfl rfl Try.func14 (by kernel_rfl) (by kernel_rfl) (fun W hQ => dot10_c xs ys hl hb hl' hb' W) ?_
  (try simp only [Act.put, List.setIfInBounds_toArray, List.set_cons_zero, List.set_cons_succ, World.size_alloc, setRow_size, Nat.add_assoc, Nat.reduceAdd])
  refine quiet_load rfl rfl rfl D4 Try.ar22 hal ?_
  (try simp only [Act.put, List.setIfInBounds_toArray, List.set_cons_zero, List.set_cons_succ, World.size_alloc, setRow_size, Nat.add_assoc, Nat.reduceAdd])
  refine quiet_call 12 rfl rfl Try.func12 (by kernel_rfl) (by kernel_rfl) (fun W hQ => times10_c _ awA (elem_len _) (elem_lt _) hal hab W) ?_
  (try simp only [Act.put, List.setIfInBounds_toArray, List.set_cons_zero, List.set_cons_succ, World.size_alloc, setRow_size, Nat.add_assoc, Nat.reduceAdd])
  refine quiet_load rfl rfl rfl D1' Try.ar22 hl ?_
  (try simp only [Act.put, List.setIfInBounds_toArray, List.set_cons_zero, List.set_cons_succ, World.size_alloc, setRow_size, Nat.add_assoc, Nat.reduceAdd])
  refine quiet_load rfl rfl rfl D2 Try.ar22 hl' ?_
  (try simp only [Act.put, List.setIfInBounds_toArray, List.set_cons_zero, List.set_cons_succ, World.size_alloc, setRow_size, Nat.add_assoc, Nat.reduceAdd])
  refine quiet_call 12 rfl rfl Try.func12 (by kernel_rfl) (by kernel_rfl) (fun W hQ => times10_c xs ys hl hb hl' hb' W) ?_
  (try simp only [Act.put, List.setIfInBounds_toArray, List.set_cons_zero, List.set_cons_succ, World.size_alloc, setRow_size, Nat.add_assoc, Nat.reduceAdd])
  refine quiet_eql rfl rfl rfl rfl Try.eg22 (same16 _ _ (elem_len _) E4.out) ?_
  (try simp only [Act.put, List.setIfInBounds_toArray, List.set_cons_zero, List.set_cons_succ, World.size_alloc, setRow_size, Nat.add_assoc, Nat.reduceAdd])
  refine quiet_pickt (by rfl) (by rfl) (by rfl) (by rfl) (by rfl) ?_
  (try simp only [Act.put, List.setIfInBounds_toArray, List.set_cons_zero, List.set_cons_succ, World.size_alloc, setRow_size, Nat.add_assoc, Nat.reduceAdd])
  refine quiet_move rfl rfl rfl ?_
  (try simp only [Act.put, List.setIfInBounds_toArray, List.set_cons_zero, List.set_cons_succ, World.size_alloc, setRow_size, Nat.add_assoc, Nat.reduceAdd])
  refine quiet_load rfl rfl rfl D1' Try.ar22 hl ?_
  (try simp only [Act.put, List.setIfInBounds_toArray, List.set_cons_zero, List.set_cons_succ, World.size_alloc, setRow_size, Nat.add_assoc, Nat.reduceAdd])
  refine quiet_load rfl rfl rfl D4 Try.ar22 hal ?_
  (try simp only [Act.put, List.setIfInBounds_toArray, List.set_cons_zero, List.set_cons_succ, World.size_alloc, setRow_size, Nat.add_assoc, Nat.reduceAdd])
  refine quiet_call 14 rfl rfl Try.func14 (by kernel_rfl) (by kernel_rfl) (fun W hQ => dot10_c xs awA hl hb hal hab W) ?_
  (try simp only [Act.put, List.setIfInBounds_toArray, List.set_cons_zero, List.set_cons_succ, World.size_alloc, setRow_size, Nat.add_assoc, Nat.reduceAdd])
  refine quiet_load rfl rfl rfl D1' Try.ar22 hl ?_
  (try simp only [Act.put, List.setIfInBounds_toArray, List.set_cons_zero, List.set_cons_succ, World.size_alloc, setRow_size, Nat.add_assoc, Nat.reduceAdd])
  refine quiet_eql rfl rfl rfl rfl Try.eg22 (same16 _ _ (elem_len _) E5.out) ?_
  (try simp only [Act.put, List.setIfInBounds_toArray, List.set_cons_zero, List.set_cons_succ, World.size_alloc, setRow_size, Nat.add_assoc, Nat.reduceAdd])
  refine quiet_pickt (by rfl) (by rfl) (by rfl) (by rfl) (by rfl) ?_
  (try simp only [Act.put, List.setIfInBounds_toArray, List.set_cons_zero, List.set_cons_succ, World.size_alloc, setRow_size, Nat.add_assoc, Nat.reduceAdd])
  refine quiet_move rfl rfl rfl ?_
  (try simp only [Act.put, List.setIfInBounds_toArray, List.set_cons_zero, List.set_cons_succ, World.size_alloc, setRow_size, Nat.add_assoc, Nat.reduceAdd])
  refine quiet_call 16 rfl rfl Try.func16 (by kernel_rfl) (by kernel_rfl) (fun W hQ => awake10_c W) ?_
  (try simp only [Act.put, List.setIfInBounds_toArray, List.set_cons_zero, List.set_cons_succ, World.size_alloc, setRow_size, Nat.add_assoc, Nat.reduceAdd])
  refine quiet_pickt (by rfl) (by rfl) (by rfl) (by rfl) (by rfl) ?_
  (try simp only [Act.put, List.setIfInBounds_toArray, List.set_cons_zero, List.set_cons_succ, World.size_alloc, setRow_size, Nat.add_assoc, Nat.reduceAdd])
  refine quiet_assign rfl rfl rfl ?_
  (try simp only [Act.put, List.setIfInBounds_toArray, List.set_cons_zero, List.set_cons_succ, World.size_alloc, setRow_size, Nat.add_assoc, Nat.reduceAdd])
  refine wpQuiet_nil ?_
  intro w' hw'
  go_wp2
  go_ret
  exact ⟨rfl, bCall hbel2 hw' hbel2.size⟩
end Go.Proofs.Ytehhipanbjhffaa
