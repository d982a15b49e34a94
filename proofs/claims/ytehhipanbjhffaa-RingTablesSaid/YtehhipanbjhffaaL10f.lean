/- The walk of RingSteps. No condition but that bytes are below 256. -/
import Derived.Test.YtehhipanbjhffaaW10i
import Derived.Test.YtehhipanbjhffaaW10k
import Derived.Test.YtehhipanbjhffaaL10b
namespace Go.Proofs.Ytehhipanbjhffaa
set_option linter.unusedSimpArgs false
set_option linter.unusedVariables false
set_option linter.unusedSectionVars false
set_option linter.unusedVariables false
open Go.RowKit
open Gf (W2 up down upN downN mulS mul dot dotS R1 D1)
theorem tab_dot {x y : Nat} (hx : x < 2 ^ 128) (hy : y < 2 ^ 128) : mul R1 (dot R1 D1 x 1) y = dot R1 D1 y x := by
  rw [Gf.dot_comm hy hx]
  unfold dot
  rw [Gf.mul_one, Gf.mul_downN_l Gf.pair1 hx hy]
set_option maxRecDepth 100000 in
set_option maxHeartbeats 8000000 in
theorem ringSteps_c (hs xs ys : List Nat) (hl : hs.length = 16) (hb : ∀ x ∈ hs, x < 2 ^ 8) (hl' : xs.length = 16) (hb' : ∀ x ∈ xs, x < 2 ^ 8) (hl3 : ys.length = 16) (hb3 : ∀ x ∈ ys, x < 2 ^ 8) (w : World) :
    Calls Try.prog 9 #[.agg (ints .u8 hs), .agg (ints .u8 xs), .agg (ints .u8 ys)] w fun e w' => e = .returned (.bool true) ∧ Below w.heap.size w w' := by
  have hh := num_lt hl hb
  have hx := num_lt hl' hb'
  have hy := num_lt hl3 hb3
  have hX := Gf.dot_lt Gf.pair1 hh 1
  have hmx := Gf.mul_lt Gf.R1_lt hX (num xs)
  have hmy := Gf.mul_lt Gf.R1_lt hX (num ys)
  have E1 := Lib.hid (show elem (mul R1 (dot R1 D1 (num hs) 1) (num xs)) = elem (dot R1 D1 (num xs) (num hs)) by rw [tab_dot hh hx])
  have E2 := Lib.hid (show xorL (elem (mul R1 (dot R1 D1 (num hs) 1) (num xs))) (elem (mul R1 (dot R1 D1 (num hs) 1) (num ys))) = elem (mul R1 (dot R1 D1 (num hs) 1) (num (xorL xs ys))) by
    rw [elem_xor hmx hmy, num_xor hl' hb' hl3 hb3, show mul R1 (dot R1 D1 (num hs) 1) (num xs ^^^ num ys) = _ from Gf.mul_lin_r R1 _ (num xs) (num ys)])
  have B1 := ((Blk.new w 22 (ints .u8 hs)).alloc (.cells (ints .u8 xs) 22)).alloc (.cells (ints .u8 ys) 22)
  have B2 := (Blk.new (w.alloc (.cells (ints .u8 hs) 22)) 22 (ints .u8 xs)).alloc (.cells (ints .u8 ys) 22)
  have B3 := Blk.new ((w.alloc (.cells (ints .u8 hs) 22)).alloc (.cells (ints .u8 xs) 22)) 22 (ints .u8 ys)
  rw [World.size_alloc] at B2
  rw [World.size_alloc, World.size_alloc] at B3
  simp only [Nat.add_assoc, Nat.reduceAdd] at B1 B2 B3
  have hbel := (((Below.refl w.heap.size w).alloc (Nat.le_refl _) (.cells (ints .u8 hs) 22)).alloc (by simp) (.cells (ints .u8 xs) 22)).alloc (by simp; omega) (.cells (ints .u8 ys) 22)
  go_enter Try.func9, Try.ntmps9
  go_wp2_with (refine wpList_load_ints rfl 22 _ rfl w.heap.size rfl B1 Try.ar22 hl ?_; (try simp only [Act.put, List.setIfInBounds_toArray, List.set_cons_zero, List.set_cons_succ, World.size_alloc, setRow_size, Nat.add_assoc, Nat.reduceAdd]))
  generalize (((w.alloc (.cells (ints .u8 hs) 22)).alloc (.cells (ints .u8 xs) 22)).alloc (.cells (ints .u8 ys) 22)) = w0 at *
  refine (make_c hs hl hb _).mono ?_
  rintro e w1 ⟨rfl, hb1, T⟩
  have C1 := B1.below' hb1
  have C2 := B2.below' hb1
  have C3 := B3.below' hb1
  have hbel1 := bCall hbel hb1 hbel.size
  generalize w0.heap.size + 1 = g at *
  have hgl := T.lt
  generalize dot R1 D1 (num hs) 1 = X at *
  clear B1 B2 B3 hb1 hbel
  go_wp2
  refine wp_region_below (by kernel_rfl) (by kernel_rfl) ?_
  refine quiet_move rfl rfl rfl ?_
  (try simp only [Act.put, List.setIfInBounds_toArray, List.set_cons_zero, List.set_cons_succ, World.size_alloc, setRow_size, Nat.add_assoc, Nat.reduceAdd])
  refine quiet_load rfl rfl rfl C2 Try.ar22 hl' ?_
  (try simp only [Act.put, List.setIfInBounds_toArray, List.set_cons_zero, List.set_cons_succ, World.size_alloc, setRow_size, Nat.add_assoc, Nat.reduceAdd])
  refine quiet_call 21 rfl rfl Try.func21 (by kernel_rfl) (by kernel_rfl) (fun W hQ => dotT_c g X xs hX hl' hb' W (T.below' hQ)) ?_
  (try simp only [Act.put, List.setIfInBounds_toArray, List.set_cons_zero, List.set_cons_succ, World.size_alloc, setRow_size, Nat.add_assoc, Nat.reduceAdd])
  refine quiet_load rfl rfl rfl C2 Try.ar22 hl' ?_
  (try simp only [Act.put, List.setIfInBounds_toArray, List.set_cons_zero, List.set_cons_succ, World.size_alloc, setRow_size, Nat.add_assoc, Nat.reduceAdd])
  refine quiet_load rfl rfl rfl C1 Try.ar22 hl ?_
  (try simp only [Act.put, List.setIfInBounds_toArray, List.set_cons_zero, List.set_cons_succ, World.size_alloc, setRow_size, Nat.add_assoc, Nat.reduceAdd])
  refine quiet_call 14 rfl rfl Try.func14 (by kernel_rfl) (by kernel_rfl) (fun W hQ => dot10_c xs hs hl' hb' hl hb W) ?_
  (try simp only [Act.put, List.setIfInBounds_toArray, List.set_cons_zero, List.set_cons_succ, World.size_alloc, setRow_size, Nat.add_assoc, Nat.reduceAdd])
  refine quiet_eql rfl rfl rfl rfl Try.eg22 (same16 _ _ (elem_len _) E1.out) ?_
  (try simp only [Act.put, List.setIfInBounds_toArray, List.set_cons_zero, List.set_cons_succ, World.size_alloc, setRow_size, Nat.add_assoc, Nat.reduceAdd])
  refine quiet_move rfl rfl rfl ?_
  (try simp only [Act.put, List.setIfInBounds_toArray, List.set_cons_zero, List.set_cons_succ, World.size_alloc, setRow_size, Nat.add_assoc, Nat.reduceAdd])
  refine quiet_move rfl rfl rfl ?_
  (try simp only [Act.put, List.setIfInBounds_toArray, List.set_cons_zero, List.set_cons_succ, World.size_alloc, setRow_size, Nat.add_assoc, Nat.reduceAdd])
  refine quiet_load rfl rfl rfl C2 Try.ar22 hl' ?_
  (try simp only [Act.put, List.setIfInBounds_toArray, List.set_cons_zero, List.set_cons_succ, World.size_alloc, setRow_size, Nat.add_assoc, Nat.reduceAdd])
  refine quiet_call 21 rfl rfl Try.func21 (by kernel_rfl) (by kernel_rfl) (fun W hQ => dotT_c g X xs hX hl' hb' W (T.below' hQ)) ?_
  (try simp only [Act.put, List.setIfInBounds_toArray, List.set_cons_zero, List.set_cons_succ, World.size_alloc, setRow_size, Nat.add_assoc, Nat.reduceAdd])
  refine quiet_move rfl rfl rfl ?_
  (try simp only [Act.put, List.setIfInBounds_toArray, List.set_cons_zero, List.set_cons_succ, World.size_alloc, setRow_size, Nat.add_assoc, Nat.reduceAdd])
  refine quiet_load rfl rfl rfl C3 Try.ar22 hl3 ?_
  (try simp only [Act.put, List.setIfInBounds_toArray, List.set_cons_zero, List.set_cons_succ, World.size_alloc, setRow_size, Nat.add_assoc, Nat.reduceAdd])
  refine quiet_call 21 rfl rfl Try.func21 (by kernel_rfl) (by kernel_rfl) (fun W hQ => dotT_c g X ys hX hl3 hb3 W (T.below' hQ)) ?_
  (try simp only [Act.put, List.setIfInBounds_toArray, List.set_cons_zero, List.set_cons_succ, World.size_alloc, setRow_size, Nat.add_assoc, Nat.reduceAdd])
  refine quiet_call 17 rfl rfl Try.func17 (by kernel_rfl) (by kernel_rfl) (fun W hQ => plus16_c _ _ (elem_len _) (elem_lt _) (elem_len _) (elem_lt _) W) ?_
  (try simp only [Act.put, List.setIfInBounds_toArray, List.set_cons_zero, List.set_cons_succ, World.size_alloc, setRow_size, Nat.add_assoc, Nat.reduceAdd])
  refine quiet_move rfl rfl rfl ?_
  (try simp only [Act.put, List.setIfInBounds_toArray, List.set_cons_zero, List.set_cons_succ, World.size_alloc, setRow_size, Nat.add_assoc, Nat.reduceAdd])
  refine quiet_load rfl rfl rfl C2 Try.ar22 hl' ?_
  (try simp only [Act.put, List.setIfInBounds_toArray, List.set_cons_zero, List.set_cons_succ, World.size_alloc, setRow_size, Nat.add_assoc, Nat.reduceAdd])
  refine quiet_load rfl rfl rfl C3 Try.ar22 hl3 ?_
  (try simp only [Act.put, List.setIfInBounds_toArray, List.set_cons_zero, List.set_cons_succ, World.size_alloc, setRow_size, Nat.add_assoc, Nat.reduceAdd])
  refine quiet_call 17 rfl rfl Try.func17 (by kernel_rfl) (by kernel_rfl) (fun W hQ => plus16_c xs ys hl' hb' hl3 hb3 W) ?_
  (try simp only [Act.put, List.setIfInBounds_toArray, List.set_cons_zero, List.set_cons_succ, World.size_alloc, setRow_size, Nat.add_assoc, Nat.reduceAdd])
  refine quiet_call 21 rfl rfl Try.func21 (by kernel_rfl) (by kernel_rfl) (fun W hQ => dotT_c g X (xorL xs ys) hX (xorL_len _ _) (xorL_lt hb' hb3) W (T.below' hQ)) ?_
  (try simp only [Act.put, List.setIfInBounds_toArray, List.set_cons_zero, List.set_cons_succ, World.size_alloc, setRow_size, Nat.add_assoc, Nat.reduceAdd])
  refine quiet_eql rfl rfl rfl rfl Try.eg22 (same16 _ _ (xorL_len _ _) E2.out) ?_
  (try simp only [Act.put, List.setIfInBounds_toArray, List.set_cons_zero, List.set_cons_succ, World.size_alloc, setRow_size, Nat.add_assoc, Nat.reduceAdd])
  refine quiet_pickt (by rfl) (by rfl) (by rfl) (by rfl) (by rfl) ?_
  (try simp only [Act.put, List.setIfInBounds_toArray, List.set_cons_zero, List.set_cons_succ, World.size_alloc, setRow_size, Nat.add_assoc, Nat.reduceAdd])
  refine quiet_move rfl rfl rfl ?_
  (try simp only [Act.put, List.setIfInBounds_toArray, List.set_cons_zero, List.set_cons_succ, World.size_alloc, setRow_size, Nat.add_assoc, Nat.reduceAdd])
  refine quiet_call 16 rfl rfl Try.func16 (by kernel_rfl) (by kernel_rfl) (fun W hQ => awake10_c W) ?_
  (try simp only [Act.put, List.setIfInBounds_toArray, List.set_cons_zero, List.set_cons_succ, World.size_alloc, setRow_size, Nat.add_assoc, Nat.reduceAdd])
  refine quiet_pickt (by rfl) (by rfl) (by rfl) (by rfl) (by rfl) ?_
  (try simp only [Act.put, List.setIfInBounds_toArray, List.set_cons_zero, List.set_cons_succ, World.size_alloc, setRow_size, Nat.add_assoc, Nat.reduceAdd])
  refine quiet_assign rfl rfl rfl ?_
  (try simp only [Act.put, List.setIfInBounds_toArray, List.set_cons_zero, List.set_cons_succ, World.size_alloc, setRow_size, Nat.add_assoc, Nat.reduceAdd])
  refine wpQuiet_nil ?_
  intro w' hw'
  go_wp2
  go_ret
  exact ⟨rfl, bCall hbel1 hw' hbel1.size⟩
end Go.Proofs.Ytehhipanbjhffaa
