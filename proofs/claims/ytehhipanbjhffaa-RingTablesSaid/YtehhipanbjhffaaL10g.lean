/- The walk of RingProducts. No condition but that bytes are below 256. -/
import Derived.Test.YtehhipanbjhffaaW10u
import Derived.Test.YtehhipanbjhffaaL10b
namespace Go.Proofs.Ytehhipanbjhffaa
set_option linter.unusedSimpArgs false
set_option linter.unusedVariables false
set_option linter.unusedSectionVars false
set_option linter.unusedVariables false
open Go.RowKit
open Gf (W2 up down upN downN mulS mul dot dotS R1 D1)
set_option maxRecDepth 100000 in
set_option maxHeartbeats 8000000 in
theorem ringProducts_c (xs ys : List Nat) (hl : xs.length = 16) (hb : ∀ x ∈ xs, x < 2 ^ 8) (hl' : ys.length = 16) (hb' : ∀ x ∈ ys, x < 2 ^ 8) (w : World) :
    Calls Try.prog 3 #[.agg (ints .u8 xs), .agg (ints .u8 ys)] w fun e w' => e = .returned (.bool true) ∧ Below w.heap.size w w' := by
  have B1 := (Blk.new w 22 (ints .u8 xs)).alloc (.cells (ints .u8 ys) 22)
  have B2 := Blk.new (w.alloc (.cells (ints .u8 xs) 22)) 22 (ints .u8 ys)
  rw [World.size_alloc] at B2
  have hbel := ((Below.refl w.heap.size w).alloc (Nat.le_refl _) (.cells (ints .u8 xs) 22)).alloc (by simp) (.cells (ints .u8 ys) 22)
  go_enter Try.func3, Try.ntmps3
  go_wp2
  generalize ((w.alloc (.cells (ints .u8 xs) 22)).alloc (.cells (ints .u8 ys) 22)) = w0 at *
  refine wp_region_below (by kernel_rfl) (by kernel_rfl) ?_
  refine quiet_load rfl rfl rfl B1 Try.ar22 hl ?_
  (try simp only [Act.put, List.setIfInBounds_toArray, List.set_cons_zero, List.set_cons_succ, World.size_alloc, setRow_size, Nat.add_assoc, Nat.reduceAdd])
  refine quiet_load rfl rfl rfl B2 Try.ar22 hl' ?_
  (try simp only [Act.put, List.setIfInBounds_toArray, List.set_cons_zero, List.set_cons_succ, World.size_alloc, setRow_size, Nat.add_assoc, Nat.reduceAdd])
  refine quiet_call 12 rfl rfl Try.func12 (by kernel_rfl) (by kernel_rfl) (fun W hQ => times10_c xs ys hl hb hl' hb' W) ?_
  (try simp only [Act.put, List.setIfInBounds_toArray, List.set_cons_zero, List.set_cons_succ, World.size_alloc, setRow_size, Nat.add_assoc, Nat.reduceAdd])
  refine quiet_load rfl rfl rfl B1 Try.ar22 hl ?_
  (try simp only [Act.put, List.setIfInBounds_toArray, List.set_cons_zero, List.set_cons_succ, World.size_alloc, setRow_size, Nat.add_assoc, Nat.reduceAdd])
  refine quiet_load rfl rfl rfl B2 Try.ar22 hl' ?_
  (try simp only [Act.put, List.setIfInBounds_toArray, List.set_cons_zero, List.set_cons_succ, World.size_alloc, setRow_size, Nat.add_assoc, Nat.reduceAdd])
  refine quiet_call 13 rfl rfl Try.func13 (by kernel_rfl) (by kernel_rfl) (fun W hQ => times_ref xs ys hl hb hl' hb' W) ?_
  (try simp only [Act.put, List.setIfInBounds_toArray, List.set_cons_zero, List.set_cons_succ, World.size_alloc, setRow_size, Nat.add_assoc, Nat.reduceAdd])
  refine quiet_eql rfl rfl rfl rfl Try.eg22 (same16 _ _ (elem_len _) rfl) ?_
  (try simp only [Act.put, List.setIfInBounds_toArray, List.set_cons_zero, List.set_cons_succ, World.size_alloc, setRow_size, Nat.add_assoc, Nat.reduceAdd])
  refine quiet_move rfl rfl rfl ?_
  (try simp only [Act.put, List.setIfInBounds_toArray, List.set_cons_zero, List.set_cons_succ, World.size_alloc, setRow_size, Nat.add_assoc, Nat.reduceAdd])
  refine quiet_load rfl rfl rfl B1 Try.ar22 hl ?_
  (try simp only [Act.put, List.setIfInBounds_toArray, List.set_cons_zero, List.set_cons_succ, World.size_alloc, setRow_size, Nat.add_assoc, Nat.reduceAdd])
  refine quiet_load rfl rfl rfl B2 Try.ar22 hl' ?_
  (try simp only [Act.put, List.setIfInBounds_toArray, List.set_cons_zero, List.set_cons_succ, World.size_alloc, setRow_size, Nat.add_assoc, Nat.reduceAdd])
  refine quiet_call 14 rfl rfl Try.func14 (by kernel_rfl) (by kernel_rfl) (fun W hQ => dot10_c xs ys hl hb hl' hb' W) ?_
  (try simp only [Act.put, List.setIfInBounds_toArray, List.set_cons_zero, List.set_cons_succ, World.size_alloc, setRow_size, Nat.add_assoc, Nat.reduceAdd])
  refine quiet_load rfl rfl rfl B1 Try.ar22 hl ?_
  (try simp only [Act.put, List.setIfInBounds_toArray, List.set_cons_zero, List.set_cons_succ, World.size_alloc, setRow_size, Nat.add_assoc, Nat.reduceAdd])
  refine quiet_load rfl rfl rfl B2 Try.ar22 hl' ?_
  (try simp only [Act.put, List.setIfInBounds_toArray, List.set_cons_zero, List.set_cons_succ, World.size_alloc, setRow_size, Nat.add_assoc, Nat.reduceAdd])
  refine quiet_call 15 rfl rfl Try.func15 (by kernel_rfl) (by kernel_rfl) (fun W hQ => dot_ref xs ys hl hb hl' hb' W) ?_
  (try simp only [Act.put, List.setIfInBounds_toArray, List.set_cons_zero, List.set_cons_succ, World.size_alloc, setRow_size, Nat.add_assoc, Nat.reduceAdd])
  refine quiet_eql rfl rfl rfl rfl Try.eg22 (same16 _ _ (elem_len _) rfl) ?_
  (try simp only [Act.put, List.setIfInBounds_toArray, List.set_cons_zero, List.set_cons_succ, World.size_alloc, setRow_size, Nat.add_assoc, Nat.reduceAdd])
  refine quiet_pickt (by rfl) (by rfl) (by rfl) (by rfl) (by rfl) ?_
  (try simp only [Act.put, List.setIfInBounds_toArray, List.set_cons_zero, List.set_cons_succ, World.size_alloc, setRow_size, Nat.add_assoc, Nat.reduceAdd])
  refine quiet_move rfl rfl rfl ?_
  (try simp only [Act.put, List.setIfInBounds_toArray, List.set_cons_zero, List.set_cons_succ, World.size_alloc, setRow_size, Nat.add_assoc, Nat.reduceAdd])
  refine quiet_call 16 rfl rfl Try.func16 (by kernel_rfl) (by kernel_rfl) (fun W hQ => awake10_c W) ?_
  (try simp only [Act.put, List.setIfInBounds_toArray, List.set_cons_zero, List.set_cons_succ, World.size_alloc, setRow_size, Nat.add_assoc, Nat.reduceAdd])
  refine quiet_pickt (by rfl) (by rfl) (by rfl) (by rfl) (by rfl) ?_
  (try simp only [Act.put, List.setIfInBounds_toArray, List.set_cons_zero, List.set_cons_succ, World.size_alloc, setRow_size, Nat.add_assoc, Nat.reduceAdd])
  refine quiet_assign rfl rfl rfl ?_
  (try simp only [Act.put, List.setIfInBounds_toArray, List.set_cons_zero, List.set_cons_succ, World.size_alloc, setRow_size, Nat.add_assoc, Nat.reduceAdd])
  refine wpQuiet_nil ?_
  intro w' hw'
  go_wp2
  go_ret
  exact ⟨rfl, bCall hbel hw' hbel.size⟩
end Go.Proofs.Ytehhipanbjhffaa
