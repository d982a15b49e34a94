/- The walk of RingMultiples. No condition but that bytes are below 256 and the numbers below 2^64. -/
import Derived.Test.YtehhipanbjhffaaW10e
import Derived.Test.YtehhipanbjhffaaL10b
namespace Go.Proofs.Ytehhipanbjhffaa
set_option linter.unusedSimpArgs false
set_option linter.unusedVariables false
set_option linter.unusedSectionVars false
set_option linter.unusedVariables false
open Go.RowKit
open Gf (up upN mulS mul)
theorem u64xor (n m : Nat) (hn : n < 18446744073709551616) (hm : m < 18446744073709551616) : bits BinOp.xor IntKind.u64 (n : Int) (m : Int) = ((n ^^^ m : Nat) : Int) := u64_xor_nat n m hn hm
set_option maxRecDepth 100000 in
set_option maxHeartbeats 8000000 in
theorem ringMultiples_c (n m : Nat) (xs : List Nat) (hn : n < 2 ^ 64) (hm : m < 2 ^ 64) (hl : xs.length = 16) (hb : ∀ x ∈ xs, x < 2 ^ 8) (w : World) :
    Calls Try.prog 7 #[.int .u64 n, .int .u64 m, .agg (ints .u8 xs)] w fun e w' => e = .returned (.bool true) ∧ Below w.heap.size w w' := by
  have hx := bnum_lt hl hb
  have hnm : n ^^^ m < 2 ^ 64 := Nat.xor_lt_two_pow hn hm
  have HXR := Lib.hid (u64xor n m hn hm)
  have m0 : mul R2 (bnum xs) 0 = 0 := (Gf.mul_lin_r R2 (bnum xs)).zero
  have m1 := Gf.mul_one R2 (bnum xs)
  have m2 : mul R2 (bnum xs) 2 = up R2 (bnum xs) := Gf.mul_pow R2 (bnum xs) (i := 1) (by omega)
  have m3 : mul R2 (bnum xs) 3 = bnum xs ^^^ up R2 (bnum xs) := by
    have : mul R2 (bnum xs) (1 ^^^ 2) = mul R2 (bnum xs) 1 ^^^ mul R2 (bnum xs) 2 := Gf.mul_lin_r R2 (bnum xs) 1 2
    rw [m1, m2] at this
    exact this
  have hu := Gf.up_lt R2_lt (bnum xs)
  have E1 := Lib.hid (show xorL (belem (mul R2 (bnum xs) n)) (belem (mul R2 (bnum xs) m)) = belem (mul R2 (bnum xs) (n ^^^ m)) by
    rw [belem_xor (Gf.mul_lt R2_lt hx n) (Gf.mul_lt R2_lt hx m), show mul R2 (bnum xs) (n ^^^ m) = _ from Gf.mul_lin_r R2 (bnum xs) n m])
  have E2 := Lib.hid (show belem (mul R2 (bnum xs) 0) = zeros 16 by rw [m0, belem_zero])
  have E3 := Lib.hid (show belem (mul R2 (bnum xs) 1) = xs by rw [m1, belem_bnum hl hb])
  have E4 := Lib.hid (show belem (mul R2 (bnum xs) 2) = dblB xs by rw [m2, dblB_up hl hb])
  have E5 := Lib.hid (show belem (mul R2 (bnum xs) 3) = xorL xs (dblB xs) by
    rw [m3, dblB_up hl hb, ← belem_xor hx hu, belem_bnum hl hb])
  have hdb : ∀ x ∈ dblB xs, x < 256 := by rw [dblB_up hl hb]; exact belem_lt _
  have hdl := dblB_len xs
  clear m0 m1 m2 m3 hu hx
  have B1 := Blk.new w 22 (ints .u8 xs)
  have hbel := (Below.refl w.heap.size w).alloc (Nat.le_refl _) (.cells (ints .u8 xs) 22)
  go_enter Try.func7, Try.ntmps7
  go_wp2
  generalize (w.alloc (.cells (ints .u8 xs) 22)) = w0 at *
  refine wp_region_below (by kernel_rfl) (by kernel_rfl) ?_
  refine quiet_move rfl rfl rfl ?_
  (try simp only [Act.put, List.setIfInBounds_toArray, List.set_cons_zero, List.set_cons_succ, World.size_alloc, setRow_size, Nat.add_assoc, Nat.reduceAdd])
  refine quiet_load rfl rfl rfl B1 Try.ar22 hl ?_
  (try simp only [Act.put, List.setIfInBounds_toArray, List.set_cons_zero, List.set_cons_succ, World.size_alloc, setRow_size, Nat.add_assoc, Nat.reduceAdd])
  refine quiet_call 18 rfl rfl Try.func18 (by kernel_rfl) (by kernel_rfl) (fun W hQ => multiple_c n xs hn hl hb W) ?_
  (try simp only [Act.put, List.setIfInBounds_toArray, List.set_cons_zero, List.set_cons_succ, World.size_alloc, setRow_size, Nat.add_assoc, Nat.reduceAdd])
  refine quiet_move rfl rfl rfl ?_
  (try simp only [Act.put, List.setIfInBounds_toArray, List.set_cons_zero, List.set_cons_succ, World.size_alloc, setRow_size, Nat.add_assoc, Nat.reduceAdd])
  refine quiet_load rfl rfl rfl B1 Try.ar22 hl ?_
  (try simp only [Act.put, List.setIfInBounds_toArray, List.set_cons_zero, List.set_cons_succ, World.size_alloc, setRow_size, Nat.add_assoc, Nat.reduceAdd])
  refine quiet_call 18 rfl rfl Try.func18 (by kernel_rfl) (by kernel_rfl) (fun W hQ => multiple_c m xs hm hl hb W) ?_
  (try simp only [Act.put, List.setIfInBounds_toArray, List.set_cons_zero, List.set_cons_succ, World.size_alloc, setRow_size, Nat.add_assoc, Nat.reduceAdd])
  refine quiet_call 17 rfl rfl Try.func17 (by kernel_rfl) (by kernel_rfl) (fun W hQ => plus16_c _ _ (belem_len _) (belem_lt _) (belem_len _) (belem_lt _) W) ?_
  (try simp only [Act.put, List.setIfInBounds_toArray, List.set_cons_zero, List.set_cons_succ, World.size_alloc, setRow_size, Nat.add_assoc, Nat.reduceAdd])
  refine quiet_move rfl rfl rfl ?_
  (try simp only [Act.put, List.setIfInBounds_toArray, List.set_cons_zero, List.set_cons_succ, World.size_alloc, setRow_size, Nat.add_assoc, Nat.reduceAdd])
  refine quiet_move rfl rfl rfl ?_
  (try simp only [Act.put, List.setIfInBounds_toArray, List.set_cons_zero, List.set_cons_succ, World.size_alloc, setRow_size, Nat.add_assoc, Nat.reduceAdd])
  refine quiet_run (v := .int .u64 (bits BinOp.xor IntKind.u64 (n : Int) (m : Int))) rfl (fun W => by kernel_rfl) ?_; rw [HXR.out]
  (try simp only [Act.put, List.setIfInBounds_toArray, List.set_cons_zero, List.set_cons_succ, World.size_alloc, setRow_size, Nat.add_assoc, Nat.reduceAdd])
  refine quiet_load rfl rfl rfl B1 Try.ar22 hl ?_
  (try simp only [Act.put, List.setIfInBounds_toArray, List.set_cons_zero, List.set_cons_succ, World.size_alloc, setRow_size, Nat.add_assoc, Nat.reduceAdd])
  refine quiet_call 18 rfl rfl Try.func18 (by kernel_rfl) (by kernel_rfl) (fun W hQ => multiple_c (n ^^^ m) xs hnm hl hb W) ?_
  (try simp only [Act.put, List.setIfInBounds_toArray, List.set_cons_zero, List.set_cons_succ, World.size_alloc, setRow_size, Nat.add_assoc, Nat.reduceAdd])
  refine quiet_neq rfl rfl rfl rfl Try.eg22 (diff16 _ _ (xorL_len _ _) E1.out) ?_
  (try simp only [Act.put, List.setIfInBounds_toArray, List.set_cons_zero, List.set_cons_succ, World.size_alloc, setRow_size, Nat.add_assoc, Nat.reduceAdd])
  refine wpQuiet_nil ?_
  intro w' hw'
  go_wp2
  have C1 := B1.below' hw'
  have hbel1 := bCall hbel hw' hbel.size
  clear B1 hw' hbel
  generalize w' = w1 at *
  refine wp_region_below (by kernel_rfl) (by kernel_rfl) ?_
  refine quiet_load rfl rfl rfl C1 Try.ar22 hl ?_
  (try simp only [Act.put, List.setIfInBounds_toArray, List.set_cons_zero, List.set_cons_succ, World.size_alloc, setRow_size, Nat.add_assoc, Nat.reduceAdd])
  refine quiet_call 18 rfl rfl Try.func18 (by kernel_rfl) (by kernel_rfl) (fun W hQ => multiple_c 0 xs (by decide) hl hb W) ?_
  (try simp only [Act.put, List.setIfInBounds_toArray, List.set_cons_zero, List.set_cons_succ, World.size_alloc, setRow_size, Nat.add_assoc, Nat.reduceAdd])
  refine quiet_run (v := .agg (ints .u8 (zeros 16))) rfl (fun W => by kernel_rfl) ?_
  (try simp only [Act.put, List.setIfInBounds_toArray, List.set_cons_zero, List.set_cons_succ, World.size_alloc, setRow_size, Nat.add_assoc, Nat.reduceAdd])
  refine quiet_eql rfl rfl rfl rfl Try.eg22 (same16 _ _ (belem_len _) E2.out) ?_
  (try simp only [Act.put, List.setIfInBounds_toArray, List.set_cons_zero, List.set_cons_succ, World.size_alloc, setRow_size, Nat.add_assoc, Nat.reduceAdd])
  refine quiet_move rfl rfl rfl ?_
  (try simp only [Act.put, List.setIfInBounds_toArray, List.set_cons_zero, List.set_cons_succ, World.size_alloc, setRow_size, Nat.add_assoc, Nat.reduceAdd])
  refine quiet_load rfl rfl rfl C1 Try.ar22 hl ?_
  (try simp only [Act.put, List.setIfInBounds_toArray, List.set_cons_zero, List.set_cons_succ, World.size_alloc, setRow_size, Nat.add_assoc, Nat.reduceAdd])
  refine quiet_call 18 rfl rfl Try.func18 (by kernel_rfl) (by kernel_rfl) (fun W hQ => multiple_c 1 xs (by decide) hl hb W) ?_
  (try simp only [Act.put, List.setIfInBounds_toArray, List.set_cons_zero, List.set_cons_succ, World.size_alloc, setRow_size, Nat.add_assoc, Nat.reduceAdd])
  refine quiet_load rfl rfl rfl C1 Try.ar22 hl ?_
  (try simp only [Act.put, List.setIfInBounds_toArray, List.set_cons_zero, List.set_cons_succ, World.size_alloc, setRow_size, Nat.add_assoc, Nat.reduceAdd])
  refine quiet_eql rfl rfl rfl rfl Try.eg22 (same16 _ _ (belem_len _) E3.out) ?_
  (try simp only [Act.put, List.setIfInBounds_toArray, List.set_cons_zero, List.set_cons_succ, World.size_alloc, setRow_size, Nat.add_assoc, Nat.reduceAdd])
  refine quiet_pickt (by rfl) (by rfl) (by rfl) (by rfl) (by rfl) ?_
  (try simp only [Act.put, List.setIfInBounds_toArray, List.set_cons_zero, List.set_cons_succ, World.size_alloc, setRow_size, Nat.add_assoc, Nat.reduceAdd])
  refine quiet_move rfl rfl rfl ?_
  (try simp only [Act.put, List.setIfInBounds_toArray, List.set_cons_zero, List.set_cons_succ, World.size_alloc, setRow_size, Nat.add_assoc, Nat.reduceAdd])
  refine quiet_load rfl rfl rfl C1 Try.ar22 hl ?_
  (try simp only [Act.put, List.setIfInBounds_toArray, List.set_cons_zero, List.set_cons_succ, World.size_alloc, setRow_size, Nat.add_assoc, Nat.reduceAdd])
  refine quiet_call 18 rfl rfl Try.func18 (by kernel_rfl) (by kernel_rfl) (fun W hQ => multiple_c 2 xs (by decide) hl hb W) ?_
  (try simp only [Act.put, List.setIfInBounds_toArray, List.set_cons_zero, List.set_cons_succ, World.size_alloc, setRow_size, Nat.add_assoc, Nat.reduceAdd])
  refine quiet_load rfl rfl rfl C1 Try.ar22 hl ?_
  (try simp only [Act.put, List.setIfInBounds_toArray, List.set_cons_zero, List.set_cons_succ, World.size_alloc, setRow_size, Nat.add_assoc, Nat.reduceAdd])
  refine quiet_call 19 rfl rfl Try.func19 (by kernel_rfl) (by kernel_rfl) (fun W hQ => double_c xs hl hb W) ?_
  (try simp only [Act.put, List.setIfInBounds_toArray, List.set_cons_zero, List.set_cons_succ, World.size_alloc, setRow_size, Nat.add_assoc, Nat.reduceAdd])
  refine quiet_eql rfl rfl rfl rfl Try.eg22 (same16 _ _ (belem_len _) E4.out) ?_
  (try simp only [Act.put, List.setIfInBounds_toArray, List.set_cons_zero, List.set_cons_succ, World.size_alloc, setRow_size, Nat.add_assoc, Nat.reduceAdd])
  refine quiet_pickt (by rfl) (by rfl) (by rfl) (by rfl) (by rfl) ?_
  (try simp only [Act.put, List.setIfInBounds_toArray, List.set_cons_zero, List.set_cons_succ, World.size_alloc, setRow_size, Nat.add_assoc, Nat.reduceAdd])
  refine quiet_move rfl rfl rfl ?_
  (try simp only [Act.put, List.setIfInBounds_toArray, List.set_cons_zero, List.set_cons_succ, World.size_alloc, setRow_size, Nat.add_assoc, Nat.reduceAdd])
  refine quiet_load rfl rfl rfl C1 Try.ar22 hl ?_
  (try simp only [Act.put, List.setIfInBounds_toArray, List.set_cons_zero, List.set_cons_succ, World.size_alloc, setRow_size, Nat.add_assoc, Nat.reduceAdd])
  refine quiet_call 18 rfl rfl Try.func18 (by kernel_rfl) (by kernel_rfl) (fun W hQ => multiple_c 3 xs (by decide) hl hb W) ?_
  (try simp only [Act.put, List.setIfInBounds_toArray, List.set_cons_zero, List.set_cons_succ, World.size_alloc, setRow_size, Nat.add_assoc, Nat.reduceAdd])
  refine quiet_load rfl rfl rfl C1 Try.ar22 hl ?_
  (try simp only [Act.put, List.setIfInBounds_toArray, List.set_cons_zero, List.set_cons_succ, World.size_alloc, setRow_size, Nat.add_assoc, Nat.reduceAdd])
  refine quiet_load rfl rfl rfl C1 Try.ar22 hl ?_
  (try simp only [Act.put, List.setIfInBounds_toArray, List.set_cons_zero, List.set_cons_succ, World.size_alloc, setRow_size, Nat.add_assoc, Nat.reduceAdd])
  refine quiet_call 19 rfl rfl Try.func19 (by kernel_rfl) (by kernel_rfl) (fun W hQ => double_c xs hl hb W) ?_
  (try simp only [Act.put, List.setIfInBounds_toArray, List.set_cons_zero, List.set_cons_succ, World.size_alloc, setRow_size, Nat.add_assoc, Nat.reduceAdd])
  refine quiet_call 17 rfl rfl Try.func17 (by kernel_rfl) (by kernel_rfl) (fun W hQ => plus16_c xs (dblB xs) hl hb hdl hdb W) ?_
  (try simp only [Act.put, List.setIfInBounds_toArray, List.set_cons_zero, List.set_cons_succ, World.size_alloc, setRow_size, Nat.add_assoc, Nat.reduceAdd])
  refine quiet_eql rfl rfl rfl rfl Try.eg22 (same16 _ _ (belem_len _) E5.out) ?_
  (try simp only [Act.put, List.setIfInBounds_toArray, List.set_cons_zero, List.set_cons_succ, World.size_alloc, setRow_size, Nat.add_assoc, Nat.reduceAdd])
  refine quiet_pickt (by rfl) (by rfl) (by rfl) (by rfl) (by rfl) ?_
  (try simp only [Act.put, List.setIfInBounds_toArray, List.set_cons_zero, List.set_cons_succ, World.size_alloc, setRow_size, Nat.add_assoc, Nat.reduceAdd])
  refine quiet_move rfl rfl rfl ?_
  (try simp only [Act.put, List.setIfInBounds_toArray, List.set_cons_zero, List.set_cons_succ, World.size_alloc, setRow_size, Nat.add_assoc, Nat.reduceAdd])
  refine quiet_call 16 rfl rfl Try.func16 (by kernel_rfl) (by kernel_rfl) (fun W hQ => awake10_c W) ?_
  (try simp only [Act.put, List.setIfInBounds_toArray, List.set_cons_zero, List.set_cons_succ, World.size_alloc, setRow_size, Nat.add_assoc, Nat.reduceAdd])
  refine quiet_pickt (by rfl) (by rfl) (by rfl) (by rfl) (by rfl) ?_
  (try simp only [Act.put, List.setIfInBounds_toArray, List.set_cons_zero, List.set_cons_succ, World.size_alloc, setRow_size, Nat.add_assoc, Nat.reduceAdd])
  refine quiet_assign rfl rfl rfl ?_
  (try simp only [Act.put, List.setIfInBounds_toArray, List.set_cons_zero, List.set_cons_succ, World.size_alloc, setRow_size, Nat.add_assoc, Nat.reduceAdd])
  refine wpQuiet_nil ?_
  intro w' hw'
  go_wp2
  go_ret
  exact ⟨rfl, bCall hbel1 hw' hbel1.size⟩
end Go.Proofs.Ytehhipanbjhffaa
