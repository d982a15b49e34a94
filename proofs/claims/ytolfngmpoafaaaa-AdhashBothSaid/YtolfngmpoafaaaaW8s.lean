/- wringerref08.Hash, wringerlaw08's value and awake; arrays held against each other. No condition but that bytes are below 256 and rows shorter than 2^31. -/
import Derived.Test.YtolfngmpoafaaaaW8r
import Derived.Test.YtolfngmpoafaaaaRA
import Derived.Test.YtolfngmpoafaaaaRow3
namespace Go.Proofs.Ytolfngmpoafaaaa
set_option linter.unusedSimpArgs false
set_option linter.unusedVariables false
set_option linter.unusedSectionVars false
set_option linter.unusedVariables false
open Go.RowKit
theorem Try.eg8n : Try.prog.eqGuardType Try.prog.depth 83 = false := by kernel_rfl
theorem Try.eg8b : Try.prog.eqGuardType Try.prog.depth 35 = false := by kernel_rfl
theorem n8eq (xs ys : List Nat) (hx : xs.length = 5) (h : xs = ys) (W : World) : (binOp .eql 83 (.agg (ints .u32 xs)) (.agg (ints .u32 ys))).run Try.prog W = .ok (.bool true) W := by
  subst h
  rw [run_eql_ints (n := 5) Try.underlying83 Try.underlying71 Try.is71 Try.sz71 xs xs hx hx W]; simp
theorem b8eq (xs ys : List Nat) (hx : xs.length = 16) (h : xs = ys) (W : World) : (binOp .eql 35 (.agg (ints .u8 xs)) (.agg (ints .u8 ys))).run Try.prog W = .ok (.bool true) W := by
  subst h
  rw [run_eql_ints (n := 16) Try.underlying35 Try.underlying5 Try.is5 Try.sz5 xs xs hx hx W]; simp
theorem b8ne (xs ys : List Nat) (hx : xs.length = 16) (h : xs = ys) (W : World) : (binOp .neq 35 (.agg (ints .u8 xs)) (.agg (ints .u8 ys))).run Try.prog W = .ok (.bool false) W := by
  subst h
  rw [run_neq_ints (n := 16) Try.underlying35 Try.underlying5 Try.is5 Try.sz5 xs xs hx hx W]; simp
theorem b8ne' (xs ys : List Nat) (hx : xs.length = 16) (hy : ys.length = 16) (h : xs ≠ ys) (W : World) : (binOp .neq 35 (.agg (ints .u8 xs)) (.agg (ints .u8 ys))).run Try.prog W = .ok (.bool true) W := by
  rw [run_neq_ints (n := 16) Try.underlying35 Try.underlying5 Try.is5 Try.sz5 xs ys hx hy W]; simp [h]
set_option maxRecDepth 100000 in
set_option maxHeartbeats 4000000 in
theorem rhash8_c (key b : List Nat) (hl : key.length = 16) (hb : ∀ x ∈ key, x < 256) (hbb : ∀ x ∈ b, x < 256) (hbl : b.length < 2 ^ 31) (ad : Option Addr) (c : Nat) (w : World) (hs0 : Sl w ad .u8 b) :
    Calls Try.prog 34 #[.agg (ints .u8 key), .slice ad b.length c] w fun e w' => e = .returned (.agg (ints .u8 (hashP key b))) ∧ Below w.heap.size w w' := by
  have B0 := (Blk.new w 35 (ints .u8 key)).alloc (.cells (ints .u8 (zeros 16)) 35)
  have B1 := Blk.new (w.alloc (.cells (ints .u8 key) 35)) 35 (ints .u8 (zeros 16))
  rw [World.size_alloc] at B1
  have hbel := ((Below.refl w.heap.size w).alloc (Nat.le_refl _) (.cells (ints .u8 key) 35)).alloc (by simp) (.cells (ints .u8 (zeros 16)) 35)
  have hs1 := hs0.below hbel
  have hhl := hashP_len key b
  go_enter Try.func34, Try.ntmps34
  go_wp2_with (first | (refine wpList_alloc_ints rfl 35 rfl Try.z35 ?_; (try simp only [Act.put, List.setIfInBounds_toArray, List.set_cons_zero, List.set_cons_succ, World.size_alloc, setRow_size, Nat.add_assoc, Nat.reduceAdd])) | (refine wpList_load_ints rfl 35 _ rfl w.heap.size rfl B0 Try.ar35 hl ?_; (try simp only [Act.put, List.setIfInBounds_toArray, List.set_cons_zero, List.set_cons_succ, World.size_alloc, setRow_size, Nat.add_assoc, Nat.reduceAdd])))
  generalize ((w.alloc (.cells (ints .u8 key) 35)).alloc (.cells (ints .u8 (zeros 16)) 35)) = w0 at *
  refine (rvalue8_c key b hl hb hbb hbl ad c _ hs1).mono ?_
  rintro e w1 ⟨rfl, hb1⟩
  have C1 := B1.below' hb1
  have hbel1 := bCall hbel hb1 hbel.size
  go_wp2_with fail
  refine (rlow_c _ (restOf_len _) _).mono ?_
  rintro e w3 ⟨rfl, hb3⟩
  rw [hashP_rlow]
  have E1 := C1.below' hb3
  have hbel3 := bCall hbel1 hb3 hbel1.size
  go_wp2_with (refine wpList_store_ints (k := .u8) (xs := hashP key b) rfl 35 _ _ rfl (w.heap.size + 1) rfl rfl E1 (zeros_size _ _) Try.ar35 hhl ?_; (try simp only [Act.put, List.setIfInBounds_toArray, List.set_cons_zero, List.set_cons_succ, World.size_alloc, setRow_size, Nat.add_assoc, Nat.reduceAdd]))
  exact ret_ints rfl rfl (E1.row _) Try.ar35 hhl ⟨rfl, bSetRow hbel3 (by omega) _⟩
end Go.Proofs.Ytolfngmpoafaaaa
