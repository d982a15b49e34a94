/- wringerref08.Hash, wringerlaw08's value and awake; arrays held against each other. No condition but that bytes are below 256 and rows shorter than 2^31. -/
import Derived.Test.YtppideomehdhjaaW8r
import Derived.Test.YtppideomehdhjaaRA
import Derived.Test.YtppideomehdhjaaRow3
namespace Go.Proofs.Ytppideomehdhjaa
set_option linter.unusedSimpArgs false
set_option linter.unusedVariables false
set_option linter.unusedSectionVars false
set_option linter.unusedVariables false
open Go.RowKit
theorem Try.eg8n : Try.prog.eqGuardType Try.prog.depth 44 = false := by kernel_rfl
theorem Try.eg8b : Try.prog.eqGuardType Try.prog.depth 22 = false := by kernel_rfl
theorem n8eq (xs ys : List Nat) (hx : xs.length = 5) (h : xs = ys) (W : World) : (binOp .eql 44 (.agg (ints .u32 xs)) (.agg (ints .u32 ys))).run Try.prog W = .ok (.bool true) W := by
  subst h
  rw [run_eql_ints (n := 5) Try.underlying44 Try.underlying23 Try.is23 Try.sz23 xs xs hx hx W]; simp
theorem b8eq (xs ys : List Nat) (hx : xs.length = 16) (h : xs = ys) (W : World) : (binOp .eql 22 (.agg (ints .u8 xs)) (.agg (ints .u8 ys))).run Try.prog W = .ok (.bool true) W := by
  subst h
  rw [run_eql_ints (n := 16) Try.underlying22 Try.underlying5 Try.is5 Try.sz5 xs xs hx hx W]; simp
theorem b8ne (xs ys : List Nat) (hx : xs.length = 16) (h : xs = ys) (W : World) : (binOp .neq 22 (.agg (ints .u8 xs)) (.agg (ints .u8 ys))).run Try.prog W = .ok (.bool false) W := by
  subst h
  rw [run_neq_ints (n := 16) Try.underlying22 Try.underlying5 Try.is5 Try.sz5 xs xs hx hx W]; simp
theorem b8ne' (xs ys : List Nat) (hx : xs.length = 16) (hy : ys.length = 16) (h : xs ≠ ys) (W : World) : (binOp .neq 22 (.agg (ints .u8 xs)) (.agg (ints .u8 ys))).run Try.prog W = .ok (.bool true) W := by
  rw [run_neq_ints (n := 16) Try.underlying22 Try.underlying5 Try.is5 Try.sz5 xs ys hx hy W]; simp [h]
set_option maxRecDepth 100000 in
set_option maxHeartbeats 4000000 in
theorem rhash8_c (key b : List Nat) (hl : key.length = 16) (hb : ∀ x ∈ key, x < 256) (hbb : ∀ x ∈ b, x < 256) (hbl : b.length < 2 ^ 31) (ad : Option Addr) (c : Nat) (w : World) (hs0 : Sl w ad .u8 b) :
    Calls Try.prog 19 #[.agg (ints .u8 key), .slice ad b.length c] w fun e w' => e = .returned (.agg (ints .u8 (hashP key b))) ∧ Below w.heap.size w w' := by
  have B0 := (Blk.new w 22 (ints .u8 key)).alloc (.cells (ints .u8 (zeros 16)) 22)
  have B1 := Blk.new (w.alloc (.cells (ints .u8 key) 22)) 22 (ints .u8 (zeros 16))
  rw [World.size_alloc] at B1
  have hbel := ((Below.refl w.heap.size w).alloc (Nat.le_refl _) (.cells (ints .u8 key) 22)).alloc (by simp) (.cells (ints .u8 (zeros 16)) 22)
  have hs1 := hs0.below hbel
  have hhl := hashP_len key b
  go_enter Try.func19, Try.ntmps19
  go_wp2_with (first | (refine wpList_alloc_ints rfl 22 rfl Try.z22 ?_; (try simp only [Act.put, List.setIfInBounds_toArray, List.set_cons_zero, List.set_cons_succ, World.size_alloc, setRow_size, Nat.add_assoc, Nat.reduceAdd])) | (refine wpList_load_ints rfl 22 _ rfl w.heap.size rfl B0 Try.ar22 hl ?_; (try simp only [Act.put, List.setIfInBounds_toArray, List.set_cons_zero, List.set_cons_succ, World.size_alloc, setRow_size, Nat.add_assoc, Nat.reduceAdd])))
  generalize ((w.alloc (.cells (ints .u8 key) 22)).alloc (.cells (ints .u8 (zeros 16)) 22)) = w0 at *
  refine (rvalue8_c key b hl hb hbb hbl ad c _ hs1).mono ?_
  rintro e w1 ⟨rfl, hb1⟩
  have C1 := B1.below' hb1
  have hbel1 := bCall hbel hb1 hbel.size
  go_wp2_with fail
  refine (rlow_c _ (restOf_len _) _).mono ?_
  rintro e w3 ⟨rfl, hb3⟩
  rw [hashP_rlow]
  have E1 := C1.below' hb3
  have hbel3 := bCall hbel1 hb3 hbel1.size
  go_wp2_with (refine wpList_store_ints (k := .u8) (xs := hashP key b) rfl 22 _ _ rfl (w.heap.size + 1) rfl rfl E1 (zeros_size _ _) Try.ar22 hhl ?_; (try simp only [Act.put, List.setIfInBounds_toArray, List.set_cons_zero, List.set_cons_succ, World.size_alloc, setRow_size, Nat.add_assoc, Nat.reduceAdd]))
  exact ret_ints rfl rfl (E1.row _) Try.ar22 hhl ⟨rfl, bSetRow hbel3 (by omega) _⟩
set_option maxRecDepth 100000 in
set_option maxHeartbeats 4000000 in
theorem val8_c (key b : List Nat) (hl : key.length = 16) (hb : ∀ x ∈ key, x < 256) (hbb : ∀ x ∈ b, x < 256) (hbl : b.length < 2 ^ 31) (ad : Option Addr) (c : Nat) (hc : b.length ≤ c) (w : World) (hs0 : Sl w ad .u8 b) :
    Calls Try.prog 27 #[.agg (ints .u8 key), .slice ad b.length c] w fun e w' => e = .returned (.agg (ints .u32 (numOf (polyA key b)))) ∧ Below w.heap.size w w' := by
  have B0 := (Blk.new w 22 (ints .u8 key)).alloc (.cells (ints .u32 (zeros 5)) 44)
  have B1 := Blk.new (w.alloc (.cells (ints .u8 key) 22)) 44 (ints .u32 (zeros 5))
  rw [World.size_alloc] at B1
  have hbel := ((Below.refl w.heap.size w).alloc (Nat.le_refl _) (.cells (ints .u8 key) 22)).alloc (by simp) (.cells (ints .u32 (zeros 5)) 44)
  have hs1 := hs0.below hbel
  have hhl := numOf_len (polyA key b)
  go_enter Try.func27, Try.ntmps27
  go_wp2_with (first | (refine wpList_alloc_ints rfl 44 rfl Try.z44 ?_; (try simp only [Act.put, List.setIfInBounds_toArray, List.set_cons_zero, List.set_cons_succ, World.size_alloc, setRow_size, Nat.add_assoc, Nat.reduceAdd])) | (refine wpList_load_ints rfl 22 _ rfl w.heap.size rfl B0 Try.ar22 hl ?_; (try simp only [Act.put, List.setIfInBounds_toArray, List.set_cons_zero, List.set_cons_succ, World.size_alloc, setRow_size, Nat.add_assoc, Nat.reduceAdd])))
  generalize ((w.alloc (.cells (ints .u8 key) 22)).alloc (.cells (ints .u32 (zeros 5)) 44)) = w0 at *
  have hl1 := B1.lt
  refine (new8_c key hl hb _).mono ?_
  rintro e w1 ⟨g, rfl, hg, hS, hb1⟩
  have hs2 := hs1.below hb1
  have C1 := B1.below' hb1
  have hbel1 := bCall hbel hb1 hbel.size
  go_wp2_with fail
  refine (write8_c g key [] b hbb (by decide) hbl ad c hc (ANe.of_sl hs1 hg) _ hS hs2).mono ?_
  rintro e w2 ⟨rfl, hS2, hch⟩
  have D1 := hch.blk C1 (by omega)
  have hbel2 := hch.below hbel1 (by omega) hbel1.size
  go_wp2_with fail
  refine (value8_c g key b hbb _ hS2).mono ?_
  rintro e w3 ⟨rfl, hb3⟩
  have E1 := D1.below' hb3
  have hbel3 := bCall hbel2 hb3 hbel2.size
  go_wp2_with (refine wpList_store_ints (k := .u32) (xs := numOf (polyA key b)) rfl 44 _ _ rfl (w.heap.size + 1) rfl rfl E1 (zeros_size _ _) Try.ar44 hhl ?_; (try simp only [Act.put, List.setIfInBounds_toArray, List.set_cons_zero, List.set_cons_succ, World.size_alloc, setRow_size, Nat.add_assoc, Nat.reduceAdd]))
  exact ret_ints rfl rfl (E1.row _) Try.ar44 hhl ⟨rfl, bSetRow hbel3 (by omega) _⟩
def k8 : List Nat := 1 :: zeros 15
def h8 : List Nat := [5, 7, 1] ++ zeros 13
theorem k8_c : ints .u8 k8 = #[.int .u8 1, .int .u8 0, .int .u8 0, .int .u8 0, .int .u8 0, .int .u8 0, .int .u8 0, .int .u8 0, .int .u8 0, .int .u8 0, .int .u8 0, .int .u8 0, .int .u8 0, .int .u8 0, .int .u8 0, .int .u8 0] := by kernel_rfl
theorem h8_c : ints .u8 h8 = #[.int .u8 5, .int .u8 7, .int .u8 1, .int .u8 0, .int .u8 0, .int .u8 0, .int .u8 0, .int .u8 0, .int .u8 0, .int .u8 0, .int .u8 0, .int .u8 0, .int .u8 0, .int .u8 0, .int .u8 0, .int .u8 0] := by kernel_rfl
theorem z8_c : ints .u8 (zeros 16) = #[.int .u8 0, .int .u8 0, .int .u8 0, .int .u8 0, .int .u8 0, .int .u8 0, .int .u8 0, .int .u8 0, .int .u8 0, .int .u8 0, .int .u8 0, .int .u8 0, .int .u8 0, .int .u8 0, .int .u8 0, .int .u8 0] := by kernel_rfl
theorem aw8_hash : hashP k8 [5, 7] = h8 := by kernel_rfl
theorem sl57 (w : World) : Sl (w.alloc (.cells #[.int .u8 5, .int .u8 7] 5)) (some ⟨w.heap.size, 0, none⟩) .u8 [5, 7] := Sl.blk (Blk.new w 5 (ints .u8 [5, 7]))
set_option maxRecDepth 100000 in
set_option maxHeartbeats 4000000 in
theorem awake8_c (w : World) : Calls Try.prog 24 #[] w fun e w' => e = .returned (.bool true) ∧ Below w.heap.size w w' := by
  have h1 := hash8_c k8 [5, 7] (by decide) (by decide) (by decide) (by decide) (some ⟨w.heap.size, 0, none⟩) 2 (by decide) _ (sl57 w)
  rw [aw8_hash, h8_c, k8_c] at h1
  have hbel := (Below.refl w.heap.size w).alloc (Nat.le_refl _) (.cells #[.int .u8 5, .int .u8 7] 5)
  have heq := fun W => b8eq h8 h8 (by decide) rfl W
  rw [h8_c] at heq
  have h2 := fun W => new8_c (zeros 16) (zeros_len _) (zeros_lt _ (by omega)) W
  rw [z8_c] at h2
  go_enter Try.func24, Try.ntmps24
  go_wp2_with fail
  refine h1.mono ?_
  rintro e w1 ⟨rfl, hb1⟩
  have hbel1 := bCall hbel hb1 hbel.size
  go_wp2_with fail
  refine (h2 _).mono ?_
  rintro e w2 ⟨g, rfl, hg, hS, hb2⟩
  have hbel2 := bCall hbel1 hb2 hbel1.size
  go_wp2
  go_ret
  exact ⟨rfl, hbel2⟩
end Go.Proofs.Ytppideomehdhjaa
