/- poly's Sum.Tag, Hash; a Sum that is none. No condition but that bytes are below 256 and rows shorter than 2^31. -/
import Derived.Test.YtolfngmpoafaaaaW8e
namespace Go.Proofs.Ytolfngmpoafaaaa
set_option linter.unusedSimpArgs false
set_option linter.unusedVariables false
set_option linter.unusedSectionVars false
set_option linter.unusedVariables false
open Go.RowKit
set_option maxRecDepth 100000 in
set_option maxHeartbeats 4000000 in
theorem tag8_c (g : Nat) (key bs : List Nat) (hbb : ∀ x ∈ bs, x < 256) (w : World) (hS : IsSm w g key bs) :
    Calls Try.prog 44 #[.pointer (some ⟨g, 0, none⟩)] w fun e w' => e = .returned (.agg (ints .u8 (hashP key bs))) ∧ Below w.heap.size w w' := by
  have B0 := Blk.new w 35 (ints .u8 (zeros 16))
  have hbel := (Below.refl w.heap.size w).alloc (Nat.le_refl _) (.cells (ints .u8 (zeros 16)) 35)
  have S1 := hS.below hbel
  go_enter Try.func44, Try.ntmps44
  go_wp2_with (refine wpList_alloc_ints rfl 35 rfl Try.z35 ?_; (try simp only [Act.put, List.setIfInBounds_toArray, List.set_cons_zero, List.set_cons_succ, World.size_alloc, setRow_size, Nat.add_assoc, Nat.reduceAdd]))
  generalize (w.alloc (.cells (ints .u8 (zeros 16)) 35)) = w1 at *
  refine (value8_c g key bs hbb _ S1).mono ?_
  rintro e w2 ⟨rfl, hb2⟩
  have C0 := B0.below' hb2
  have hbel2 := bCall hbel hb2 hbel.size
  go_wp2_with fail
  refine (low_c _ (numOf_len _) (lt32 _) _).mono ?_
  rintro e w3 ⟨rfl, hb3⟩
  have D0 := C0.below' hb3
  have hbel3 := bCall hbel2 hb3 hbel2.size
  rw [hashP_low]
  have hhl := hashP_len key bs
  go_wp2_with (refine wpList_store_ints (k := .u8) (xs := hashP key bs) rfl 35 _ _ rfl w.heap.size rfl rfl D0 (zeros_size _ _) Try.ar35 hhl ?_; (try simp only [Act.put, List.setIfInBounds_toArray, List.set_cons_zero, List.set_cons_succ, World.size_alloc, setRow_size, Nat.add_assoc, Nat.reduceAdd]))
  exact ret_ints rfl rfl (D0.row _) Try.ar35 hhl ⟨rfl, bSetRow hbel3 (Nat.le_refl _) _⟩
set_option maxRecDepth 100000 in
set_option maxHeartbeats 4000000 in
theorem hash8_c (key b : List Nat) (hl : key.length = 16) (hb : ∀ x ∈ key, x < 256) (hbb : ∀ x ∈ b, x < 256) (hbl : b.length < 2 ^ 31) (ad : Option Addr) (c : Nat) (hc : b.length ≤ c) (w : World) (hs0 : Sl w ad .u8 b) :
    Calls Try.prog 22 #[.agg (ints .u8 key), .slice ad b.length c] w fun e w' => e = .returned (.agg (ints .u8 (hashP key b))) ∧ Below w.heap.size w w' := by
  have B0 := (Blk.new w 35 (ints .u8 key)).alloc (.cells (ints .u8 (zeros 16)) 35)
  have B1 := Blk.new (w.alloc (.cells (ints .u8 key) 35)) 35 (ints .u8 (zeros 16))
  rw [World.size_alloc] at B1
  have hbel := ((Below.refl w.heap.size w).alloc (Nat.le_refl _) (.cells (ints .u8 key) 35)).alloc (by simp) (.cells (ints .u8 (zeros 16)) 35)
  have hs1 := hs0.below hbel
  have hhl := hashP_len key b
  go_enter Try.func22, Try.ntmps22
  go_wp2_with (first | (refine wpList_alloc_ints rfl 35 rfl Try.z35 ?_; (try simp only [Act.put, List.setIfInBounds_toArray, List.set_cons_zero, List.set_cons_succ, World.size_alloc, setRow_size, Nat.add_assoc, Nat.reduceAdd])) | (refine wpList_load_ints rfl 35 _ rfl w.heap.size rfl B0 Try.ar35 hl ?_; (try simp only [Act.put, List.setIfInBounds_toArray, List.set_cons_zero, List.set_cons_succ, World.size_alloc, setRow_size, Nat.add_assoc, Nat.reduceAdd])))
  generalize ((w.alloc (.cells (ints .u8 key) 35)).alloc (.cells (ints .u8 (zeros 16)) 35)) = w0 at *
  have hl1 := B1.lt
  refine (new8_c key hl hb _).mono ?_
  rintro e w1 ⟨g, rfl, hg, hS, hb1⟩
  have hs2 := hs1.below hb1
  have C1 := B1.below' hb1
  have hbel1 := bCall hbel hb1 hbel.size
  go_wp2_with fail
  refine (write8_c g key [] b hbb (by decide) hbl ad c hc (ANe.of_sl hs1 hg) _ hS hs2).mono ?_
  rintro e w2 ⟨rfl, hS2, hch⟩
  have D1 := hch.blk C1 (by omega)
  have hbel2 := hch.below hbel1 (by omega) hbel1.size
  go_wp2_with fail
  refine (tag8_c g key b hbb _ hS2).mono ?_
  rintro e w3 ⟨rfl, hb3⟩
  have E1 := D1.below' hb3
  have hbel3 := bCall hbel2 hb3 hbel2.size
  go_wp2_with (refine wpList_store_ints (k := .u8) (xs := hashP key b) rfl 35 _ _ rfl (w.heap.size + 1) rfl rfl E1 (zeros_size _ _) Try.ar35 hhl ?_; (try simp only [Act.put, List.setIfInBounds_toArray, List.set_cons_zero, List.set_cons_succ, World.size_alloc, setRow_size, Nat.add_assoc, Nat.reduceAdd]))
  exact ret_ints rfl rfl (E1.row _) Try.ar35 hhl ⟨rfl, bSetRow hbel3 (by omega) _⟩
theorem HZ5 : Hid (Value.agg #[.int .u32 0, .int .u32 0, .int .u32 0, .int .u32 0, .int .u32 0] = .agg (ints .u32 (zeros 5))) := Lib.hid rfl
set_option maxRecDepth 100000 in
set_option maxHeartbeats 2000000 in
theorem valueNil8_c (w : World) :
    Calls Try.prog 58 #[.pointer none] w fun e w' => e = .returned (.agg (ints .u32 (zeros 5))) ∧ Below w.heap.size w w' := by
  have B0 := Blk.new w 83 (ints .u32 (zeros 5))
  have hbel := (Below.refl w.heap.size w).alloc (Nat.le_refl _) (.cells (ints .u32 (zeros 5)) 83)
  go_enter Try.func58, Try.ntmps58
  go_wp2_with (first | (refine wpList_alloc_ints rfl 83 rfl Try.z83 ?_; (try simp only [Act.put, List.setIfInBounds_toArray, List.set_cons_zero, List.set_cons_succ, World.size_alloc, setRow_size, Nat.add_assoc, Nat.reduceAdd])) | (refine wpList_store_ints rfl 83 _ _ rfl w.heap.size (k := .u32) (xs := zeros 5) rfl HZ5.out B0 (zeros_size _ _) Try.ar83 (zeros_len _) ?_; (try simp only [Act.put, List.setIfInBounds_toArray, List.set_cons_zero, List.set_cons_succ, World.size_alloc, setRow_size, Nat.add_assoc, Nat.reduceAdd])))
  exact ret_ints rfl rfl (B0.row _) Try.ar83 (zeros_len _) ⟨rfl, bSetRow hbel (Nat.le_refl _) _⟩
set_option maxRecDepth 100000 in
set_option maxHeartbeats 2000000 in
theorem writeNil8_c (v : Value) (w : World) :
    Calls Try.prog 29 #[.pointer none, v] w fun e w' => e = .returned (.tuple #[]) ∧ Below w.heap.size w w' := by
  go_enter Try.func29, Try.ntmps29
  go_wp2
  go_step3
  go_wp2
  rw [Exit.noGoto_ret]
  exact bodyPost_ret (v := .tuple #[]) (by simp [results, Try.results29]) rfl ⟨rfl, Below.refl _ _⟩
set_option maxRecDepth 100000 in
set_option maxHeartbeats 4000000 in
theorem tagNil8_c (w : World) :
    Calls Try.prog 44 #[.pointer none] w fun e w' => e = .returned (.agg (ints .u8 (zeros 16))) ∧ Below w.heap.size w w' := by
  have B0 := Blk.new w 35 (ints .u8 (zeros 16))
  have hbel := (Below.refl w.heap.size w).alloc (Nat.le_refl _) (.cells (ints .u8 (zeros 16)) 35)
  go_enter Try.func44, Try.ntmps44
  go_wp2_with (refine wpList_alloc_ints rfl 35 rfl Try.z35 ?_; (try simp only [Act.put, List.setIfInBounds_toArray, List.set_cons_zero, List.set_cons_succ, World.size_alloc, setRow_size, Nat.add_assoc, Nat.reduceAdd]))
  generalize (w.alloc (.cells (ints .u8 (zeros 16)) 35)) = w1 at *
  refine (valueNil8_c _).mono ?_
  rintro e w2 ⟨rfl, hb2⟩
  have C0 := B0.below' hb2
  have hbel2 := bCall hbel hb2 hbel.size
  go_wp2_with fail
  refine (low_c (zeros 5) (zeros_len _) (zeros_lt _ (by omega)) _).mono ?_
  rintro e w3 ⟨rfl, hb3⟩
  have D0 := C0.below' hb3
  have hbel3 := bCall hbel2 hb3 hbel2.size
  rw [show dig 256 16 (val (zeros 5) % pp) = zeros 16 by decide]
  go_wp2_with (refine wpList_store_ints (k := .u8) (xs := zeros 16) rfl 35 _ _ rfl w.heap.size rfl rfl D0 (zeros_size _ _) Try.ar35 (zeros_len _) ?_; (try simp only [Act.put, List.setIfInBounds_toArray, List.set_cons_zero, List.set_cons_succ, World.size_alloc, setRow_size, Nat.add_assoc, Nat.reduceAdd]))
  exact ret_ints rfl rfl (D0.row _) Try.ar35 (zeros_len _) ⟨rfl, bSetRow hbel3 (Nat.le_refl _) _⟩
end Go.Proofs.Ytolfngmpoafaaaa
