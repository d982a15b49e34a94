/- wringerlaw12's helpers. No condition but that bytes are below 256. -/
import Derived.Test.YtolfngmpoafaaaaW12r
namespace Go.Proofs.Ytolfngmpoafaaaa
set_option linter.unusedSimpArgs false
set_option linter.unusedVariables false
set_option linter.unusedSectionVars false
set_option linter.unusedVariables false
open Go.RowKit
theorem Try.egW : Try.prog.eqGuardType Try.prog.depth 30 = false := by kernel_rfl
set_option maxRecDepth 100000 in
set_option maxHeartbeats 4000000 in
theorem bytes12_c (n : Nat) (w : World) :
    Calls Try.prog 15 #[.agg (ints .u64 (W12 n))] w fun e w' => e = .returned (.agg (ints .u8 (dig 256 16 n))) ∧ Below w.heap.size w w' := by
  have B0 := (Blk.new w 30 (ints .u64 (W12 n))).alloc (.cells (ints .u8 (zeros 16)) 35)
  have B1 := Blk.new (w.alloc (.cells (ints .u64 (W12 n)) 30)) 35 (ints .u8 (zeros 16))
  rw [World.size_alloc] at B1
  have hbel := ((Below.refl w.heap.size w).alloc (Nat.le_refl _) (.cells (ints .u64 (W12 n)) 30)).alloc (by simp) (.cells (ints .u8 (zeros 16)) 35)
  have hdl : (dig 256 16 n).length = 16 := dig_length _ _ _
  have hb := fun W => wbytes_c (n % 18446744073709551616) (n / 18446744073709551616 % 18446744073709551616) (by omega) (by omega) W
  rw [W12_bytes] at hb
  go_enter Try.func15, Try.ntmps15
  go_wp2_with (first | (refine wpList_alloc_ints rfl 35 rfl Try.z35 ?_; (try simp only [Act.put, List.setIfInBounds_toArray, List.set_cons_zero, List.set_cons_succ, World.size_alloc, setRow_size, Nat.add_assoc, Nat.reduceAdd])) | (refine wpList_load_ints rfl 30 _ rfl w.heap.size rfl B0 Try.arW rfl ?_; (try simp only [Act.put, List.setIfInBounds_toArray, List.set_cons_zero, List.set_cons_succ, World.size_alloc, setRow_size, Nat.add_assoc, Nat.reduceAdd])))
  generalize ((w.alloc (.cells (ints .u64 (W12 n)) 30)).alloc (.cells (ints .u8 (zeros 16)) 35)) = w1 at *
  refine (hb _).mono ?_
  rintro e w2 ⟨rfl, hb2⟩
  have C1 := B1.below' hb2
  have hbel2 := bCall hbel hb2 hbel.size
  go_wp2_with (refine wpList_store_ints (k := .u8) (xs := dig 256 16 n) rfl 35 _ _ rfl (w.heap.size + 1) rfl rfl C1 (zeros_size _ _) Try.ar35 hdl ?_; (try simp only [Act.put, List.setIfInBounds_toArray, List.set_cons_zero, List.set_cons_succ, World.size_alloc, setRow_size, Nat.add_assoc, Nat.reduceAdd]))
  exact ret_ints rfl rfl (C1.row _) Try.ar35 hdl ⟨rfl, bSetRow hbel2 (by omega) _⟩
set_option maxHeartbeats 1000000 in
theorem long12_c (a : Option Addr) (n c : Nat) (w : World) :
    Calls Try.prog 10 #[.slice a n c] w fun e w' => e = .returned (.bool (decide (n = 1104))) ∧ w = w' := by
  by_cases h : n = 1104
  · subst h
    go_enter Try.func10, Try.ntmps10
    go_wp2
    go_ret
    exact ⟨rfl, rfl⟩
  · have hd : ((n : Int) == 1104) = false := by simp; omega
    have hd2 : decide (n = 1104) = false := decide_eq_false h
    rw [hd2]
    go_enter Try.func10, Try.ntmps10
    go_wp2
    go_ret
    exact ⟨rfl, rfl⟩
def z12 : List Nat := zeros 1104
def k12 : List Nat := ((z12.set 0 1).set 16 1).set 32 1
theorem z12_t : blockN z12 = zeros 16 := by kernel_rfl
theorem z12_m : blockN (z12.drop 16) = zeros 16 := by kernel_rfl
theorem aw12_sum : W12 (headN (blockN z12) [] 1 + bodyN (blockN (z12.drop 16)) (wordsN (z12.drop 32)) [1]) = zeros 2 := by
  unfold headN bodyN
  rw [z12_t, z12_m, polyA_zero byN_zeros, polyA_zero byN_zeros]
  rfl
theorem aw12_head : W12 (headN (blockN k12) [] 1) = [8, 0] := by
  have h : blockN k12 = 1 :: zeros 15 := by kernel_rfl
  have h2 : W12 (polyA (1 :: zeros 15) (dig 256 16 (8 * 1) ++ [])) = [8, 0] := by kernel_rfl
  unfold headN
  rw [h]
  exact h2
theorem W12eq (xs ys : List Nat) (hx : xs.length = 2) (h : xs = ys) (W : World) : (binOp .eql 30 (.agg (ints .u64 xs)) (.agg (ints .u64 ys))).run Try.prog W = .ok (.bool true) W := by
  subst h
  match xs, hx with
  | [a, b], _ =>
    rw [run_eql_struct, run_equalIn_struct W 9999 30 _ _ (by kernel_rfl) (by kernel_rfl)]
    have hu := Try.underlying30
    have h1 := Try.underlying28
    simp only [Program.fieldsOf, hu]
    simp [Op.eqFields, part, isAgg, run_underlying h1, ints, run_equalIn_int W 9998 28 .u64 .u64 _ _ h1]
theorem zW : Hid (Value.agg #[.int .u64 0, .int .u64 0] = .agg (ints .u64 (zeros 2))) := Lib.hid rfl
theorem zW8 : Hid (Value.agg #[.int .u64 8, .int .u64 0] = .agg (ints .u64 [8, 0])) := Lib.hid rfl
theorem W12eq0 (xs : List Nat) (h : xs = zeros 2) (W : World) : (binOp .eql 30 (.agg (ints .u64 xs)) (.agg #[.int .u64 0, .int .u64 0])).run Try.prog W = .ok (.bool true) W := W12eq xs (zeros 2) (by rw [h]; rfl) h W
theorem W12eq8 (xs : List Nat) (h : xs = [8, 0]) (W : World) : (binOp .eql 30 (.agg (ints .u64 xs)) (.agg #[.int .u64 8, .int .u64 0])).run Try.prog W = .ok (.bool true) W := W12eq xs [8, 0] (by rw [h]; rfl) h W
theorem sl1q (w : World) : Sl (w.alloc (.cells #[.int .u8 1] 5)) (some ⟨w.heap.size, 0, none⟩) .u8 [1] := Sl.blk (Blk.new w 5 (ints .u8 [1]))
theorem z12_lt : ∀ x ∈ z12, x < 256 := zeros_lt _ (by omega)
theorem z12_len : z12.length = 1104 := zeros_len _
theorem k12_len : k12.length = 1104 := by unfold k12; rw [List.length_set, List.length_set, List.length_set, z12_len]
theorem k12_lt : ∀ x ∈ k12, x < 256 := fun x hx => by
  unfold k12 at hx
  rcases List.mem_or_eq_of_mem_set hx with h | rfl
  · rcases List.mem_or_eq_of_mem_set h with h | rfl
    · rcases List.mem_or_eq_of_mem_set h with h | rfl
      · exact z12_lt x h
      · omega
    · omega
  · omega
set_option maxRecDepth 100000 in
set_option maxHeartbeats 16000000 in
theorem awake12_c (w : World) : Calls Try.prog 14 #[] w fun e w' => e = .returned (.bool true) ∧ Below w.heap.size w w' := by
  have hmk : ∀ W : World, (Instr.makeSlice 22 (.int .i64 1104) (.int .i64 1104)).run Try.prog W = .ok (.slice (some ⟨W.heap.size, 0, none⟩) 1104 1104) (W.alloc (.cells (ints .u8 z12) 5)) := fun W => run_make_ints (n := 1104) Try.underlying22 Try.inf8 (by omega) (by omega) W
  have B0 := Blk.new w 5 (ints .u8 z12)
  have hbel := (Below.refl w.heap.size w).alloc (Nat.le_refl _) (.cells (ints .u8 z12) 5)
  have hzl := z12_len
  have hkl := k12_len
  go_enter Try.func14, Try.ntmps14
  go_wp2_with fail
  generalize (w.alloc (.cells (ints .u8 z12) 5)) = w1 at *
  have hl1 := B0.lt
  refine (new12_c z12 z12_lt hzl (some ⟨w.heap.size, 0, none⟩) 1104 (by omega) _ (Sl.blk B0)).mono ?_
  rintro e w2 ⟨g, gw, rfl, hg, hgw, K2, hb2⟩
  have C0 := B0.below' hb2
  have hbel2 := bCall hbel hb2 hbel.size
  clear hmk
  have hn1 : g ≠ w.heap.size := by omega
  have hn2 : gw ≠ w.heap.size := by omega
  go_wp2_with (first
    | (refine wpList_store_one (k := .u8) (n := 1) rfl 5 _ _ rfl Try.one8s C0 0 rfl rfl (by rw [hzl]; omega) ?_; intro w3 D0 F3; have hbel3 := F3.below hbel2 (Nat.le_refl _); have K3 : IsK w3 g gw z12 := ⟨F3.blk K2.1 hn1, F3.blk K2.2 hn2⟩)
    | (refine wpList_store_one (k := .u8) (n := 1) rfl 5 _ _ rfl Try.one8s D0 16 rfl rfl (by rw [List.length_set, hzl]; omega) ?_; intro w4 E0 F4; have hbel4 := F4.below hbel3 (Nat.le_refl _); have K4 : IsK w4 g gw z12 := ⟨F4.blk K3.1 hn1, F4.blk K3.2 hn2⟩)
    | (refine wpList_store_one (k := .u8) (n := 1) rfl 5 _ _ rfl Try.one8s E0 32 rfl rfl (by rw [List.length_set, List.length_set, hzl]; omega) ?_; intro w5 G0 F5; have hbel5 := F5.below hbel4 (Nat.le_refl _); have K5 : IsK w5 g gw z12 := ⟨F5.blk K4.1 hn1, F5.blk K4.2 hn2⟩; (try simp only [Act.put, List.setIfInBounds_toArray, List.set_cons_zero, List.set_cons_succ, World.size_alloc, setRow_size, Nat.add_assoc, Nat.reduceAdd])))
  have G1 : Blk w5 w.heap.size 5 (ints .u8 k12) := G0
  refine (new12_c k12 k12_lt hkl (some ⟨w.heap.size, 0, none⟩) 1104 (by omega) _ (Sl.blk G1)).mono ?_
  rintro e w6 ⟨g6, gw6, rfl, hg6, hgw6, K6, hb6⟩
  have K5' := K5.below hb6
  have hbel6 := bCall hbel5 hb6 hbel5.size
  have hbel7 := hbel6.alloc hbel6.size (.cells #[.int .u8 1] 5)
  have hb7 := (Below.refl w6.heap.size w6).alloc (Nat.le_refl _) (.cells #[.int .u8 1] 5)
  have K7 := K5'.below hb7
  have L7 := K6.below hb7
  have s7 := sl1q w6
  clear G0 G1 hzl hkl
  go_wp2_with fail
  have hsum := sum12_c g gw z12 [] [1] z12_lt (by simp) (by simp) (by simp) (by simp) none (some ⟨w6.heap.size, 0, none⟩) 0 1 (by simp) _ K7 (Sl.nil _ _ _) s7
  refine hsum.mono ?_
  rintro e w8 ⟨rfl, hb8⟩
  have L8 := L7.below hb8
  have hbel8 := bCall hbel7 hb8 hbel7.size
  go_wp2_with (refine wpList_valG (v := .bool true) rfl (run_eqlOp rfl rfl rfl Try.egW (W12eq0 _ aw12_sum)) ?_; (try simp only [Act.put, List.setIfInBounds_toArray, List.set_cons_zero, List.set_cons_succ, World.size_alloc, setRow_size, Nat.add_assoc, Nat.reduceAdd]))
  refine (head12_c g6 gw6 k12 [] k12_lt (by simp) (by simp) 1 1 (by omega) (.inl rfl) none 0 (by simp) _ L8 (Sl.nil _ _ _)).mono ?_
  rintro e w9 ⟨rfl, hb9⟩
  have L9 := L8.below hb9
  have hbel9 := bCall hbel8 hb9 hbel8.size
  go_wp2_with (refine wpList_valG (v := .bool true) rfl (run_eqlOp rfl rfl rfl Try.egW (W12eq8 _ aw12_head)) ?_; (try simp only [Act.put, List.setIfInBounds_toArray, List.set_cons_zero, List.set_cons_succ, World.size_alloc, setRow_size, Nat.add_assoc, Nat.reduceAdd]))
  refine (body12_c g6 gw6 k12 [] k12_lt (by simp) (by simp) none 0 _ L9 (Sl.nil _ _ _)).mono ?_
  rintro e w10 ⟨rfl, hb10⟩
  have hbel10 := bCall hbel9 hb10 hbel9.size
  go_wp2_with (refine wpList_valG (v := .bool true) rfl (run_eqlOp rfl rfl rfl Try.egW (W12eq0 _ (by rw [bodyN_nil]; rfl))) ?_; (try simp only [Act.put, List.setIfInBounds_toArray, List.set_cons_zero, List.set_cons_succ, World.size_alloc, setRow_size, Nat.add_assoc, Nat.reduceAdd]))
  go_wp2
  go_ret
  exact ⟨rfl, hbel10⟩
end Go.Proofs.Ytolfngmpoafaaaa
