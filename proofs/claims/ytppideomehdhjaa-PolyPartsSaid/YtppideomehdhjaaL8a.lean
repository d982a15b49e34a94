/- The walks of PolyHashes and PolyClamped. No condition but that bytes are below 256. -/
import Derived.Test.YtppideomehdhjaaW8s
namespace Go.Proofs.Ytppideomehdhjaa
set_option linter.unusedSimpArgs false
set_option linter.unusedVariables false
set_option linter.unusedSectionVars false
set_option linter.unusedVariables false
open Go.RowKit
theorem parts8 (key b : List Nat) : dig 67108864 5 (le (restOf (polyA key b))) = numOf (polyA key b) := by
  rw [le_restOf (Nat.lt_trans (polyA_lt key b) pp_lt17)]
  unfold numOf
  rw [Nat.mod_eq_of_lt (polyA_lt key b)]
section
variable {P : Program} {ops : Array Oper} {rest : List Oper} {o : Oper} {a : Act} {w : World} {Q : Exit → Act → World → Prop}
theorem wpList_valG {v : Value} (hw : Region.wanted o (yielded ops a.tmps) = true) (hr : (execOp a.eval o).run P w = .ok (.value v) w) (h : wpList P ops Q rest (a.put o.dst v) w) : wpList P ops Q (o :: rest) a w :=
  wpList_step fun K hK => by
    rw [if_pos hw]
    unfold Oper.wp
    rw [hr]
    exact hK _ _ h
theorem run_neqOp {b : Bool} {x y : Operand} {T T' : TypeId} {xs ys : Array Value} (ho : o.op = .binOp .neq T x y T') (hx : a.eval x = .agg xs) (hy : a.eval y = .agg ys) (hm : P.eqGuardType P.depth T = false)
    (hr : ∀ W, (binOp .neq T (.agg xs) (.agg ys)).run P W = .ok (.bool b) W) : (execOp a.eval o).run P w = .ok (.value (.bool b)) w := by
  unfold execOp
  simp only [ho, hx, hy, Sem.run_bind, Sem.run_pure, Result.andThen_ok, run_eqGuard_agg w .neq T x y xs ys hm, hr]
end
set_option maxRecDepth 100000 in
set_option maxHeartbeats 8000000 in
theorem polyHashes_c (key b : List Nat) (hl : key.length = 16) (hb : ∀ x ∈ key, x < 2 ^ 8) (hbb : ∀ x ∈ b, x < 2 ^ 8) (ad : Option Addr) (c : Nat) (hc : b.length ≤ c) (w : World) (hs0 : Sl w ad .u8 b) :
    Calls Try.prog 4 #[.agg (ints .u8 key), .slice ad b.length c] w fun e w' => e = .returned (.bool true) ∧ Below w.heap.size w w' := by
  have B0 := Blk.new w 22 (ints .u8 key)
  have hbel := (Below.refl w.heap.size w).alloc (Nat.le_refl _) (.cells (ints .u8 key) 22)
  have hs1 := hs0.below hbel
  by_cases h300 : b.length ≤ 300
  · have hd0 : decide ((b.length : Int) > 300) = false := by simp; omega
    have hbl : b.length < 2 ^ 31 := by omega
    go_enter Try.func4, Try.ntmps4
    go_wp2_with (refine wpList_load_ints rfl 22 _ rfl w.heap.size rfl B0 Try.ar22 hl ?_; (try simp only [Act.put, List.setIfInBounds_toArray, List.set_cons_zero, List.set_cons_succ, World.size_alloc, setRow_size, Nat.add_assoc, Nat.reduceAdd]))
    generalize (w.alloc (.cells (ints .u8 key) 22)) = w0 at *
    have hl0 := B0.lt
    refine (new8_c key hl hb _).mono ?_
    rintro e w1 ⟨g, rfl, hg, hS, hb1⟩
    have hs2 := hs1.below hb1
    have C1 := B0.below' hb1
    have hbel1 := bCall hbel hb1 hbel.size
    go_wp2_with fail
    refine (write8_c g key [] b hbb (by decide) hbl ad c hc (ANe.of_sl hs1 hg) _ hS hs2).mono ?_
    rintro e w2 ⟨rfl, hS2, hch⟩
    have D1 := hch.blk C1 (by omega)
    have hs3 := hch.sl' hs2 (ANe.of_sl hs1 hg)
    have hbel2 := hch.below hbel1 (by omega) hbel1.size
    rw [List.nil_append] at hS2
    go_wp2_with (refine wpList_load_ints rfl 22 _ rfl w.heap.size rfl D1 Try.ar22 hl ?_; (try simp only [Act.put, List.setIfInBounds_toArray, List.set_cons_zero, List.set_cons_succ, World.size_alloc, setRow_size, Nat.add_assoc, Nat.reduceAdd]))
    refine (rvalue8_c key b hl hb hbb hbl ad c _ hs3).mono ?_
    rintro e w3 ⟨rfl, hb3⟩
    have hlt2 := D1.lt
    have hz3 := hb3.size
    have Z := Blk.new w3 39 (ints .u8 (zeros 17))
    have V := Z.row (ints .u8 (restOf (polyA key b)))
    have E1 := ((D1.below' hb3).alloc (.cells (ints .u8 (zeros 17)) 39)).rowFar (show w.heap.size ≠ w3.heap.size by omega) (ints .u8 (restOf (polyA key b)))
    have hbel3 := bSetRow ((bCall hbel2 hb3 hbel2.size).alloc (by have := hbel2.size; omega) (.cells (ints .u8 (zeros 17)) 39)) (show w.heap.size ≤ w3.heap.size by omega) (ints .u8 (restOf (polyA key b)))
    have hb4 : Below w2.heap.size w2 ((w3.alloc (.cells (ints .u8 (zeros 17)) 39)).setRow w3.heap.size (ints .u8 (restOf (polyA key b)))) := bSetRow (hb3.alloc hz3 (.cells (ints .u8 (zeros 17)) 39)) hz3 (ints .u8 (restOf (polyA key b)))
    have hS4 := hS2.below hb4
    have hs4 := hs3.below hb4
    have hrl := restOf_len (polyA key b)
    have hp := fun W => parts_c (restOf (polyA key b)) (restOf_len _) (restOf_lt _) W
    rw [parts8] at hp
    have hq := fun W => rlow_c (restOf (polyA key b)) (restOf_len _) W
    rw [hashP_rlow] at hq
    have HP := Lib.hid hp
    have HQ := Lib.hid hq
    clear hp hq
    go_wp2_with (first | (refine wpList_alloc_ints rfl 39 rfl Try.z39 ?_; (try simp only [Act.put, List.setIfInBounds_toArray, List.set_cons_zero, List.set_cons_succ, World.size_alloc, setRow_size, Nat.add_assoc, Nat.reduceAdd])) | (refine wpList_store_ints (k := .u8) (xs := restOf (polyA key b)) rfl 39 _ _ rfl w3.heap.size rfl rfl Z (zeros_size _ _) Try.ar39 hrl ?_; (try simp only [Act.put, List.setIfInBounds_toArray, List.set_cons_zero, List.set_cons_succ, World.size_alloc, setRow_size, Nat.add_assoc, Nat.reduceAdd])))
    generalize ((w3.alloc (.cells (ints .u8 (zeros 17)) 39)).setRow w3.heap.size (ints .u8 (restOf (polyA key b)))) = w4 at *
    refine wp_region_below (by kernel_rfl) (by kernel_rfl) ?_
    refine quiet_load rfl rfl rfl E1 Try.ar22 hl ?_
    (try simp only [Act.put, List.setIfInBounds_toArray, List.set_cons_zero, List.set_cons_succ, World.size_alloc, setRow_size, Nat.add_assoc, Nat.reduceAdd])
    refine quiet_call 16 rfl rfl Try.func16 (by kernel_rfl) (by kernel_rfl) (fun W hQ => clamp_c key hl hb W) ?_
    (try simp only [Act.put, List.setIfInBounds_toArray, List.set_cons_zero, List.set_cons_succ, World.size_alloc, setRow_size, Nat.add_assoc, Nat.reduceAdd])
    refine quiet_load rfl rfl rfl E1 Try.ar22 hl ?_
    (try simp only [Act.put, List.setIfInBounds_toArray, List.set_cons_zero, List.set_cons_succ, World.size_alloc, setRow_size, Nat.add_assoc, Nat.reduceAdd])
    refine quiet_call 17 rfl rfl Try.func17 (by kernel_rfl) (by kernel_rfl) (fun W hQ => rclamp_c key hl hb W) ?_
    (try simp only [Act.put, List.setIfInBounds_toArray, List.set_cons_zero, List.set_cons_succ, World.size_alloc, setRow_size, Nat.add_assoc, Nat.reduceAdd])
    refine quiet_eql rfl rfl rfl rfl Try.eg8b (b8eq _ _ (clampL_len _) rfl) ?_
    (try simp only [Act.put, List.setIfInBounds_toArray, List.set_cons_zero, List.set_cons_succ, World.size_alloc, setRow_size, Nat.add_assoc, Nat.reduceAdd])
    refine quiet_move rfl rfl rfl ?_
    (try simp only [Act.put, List.setIfInBounds_toArray, List.set_cons_zero, List.set_cons_succ, World.size_alloc, setRow_size, Nat.add_assoc, Nat.reduceAdd])
    refine quiet_load rfl rfl rfl E1 Try.ar22 hl ?_
    (try simp only [Act.put, List.setIfInBounds_toArray, List.set_cons_zero, List.set_cons_succ, World.size_alloc, setRow_size, Nat.add_assoc, Nat.reduceAdd])
    refine quiet_move rfl rfl rfl ?_
    (try simp only [Act.put, List.setIfInBounds_toArray, List.set_cons_zero, List.set_cons_succ, World.size_alloc, setRow_size, Nat.add_assoc, Nat.reduceAdd])
    refine quiet_call 18 rfl rfl Try.func18 (by kernel_rfl) (by kernel_rfl) (fun W hQ => hash8_c key b hl hb hbb hbl ad c hc W (hs4.below hQ)) ?_
    (try simp only [Act.put, List.setIfInBounds_toArray, List.set_cons_zero, List.set_cons_succ, World.size_alloc, setRow_size, Nat.add_assoc, Nat.reduceAdd])
    refine quiet_load rfl rfl rfl E1 Try.ar22 hl ?_
    (try simp only [Act.put, List.setIfInBounds_toArray, List.set_cons_zero, List.set_cons_succ, World.size_alloc, setRow_size, Nat.add_assoc, Nat.reduceAdd])
    refine quiet_move rfl rfl rfl ?_
    (try simp only [Act.put, List.setIfInBounds_toArray, List.set_cons_zero, List.set_cons_succ, World.size_alloc, setRow_size, Nat.add_assoc, Nat.reduceAdd])
    refine quiet_call 19 rfl rfl Try.func19 (by kernel_rfl) (by kernel_rfl) (fun W hQ => rhash8_c key b hl hb hbb hbl ad c W (hs4.below hQ)) ?_
    (try simp only [Act.put, List.setIfInBounds_toArray, List.set_cons_zero, List.set_cons_succ, World.size_alloc, setRow_size, Nat.add_assoc, Nat.reduceAdd])
    refine quiet_eql rfl rfl rfl rfl Try.eg8b (b8eq _ _ (hashP_len _ _) rfl) ?_
    (try simp only [Act.put, List.setIfInBounds_toArray, List.set_cons_zero, List.set_cons_succ, World.size_alloc, setRow_size, Nat.add_assoc, Nat.reduceAdd])
    refine quiet_pickt (by rfl) (by rfl) (by rfl) (by rfl) (by rfl) ?_
    (try simp only [Act.put, List.setIfInBounds_toArray, List.set_cons_zero, List.set_cons_succ, World.size_alloc, setRow_size, Nat.add_assoc, Nat.reduceAdd])
    refine quiet_move rfl rfl rfl ?_
    (try simp only [Act.put, List.setIfInBounds_toArray, List.set_cons_zero, List.set_cons_succ, World.size_alloc, setRow_size, Nat.add_assoc, Nat.reduceAdd])
    refine quiet_move rfl rfl rfl ?_
    (try simp only [Act.put, List.setIfInBounds_toArray, List.set_cons_zero, List.set_cons_succ, World.size_alloc, setRow_size, Nat.add_assoc, Nat.reduceAdd])
    refine quiet_call 20 rfl rfl Try.func20 (by kernel_rfl) (by kernel_rfl) (fun W hQ => value8_c g key b hbb W (hS4.below hQ)) ?_
    (try simp only [Act.put, List.setIfInBounds_toArray, List.set_cons_zero, List.set_cons_succ, World.size_alloc, setRow_size, Nat.add_assoc, Nat.reduceAdd])
    refine quiet_load rfl rfl rfl V Try.ar39 hrl ?_
    (try simp only [Act.put, List.setIfInBounds_toArray, List.set_cons_zero, List.set_cons_succ, World.size_alloc, setRow_size, Nat.add_assoc, Nat.reduceAdd])
    refine quiet_call 21 rfl rfl Try.func21 (by kernel_rfl) (by kernel_rfl) (fun W hQ => HP.out W) ?_
    (try simp only [Act.put, List.setIfInBounds_toArray, List.set_cons_zero, List.set_cons_succ, World.size_alloc, setRow_size, Nat.add_assoc, Nat.reduceAdd])
    refine quiet_eql rfl rfl rfl rfl Try.eg8n (n8eq _ _ (numOf_len _) rfl) ?_
    (try simp only [Act.put, List.setIfInBounds_toArray, List.set_cons_zero, List.set_cons_succ, World.size_alloc, setRow_size, Nat.add_assoc, Nat.reduceAdd])
    refine quiet_pickt (by rfl) (by rfl) (by rfl) (by rfl) (by rfl) ?_
    (try simp only [Act.put, List.setIfInBounds_toArray, List.set_cons_zero, List.set_cons_succ, World.size_alloc, setRow_size, Nat.add_assoc, Nat.reduceAdd])
    refine quiet_move rfl rfl rfl ?_
    (try simp only [Act.put, List.setIfInBounds_toArray, List.set_cons_zero, List.set_cons_succ, World.size_alloc, setRow_size, Nat.add_assoc, Nat.reduceAdd])
    refine quiet_move rfl rfl rfl ?_
    (try simp only [Act.put, List.setIfInBounds_toArray, List.set_cons_zero, List.set_cons_succ, World.size_alloc, setRow_size, Nat.add_assoc, Nat.reduceAdd])
    refine quiet_call 22 rfl rfl Try.func22 (by kernel_rfl) (by kernel_rfl) (fun W hQ => tag8_c g key b hbb W (hS4.below hQ)) ?_
    (try simp only [Act.put, List.setIfInBounds_toArray, List.set_cons_zero, List.set_cons_succ, World.size_alloc, setRow_size, Nat.add_assoc, Nat.reduceAdd])
    refine quiet_load rfl rfl rfl V Try.ar39 hrl ?_
    (try simp only [Act.put, List.setIfInBounds_toArray, List.set_cons_zero, List.set_cons_succ, World.size_alloc, setRow_size, Nat.add_assoc, Nat.reduceAdd])
    refine quiet_call 23 rfl rfl Try.func23 (by kernel_rfl) (by kernel_rfl) (fun W hQ => HQ.out W) ?_
    (try simp only [Act.put, List.setIfInBounds_toArray, List.set_cons_zero, List.set_cons_succ, World.size_alloc, setRow_size, Nat.add_assoc, Nat.reduceAdd])
    refine quiet_eql rfl rfl rfl rfl Try.eg8b (b8eq _ _ (hashP_len _ _) rfl) ?_
    (try simp only [Act.put, List.setIfInBounds_toArray, List.set_cons_zero, List.set_cons_succ, World.size_alloc, setRow_size, Nat.add_assoc, Nat.reduceAdd])
    refine quiet_pickt (by rfl) (by rfl) (by rfl) (by rfl) (by rfl) ?_
    (try simp only [Act.put, List.setIfInBounds_toArray, List.set_cons_zero, List.set_cons_succ, World.size_alloc, setRow_size, Nat.add_assoc, Nat.reduceAdd])
    refine quiet_move rfl rfl rfl ?_
    (try simp only [Act.put, List.setIfInBounds_toArray, List.set_cons_zero, List.set_cons_succ, World.size_alloc, setRow_size, Nat.add_assoc, Nat.reduceAdd])
    refine quiet_call 24 rfl rfl Try.func24 (by kernel_rfl) (by kernel_rfl) (fun W hQ => awake8_c W) ?_
    (try simp only [Act.put, List.setIfInBounds_toArray, List.set_cons_zero, List.set_cons_succ, World.size_alloc, setRow_size, Nat.add_assoc, Nat.reduceAdd])
    refine quiet_pickt (by rfl) (by rfl) (by rfl) (by rfl) (by rfl) ?_
    (try simp only [Act.put, List.setIfInBounds_toArray, List.set_cons_zero, List.set_cons_succ, World.size_alloc, setRow_size, Nat.add_assoc, Nat.reduceAdd])
    refine quiet_assign rfl rfl rfl ?_
    (try simp only [Act.put, List.setIfInBounds_toArray, List.set_cons_zero, List.set_cons_succ, World.size_alloc, setRow_size, Nat.add_assoc, Nat.reduceAdd])
    refine wpQuiet_nil ?_
    intro w' hw'
    go_wp2
    go_ret
    exact ⟨rfl, bCall hbel3 hw' hbel3.size⟩
  · have hd0 : decide ((b.length : Int) > 300) = true := by simp; omega
    go_enter Try.func4, Try.ntmps4
    go_wp2
    go_ret
    exact ⟨rfl, hbel⟩
set_option maxRecDepth 100000 in
set_option maxHeartbeats 8000000 in
theorem polyClamped_c (key b : List Nat) (hl : key.length = 16) (hb : ∀ x ∈ key, x < 2 ^ 8) (hbb : ∀ x ∈ b, x < 2 ^ 8) (ad : Option Addr) (c : Nat) (hc : b.length ≤ c) (w : World) (hs0 : Sl w ad .u8 b) :
    Calls Try.prog 8 #[.agg (ints .u8 key), .slice ad b.length c] w fun e w' => e = .returned (.bool true) ∧ Below w.heap.size w w' := by
  have B0 := Blk.new w 22 (ints .u8 key)
  have hbel := (Below.refl w.heap.size w).alloc (Nat.le_refl _) (.cells (ints .u8 key) 22)
  have hs1 := hs0.below hbel
  by_cases h300 : b.length ≤ 300
  · have hd0 : decide ((b.length : Int) > 300) = false := by simp; omega
    have hbl : b.length < 2 ^ 31 := by omega
    have hcl := clampL_len key
    have hcb := clampL_lt hb
    have H1 := Lib.hid fun W (h : Sl W ad .u8 b) => hash8_c (clampL key) b hcl hcb hbb hbl ad c hc W h
    have H2 := Lib.hid fun W (h : Sl W ad .u8 b) => hash8_c (zeros 16) b (zeros_len _) (zeros_lt _ (by omega)) hbb hbl ad c hc W h
    have HE1 : Hid (hashP (clampL key) b = hashP key b) := Lib.hid (by unfold hashP; rw [polyA_clamp])
    have HE2 : Hid (∀ k : List Nat, byN k = 0 → hashP k b = zeros 16) := Lib.hid fun k h => by unfold hashP; rw [polyA_zero h, dig_zero]; rfl
    have HZ := Lib.hid z8_c.symm
    go_enter Try.func8, Try.ntmps8
    go_wp2_with (refine wpList_load_ints rfl 22 _ rfl w.heap.size rfl B0 Try.ar22 hl ?_; (try simp only [Act.put, List.setIfInBounds_toArray, List.set_cons_zero, List.set_cons_succ, World.size_alloc, setRow_size, Nat.add_assoc, Nat.reduceAdd]))
    generalize (w.alloc (.cells (ints .u8 key) 22)) = w0 at *
    have hl0 := B0.lt
    refine (clamp_c key hl hb _).mono ?_
    rintro e w3 ⟨rfl, hb3⟩
    have hz3 := hb3.size
    have Z := Blk.new w3 22 (ints .u8 (zeros 16))
    have V := Z.row (ints .u8 (clampL key))
    have E1 := ((B0.below' hb3).alloc (.cells (ints .u8 (zeros 16)) 22)).rowFar (show w.heap.size ≠ w3.heap.size by omega) (ints .u8 (clampL key))
    have hb4 : Below w0.heap.size w0 ((w3.alloc (.cells (ints .u8 (zeros 16)) 22)).setRow w3.heap.size (ints .u8 (clampL key))) := bSetRow (hb3.alloc hz3 (.cells (ints .u8 (zeros 16)) 22)) hz3 (ints .u8 (clampL key))
    have hbel3 := bCall hbel hb4 hbel.size
    have hs4 := hs1.below hb4
    go_wp2_with (first | (refine wpList_alloc_ints rfl 22 rfl Try.z22 ?_; (try simp only [Act.put, List.setIfInBounds_toArray, List.set_cons_zero, List.set_cons_succ, World.size_alloc, setRow_size, Nat.add_assoc, Nat.reduceAdd])) | (refine wpList_store_ints (k := .u8) (xs := clampL key) rfl 22 _ _ rfl w3.heap.size rfl rfl Z (zeros_size _ _) Try.ar22 hcl ?_; (try simp only [Act.put, List.setIfInBounds_toArray, List.set_cons_zero, List.set_cons_succ, World.size_alloc, setRow_size, Nat.add_assoc, Nat.reduceAdd])))
    generalize ((w3.alloc (.cells (ints .u8 (zeros 16)) 22)).setRow w3.heap.size (ints .u8 (clampL key))) = w4 at *
    refine wp_region_below (by kernel_rfl) (by kernel_rfl) ?_
    refine quiet_load rfl rfl rfl V Try.ar22 hcl ?_
    (try simp only [Act.put, List.setIfInBounds_toArray, List.set_cons_zero, List.set_cons_succ, World.size_alloc, setRow_size, Nat.add_assoc, Nat.reduceAdd])
    refine quiet_call 16 rfl rfl Try.func16 (by kernel_rfl) (by kernel_rfl) (fun W hQ => clamp_c (clampL key) hcl hcb W) ?_
    (try simp only [Act.put, List.setIfInBounds_toArray, List.set_cons_zero, List.set_cons_succ, World.size_alloc, setRow_size, Nat.add_assoc, Nat.reduceAdd])
    refine quiet_load rfl rfl rfl V Try.ar22 hcl ?_
    (try simp only [Act.put, List.setIfInBounds_toArray, List.set_cons_zero, List.set_cons_succ, World.size_alloc, setRow_size, Nat.add_assoc, Nat.reduceAdd])
    refine quiet_neq rfl rfl rfl rfl Try.eg8b (b8ne _ _ (clampL_len _) (clampL_idem _)) ?_
    (try simp only [Act.put, List.setIfInBounds_toArray, List.set_cons_zero, List.set_cons_succ, World.size_alloc, setRow_size, Nat.add_assoc, Nat.reduceAdd])
    refine quiet_move rfl rfl rfl ?_
    (try simp only [Act.put, List.setIfInBounds_toArray, List.set_cons_zero, List.set_cons_succ, World.size_alloc, setRow_size, Nat.add_assoc, Nat.reduceAdd])
    refine quiet_load rfl rfl rfl V Try.ar22 hcl ?_
    (try simp only [Act.put, List.setIfInBounds_toArray, List.set_cons_zero, List.set_cons_succ, World.size_alloc, setRow_size, Nat.add_assoc, Nat.reduceAdd])
    refine quiet_move rfl rfl rfl ?_
    (try simp only [Act.put, List.setIfInBounds_toArray, List.set_cons_zero, List.set_cons_succ, World.size_alloc, setRow_size, Nat.add_assoc, Nat.reduceAdd])
    refine quiet_call 18 rfl rfl Try.func18 (by kernel_rfl) (by kernel_rfl) (fun W hQ => H1.out W (hs4.below hQ)) ?_
    (try simp only [Act.put, List.setIfInBounds_toArray, List.set_cons_zero, List.set_cons_succ, World.size_alloc, setRow_size, Nat.add_assoc, Nat.reduceAdd])
    refine quiet_load rfl rfl rfl E1 Try.ar22 hl ?_
    (try simp only [Act.put, List.setIfInBounds_toArray, List.set_cons_zero, List.set_cons_succ, World.size_alloc, setRow_size, Nat.add_assoc, Nat.reduceAdd])
    refine quiet_move rfl rfl rfl ?_
    (try simp only [Act.put, List.setIfInBounds_toArray, List.set_cons_zero, List.set_cons_succ, World.size_alloc, setRow_size, Nat.add_assoc, Nat.reduceAdd])
    refine quiet_call 18 rfl rfl Try.func18 (by kernel_rfl) (by kernel_rfl) (fun W hQ => hash8_c key b hl hb hbb hbl ad c hc W (hs4.below hQ)) ?_
    (try simp only [Act.put, List.setIfInBounds_toArray, List.set_cons_zero, List.set_cons_succ, World.size_alloc, setRow_size, Nat.add_assoc, Nat.reduceAdd])
    refine quiet_neq rfl rfl rfl rfl Try.eg8b (b8ne _ _ (hashP_len _ _) HE1.out) ?_
    (try simp only [Act.put, List.setIfInBounds_toArray, List.set_cons_zero, List.set_cons_succ, World.size_alloc, setRow_size, Nat.add_assoc, Nat.reduceAdd])
    refine quiet_pickf (by rfl) (by rfl) (by rfl) (by rfl) (by rfl) ?_
    (try simp only [Act.put, List.setIfInBounds_toArray, List.set_cons_zero, List.set_cons_succ, World.size_alloc, setRow_size, Nat.add_assoc, Nat.reduceAdd])
    refine quiet_move rfl rfl rfl ?_
    (try simp only [Act.put, List.setIfInBounds_toArray, List.set_cons_zero, List.set_cons_succ, World.size_alloc, setRow_size, Nat.add_assoc, Nat.reduceAdd])
    refine quiet_run (v := .agg (ints .u8 (zeros 16))) rfl (fun W => by kernel_rfl) ?_
    (try simp only [Act.put, List.setIfInBounds_toArray, List.set_cons_zero, List.set_cons_succ, World.size_alloc, setRow_size, Nat.add_assoc, Nat.reduceAdd])
    refine quiet_move rfl rfl rfl ?_
    (try simp only [Act.put, List.setIfInBounds_toArray, List.set_cons_zero, List.set_cons_succ, World.size_alloc, setRow_size, Nat.add_assoc, Nat.reduceAdd])
    refine quiet_call 18 rfl rfl Try.func18 (by kernel_rfl) (by kernel_rfl) (fun W hQ => H2.out W (hs4.below hQ)) ?_
    (try simp only [Act.put, List.setIfInBounds_toArray, List.set_cons_zero, List.set_cons_succ, World.size_alloc, setRow_size, Nat.add_assoc, Nat.reduceAdd])
    refine quiet_run (v := .agg (ints .u8 (zeros 16))) rfl (fun W => by kernel_rfl) ?_
    (try simp only [Act.put, List.setIfInBounds_toArray, List.set_cons_zero, List.set_cons_succ, World.size_alloc, setRow_size, Nat.add_assoc, Nat.reduceAdd])
    refine quiet_neq rfl rfl rfl rfl Try.eg8b (b8ne _ _ (hashP_len _ _) (HE2.out _ byN_zeros)) ?_
    (try simp only [Act.put, List.setIfInBounds_toArray, List.set_cons_zero, List.set_cons_succ, World.size_alloc, setRow_size, Nat.add_assoc, Nat.reduceAdd])
    refine quiet_pickf (by rfl) (by rfl) (by rfl) (by rfl) (by rfl) ?_
    (try simp only [Act.put, List.setIfInBounds_toArray, List.set_cons_zero, List.set_cons_succ, World.size_alloc, setRow_size, Nat.add_assoc, Nat.reduceAdd])
    refine wpQuiet_nil ?_
    intro w' hw'
    have E5 := E1.below' hw'
    have V5 := V.below' hw'
    have hs5 := hs4.below hw'
    have hbel5 := bCall hbel3 hw' hbel3.size
    clear E1 V hs4 hbel3 Z hb4 hb3 hz3
    generalize w' = w6 at *
    by_cases hzk : clampL key = zeros 16
    · have HE3 := Lib.hid (HE2.out key (byN_zero hzk))
      have hne := fun W => b8ne (clampL key) (zeros 16) hcl hzk W
      have heq := fun W => b8eq (hashP key b) (zeros 16) (hashP_len _ _) HE3.out W
      rw [z8_c] at hne heq
      have Hne := Lib.hid hne
      have Heq := Lib.hid heq
      clear hne heq hzk
      go_wp2_with (first
        | (refine wpList_load_ints rfl 22 _ rfl _ rfl V5 Try.ar22 hcl ?_; (try simp only [Act.put, List.setIfInBounds_toArray, List.set_cons_zero, List.set_cons_succ, World.size_alloc, setRow_size, Nat.add_assoc, Nat.reduceAdd]))
        | (refine wpList_valG (v := .bool false) rfl (run_neqOp rfl rfl rfl Try.eg8b Hne.out) ?_; (try simp only [Act.put, List.setIfInBounds_toArray, List.set_cons_zero, List.set_cons_succ, World.size_alloc, setRow_size, Nat.add_assoc, Nat.reduceAdd]))
        | (refine wpList_load_intsG rfl 22 _ rfl _ rfl E5 Try.ar22 hl ?_; (try simp only [Act.put, List.setIfInBounds_toArray, List.set_cons_zero, List.set_cons_succ, World.size_alloc, setRow_size, Nat.add_assoc, Nat.reduceAdd])))
      refine (hash8_c key b hl hb hbb hbl ad c hc _ hs5).mono ?_
      rintro e w7 ⟨rfl, hb7⟩
      have hbel7 := bCall hbel5 hb7 hbel5.size
      go_wp2_with (refine wpList_valG (v := .bool true) rfl (run_eqlOp rfl rfl rfl Try.eg8b Heq.out) ?_; (try simp only [Act.put, List.setIfInBounds_toArray, List.set_cons_zero, List.set_cons_succ, World.size_alloc, setRow_size, Nat.add_assoc, Nat.reduceAdd]))
      refine (awake8_c _).mono ?_
      rintro e w8 ⟨rfl, hb8⟩
      have hbel8 := bCall hbel7 hb8 hbel7.size
      go_wp2
      go_ret
      exact ⟨rfl, hbel8⟩
    · have hne := fun W => b8ne' (clampL key) (zeros 16) hcl (zeros_len _) hzk W
      rw [z8_c] at hne
      have Hne := Lib.hid hne
      clear hne hzk
      go_wp2_with (first
        | (refine wpList_load_ints rfl 22 _ rfl _ rfl V5 Try.ar22 hcl ?_; (try simp only [Act.put, List.setIfInBounds_toArray, List.set_cons_zero, List.set_cons_succ, World.size_alloc, setRow_size, Nat.add_assoc, Nat.reduceAdd]))
        | (refine wpList_valG (v := .bool true) rfl (run_neqOp rfl rfl rfl Try.eg8b Hne.out) ?_; (try simp only [Act.put, List.setIfInBounds_toArray, List.set_cons_zero, List.set_cons_succ, World.size_alloc, setRow_size, Nat.add_assoc, Nat.reduceAdd])))
      refine (awake8_c _).mono ?_
      rintro e w8 ⟨rfl, hb8⟩
      have hbel8 := bCall hbel5 hb8 hbel5.size
      go_wp2
      go_ret
      exact ⟨rfl, hbel8⟩
  · have hd0 : decide ((b.length : Int) > 300) = true := by simp; omega
    go_enter Try.func8, Try.ntmps8
    go_wp2
    go_ret
    exact ⟨rfl, hbel⟩
end Go.Proofs.Ytppideomehdhjaa
