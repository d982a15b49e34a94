/- The walks of PrimeForms, PrimeMakes and PrimeBack. No condition but that parts fit 32 bits and bytes are below 256. -/
import Derived.Test.YtoijnilbcmdmeaaL7f
import Derived.Test.YtoijnilbcmdmeaaW7g
namespace Go.Proofs.Ytoijnilbcmdmeaa
set_option linter.unusedSimpArgs false
set_option linter.unusedVariables false
set_option linter.unusedSectionVars false
set_option linter.unusedVariables false
open Go.RowKit
theorem Try.eg50 : Try.prog.eqGuardType Try.prog.depth 50 = false := by kernel_rfl
theorem same16 (xs ys : List Nat) (hx : xs.length = 16) (h : xs = ys) (W : World) : (binOp .eql 50 (.agg (ints .u8 xs)) (.agg (ints .u8 ys))).run Try.prog W = .ok (.bool true) W := by
  subst h
  rw [run_eql_ints (n := 16) Try.underlying50 Try.underlying5 Try.is5 Try.sz5 xs xs hx hx W]; simp
theorem dig_take (b : Nat) : ∀ (n m v : Nat), n ≤ m → (dig b m v).take n = dig b n v
  | 0, m, v, _ => by simp [dig]
  | n + 1, 0, v, h => by omega
  | n + 1, m + 1, v, h => by
    simp only [dig, List.take_succ_cons]
    rw [dig_take b n m _ (by omega)]
theorem parts_of (v : Nat) : dig 67108864 5 (le (restOf (v % pp))) = numOf v := by
  rw [le_restOf (Nat.lt_trans (Nat.mod_lt _ pp_pos) pp_lt17)]; rfl
theorem low_of (v : Nat) : (restOf v).take 16 = dig 256 16 v := dig_take 256 16 17 v (by omega)
set_option maxRecDepth 100000 in
set_option maxHeartbeats 4000000 in
theorem primeForms_c (xs : List Nat) (hl : xs.length = 5) (hb : ∀ x ∈ xs, x < 2 ^ 32) (w : World) :
    Calls Try.prog 13 #[.agg (ints .u32 xs)] w fun e w' => e = .returned (.bool true) ∧ Below w.heap.size w w' := by
  have B0 := Blk.new w 23 (ints .u32 xs)
  have hbel := (Below.refl w.heap.size w).alloc (Nat.le_refl _) (.cells (ints .u32 xs) 23)
  have hrl := restOf_len (val xs % pp)
  have hrb := restOf_lt (val xs % pp)
  have hp := parts_c _ hrl hrb
  rw [parts_of] at hp
  have hq := rlow_c _ hrl
  rw [low_of] at hq
  have HP := Lib.hid hp
  have HQ := Lib.hid hq
  clear hp hq
  go_enter Try.func13, Try.ntmps13
  go_wp2_with (refine wpList_load_ints rfl 23 _ rfl w.heap.size rfl B0 Try.ar23 hl ?_; (try simp only [Act.put, List.setIfInBounds_toArray, List.set_cons_zero, List.set_cons_succ, World.size_alloc, setRow_size, Nat.add_assoc, Nat.reduceAdd]))
  refine (value_c xs hl hb _).mono ?_
  rintro e w1 ⟨rfl, hb1⟩
  have C0 := B0.below' hb1
  have hbel1 := bCall hbel hb1 hbel.size
  have Z := Blk.new w1 25 (ints .u8 (zeros 17))
  have D0 := (C0.alloc (.cells (ints .u8 (zeros 17)) 25)).rowFar (show w.heap.size ≠ w1.heap.size by have := C0.lt; omega) (ints .u8 (restOf (val xs % pp)))
  have D1 := Z.row (ints .u8 (restOf (val xs % pp)))
  have hbel2 := bSetRow (hbel1.alloc hbel1.size (.cells (ints .u8 (zeros 17)) 25)) hbel1.size (ints .u8 (restOf (val xs % pp)))
  go_wp2_with (first | (refine wpList_alloc_ints rfl 25 rfl Try.z25 ?_; (try simp only [Act.put, List.setIfInBounds_toArray, List.set_cons_zero, List.set_cons_succ, World.size_alloc, setRow_size, Nat.add_assoc, Nat.reduceAdd])) | (refine wpList_store_ints rfl 25 _ _ rfl w1.heap.size (k := .u8) rfl rfl Z (zeros_size _ _) Try.ar25 hrl ?_; (try simp only [Act.put, List.setIfInBounds_toArray, List.set_cons_zero, List.set_cons_succ, World.size_alloc, setRow_size, Nat.add_assoc, Nat.reduceAdd])))
  clear Z C0 B0 hbel1
  generalize ((w1.alloc (.cells (ints .u8 (zeros 17)) 25)).setRow w1.heap.size (ints .u8 (restOf (val xs % pp)))) = w2 at *
  refine wp_region_below (by kernel_rfl) (by kernel_rfl) ?_
  refine quiet_load rfl rfl rfl D0 Try.ar23 hl ?_
  (try simp only [Act.put, List.setIfInBounds_toArray, List.set_cons_zero, List.set_cons_succ, World.size_alloc, setRow_size, Nat.add_assoc, Nat.reduceAdd])
  refine quiet_call 35 rfl rfl Try.func35 (by kernel_rfl) (by kernel_rfl) (fun W hQ => form_c xs hl hb W) ?_
  (try simp only [Act.put, List.setIfInBounds_toArray, List.set_cons_zero, List.set_cons_succ, World.size_alloc, setRow_size, Nat.add_assoc, Nat.reduceAdd])
  refine quiet_load rfl rfl rfl D1 Try.ar25 hrl ?_
  (try simp only [Act.put, List.setIfInBounds_toArray, List.set_cons_zero, List.set_cons_succ, World.size_alloc, setRow_size, Nat.add_assoc, Nat.reduceAdd])
  refine quiet_call 33 rfl rfl Try.func33 (by kernel_rfl) (by kernel_rfl) (fun W hQ => HP.out W) ?_
  (try simp only [Act.put, List.setIfInBounds_toArray, List.set_cons_zero, List.set_cons_succ, World.size_alloc, setRow_size, Nat.add_assoc, Nat.reduceAdd])
  refine quiet_eql rfl rfl rfl rfl Try.eg28 (numSame _ _ (numOf_len _) rfl) ?_
  (try simp only [Act.put, List.setIfInBounds_toArray, List.set_cons_zero, List.set_cons_succ, World.size_alloc, setRow_size, Nat.add_assoc, Nat.reduceAdd])
  refine quiet_move rfl rfl rfl ?_
  (try simp only [Act.put, List.setIfInBounds_toArray, List.set_cons_zero, List.set_cons_succ, World.size_alloc, setRow_size, Nat.add_assoc, Nat.reduceAdd])
  refine quiet_load rfl rfl rfl D0 Try.ar23 hl ?_
  (try simp only [Act.put, List.setIfInBounds_toArray, List.set_cons_zero, List.set_cons_succ, World.size_alloc, setRow_size, Nat.add_assoc, Nat.reduceAdd])
  refine quiet_call 43 rfl rfl Try.func43 (by kernel_rfl) (by kernel_rfl) (fun W hQ => low_c xs hl hb W) ?_
  (try simp only [Act.put, List.setIfInBounds_toArray, List.set_cons_zero, List.set_cons_succ, World.size_alloc, setRow_size, Nat.add_assoc, Nat.reduceAdd])
  refine quiet_load rfl rfl rfl D1 Try.ar25 hrl ?_
  (try simp only [Act.put, List.setIfInBounds_toArray, List.set_cons_zero, List.set_cons_succ, World.size_alloc, setRow_size, Nat.add_assoc, Nat.reduceAdd])
  refine quiet_call 44 rfl rfl Try.func44 (by kernel_rfl) (by kernel_rfl) (fun W hQ => HQ.out W) ?_
  (try simp only [Act.put, List.setIfInBounds_toArray, List.set_cons_zero, List.set_cons_succ, World.size_alloc, setRow_size, Nat.add_assoc, Nat.reduceAdd])
  refine quiet_eql rfl rfl rfl rfl Try.eg50 (same16 _ _ (dig_length _ _ _) rfl) ?_
  (try simp only [Act.put, List.setIfInBounds_toArray, List.set_cons_zero, List.set_cons_succ, World.size_alloc, setRow_size, Nat.add_assoc, Nat.reduceAdd])
  refine quiet_pickt (by rfl) (by rfl) (by rfl) (by rfl) (by rfl) ?_
  (try simp only [Act.put, List.setIfInBounds_toArray, List.set_cons_zero, List.set_cons_succ, World.size_alloc, setRow_size, Nat.add_assoc, Nat.reduceAdd])
  refine quiet_move rfl rfl rfl ?_
  (try simp only [Act.put, List.setIfInBounds_toArray, List.set_cons_zero, List.set_cons_succ, World.size_alloc, setRow_size, Nat.add_assoc, Nat.reduceAdd])
  refine quiet_call 34 rfl rfl Try.func34 (by kernel_rfl) (by kernel_rfl) (fun W hQ => awake7_c W) ?_
  (try simp only [Act.put, List.setIfInBounds_toArray, List.set_cons_zero, List.set_cons_succ, World.size_alloc, setRow_size, Nat.add_assoc, Nat.reduceAdd])
  refine quiet_pickt (by rfl) (by rfl) (by rfl) (by rfl) (by rfl) ?_
  (try simp only [Act.put, List.setIfInBounds_toArray, List.set_cons_zero, List.set_cons_succ, World.size_alloc, setRow_size, Nat.add_assoc, Nat.reduceAdd])
  refine quiet_assign rfl rfl rfl ?_
  (try simp only [Act.put, List.setIfInBounds_toArray, List.set_cons_zero, List.set_cons_succ, World.size_alloc, setRow_size, Nat.add_assoc, Nat.reduceAdd])
  refine wpQuiet_nil ?_
  intro w' hw'
  go_wp2
  go_ret
  exact ⟨rfl, bCall hbel2 hw' hbel2.size⟩
set_option maxRecDepth 100000 in
set_option maxHeartbeats 4000000 in
theorem primeMakes_c (bs : List Nat) (high : Nat) (hl : bs.length = 16) (hb : ∀ x ∈ bs, x < 2 ^ 8) (hh : high < 2 ^ 32) (w : World) :
    Calls Try.prog 15 #[.agg (ints .u8 bs), .int .u32 high] w fun e w' => e = .returned (.bool true) ∧ Below w.heap.size w w' := by
  have B0 := Blk.new w 50 (ints .u8 bs)
  have hbel := (Below.refl w.heap.size w).alloc (Nat.le_refl _) (.cells (ints .u8 bs) 50)
  have hrl := restOf_len (ofN bs high % pp)
  have hrb := restOf_lt (ofN bs high % pp)
  have hp := parts_c _ hrl hrb
  rw [parts_of] at hp
  have HP := Lib.hid hp
  have H1 := Lib.hid (of_c bs hl hb high hh)
  have H2 := Lib.hid (rof_c bs hl hb high hh)
  clear hp
  go_enter Try.func15, Try.ntmps15
  go_wp2
  generalize (w.alloc (.cells (ints .u8 bs) 50)) = w0 at *
  refine wp_region_below (by kernel_rfl) (by kernel_rfl) ?_
  refine quiet_load rfl rfl rfl B0 Try.ar50 hl ?_
  (try simp only [Act.put, List.setIfInBounds_toArray, List.set_cons_zero, List.set_cons_succ, World.size_alloc, setRow_size, Nat.add_assoc, Nat.reduceAdd])
  refine quiet_move rfl rfl rfl ?_
  (try simp only [Act.put, List.setIfInBounds_toArray, List.set_cons_zero, List.set_cons_succ, World.size_alloc, setRow_size, Nat.add_assoc, Nat.reduceAdd])
  refine quiet_call 46 rfl rfl Try.func46 (by kernel_rfl) (by kernel_rfl) (fun W hQ => H1.out W) ?_
  (try simp only [Act.put, List.setIfInBounds_toArray, List.set_cons_zero, List.set_cons_succ, World.size_alloc, setRow_size, Nat.add_assoc, Nat.reduceAdd])
  refine quiet_load rfl rfl rfl B0 Try.ar50 hl ?_
  (try simp only [Act.put, List.setIfInBounds_toArray, List.set_cons_zero, List.set_cons_succ, World.size_alloc, setRow_size, Nat.add_assoc, Nat.reduceAdd])
  refine quiet_move rfl rfl rfl ?_
  (try simp only [Act.put, List.setIfInBounds_toArray, List.set_cons_zero, List.set_cons_succ, World.size_alloc, setRow_size, Nat.add_assoc, Nat.reduceAdd])
  refine quiet_call 47 rfl rfl Try.func47 (by kernel_rfl) (by kernel_rfl) (fun W hQ => H2.out W) ?_
  (try simp only [Act.put, List.setIfInBounds_toArray, List.set_cons_zero, List.set_cons_succ, World.size_alloc, setRow_size, Nat.add_assoc, Nat.reduceAdd])
  refine quiet_call 33 rfl rfl Try.func33 (by kernel_rfl) (by kernel_rfl) (fun W hQ => HP.out W) ?_
  (try simp only [Act.put, List.setIfInBounds_toArray, List.set_cons_zero, List.set_cons_succ, World.size_alloc, setRow_size, Nat.add_assoc, Nat.reduceAdd])
  refine quiet_eql rfl rfl rfl rfl Try.eg28 (numSame _ _ (numOf_len _) rfl) ?_
  (try simp only [Act.put, List.setIfInBounds_toArray, List.set_cons_zero, List.set_cons_succ, World.size_alloc, setRow_size, Nat.add_assoc, Nat.reduceAdd])
  refine quiet_move rfl rfl rfl ?_
  (try simp only [Act.put, List.setIfInBounds_toArray, List.set_cons_zero, List.set_cons_succ, World.size_alloc, setRow_size, Nat.add_assoc, Nat.reduceAdd])
  refine quiet_call 34 rfl rfl Try.func34 (by kernel_rfl) (by kernel_rfl) (fun W hQ => awake7_c W) ?_
  (try simp only [Act.put, List.setIfInBounds_toArray, List.set_cons_zero, List.set_cons_succ, World.size_alloc, setRow_size, Nat.add_assoc, Nat.reduceAdd])
  refine quiet_pickt (by rfl) (by rfl) (by rfl) (by rfl) (by rfl) ?_
  (try simp only [Act.put, List.setIfInBounds_toArray, List.set_cons_zero, List.set_cons_succ, World.size_alloc, setRow_size, Nat.add_assoc, Nat.reduceAdd])
  refine quiet_assign rfl rfl rfl ?_
  (try simp only [Act.put, List.setIfInBounds_toArray, List.set_cons_zero, List.set_cons_succ, World.size_alloc, setRow_size, Nat.add_assoc, Nat.reduceAdd])
  refine wpQuiet_nil ?_
  intro w' hw'
  go_wp2
  go_ret
  exact ⟨rfl, bCall hbel hw' hbel.size⟩
theorem ofN0 {bs : List Nat} (hl : bs.length = 16) (hb : ∀ x ∈ bs, x < 256) : ofN bs 0 = le bs ∧ le bs < 340282366920938463463374607431768211456 ∧ dig 256 16 (le bs) = bs := by
  refine ⟨by unfold ofN; omega, ?_, ?_⟩
  · have := undig_lt bs hb
    rw [hl] at this
    exact this
  · have := dig_undig 256 bs hb
    rw [hl] at this
    exact this
theorem back_low {bs : List Nat} (hl : bs.length = 16) (hb : ∀ x ∈ bs, x < 256) : dig 256 16 (val (numOf (ofN bs 0)) % pp) = bs := by
  obtain ⟨h1, h2, h3⟩ := ofN0 hl hb
  rw [val_numOf, Nat.mod_mod, h1, Nat.mod_eq_of_lt (by unfold pp; omega), h3]
theorem back_sum (bs : List Nat) (high : Nat) : numOf (val (numOf (ofN bs 0)) + val (numOf (val [0, 0, 0, 0, 16777216] * val [high, 0, 0, 0, 0]))) = numOf (ofN bs high) := by
  have e1 : val [0, 0, 0, 0, 16777216] = 340282366920938463463374607431768211456 := by kernel_rfl
  have e2 : val [high, 0, 0, 0, 0] = high := by show high + 67108864 * (0 + 67108864 * (0 + 67108864 * (0 + 67108864 * (0 + 67108864 * 0)))) = high; omega
  refine numOf_congr ?_
  rw [val_numOf, val_numOf, ← Nat.add_mod, e1, e2]
  unfold ofN
  rw [Nat.mul_zero, Nat.add_zero]
set_option maxRecDepth 100000 in
set_option maxHeartbeats 4000000 in
theorem primeBack_c (bs : List Nat) (high : Nat) (hl : bs.length = 16) (hb : ∀ x ∈ bs, x < 2 ^ 8) (hh : high < 2 ^ 32) (w : World) :
    Calls Try.prog 17 #[.agg (ints .u8 bs), .int .u32 high] w fun e w' => e = .returned (.bool true) ∧ Below w.heap.size w w' := by
  have B0 := (Blk.new w 50 (ints .u8 bs)).alloc (.cells (ints .u32 (zeros 5)) 28)
  have Z := Blk.new (w.alloc (.cells (ints .u8 bs) 50)) 28 (ints .u32 (zeros 5))
  rw [World.size_alloc] at Z
  have D0 := B0.rowFar (show w.heap.size ≠ w.heap.size + 1 by omega) (ints .u32 [0, 0, 0, 0, 16777216])
  have D1 := Z.row (ints .u32 [0, 0, 0, 0, 16777216])
  have hbel := bSetRow (((Below.refl w.heap.size w).alloc (Nat.le_refl _) (.cells (ints .u8 bs) 50)).alloc (by simp) (.cells (ints .u32 (zeros 5)) 28)) (show w.heap.size ≤ w.heap.size + 1 by omega) (ints .u32 [0, 0, 0, 0, 16777216])
  have H1 := Lib.hid (of_c bs hl hb high hh)
  have H2 := Lib.hid (of_c bs hl hb 0 (by omega))
  have HB := Lib.hid (back_low hl hb)
  have HS := Lib.hid (back_sum bs high)
  have hs5 : ([0, 0, 0, 0, 16777216] : List Nat).length = 5 := rfl
  have hsb : ∀ x ∈ ([0, 0, 0, 0, 16777216] : List Nat), x < 2 ^ 32 := by simp
  have hhb : ∀ x ∈ ([high, 0, 0, 0, 0] : List Nat), x < 2 ^ 32 := by simp; omega
  go_enter Try.func17, Try.ntmps17
  go_wp2_with (first | (refine wpList_alloc_ints rfl 28 rfl Try.z28 ?_; (try simp only [Act.put, List.setIfInBounds_toArray, List.set_cons_zero, List.set_cons_succ, World.size_alloc, setRow_size, Nat.add_assoc, Nat.reduceAdd])) | (refine wpList_store_ints rfl 28 _ _ rfl (w.heap.size + 1) (k := .u32) (xs := [0, 0, 0, 0, 16777216]) rfl rfl Z rfl Try.ar28 rfl ?_; (try simp only [Act.put, List.setIfInBounds_toArray, List.set_cons_zero, List.set_cons_succ, World.size_alloc, setRow_size, Nat.add_assoc, Nat.reduceAdd])))
  clear Z B0
  generalize (((w.alloc (.cells (ints .u8 bs) 50)).alloc (.cells (ints .u32 (zeros 5)) 28)).setRow (w.heap.size + 1) (ints .u32 [0, 0, 0, 0, 16777216])) = w0 at *
  refine wp_region_below (by kernel_rfl) (by kernel_rfl) ?_
  refine quiet_load rfl rfl rfl D0 Try.ar50 hl ?_
  (try simp only [Act.put, List.setIfInBounds_toArray, List.set_cons_zero, List.set_cons_succ, World.size_alloc, setRow_size, Nat.add_assoc, Nat.reduceAdd])
  refine quiet_call 46 rfl rfl Try.func46 (by kernel_rfl) (by kernel_rfl) (fun W hQ => H2.out W) ?_
  (try simp only [Act.put, List.setIfInBounds_toArray, List.set_cons_zero, List.set_cons_succ, World.size_alloc, setRow_size, Nat.add_assoc, Nat.reduceAdd])
  refine quiet_call 43 rfl rfl Try.func43 (by kernel_rfl) (by kernel_rfl) (fun W hQ => low_c _ (numOf_len _) lt32 W) ?_
  (try simp only [Act.put, List.setIfInBounds_toArray, List.set_cons_zero, List.set_cons_succ, World.size_alloc, setRow_size, Nat.add_assoc, Nat.reduceAdd])
  refine quiet_load rfl rfl rfl D0 Try.ar50 hl ?_
  (try simp only [Act.put, List.setIfInBounds_toArray, List.set_cons_zero, List.set_cons_succ, World.size_alloc, setRow_size, Nat.add_assoc, Nat.reduceAdd])
  refine quiet_eql rfl rfl rfl rfl Try.eg50 (same16 _ _ (dig_length _ _ _) HB.out) ?_
  (try simp only [Act.put, List.setIfInBounds_toArray, List.set_cons_zero, List.set_cons_succ, World.size_alloc, setRow_size, Nat.add_assoc, Nat.reduceAdd])
  refine quiet_move rfl rfl rfl ?_
  (try simp only [Act.put, List.setIfInBounds_toArray, List.set_cons_zero, List.set_cons_succ, World.size_alloc, setRow_size, Nat.add_assoc, Nat.reduceAdd])
  refine quiet_load rfl rfl rfl D0 Try.ar50 hl ?_
  (try simp only [Act.put, List.setIfInBounds_toArray, List.set_cons_zero, List.set_cons_succ, World.size_alloc, setRow_size, Nat.add_assoc, Nat.reduceAdd])
  refine quiet_move rfl rfl rfl ?_
  (try simp only [Act.put, List.setIfInBounds_toArray, List.set_cons_zero, List.set_cons_succ, World.size_alloc, setRow_size, Nat.add_assoc, Nat.reduceAdd])
  refine quiet_call 46 rfl rfl Try.func46 (by kernel_rfl) (by kernel_rfl) (fun W hQ => H1.out W) ?_
  (try simp only [Act.put, List.setIfInBounds_toArray, List.set_cons_zero, List.set_cons_succ, World.size_alloc, setRow_size, Nat.add_assoc, Nat.reduceAdd])
  refine quiet_load rfl rfl rfl D0 Try.ar50 hl ?_
  (try simp only [Act.put, List.setIfInBounds_toArray, List.set_cons_zero, List.set_cons_succ, World.size_alloc, setRow_size, Nat.add_assoc, Nat.reduceAdd])
  refine quiet_call 46 rfl rfl Try.func46 (by kernel_rfl) (by kernel_rfl) (fun W hQ => H2.out W) ?_
  (try simp only [Act.put, List.setIfInBounds_toArray, List.set_cons_zero, List.set_cons_succ, World.size_alloc, setRow_size, Nat.add_assoc, Nat.reduceAdd])
  refine quiet_load rfl rfl rfl D1 Try.ar28 hs5 ?_
  (try simp only [Act.put, List.setIfInBounds_toArray, List.set_cons_zero, List.set_cons_succ, World.size_alloc, setRow_size, Nat.add_assoc, Nat.reduceAdd])
  refine quiet_move rfl rfl rfl ?_
  (try simp only [Act.put, List.setIfInBounds_toArray, List.set_cons_zero, List.set_cons_succ, World.size_alloc, setRow_size, Nat.add_assoc, Nat.reduceAdd])
  refine quiet_run (v := .agg (ints .u32 [high, 0, 0, 0, 0])) rfl (fun W => by kernel_rfl) ?_
  (try simp only [Act.put, List.setIfInBounds_toArray, List.set_cons_zero, List.set_cons_succ, World.size_alloc, setRow_size, Nat.add_assoc, Nat.reduceAdd])
  refine quiet_call 37 rfl rfl Try.func37 (by kernel_rfl) (by kernel_rfl) (fun W hQ => times_c _ [high, 0, 0, 0, 0] hs5 hsb rfl hhb W) ?_
  (try simp only [Act.put, List.setIfInBounds_toArray, List.set_cons_zero, List.set_cons_succ, World.size_alloc, setRow_size, Nat.add_assoc, Nat.reduceAdd])
  refine quiet_call 32 rfl rfl Try.func32 (by kernel_rfl) (by kernel_rfl) (fun W hQ => plus_c _ _ (numOf_len _) lt32 (numOf_len _) lt32 W) ?_
  (try simp only [Act.put, List.setIfInBounds_toArray, List.set_cons_zero, List.set_cons_succ, World.size_alloc, setRow_size, Nat.add_assoc, Nat.reduceAdd])
  refine quiet_eql rfl rfl rfl rfl Try.eg28 (numSame _ _ (numOf_len _) HS.out.symm) ?_
  (try simp only [Act.put, List.setIfInBounds_toArray, List.set_cons_zero, List.set_cons_succ, World.size_alloc, setRow_size, Nat.add_assoc, Nat.reduceAdd])
  refine quiet_pickt (by rfl) (by rfl) (by rfl) (by rfl) (by rfl) ?_
  (try simp only [Act.put, List.setIfInBounds_toArray, List.set_cons_zero, List.set_cons_succ, World.size_alloc, setRow_size, Nat.add_assoc, Nat.reduceAdd])
  refine quiet_move rfl rfl rfl ?_
  (try simp only [Act.put, List.setIfInBounds_toArray, List.set_cons_zero, List.set_cons_succ, World.size_alloc, setRow_size, Nat.add_assoc, Nat.reduceAdd])
  refine quiet_load rfl rfl rfl D0 Try.ar50 hl ?_
  (try simp only [Act.put, List.setIfInBounds_toArray, List.set_cons_zero, List.set_cons_succ, World.size_alloc, setRow_size, Nat.add_assoc, Nat.reduceAdd])
  refine quiet_move rfl rfl rfl ?_
  (try simp only [Act.put, List.setIfInBounds_toArray, List.set_cons_zero, List.set_cons_succ, World.size_alloc, setRow_size, Nat.add_assoc, Nat.reduceAdd])
  refine quiet_call 46 rfl rfl Try.func46 (by kernel_rfl) (by kernel_rfl) (fun W hQ => H1.out W) ?_
  (try simp only [Act.put, List.setIfInBounds_toArray, List.set_cons_zero, List.set_cons_succ, World.size_alloc, setRow_size, Nat.add_assoc, Nat.reduceAdd])
  refine quiet_call 45 rfl rfl Try.func45 (by kernel_rfl) (by kernel_rfl) (fun W hQ => formed_c _ (numOf_len _) (numOf_lt _) (numOf_form _) W) ?_
  (try simp only [Act.put, List.setIfInBounds_toArray, List.set_cons_zero, List.set_cons_succ, World.size_alloc, setRow_size, Nat.add_assoc, Nat.reduceAdd])
  refine quiet_pickt (by rfl) (by rfl) (by rfl) (by rfl) (by rfl) ?_
  (try simp only [Act.put, List.setIfInBounds_toArray, List.set_cons_zero, List.set_cons_succ, World.size_alloc, setRow_size, Nat.add_assoc, Nat.reduceAdd])
  refine quiet_move rfl rfl rfl ?_
  (try simp only [Act.put, List.setIfInBounds_toArray, List.set_cons_zero, List.set_cons_succ, World.size_alloc, setRow_size, Nat.add_assoc, Nat.reduceAdd])
  refine quiet_call 34 rfl rfl Try.func34 (by kernel_rfl) (by kernel_rfl) (fun W hQ => awake7_c W) ?_
  (try simp only [Act.put, List.setIfInBounds_toArray, List.set_cons_zero, List.set_cons_succ, World.size_alloc, setRow_size, Nat.add_assoc, Nat.reduceAdd])
  refine quiet_pickt (by rfl) (by rfl) (by rfl) (by rfl) (by rfl) ?_
  (try simp only [Act.put, List.setIfInBounds_toArray, List.set_cons_zero, List.set_cons_succ, World.size_alloc, setRow_size, Nat.add_assoc, Nat.reduceAdd])
  refine quiet_assign rfl rfl rfl ?_
  (try simp only [Act.put, List.setIfInBounds_toArray, List.set_cons_zero, List.set_cons_succ, World.size_alloc, setRow_size, Nat.add_assoc, Nat.reduceAdd])
  refine wpQuiet_nil ?_
  intro w' hw'
  go_wp2
  go_ret
  exact ⟨rfl, bCall hbel hw' hbel.size⟩
end Go.Proofs.Ytoijnilbcmdmeaa
