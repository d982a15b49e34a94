/- The walk of RingDoubles. No condition but that bytes are below 256 and the numbers fit. -/
import Derived.Test.YtehhipanbjhffaaW10u
import Derived.Test.YtehhipanbjhffaaW10l
import Derived.Test.YtehhipanbjhffaaL10e
namespace Go.Proofs.Ytehhipanbjhffaa
set_option linter.unusedSimpArgs false
set_option linter.unusedVariables false
set_option linter.unusedSectionVars false
set_option linter.unusedVariables false
open Go.RowKit
open Gf (W2 up down upN downN mulS mul dot dotS R1 D1)
theorem awk_le {k : Int} (hw : (Lit.int .i64 k).wf = true) : -9223372036854775808 ≤ k ∧ k ≤ 9223372036854775807 := by
  unfold Lit.wf at hw
  simp only [Bool.and_eq_true, decide_eq_true_eq] at hw
  exact ⟨hw.1, hw.2⟩
theorem HZ16 : Hid (Value.agg #[.int .u8 0, .int .u8 0, .int .u8 0, .int .u8 0, .int .u8 0, .int .u8 0, .int .u8 0, .int .u8 0, .int .u8 0, .int .u8 0, .int .u8 0, .int .u8 0, .int .u8 0, .int .u8 0, .int .u8 0, .int .u8 0] = .agg (ints .u8 (zeros 16))) := Lib.hid rfl
set_option maxRecDepth 100000 in
set_option maxHeartbeats 8000000 in
theorem ringDoubles_c (xs : List Nat) (n : Nat) (k : Int) (hl : xs.length = 16) (hb : ∀ x ∈ xs, x < 2 ^ 8) (hn : n < 2 ^ 64) (hw : (Lit.int .i64 k).wf = true) (w : World) :
    Calls Try.prog 11 #[.agg (ints .u8 xs), .int .u64 n, .int .i64 k] w fun e w' => e = .returned (.bool true) ∧ Below w.heap.size w w' := by
  obtain ⟨hk1, hk2⟩ := awk_le hw
  have hn64 : n < 18446744073709551616 := hn
  have Hn := Lib.hid hn
  clear hn hw
  have B1 := Blk.new w 22 (ints .u8 xs)
  have hbel := (Below.refl w.heap.size w).alloc (Nat.le_refl _) (.cells (ints .u8 xs) 22)
  by_cases h1000 : k > 1000
  · go_enter Try.func11, Try.ntmps11
    go_wp2
    go_ret
    exact ⟨rfl, hbel⟩
  have hd1 : decide (k > 1000) = false := by simpa using h1000
  have hD := Lib.hid (dblB_up hl hb)
  by_cases h0 : k < 0
  · have hd2 : decide (k < 0) = true := by simpa using h0
    go_enter Try.func11, Try.ntmps11
    go_wp2_with (refine wpList_load_ints rfl 22 _ rfl w.heap.size rfl B1 Try.ar22 hl ?_; (try simp only [Act.put, List.setIfInBounds_toArray, List.set_cons_zero, List.set_cons_succ, World.size_alloc, setRow_size, Nat.add_assoc, Nat.reduceAdd]))
    generalize (w.alloc (.cells (ints .u8 xs) 22)) = w0 at *
    refine (raisedNeg_ref k xs h0 hl _).mono ?_
    rintro e w1 ⟨rfl, hb1⟩
    have C1 := (B1.below' hb1).alloc (.cells (ints .u8 (zeros 16)) 22)
    have C2 := Blk.new w1 22 (ints .u8 (zeros 16))
    have hlt1 : w.heap.size < w1.heap.size := (B1.below' hb1).lt
    have D1 := C1.rowFar (show w.heap.size ≠ w1.heap.size by omega) (ints .u8 xs)
    have D2 := C2.row (ints .u8 xs)
    have E1 := D1.rowFar (show w.heap.size ≠ w1.heap.size by omega) (ints .u8 (zeros 16))
    have E2 := D2.row (ints .u8 (zeros 16))
    have hbel1 := bSetRow (bSetRow ((bCall hbel hb1 hbel.size).alloc (by omega) (.cells (ints .u8 (zeros 16)) 22)) (show w.heap.size ≤ w1.heap.size by omega) (ints .u8 xs)) (show w.heap.size ≤ w1.heap.size by omega) (ints .u8 (zeros 16))
    go_wp2_with (first | (refine wpList_alloc_ints rfl 22 rfl Try.z22 ?_; (try simp only [Act.put, List.setIfInBounds_toArray, List.set_cons_zero, List.set_cons_succ, World.size_alloc, setRow_size, Nat.add_assoc, Nat.reduceAdd])) | (refine wpList_store_ints rfl 22 _ _ rfl w1.heap.size (k := .u8) (xs := xs) rfl rfl C2 (zeros_size _ _) Try.ar22 hl ?_; (try simp only [Act.put, List.setIfInBounds_toArray, List.set_cons_zero, List.set_cons_succ, World.size_alloc, setRow_size, Nat.add_assoc, Nat.reduceAdd])) | (refine wpList_store_ints rfl 22 _ _ rfl w1.heap.size (k := .u8) (xs := zeros 16) rfl HZ16.out D2 (by rw [ints_size, hl]) Try.ar22 (zeros_len _) ?_; (try simp only [Act.put, List.setIfInBounds_toArray, List.set_cons_zero, List.set_cons_succ, World.size_alloc, setRow_size, Nat.add_assoc, Nat.reduceAdd])))
    generalize w1.heap.size = g at *
    generalize ((w1.alloc (.cells (ints .u8 (zeros 16)) 22)).setRow g (ints .u8 xs)).setRow g (ints .u8 (zeros 16)) = w2 at *
    refine wp_region_below (by kernel_rfl) (by kernel_rfl) ?_
    refine quiet_load rfl rfl rfl E1 Try.ar22 hl ?_
    (try simp only [Act.put, List.setIfInBounds_toArray, List.set_cons_zero, List.set_cons_succ, World.size_alloc, setRow_size, Nat.add_assoc, Nat.reduceAdd])
    refine quiet_call 19 rfl rfl Try.func19 (by kernel_rfl) (by kernel_rfl) (fun W hQ => double_c xs hl hb W) ?_
    (try simp only [Act.put, List.setIfInBounds_toArray, List.set_cons_zero, List.set_cons_succ, World.size_alloc, setRow_size, Nat.add_assoc, Nat.reduceAdd])
    refine quiet_load rfl rfl rfl E1 Try.ar22 hl ?_
    (try simp only [Act.put, List.setIfInBounds_toArray, List.set_cons_zero, List.set_cons_succ, World.size_alloc, setRow_size, Nat.add_assoc, Nat.reduceAdd])
    refine quiet_call 24 rfl rfl Try.func24 (by kernel_rfl) (by kernel_rfl) (fun W hQ => double_ref xs hl hb W) ?_
    (try simp only [Act.put, List.setIfInBounds_toArray, List.set_cons_zero, List.set_cons_succ, World.size_alloc, setRow_size, Nat.add_assoc, Nat.reduceAdd])
    refine quiet_eql rfl rfl rfl rfl Try.eg22 (same16 _ _ (dblB_len _) hD.out) ?_
    (try simp only [Act.put, List.setIfInBounds_toArray, List.set_cons_zero, List.set_cons_succ, World.size_alloc, setRow_size, Nat.add_assoc, Nat.reduceAdd])
    refine quiet_move rfl rfl rfl ?_
    (try simp only [Act.put, List.setIfInBounds_toArray, List.set_cons_zero, List.set_cons_succ, World.size_alloc, setRow_size, Nat.add_assoc, Nat.reduceAdd])
    refine quiet_move rfl rfl rfl ?_
    (try simp only [Act.put, List.setIfInBounds_toArray, List.set_cons_zero, List.set_cons_succ, World.size_alloc, setRow_size, Nat.add_assoc, Nat.reduceAdd])
    refine quiet_load rfl rfl rfl E1 Try.ar22 hl ?_
    (try simp only [Act.put, List.setIfInBounds_toArray, List.set_cons_zero, List.set_cons_succ, World.size_alloc, setRow_size, Nat.add_assoc, Nat.reduceAdd])
    refine quiet_call 18 rfl rfl Try.func18 (by kernel_rfl) (by kernel_rfl) (fun W hQ => multiple_c n xs Hn.out hl hb W) ?_
    (try simp only [Act.put, List.setIfInBounds_toArray, List.set_cons_zero, List.set_cons_succ, World.size_alloc, setRow_size, Nat.add_assoc, Nat.reduceAdd])
    refine quiet_move rfl rfl rfl ?_
    (try simp only [Act.put, List.setIfInBounds_toArray, List.set_cons_zero, List.set_cons_succ, World.size_alloc, setRow_size, Nat.add_assoc, Nat.reduceAdd])
    refine quiet_load rfl rfl rfl E1 Try.ar22 hl ?_
    (try simp only [Act.put, List.setIfInBounds_toArray, List.set_cons_zero, List.set_cons_succ, World.size_alloc, setRow_size, Nat.add_assoc, Nat.reduceAdd])
    refine quiet_call 25 rfl rfl Try.func25 (by kernel_rfl) (by kernel_rfl) (fun W hQ => multiple_ref n xs Hn.out hl hb W) ?_
    (try simp only [Act.put, List.setIfInBounds_toArray, List.set_cons_zero, List.set_cons_succ, World.size_alloc, setRow_size, Nat.add_assoc, Nat.reduceAdd])
    refine quiet_eql rfl rfl rfl rfl Try.eg22 (same16 _ _ (belem_len _) rfl) ?_
    (try simp only [Act.put, List.setIfInBounds_toArray, List.set_cons_zero, List.set_cons_succ, World.size_alloc, setRow_size, Nat.add_assoc, Nat.reduceAdd])
    refine quiet_pickt (by rfl) (by rfl) (by rfl) (by rfl) (by rfl) ?_
    (try simp only [Act.put, List.setIfInBounds_toArray, List.set_cons_zero, List.set_cons_succ, World.size_alloc, setRow_size, Nat.add_assoc, Nat.reduceAdd])
    refine quiet_move rfl rfl rfl ?_
    (try simp only [Act.put, List.setIfInBounds_toArray, List.set_cons_zero, List.set_cons_succ, World.size_alloc, setRow_size, Nat.add_assoc, Nat.reduceAdd])
    refine quiet_move rfl rfl rfl ?_
    (try simp only [Act.put, List.setIfInBounds_toArray, List.set_cons_zero, List.set_cons_succ, World.size_alloc, setRow_size, Nat.add_assoc, Nat.reduceAdd])
    refine quiet_load rfl rfl rfl E1 Try.ar22 hl ?_
    (try simp only [Act.put, List.setIfInBounds_toArray, List.set_cons_zero, List.set_cons_succ, World.size_alloc, setRow_size, Nat.add_assoc, Nat.reduceAdd])
    refine quiet_call 22 rfl rfl Try.func22 (by kernel_rfl) (by kernel_rfl) (fun W hQ => raisedNeg_c k h0 hk1 xs hl W) ?_
    (try simp only [Act.put, List.setIfInBounds_toArray, List.set_cons_zero, List.set_cons_succ, World.size_alloc, setRow_size, Nat.add_assoc, Nat.reduceAdd])
    refine quiet_load rfl rfl rfl E2 Try.ar22 (zeros_len _) ?_
    (try simp only [Act.put, List.setIfInBounds_toArray, List.set_cons_zero, List.set_cons_succ, World.size_alloc, setRow_size, Nat.add_assoc, Nat.reduceAdd])
    refine quiet_eql rfl rfl rfl rfl Try.eg22 (same16 _ _ (zeros_len _) rfl) ?_
    (try simp only [Act.put, List.setIfInBounds_toArray, List.set_cons_zero, List.set_cons_succ, World.size_alloc, setRow_size, Nat.add_assoc, Nat.reduceAdd])
    refine quiet_pickt (by rfl) (by rfl) (by rfl) (by rfl) (by rfl) ?_
    (try simp only [Act.put, List.setIfInBounds_toArray, List.set_cons_zero, List.set_cons_succ, World.size_alloc, setRow_size, Nat.add_assoc, Nat.reduceAdd])
    refine quiet_move rfl rfl rfl ?_
    (try simp only [Act.put, List.setIfInBounds_toArray, List.set_cons_zero, List.set_cons_succ, World.size_alloc, setRow_size, Nat.add_assoc, Nat.reduceAdd])
    refine quiet_call 16 rfl rfl Try.func16 (by kernel_rfl) (by kernel_rfl) (fun W hQ => awake10_c W) ?_
    (try simp only [Act.put, List.setIfInBounds_toArray, List.set_cons_zero, List.set_cons_succ, World.size_alloc, setRow_size, Nat.add_assoc, Nat.reduceAdd])
    refine quiet_pickt (by rfl) (by rfl) (by rfl) (by rfl) (by rfl) ?_
    (try simp only [Act.put, List.setIfInBounds_toArray, List.set_cons_zero, List.set_cons_succ, World.size_alloc, setRow_size, Nat.add_assoc, Nat.reduceAdd])
    refine quiet_assign rfl rfl rfl ?_
    (try simp only [Act.put, List.setIfInBounds_toArray, List.set_cons_zero, List.set_cons_succ, World.size_alloc, setRow_size, Nat.add_assoc, Nat.reduceAdd])
    refine wpQuiet_nil ?_
    intro w' hw'
    go_wp2
    go_ret
    exact ⟨rfl, bCall hbel1 hw' hbel1.size⟩
  · obtain ⟨m, rfl⟩ : ∃ m : Nat, k = (m : Int) := ⟨k.toNat, by omega⟩
    have hd2 : decide ((m : Int) < 0) = false := by simp
    have hm63 : m < 2 ^ 63 := by omega
    have Hm := Lib.hid hm63
    clear hm63
    have hrl := belem_len (upN R2 m (bnum xs))
    go_enter Try.func11, Try.ntmps11
    go_wp2_with (refine wpList_load_ints rfl 22 _ rfl w.heap.size rfl B1 Try.ar22 hl ?_; (try simp only [Act.put, List.setIfInBounds_toArray, List.set_cons_zero, List.set_cons_succ, World.size_alloc, setRow_size, Nat.add_assoc, Nat.reduceAdd]))
    generalize (w.alloc (.cells (ints .u8 xs) 22)) = w0 at *
    refine (raised_ref m xs Hm.out hl hb _).mono ?_
    rintro e w1 ⟨rfl, hb1⟩
    have C1 := (B1.below' hb1).alloc (.cells (ints .u8 (zeros 16)) 22)
    have C2 := Blk.new w1 22 (ints .u8 (zeros 16))
    have hlt1 : w.heap.size < w1.heap.size := (B1.below' hb1).lt
    have D1 := C1.rowFar (show w.heap.size ≠ w1.heap.size by omega) (ints .u8 (belem (upN R2 m (bnum xs))))
    have D2 := C2.row (ints .u8 (belem (upN R2 m (bnum xs))))
    have hbel1 := bSetRow ((bCall hbel hb1 hbel.size).alloc (by omega) (.cells (ints .u8 (zeros 16)) 22)) (show w.heap.size ≤ w1.heap.size by omega) (ints .u8 (belem (upN R2 m (bnum xs))))
    go_wp2_with (first | (refine wpList_alloc_ints rfl 22 rfl Try.z22 ?_; (try simp only [Act.put, List.setIfInBounds_toArray, List.set_cons_zero, List.set_cons_succ, World.size_alloc, setRow_size, Nat.add_assoc, Nat.reduceAdd])) | (refine wpList_store_ints rfl 22 _ _ rfl w1.heap.size (k := .u8) (xs := belem (upN R2 m (bnum xs))) rfl rfl C2 (zeros_size _ _) Try.ar22 hrl ?_; (try simp only [Act.put, List.setIfInBounds_toArray, List.set_cons_zero, List.set_cons_succ, World.size_alloc, setRow_size, Nat.add_assoc, Nat.reduceAdd])))
    generalize w1.heap.size = g at *
    generalize ((w1.alloc (.cells (ints .u8 (zeros 16)) 22)).setRow g (ints .u8 (belem (upN R2 m (bnum xs))))) = w2 at *
    refine wp_region_below (by kernel_rfl) (by kernel_rfl) ?_
    refine quiet_load rfl rfl rfl D1 Try.ar22 hl ?_
    (try simp only [Act.put, List.setIfInBounds_toArray, List.set_cons_zero, List.set_cons_succ, World.size_alloc, setRow_size, Nat.add_assoc, Nat.reduceAdd])
    refine quiet_call 19 rfl rfl Try.func19 (by kernel_rfl) (by kernel_rfl) (fun W hQ => double_c xs hl hb W) ?_
    (try simp only [Act.put, List.setIfInBounds_toArray, List.set_cons_zero, List.set_cons_succ, World.size_alloc, setRow_size, Nat.add_assoc, Nat.reduceAdd])
    refine quiet_load rfl rfl rfl D1 Try.ar22 hl ?_
    (try simp only [Act.put, List.setIfInBounds_toArray, List.set_cons_zero, List.set_cons_succ, World.size_alloc, setRow_size, Nat.add_assoc, Nat.reduceAdd])
    refine quiet_call 24 rfl rfl Try.func24 (by kernel_rfl) (by kernel_rfl) (fun W hQ => double_ref xs hl hb W) ?_
    (try simp only [Act.put, List.setIfInBounds_toArray, List.set_cons_zero, List.set_cons_succ, World.size_alloc, setRow_size, Nat.add_assoc, Nat.reduceAdd])
    refine quiet_eql rfl rfl rfl rfl Try.eg22 (same16 _ _ (dblB_len _) hD.out) ?_
    (try simp only [Act.put, List.setIfInBounds_toArray, List.set_cons_zero, List.set_cons_succ, World.size_alloc, setRow_size, Nat.add_assoc, Nat.reduceAdd])
    refine quiet_move rfl rfl rfl ?_
    (try simp only [Act.put, List.setIfInBounds_toArray, List.set_cons_zero, List.set_cons_succ, World.size_alloc, setRow_size, Nat.add_assoc, Nat.reduceAdd])
    refine quiet_move rfl rfl rfl ?_
    (try simp only [Act.put, List.setIfInBounds_toArray, List.set_cons_zero, List.set_cons_succ, World.size_alloc, setRow_size, Nat.add_assoc, Nat.reduceAdd])
    refine quiet_load rfl rfl rfl D1 Try.ar22 hl ?_
    (try simp only [Act.put, List.setIfInBounds_toArray, List.set_cons_zero, List.set_cons_succ, World.size_alloc, setRow_size, Nat.add_assoc, Nat.reduceAdd])
    refine quiet_call 18 rfl rfl Try.func18 (by kernel_rfl) (by kernel_rfl) (fun W hQ => multiple_c n xs Hn.out hl hb W) ?_
    (try simp only [Act.put, List.setIfInBounds_toArray, List.set_cons_zero, List.set_cons_succ, World.size_alloc, setRow_size, Nat.add_assoc, Nat.reduceAdd])
    refine quiet_move rfl rfl rfl ?_
    (try simp only [Act.put, List.setIfInBounds_toArray, List.set_cons_zero, List.set_cons_succ, World.size_alloc, setRow_size, Nat.add_assoc, Nat.reduceAdd])
    refine quiet_load rfl rfl rfl D1 Try.ar22 hl ?_
    (try simp only [Act.put, List.setIfInBounds_toArray, List.set_cons_zero, List.set_cons_succ, World.size_alloc, setRow_size, Nat.add_assoc, Nat.reduceAdd])
    refine quiet_call 25 rfl rfl Try.func25 (by kernel_rfl) (by kernel_rfl) (fun W hQ => multiple_ref n xs Hn.out hl hb W) ?_
    (try simp only [Act.put, List.setIfInBounds_toArray, List.set_cons_zero, List.set_cons_succ, World.size_alloc, setRow_size, Nat.add_assoc, Nat.reduceAdd])
    refine quiet_eql rfl rfl rfl rfl Try.eg22 (same16 _ _ (belem_len _) rfl) ?_
    (try simp only [Act.put, List.setIfInBounds_toArray, List.set_cons_zero, List.set_cons_succ, World.size_alloc, setRow_size, Nat.add_assoc, Nat.reduceAdd])
    refine quiet_pickt (by rfl) (by rfl) (by rfl) (by rfl) (by rfl) ?_
    (try simp only [Act.put, List.setIfInBounds_toArray, List.set_cons_zero, List.set_cons_succ, World.size_alloc, setRow_size, Nat.add_assoc, Nat.reduceAdd])
    refine quiet_move rfl rfl rfl ?_
    (try simp only [Act.put, List.setIfInBounds_toArray, List.set_cons_zero, List.set_cons_succ, World.size_alloc, setRow_size, Nat.add_assoc, Nat.reduceAdd])
    refine quiet_move rfl rfl rfl ?_
    (try simp only [Act.put, List.setIfInBounds_toArray, List.set_cons_zero, List.set_cons_succ, World.size_alloc, setRow_size, Nat.add_assoc, Nat.reduceAdd])
    refine quiet_load rfl rfl rfl D1 Try.ar22 hl ?_
    (try simp only [Act.put, List.setIfInBounds_toArray, List.set_cons_zero, List.set_cons_succ, World.size_alloc, setRow_size, Nat.add_assoc, Nat.reduceAdd])
    refine quiet_call 22 rfl rfl Try.func22 (by kernel_rfl) (by kernel_rfl) (fun W hQ => raised_c m xs Hm.out hl hb W) ?_
    (try simp only [Act.put, List.setIfInBounds_toArray, List.set_cons_zero, List.set_cons_succ, World.size_alloc, setRow_size, Nat.add_assoc, Nat.reduceAdd])
    refine quiet_load rfl rfl rfl D2 Try.ar22 hrl ?_
    (try simp only [Act.put, List.setIfInBounds_toArray, List.set_cons_zero, List.set_cons_succ, World.size_alloc, setRow_size, Nat.add_assoc, Nat.reduceAdd])
    refine quiet_eql rfl rfl rfl rfl Try.eg22 (same16 _ _ hrl rfl) ?_
    (try simp only [Act.put, List.setIfInBounds_toArray, List.set_cons_zero, List.set_cons_succ, World.size_alloc, setRow_size, Nat.add_assoc, Nat.reduceAdd])
    refine quiet_pickt (by rfl) (by rfl) (by rfl) (by rfl) (by rfl) ?_
    (try simp only [Act.put, List.setIfInBounds_toArray, List.set_cons_zero, List.set_cons_succ, World.size_alloc, setRow_size, Nat.add_assoc, Nat.reduceAdd])
    refine quiet_move rfl rfl rfl ?_
    (try simp only [Act.put, List.setIfInBounds_toArray, List.set_cons_zero, List.set_cons_succ, World.size_alloc, setRow_size, Nat.add_assoc, Nat.reduceAdd])
    refine quiet_call 16 rfl rfl Try.func16 (by kernel_rfl) (by kernel_rfl) (fun W hQ => awake10_c W) ?_
    (try simp only [Act.put, List.setIfInBounds_toArray, List.set_cons_zero, List.set_cons_succ, World.size_alloc, setRow_size, Nat.add_assoc, Nat.reduceAdd])
    refine quiet_pickt (by rfl) (by rfl) (by rfl) (by rfl) (by rfl) ?_
    (try simp only [Act.put, List.setIfInBounds_toArray, List.set_cons_zero, List.set_cons_succ, World.size_alloc, setRow_size, Nat.add_assoc, Nat.reduceAdd])
    refine quiet_assign rfl rfl rfl ?_
    (try simp only [Act.put, List.setIfInBounds_toArray, List.set_cons_zero, List.set_cons_succ, World.size_alloc, setRow_size, Nat.add_assoc, Nat.reduceAdd])
    refine wpQuiet_nil ?_
    intro w' hw'
    go_wp2
    go_ret
    exact ⟨rfl, bCall hbel1 hw' hbel1.size⟩
end Go.Proofs.Ytehhipanbjhffaa
