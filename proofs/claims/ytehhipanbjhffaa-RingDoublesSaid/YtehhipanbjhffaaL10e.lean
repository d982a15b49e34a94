/- The walk of RingRaised. No condition but that bytes are below 256 and the numbers below 2^16. -/
import Derived.Test.YtehhipanbjhffaaW10g
import Derived.Test.YtehhipanbjhffaaL10d
namespace Go.Proofs.Ytehhipanbjhffaa
set_option linter.unusedSimpArgs false
set_option linter.unusedVariables false
set_option linter.unusedSectionVars false
set_option linter.unusedVariables false
open Go.RowKit
open Gf (up upN mulS mul)
def D2 : Nat := 170141183460469231731687303715884105795
theorem pair2 : Gf.Pair R2 D2 := ⟨by decide, by decide, by kernel_rfl, by kernel_rfl⟩
theorem upN_inj (k : Nat) {a b : Nat} (ha : a < 2 ^ 128) (hb : b < 2 ^ 128) (h : upN R2 k a = upN R2 k b) : a = b := by
  rw [← Gf.downN_upN pair2 ha k, h, Gf.downN_upN pair2 hb k]
theorem bnum_inj {xs ys : List Nat} (hl : xs.length = 16) (hb : ∀ x ∈ xs, x < 256) (hl' : ys.length = 16) (hb' : ∀ x ∈ ys, x < 256) (h : bnum xs = bnum ys) : xs = ys := by
  rw [← belem_bnum hl hb, ← belem_bnum hl' hb', h]
def keyL (a b : Nat) : List Nat := [0, 0, 0, a, 0, 0, 0, 0, 0, 0, 0, 0, 0, 0, 0, b]
theorem keyL_c (a b : Nat) : Value.agg #[.int .u8 0, .int .u8 0, .int .u8 0, .int .u8 a, .int .u8 0, .int .u8 0, .int .u8 0, .int .u8 0, .int .u8 0, .int .u8 0, .int .u8 0, .int .u8 0, .int .u8 0, .int .u8 0, .int .u8 0, .int .u8 b] = .agg (ints .u8 (keyL a b)) := rfl
theorem keyL_lt {a b : Nat} (ha : a < 256) (hb : b < 256) : ∀ x ∈ keyL a b, x < 256 := by
  intro x hx
  simp only [keyL, List.mem_cons, List.not_mem_nil, or_false] at hx
  omega
set_option maxRecDepth 100000 in
set_option maxHeartbeats 8000000 in
theorem ringRaised_c (n m : Nat) (xs : List Nat) (hn : n < 2 ^ 16) (hm : m < 2 ^ 16) (hl : xs.length = 16) (hb : ∀ x ∈ xs, x < 2 ^ 8) (w : World) :
    Calls Try.prog 10 #[.int .u16 n, .int .u16 m, .agg (ints .u8 xs)] w fun e w' => e = .returned (.bool true) ∧ Below w.heap.size w w' := by
  have hx := bnum_lt hl hb
  obtain ⟨kn, hkn, hkn2⟩ : ∃ kn : Nat, kn < 256 ∧ (n : Int) % 256 = (kn : Int) := ⟨n % 256, by omega, by omega⟩
  obtain ⟨km, hkm, hkm2⟩ : ∃ km : Nat, km < 256 ∧ (m : Int) % 256 = (km : Int) := ⟨m % 256, by omega, by omega⟩
  have hkl : (keyL kn km).length = 16 := rfl
  have hkb := keyL_lt hkn hkm
  have HK := Lib.hid (keyL_c kn km)
  generalize keyL kn km = ks at *
  have hk := bnum_lt hkl hkb
  have WN := Lib.hid (show IntKind.i64.wrap (n : Int) = (n : Int) from IntWalk.i64_in _ (by omega))
  have WM := Lib.hid (show IntKind.i64.wrap (m : Int) = (m : Int) from IntWalk.i64_in _ (by omega))
  have WNM := Lib.hid (show IntKind.i64.wrap ((n : Int) + (m : Int)) = ((n + m : Nat) : Int) by rw [IntWalk.i64_in _ (by omega)]; simp)
  have hn63 : n < 2 ^ 63 := by omega
  have hm63 : m < 2 ^ 63 := by omega
  have hnm63 : n + m < 2 ^ 63 := by omega
  have hum := Gf.upN_lt R2_lt hx m
  have hun := Gf.upN_lt R2_lt hx n
  have huk := Gf.upN_lt R2_lt hk n
  have E1 := Lib.hid (show belem (upN R2 (n + m) (bnum xs)) = belem (upN R2 n (bnum (belem (upN R2 m (bnum xs))))) by rw [bnum_belem hum, Gf.upN_add])
  have E2 := Lib.hid (show belem (upN R2 1 (bnum xs)) = dblB xs by rw [dblB_up hl hb]; rfl)
  have E3 := Lib.hid (show belem (upN R2 0 (bnum xs)) = xs from belem_bnum hl hb)
  have E5 := Lib.hid (show belem (upN R2 n (bnum (xorL xs ks))) = xorL (belem (upN R2 n (bnum xs))) (belem (upN R2 n (bnum ks))) by
    rw [bnum_xor hl hb hkl hkb, belem_xor hun huk, show upN R2 n (bnum xs ^^^ bnum ks) = _ from Gf.upN_lin R2 n (bnum xs) (bnum ks)])
  have i1 : (belem (upN R2 n (bnum xs)) == belem (upN R2 n (bnum ks))) = (xs == ks) := beq_iff ⟨fun h => bnum_inj hl hb hkl hkb (upN_inj n hx hk (belem_inj hun huk h)), fun h => by rw [h]⟩
  obtain ⟨b, hE0, hE1⟩ : ∃ b, (∀ W, (binOp .eql 22 (.agg (ints .u8 xs)) (.agg (ints .u8 ks))).run Try.prog W = .ok (.bool b) W) ∧ (∀ W, (binOp .eql 22 (.agg (ints .u8 (belem (upN R2 n (bnum xs))))) (.agg (ints .u8 (belem (upN R2 n (bnum ks)))))).run Try.prog W = .ok (.bool b) W) :=
    ⟨xs == ks, fun W => eq16 _ _ hl hkl W, fun W => (eq16 _ _ (belem_len _) (belem_len _) W).trans (by rw [i1])⟩
  have HE0 := Lib.hid hE0
  have HE1 := Lib.hid hE1
  clear i1 hE0 hE1 hum hun huk hx hk
  have hdb : ∀ x ∈ dblB xs, x < 256 := by rw [dblB_up hl hb]; exact belem_lt _
  have hdl := dblB_len xs
  have B1 := Blk.new w 22 (ints .u8 xs)
  have B1' := (B1.alloc (.cells (ints .u8 (zeros 16)) 22)).rowFar (k := w.heap.size + 1) (by omega) (ints .u8 ks)
  have Z := Blk.new (w.alloc (.cells (ints .u8 xs) 22)) 22 (ints .u8 (zeros 16))
  rw [World.size_alloc] at Z
  have B2 := Z.row (ints .u8 ks)
  have hbel := bSetRow (((Below.refl w.heap.size w).alloc (Nat.le_refl _) (.cells (ints .u8 xs) 22)).alloc (by simp) (.cells (ints .u8 (zeros 16)) 22)) (show w.heap.size ≤ w.heap.size + 1 by omega) (ints .u8 ks)
  go_enter Try.func10, Try.ntmps10
  go_wp2_with (first | (refine wpList_alloc_ints rfl 22 rfl Try.z22 ?_; (try simp only [Act.put, List.setIfInBounds_toArray, List.set_cons_zero, List.set_cons_succ, World.size_alloc, setRow_size, Nat.add_assoc, Nat.reduceAdd])) | (refine wpList_store_ints rfl 22 _ _ rfl (w.heap.size + 1) (k := .u8) (xs := ks) rfl HK.out Z (zeros_size _ _) Try.ar22 hkl ?_; (try simp only [Act.put, List.setIfInBounds_toArray, List.set_cons_zero, List.set_cons_succ, World.size_alloc, setRow_size, Nat.add_assoc, Nat.reduceAdd])))
  clear Z B1
  generalize ((w.alloc (.cells (ints .u8 xs) 22)).alloc (.cells (ints .u8 (zeros 16)) 22)).setRow (w.heap.size + 1) (ints .u8 ks) = w0 at *
  refine wp_region_below (by kernel_rfl) (by kernel_rfl) ?_
  refine quiet_move rfl rfl rfl ?_
  (try simp only [Act.put, List.setIfInBounds_toArray, List.set_cons_zero, List.set_cons_succ, World.size_alloc, setRow_size, Nat.add_assoc, Nat.reduceAdd])
  refine quiet_run (v := .int .i64 (IntKind.i64.wrap (n : Int))) rfl (fun W => by kernel_rfl) ?_; rw [WN.out]
  (try simp only [Act.put, List.setIfInBounds_toArray, List.set_cons_zero, List.set_cons_succ, World.size_alloc, setRow_size, Nat.add_assoc, Nat.reduceAdd])
  refine quiet_move rfl rfl rfl ?_
  (try simp only [Act.put, List.setIfInBounds_toArray, List.set_cons_zero, List.set_cons_succ, World.size_alloc, setRow_size, Nat.add_assoc, Nat.reduceAdd])
  refine quiet_run (v := .int .i64 (IntKind.i64.wrap (m : Int))) rfl (fun W => by kernel_rfl) ?_; rw [WM.out]
  (try simp only [Act.put, List.setIfInBounds_toArray, List.set_cons_zero, List.set_cons_succ, World.size_alloc, setRow_size, Nat.add_assoc, Nat.reduceAdd])
  refine quiet_run (v := .int .i64 (IntKind.i64.wrap ((n : Int) + (m : Int)))) rfl (fun W => by kernel_rfl) ?_; rw [WNM.out]
  (try simp only [Act.put, List.setIfInBounds_toArray, List.set_cons_zero, List.set_cons_succ, World.size_alloc, setRow_size, Nat.add_assoc, Nat.reduceAdd])
  refine quiet_load rfl rfl rfl B1' Try.ar22 hl ?_
  (try simp only [Act.put, List.setIfInBounds_toArray, List.set_cons_zero, List.set_cons_succ, World.size_alloc, setRow_size, Nat.add_assoc, Nat.reduceAdd])
  refine quiet_call 22 rfl rfl Try.func22 (by kernel_rfl) (by kernel_rfl) (fun W hQ => raised_c (n + m) xs hnm63 hl hb W) ?_
  (try simp only [Act.put, List.setIfInBounds_toArray, List.set_cons_zero, List.set_cons_succ, World.size_alloc, setRow_size, Nat.add_assoc, Nat.reduceAdd])
  refine quiet_move rfl rfl rfl ?_
  (try simp only [Act.put, List.setIfInBounds_toArray, List.set_cons_zero, List.set_cons_succ, World.size_alloc, setRow_size, Nat.add_assoc, Nat.reduceAdd])
  refine quiet_run (v := .int .i64 (IntKind.i64.wrap (n : Int))) rfl (fun W => by kernel_rfl) ?_; rw [WN.out]
  (try simp only [Act.put, List.setIfInBounds_toArray, List.set_cons_zero, List.set_cons_succ, World.size_alloc, setRow_size, Nat.add_assoc, Nat.reduceAdd])
  refine quiet_move rfl rfl rfl ?_
  (try simp only [Act.put, List.setIfInBounds_toArray, List.set_cons_zero, List.set_cons_succ, World.size_alloc, setRow_size, Nat.add_assoc, Nat.reduceAdd])
  refine quiet_run (v := .int .i64 (IntKind.i64.wrap (m : Int))) rfl (fun W => by kernel_rfl) ?_; rw [WM.out]
  (try simp only [Act.put, List.setIfInBounds_toArray, List.set_cons_zero, List.set_cons_succ, World.size_alloc, setRow_size, Nat.add_assoc, Nat.reduceAdd])
  refine quiet_load rfl rfl rfl B1' Try.ar22 hl ?_
  (try simp only [Act.put, List.setIfInBounds_toArray, List.set_cons_zero, List.set_cons_succ, World.size_alloc, setRow_size, Nat.add_assoc, Nat.reduceAdd])
  refine quiet_call 22 rfl rfl Try.func22 (by kernel_rfl) (by kernel_rfl) (fun W hQ => raised_c m xs hm63 hl hb W) ?_
  (try simp only [Act.put, List.setIfInBounds_toArray, List.set_cons_zero, List.set_cons_succ, World.size_alloc, setRow_size, Nat.add_assoc, Nat.reduceAdd])
  refine quiet_call 22 rfl rfl Try.func22 (by kernel_rfl) (by kernel_rfl) (fun W hQ => raised_c n _ hn63 (belem_len _) (belem_lt _) W) ?_
  (try simp only [Act.put, List.setIfInBounds_toArray, List.set_cons_zero, List.set_cons_succ, World.size_alloc, setRow_size, Nat.add_assoc, Nat.reduceAdd])
  refine quiet_neq rfl rfl rfl rfl Try.eg22 (diff16 _ _ (belem_len _) E1.out) ?_
  (try simp only [Act.put, List.setIfInBounds_toArray, List.set_cons_zero, List.set_cons_succ, World.size_alloc, setRow_size, Nat.add_assoc, Nat.reduceAdd])
  refine quiet_move rfl rfl rfl ?_
  (try simp only [Act.put, List.setIfInBounds_toArray, List.set_cons_zero, List.set_cons_succ, World.size_alloc, setRow_size, Nat.add_assoc, Nat.reduceAdd])
  refine quiet_load rfl rfl rfl B1' Try.ar22 hl ?_
  (try simp only [Act.put, List.setIfInBounds_toArray, List.set_cons_zero, List.set_cons_succ, World.size_alloc, setRow_size, Nat.add_assoc, Nat.reduceAdd])
  refine quiet_call 22 rfl rfl Try.func22 (by kernel_rfl) (by kernel_rfl) (fun W hQ => raised_c 1 xs (by decide) hl hb W) ?_
  (try simp only [Act.put, List.setIfInBounds_toArray, List.set_cons_zero, List.set_cons_succ, World.size_alloc, setRow_size, Nat.add_assoc, Nat.reduceAdd])
  refine quiet_load rfl rfl rfl B1' Try.ar22 hl ?_
  (try simp only [Act.put, List.setIfInBounds_toArray, List.set_cons_zero, List.set_cons_succ, World.size_alloc, setRow_size, Nat.add_assoc, Nat.reduceAdd])
  refine quiet_call 19 rfl rfl Try.func19 (by kernel_rfl) (by kernel_rfl) (fun W hQ => double_c xs hl hb W) ?_
  (try simp only [Act.put, List.setIfInBounds_toArray, List.set_cons_zero, List.set_cons_succ, World.size_alloc, setRow_size, Nat.add_assoc, Nat.reduceAdd])
  refine quiet_neq rfl rfl rfl rfl Try.eg22 (diff16 _ _ (belem_len _) E2.out) ?_
  (try simp only [Act.put, List.setIfInBounds_toArray, List.set_cons_zero, List.set_cons_succ, World.size_alloc, setRow_size, Nat.add_assoc, Nat.reduceAdd])
  refine quiet_pickf (by rfl) (by rfl) (by rfl) (by rfl) (by rfl) ?_
  (try simp only [Act.put, List.setIfInBounds_toArray, List.set_cons_zero, List.set_cons_succ, World.size_alloc, setRow_size, Nat.add_assoc, Nat.reduceAdd])
  refine quiet_move rfl rfl rfl ?_
  (try simp only [Act.put, List.setIfInBounds_toArray, List.set_cons_zero, List.set_cons_succ, World.size_alloc, setRow_size, Nat.add_assoc, Nat.reduceAdd])
  refine quiet_load rfl rfl rfl B1' Try.ar22 hl ?_
  (try simp only [Act.put, List.setIfInBounds_toArray, List.set_cons_zero, List.set_cons_succ, World.size_alloc, setRow_size, Nat.add_assoc, Nat.reduceAdd])
  refine quiet_call 22 rfl rfl Try.func22 (by kernel_rfl) (by kernel_rfl) (fun W hQ => raised_c 0 xs (by decide) hl hb W) ?_
  (try simp only [Act.put, List.setIfInBounds_toArray, List.set_cons_zero, List.set_cons_succ, World.size_alloc, setRow_size, Nat.add_assoc, Nat.reduceAdd])
  refine quiet_load rfl rfl rfl B1' Try.ar22 hl ?_
  (try simp only [Act.put, List.setIfInBounds_toArray, List.set_cons_zero, List.set_cons_succ, World.size_alloc, setRow_size, Nat.add_assoc, Nat.reduceAdd])
  refine quiet_neq rfl rfl rfl rfl Try.eg22 (diff16 _ _ (belem_len _) E3.out) ?_
  (try simp only [Act.put, List.setIfInBounds_toArray, List.set_cons_zero, List.set_cons_succ, World.size_alloc, setRow_size, Nat.add_assoc, Nat.reduceAdd])
  refine quiet_pickf (by rfl) (by rfl) (by rfl) (by rfl) (by rfl) ?_
  (try simp only [Act.put, List.setIfInBounds_toArray, List.set_cons_zero, List.set_cons_succ, World.size_alloc, setRow_size, Nat.add_assoc, Nat.reduceAdd])
  refine wpQuiet_nil ?_
  intro w' hw'
  go_wp2
  have C1 := B1'.below' hw'
  have C2 := B2.below' hw'
  have hbel1 := bCall hbel hw' hbel.size
  clear B1' B2 hw' hbel
  generalize w' = w1 at *
  cases b
  all_goals
    refine wp_region_below (by kernel_rfl) (by kernel_rfl) ?_
    refine quiet_move rfl rfl rfl ?_
    (try simp only [Act.put, List.setIfInBounds_toArray, List.set_cons_zero, List.set_cons_succ, World.size_alloc, setRow_size, Nat.add_assoc, Nat.reduceAdd])
    refine quiet_run (v := .int .i64 (IntKind.i64.wrap (n : Int))) rfl (fun W => by kernel_rfl) ?_; rw [WN.out]
    (try simp only [Act.put, List.setIfInBounds_toArray, List.set_cons_zero, List.set_cons_succ, World.size_alloc, setRow_size, Nat.add_assoc, Nat.reduceAdd])
    refine quiet_load rfl rfl rfl C1 Try.ar22 hl ?_
    (try simp only [Act.put, List.setIfInBounds_toArray, List.set_cons_zero, List.set_cons_succ, World.size_alloc, setRow_size, Nat.add_assoc, Nat.reduceAdd])
    refine quiet_call 22 rfl rfl Try.func22 (by kernel_rfl) (by kernel_rfl) (fun W hQ => raised_c n xs hn63 hl hb W) ?_
    (try simp only [Act.put, List.setIfInBounds_toArray, List.set_cons_zero, List.set_cons_succ, World.size_alloc, setRow_size, Nat.add_assoc, Nat.reduceAdd])
    refine quiet_move rfl rfl rfl ?_
    (try simp only [Act.put, List.setIfInBounds_toArray, List.set_cons_zero, List.set_cons_succ, World.size_alloc, setRow_size, Nat.add_assoc, Nat.reduceAdd])
    refine quiet_run (v := .int .i64 (IntKind.i64.wrap (n : Int))) rfl (fun W => by kernel_rfl) ?_; rw [WN.out]
    (try simp only [Act.put, List.setIfInBounds_toArray, List.set_cons_zero, List.set_cons_succ, World.size_alloc, setRow_size, Nat.add_assoc, Nat.reduceAdd])
    refine quiet_load rfl rfl rfl C2 Try.ar22 hkl ?_
    (try simp only [Act.put, List.setIfInBounds_toArray, List.set_cons_zero, List.set_cons_succ, World.size_alloc, setRow_size, Nat.add_assoc, Nat.reduceAdd])
    refine quiet_call 22 rfl rfl Try.func22 (by kernel_rfl) (by kernel_rfl) (fun W hQ => raised_c n ks hn63 hkl hkb W) ?_
    (try simp only [Act.put, List.setIfInBounds_toArray, List.set_cons_zero, List.set_cons_succ, World.size_alloc, setRow_size, Nat.add_assoc, Nat.reduceAdd])
    refine quiet_eql rfl rfl rfl rfl Try.eg22 HE1.out ?_
    (try simp only [Act.put, List.setIfInBounds_toArray, List.set_cons_zero, List.set_cons_succ, World.size_alloc, setRow_size, Nat.add_assoc, Nat.reduceAdd])
    refine quiet_load rfl rfl rfl C1 Try.ar22 hl ?_
    (try simp only [Act.put, List.setIfInBounds_toArray, List.set_cons_zero, List.set_cons_succ, World.size_alloc, setRow_size, Nat.add_assoc, Nat.reduceAdd])
    refine quiet_load rfl rfl rfl C2 Try.ar22 hkl ?_
    (try simp only [Act.put, List.setIfInBounds_toArray, List.set_cons_zero, List.set_cons_succ, World.size_alloc, setRow_size, Nat.add_assoc, Nat.reduceAdd])
    refine quiet_eql rfl rfl rfl rfl Try.eg22 HE0.out ?_
    (try simp only [Act.put, List.setIfInBounds_toArray, List.set_cons_zero, List.set_cons_succ, World.size_alloc, setRow_size, Nat.add_assoc, Nat.reduceAdd])
    refine quiet_eqlBool rfl rfl rfl rfl Try.underlying4 ?_
    (try simp only [Act.put, List.setIfInBounds_toArray, List.set_cons_zero, List.set_cons_succ, World.size_alloc, setRow_size, Nat.add_assoc, Nat.reduceAdd])
    refine quiet_move rfl rfl rfl ?_
    (try simp only [Act.put, List.setIfInBounds_toArray, List.set_cons_zero, List.set_cons_succ, World.size_alloc, setRow_size, Nat.add_assoc, Nat.reduceAdd])
    refine quiet_move rfl rfl rfl ?_
    (try simp only [Act.put, List.setIfInBounds_toArray, List.set_cons_zero, List.set_cons_succ, World.size_alloc, setRow_size, Nat.add_assoc, Nat.reduceAdd])
    refine quiet_run (v := .int .i64 (IntKind.i64.wrap (n : Int))) rfl (fun W => by kernel_rfl) ?_; rw [WN.out]
    (try simp only [Act.put, List.setIfInBounds_toArray, List.set_cons_zero, List.set_cons_succ, World.size_alloc, setRow_size, Nat.add_assoc, Nat.reduceAdd])
    refine quiet_load rfl rfl rfl C1 Try.ar22 hl ?_
    (try simp only [Act.put, List.setIfInBounds_toArray, List.set_cons_zero, List.set_cons_succ, World.size_alloc, setRow_size, Nat.add_assoc, Nat.reduceAdd])
    refine quiet_load rfl rfl rfl C2 Try.ar22 hkl ?_
    (try simp only [Act.put, List.setIfInBounds_toArray, List.set_cons_zero, List.set_cons_succ, World.size_alloc, setRow_size, Nat.add_assoc, Nat.reduceAdd])
    refine quiet_call 17 rfl rfl Try.func17 (by kernel_rfl) (by kernel_rfl) (fun W hQ => plus16_c xs ks hl hb hkl hkb W) ?_
    (try simp only [Act.put, List.setIfInBounds_toArray, List.set_cons_zero, List.set_cons_succ, World.size_alloc, setRow_size, Nat.add_assoc, Nat.reduceAdd])
    refine quiet_call 22 rfl rfl Try.func22 (by kernel_rfl) (by kernel_rfl) (fun W hQ => raised_c n (xorL xs ks) hn63 (xorL_len _ _) (xorL_lt hb hkb) W) ?_
    (try simp only [Act.put, List.setIfInBounds_toArray, List.set_cons_zero, List.set_cons_succ, World.size_alloc, setRow_size, Nat.add_assoc, Nat.reduceAdd])
    refine quiet_move rfl rfl rfl ?_
    (try simp only [Act.put, List.setIfInBounds_toArray, List.set_cons_zero, List.set_cons_succ, World.size_alloc, setRow_size, Nat.add_assoc, Nat.reduceAdd])
    refine quiet_run (v := .int .i64 (IntKind.i64.wrap (n : Int))) rfl (fun W => by kernel_rfl) ?_; rw [WN.out]
    (try simp only [Act.put, List.setIfInBounds_toArray, List.set_cons_zero, List.set_cons_succ, World.size_alloc, setRow_size, Nat.add_assoc, Nat.reduceAdd])
    refine quiet_load rfl rfl rfl C1 Try.ar22 hl ?_
    (try simp only [Act.put, List.setIfInBounds_toArray, List.set_cons_zero, List.set_cons_succ, World.size_alloc, setRow_size, Nat.add_assoc, Nat.reduceAdd])
    refine quiet_call 22 rfl rfl Try.func22 (by kernel_rfl) (by kernel_rfl) (fun W hQ => raised_c n xs hn63 hl hb W) ?_
    (try simp only [Act.put, List.setIfInBounds_toArray, List.set_cons_zero, List.set_cons_succ, World.size_alloc, setRow_size, Nat.add_assoc, Nat.reduceAdd])
    refine quiet_move rfl rfl rfl ?_
    (try simp only [Act.put, List.setIfInBounds_toArray, List.set_cons_zero, List.set_cons_succ, World.size_alloc, setRow_size, Nat.add_assoc, Nat.reduceAdd])
    refine quiet_run (v := .int .i64 (IntKind.i64.wrap (n : Int))) rfl (fun W => by kernel_rfl) ?_; rw [WN.out]
    (try simp only [Act.put, List.setIfInBounds_toArray, List.set_cons_zero, List.set_cons_succ, World.size_alloc, setRow_size, Nat.add_assoc, Nat.reduceAdd])
    refine quiet_load rfl rfl rfl C2 Try.ar22 hkl ?_
    (try simp only [Act.put, List.setIfInBounds_toArray, List.set_cons_zero, List.set_cons_succ, World.size_alloc, setRow_size, Nat.add_assoc, Nat.reduceAdd])
    refine quiet_call 22 rfl rfl Try.func22 (by kernel_rfl) (by kernel_rfl) (fun W hQ => raised_c n ks hn63 hkl hkb W) ?_
    (try simp only [Act.put, List.setIfInBounds_toArray, List.set_cons_zero, List.set_cons_succ, World.size_alloc, setRow_size, Nat.add_assoc, Nat.reduceAdd])
    refine quiet_call 17 rfl rfl Try.func17 (by kernel_rfl) (by kernel_rfl) (fun W hQ => plus16_c _ _ (belem_len _) (belem_lt _) (belem_len _) (belem_lt _) W) ?_
    (try simp only [Act.put, List.setIfInBounds_toArray, List.set_cons_zero, List.set_cons_succ, World.size_alloc, setRow_size, Nat.add_assoc, Nat.reduceAdd])
    refine quiet_eql rfl rfl rfl rfl Try.eg22 (same16 _ _ (belem_len _) E5.out) ?_
    (try simp only [Act.put, List.setIfInBounds_toArray, List.set_cons_zero, List.set_cons_succ, World.size_alloc, setRow_size, Nat.add_assoc, Nat.reduceAdd])
    refine quiet_pickt (by rfl) (by rfl) (by rfl) (by rfl) (by rfl) ?_
    (try simp only [Act.put, List.setIfInBounds_toArray, List.set_cons_zero, List.set_cons_succ, World.size_alloc, setRow_size, Nat.add_assoc, Nat.reduceAdd])
    refine quiet_move rfl rfl rfl ?_
    (try simp only [Act.put, List.setIfInBounds_toArray, List.set_cons_zero, List.set_cons_succ, World.size_alloc, setRow_size, Nat.add_assoc, Nat.reduceAdd])
    refine quiet_call 16 rfl rfl Try.func16 (by kernel_rfl) (by kernel_rfl) (fun W hQ => awake10_c W) ?_
    (try simp only [Act.put, List.setIfInBounds_toArray, List.set_cons_zero, List.set_cons_succ, World.size_alloc, setRow_size, Nat.add_assoc, Nat.reduceAdd])
    refine quiet_pickt (by rfl) (by rfl) (by rfl) (by rfl) (by rfl) ?_
    (try simp only [Act.put, List.setIfInBounds_toArray, List.set_cons_zero, List.set_cons_succ, World.size_alloc, setRow_size, Nat.add_assoc, Nat.reduceAdd])
    refine quiet_assign rfl rfl rfl ?_
    (try simp only [Act.put, List.setIfInBounds_toArray, List.set_cons_zero, List.set_cons_succ, World.size_alloc, setRow_size, Nat.add_assoc, Nat.reduceAdd])
    refine wpQuiet_nil ?_
    intro w' hw'
    go_wp2
    go_ret
    exact ⟨rfl, bCall hbel1 hw' hbel1.size⟩
end Go.Proofs.Ytehhipanbjhffaa
