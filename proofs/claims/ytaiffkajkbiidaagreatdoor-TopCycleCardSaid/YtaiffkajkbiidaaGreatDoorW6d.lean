/- BLAKE2b's function of a block: Compress. No condition but that words are below 2^64 and bytes below 256. -/
import Derived.Test.YtaiffkajkbiidaaGreatDoorW6c
import Derived.Test.YtaiffkajkbiidaaGreatDoorKitB
namespace Go.Proofs.YtaiffkajkbiidaaGreatDoor
set_option linter.unusedSimpArgs false
set_option linter.unusedVariables false
set_option linter.unusedSectionVars false
set_option linter.unusedVariables false
open Go.RowKit
def firstL : List Nat := [7640891576956012808, 13503953896175478587, 4354685564936845355, 11912009170470909681, 5840696475078001361, 11170449401992604703, 2270897969802886507, 6620516959819538809]
def rowsL : List Nat := [0, 1, 2, 3, 4, 5, 6, 7, 8, 9, 10, 11, 12, 13, 14, 15,
  14, 10, 4, 8, 9, 15, 13, 6, 1, 12, 0, 2, 11, 7, 5, 3,
  11, 8, 12, 0, 5, 2, 15, 13, 10, 14, 3, 6, 7, 1, 9, 4,
  7, 9, 3, 1, 13, 12, 11, 14, 2, 6, 5, 10, 4, 0, 15, 8,
  9, 0, 5, 7, 2, 4, 10, 15, 14, 1, 11, 12, 6, 8, 3, 13,
  2, 12, 6, 10, 0, 11, 8, 3, 4, 13, 7, 5, 15, 14, 1, 9,
  12, 5, 1, 15, 14, 13, 4, 10, 0, 7, 6, 3, 9, 2, 8, 11,
  13, 11, 7, 14, 12, 1, 3, 9, 5, 0, 15, 4, 8, 6, 2, 10,
  6, 15, 14, 9, 11, 3, 0, 8, 12, 2, 13, 7, 1, 4, 10, 5,
  10, 2, 8, 4, 7, 6, 1, 5, 15, 11, 9, 14, 3, 12, 13, 0]
def rowN (r : Nat) : List Nat := (rowsL.drop (16 * r)).take 16
theorem rowN_len : ∀ r, r < 10 → (rowN r).length = 16 := by decide
theorem rowN_lt : ∀ r, r < 10 → ∀ x ∈ rowN r, x < 16 := by decide
theorem firstL_lt : ∀ x ∈ firstL, x < 18446744073709551616 := by decide
/-- What the package's own variables hold. -/
def GlB (w : World) : Prop := Sl w (some ⟨2, 0, none⟩) .u64 firstL ∧ Sl w (some ⟨3, 0, none⟩) .u8 rowsL
theorem GlB.below {w w' : World} (h : GlB w) (hb : Below w.heap.size w w') : GlB w' := ⟨h.1.below hb, h.2.below hb⟩
theorem GlB.row {w : World} (h : GlB w) (r : Nat) : Sl w (some ⟨3, r * 16, none⟩) .u8 (rowN r) := by
  have h1 := (h.2.drop (16 * r)).take 16
  rw [Nat.zero_add] at h1
  rw [Nat.mul_comm r 16]
  exact h1
theorem GlB.first {w : World} (h : GlB w) {k : Nat} (hk : k < 8) : w.cell? ⟨2, k, none⟩ = some (.int .u64 ((firstL.getD k 0 : Nat) : Int)) := by
  have h1 := h.1.eq (i := k) (by exact hk)
  rw [Nat.zero_add] at h1
  exact h1
theorem Tryz.ar6147 : IsArr Tryz.prog 147 8 := isArr Tryz.underlying147 (by kernel_rfl)
theorem Tryz.z6147 : IsZero Tryz.prog 147 8 .u64 := isZero (by kernel_rfl)
theorem Tryz.ar6163 : IsArr Tryz.prog 163 16 := isArr Tryz.underlying163 (by kernel_rfl)
theorem Tryz.z6163 : IsZero Tryz.prog 163 16 .u64 := isZero (by kernel_rfl)
/-- The block's words; the sixteen to begin with; the rounds; what comes out. -/
def mL (b : List Nat) : List Nat := (List.range 16).map fun i => numAt b (8 * i) 8
theorem mL_len (b : List Nat) : (mL b).length = 16 := by simp [mL]
theorem mL_lt {b : List Nat} (hb : ∀ x ∈ b, x < 256) : ∀ x ∈ mL b, x < 18446744073709551616 := fun x hx => by
  obtain ⟨i, -, rfl⟩ := List.mem_map.1 hx
  exact numAt_lt hb (8 * i) 8
theorem mL_getD (b : List Nat) {i : Nat} (hi : i < 16) : (mL b).getD i 0 = numAt b (8 * i) 8 := by
  unfold mL
  rw [List.getD_eq_getElem?_getD, List.getElem?_map, List.getElem?_range hi]; rfl
def vK (h : List Nat) : Nat → List Nat
  | 0 => zeros 16
  | k + 1 => ((vK h k).set k (h.getD k 0)).set (k + 8) (firstL.getD k 0)
theorem vK_len (h : List Nat) : ∀ k, (vK h k).length = 16
  | 0 => zeros_len _
  | k + 1 => by unfold vK; rw [List.length_set, List.length_set, vK_len h k]
theorem vK_lt {h : List Nat} (hh : ∀ x ∈ h, x < 18446744073709551616) : ∀ k, ∀ x ∈ vK h k, x < 18446744073709551616
  | 0 => zeros_lt 16 (by decide)
  | k + 1 => by unfold vK; exact u64_set (u64_set (vK_lt hh k) (u64_getD hh k)) (u64_getD firstL_lt k)
def vT (v : List Nat) (c0 c1 : Nat) : List Nat := ((v.set 12 (v.getD 12 0 ^^^ c0)).set 13 (v.getD 13 0 ^^^ c1)).set 14 (18446744073709551615 ^^^ v.getD 14 0)
def stK (m v row : List Nat) : Nat → List Nat
  | 0 => v
  | i + 1 => stN (stK m v row i) (i % 4) (i / 4) (m.getD (row.getD (2 * i) 0) 0) (m.getD (row.getD (2 * i + 1) 0) 0)
def rdB (m v : List Nat) : Nat → List Nat
  | 0 => v
  | r + 1 => stK m (rdB m v r) (rowN (r % 10)) 8
def foK (h v : List Nat) : Nat → List Nat
  | 0 => h
  | k + 1 => (foK h v k).set k ((foK h v k).getD k 0 ^^^ (v.getD k 0 ^^^ v.getD (k + 8) 0))
theorem foK_len (h v : List Nat) : ∀ k, (foK h v k).length = h.length
  | 0 => rfl
  | k + 1 => by unfold foK; rw [List.length_set, foK_len h v k]
theorem foK_lt {h v : List Nat} (hh : ∀ x ∈ h, x < 18446744073709551616) (hv : ∀ x ∈ v, x < 18446744073709551616) : ∀ k, ∀ x ∈ foK h v k, x < 18446744073709551616
  | 0 => hh
  | k + 1 => by
    unfold foK
    exact u64_set (foK_lt hh hv k) (Nat.xor_lt_two_pow (n := 64) (u64_getD (foK_lt hh hv k) k) (Nat.xor_lt_two_pow (n := 64) (u64_getD hv k) (u64_getD hv (k + 8))))
/-- Of a last block. -/
def compN (h b : List Nat) (c0 c1 : Nat) : List Nat := foK h (rdB (mL b) (vT (vK h 8) c0 c1) 12) 8
theorem compN_len (h b : List Nat) (c0 c1 : Nat) : (compN h b c0 c1).length = h.length := foK_len _ _ _
/-- What lies in memory while it is at work. -/
structure CB (w w' : World) (H b : List Nat) (c0 c1 : Nat) (M V : List Nat) : Prop where
  h : Blk w' w.heap.size 147 (ints .u64 H)
  b : Blk w' (w.heap.size + 1) 155 (ints .u8 b)
  c : Blk w' (w.heap.size + 2) 149 (ints .u64 [c0, c1])
  z : Blk w' (w.heap.size + 3) 147 (ints .u64 (zeros 8))
  m : Blk w' (w.heap.size + 4) 163 (ints .u64 M)
  v : V16 w' (w.heap.size + 5) V
  bel : Below w.heap.size w w'
theorem CB.below {w w' w'' : World} {H b : List Nat} {c0 c1 : Nat} {M V : List Nat} (h : CB w w' H b c0 c1 M V) (hb : Below w'.heap.size w' w'') : CB w w'' H b c0 c1 M V :=
  ⟨h.h.below' hb, h.b.below' hb, h.c.below' hb, h.z.below' hb, h.m.below' hb, h.v.below hb, bCall h.bel hb h.bel.size⟩
theorem CB.drew {w w' : World} {H b : List Nat} {c0 c1 : Nat} {M V : List Nat} (h : CB w w' H b c0 c1 M V) : CB w w'.drew H b c0 c1 M V :=
  ⟨h.h.drew, h.b.drew, h.c.drew, h.z.drew, h.m.drew, h.v.drew, h.bel.drew⟩
theorem CB.setM {w w' : World} {H b : List Nat} {c0 c1 : Nat} {M V : List Nat} (h : CB w w' H b c0 c1 M V) (i n : Nat) : CB w (w'.setCell ⟨w.heap.size + 4, i, none⟩ (.int .u64 (n : Int))) H b c0 c1 (M.set i n) V :=
  ⟨h.h.far (show w.heap.size ≠ w.heap.size + 4 by omega) _, h.b.far (show w.heap.size + 1 ≠ w.heap.size + 4 by omega) _, h.c.far (show w.heap.size + 2 ≠ w.heap.size + 4 by omega) _, h.z.far (show w.heap.size + 3 ≠ w.heap.size + 4 by omega) _, h.m.intSet i n, h.v.ch (Ch.of_far (Far.set _ _ _ _)) (by omega), h.bel.setCell (p := ⟨w.heap.size + 4, i, none⟩) (by show w.heap.size ≤ w.heap.size + 4; omega) _⟩
theorem CB.setV {w w' : World} {H b : List Nat} {c0 c1 : Nat} {M V : List Nat} (h : CB w w' H b c0 c1 M V) (i : Nat) {n : Nat} (hn : n < 18446744073709551616) : CB w (w'.setCell ⟨w.heap.size + 5, i, none⟩ (.int .u64 (n : Int))) H b c0 c1 M (V.set i n) :=
  ⟨h.h.far (show w.heap.size ≠ w.heap.size + 5 by omega) _, h.b.far (show w.heap.size + 1 ≠ w.heap.size + 5 by omega) _, h.c.far (show w.heap.size + 2 ≠ w.heap.size + 5 by omega) _, h.z.far (show w.heap.size + 3 ≠ w.heap.size + 5 by omega) _, h.m.far (show w.heap.size + 4 ≠ w.heap.size + 5 by omega) _, h.v.set i hn, h.bel.setCell (p := ⟨w.heap.size + 5, i, none⟩) (by show w.heap.size ≤ w.heap.size + 5; omega) _⟩
theorem CB.setH {w w' : World} {H b : List Nat} {c0 c1 : Nat} {M V : List Nat} (h : CB w w' H b c0 c1 M V) (i n : Nat) : CB w (w'.setCell ⟨w.heap.size, i, none⟩ (.int .u64 (n : Int))) (H.set i n) b c0 c1 M V :=
  ⟨h.h.intSet i n, h.b.far (show w.heap.size + 1 ≠ w.heap.size by omega) _, h.c.far (show w.heap.size + 2 ≠ w.heap.size by omega) _, h.z.far (show w.heap.size + 3 ≠ w.heap.size by omega) _, h.m.far (show w.heap.size + 4 ≠ w.heap.size by omega) _, h.v.ch (Ch.of_far (Far.set _ _ _ _)) (by omega), h.bel.setCell (p := ⟨w.heap.size, i, none⟩) (Nat.le_refl _) _⟩
theorem CB.ch {w w' w'' : World} {H b : List Nat} {c0 c1 : Nat} {M V V' : List Nat} (h : CB w w' H b c0 c1 M V) (hc : Ch (w.heap.size + 5) w' w'') (hv : V16 w'' (w.heap.size + 5) V') : CB w w'' H b c0 c1 M V' :=
  ⟨hc.blk h.h (by omega), hc.blk h.b (by omega), hc.blk h.c (by omega), hc.blk h.z (by omega), hc.blk h.m (by omega), hv, hc.below h.bel (by omega) h.bel.size⟩
theorem compA (w : World) (hs b : List Nat) (c0 c1 : Nat) (hb : ∀ x ∈ b, x < 256) (hs8 : hs.length = 8) : CB w ((((((w.alloc (.cells (ints .u64 hs) 147)).alloc (.cells (ints .u8 b) 155)).alloc (.cells (ints .u64 [c0, c1]) 149)).alloc (.cells (ints .u64 (zeros 8)) 147)).alloc (.cells (ints .u64 (zeros 16)) 163)).alloc (.cells (ints .u64 (zeros 16)) 163)) hs b c0 c1 (zeros 16) (zeros 16) := by
  refine ⟨?_, ?_, ?_, ?_, ?_, ⟨zeros_len _, zeros_lt 16 (by decide), ?_⟩, ?_⟩
  · exact (((((Blk.new _ _ _).alloc _).alloc _).alloc _).alloc _).alloc _
  · exact ((((Blk.new' (by simp)).alloc _).alloc _).alloc _).alloc _
  · exact (((Blk.new' (by simp)).alloc _).alloc _).alloc _
  · exact ((Blk.new' (by simp)).alloc _).alloc _
  · exact (Blk.new' (by simp)).alloc _
  · exact Blk.new' (by simp)
  · exact (((((((Below.refl _ _).alloc (Nat.le_refl _) _).alloc (by simp) _).alloc (by simp; omega) _).alloc (by simp; omega) _).alloc (by simp; omega) _).alloc (by simp; omega) _)
set_option maxRecDepth 100000 in
set_option maxHeartbeats 40000000 in
theorem compress_c (hs b : List Nat) (c0 c1 : Nat) (hl : hs.length = 8) (hh : ∀ x ∈ hs, x < 18446744073709551616) (hb : b.length = 128) (hbb : ∀ x ∈ b, x < 256) (h0 : c0 < 18446744073709551616) (h1 : c1 < 18446744073709551616) (w : World) (hG : GlB w) :
    Calls Tryz.prog 71 #[.agg (ints .u64 hs), .agg (ints .u8 b), .agg (ints .u64 [c0, c1]), .bool true] w fun e w' => e = .returned (.agg (ints .u64 (compN hs b c0 c1))) ∧ Below w.heap.size w w' := by
  have C0 := compA w hs b c0 c1 hbb hl
  have HW : Hid (∀ W, Below w.heap.size w W → GlB W) := Lib.hid fun W h => hG.below h
  obtain ⟨Z, HZ⟩ : ∃ Z, Hid (compN hs b c0 c1 = Z) := ⟨_, Lib.hid rfl⟩
  rw [HZ.out]
  go_enter Tryz.func71, Tryz.ntmps71
  go_wp2_with (first | (refine wpList_alloc_ints rfl 147 rfl Tryz.z6147 ?_; (try simp only [Act.put, List.setIfInBounds_toArray, List.set_cons_zero, List.set_cons_succ, World.size_alloc, setRow_size, Nat.add_assoc, Nat.reduceAdd])) | (refine wpList_alloc_ints rfl 163 rfl Tryz.z6163 ?_; (try simp only [Act.put, List.setIfInBounds_toArray, List.set_cons_zero, List.set_cons_succ, World.size_alloc, setRow_size, Nat.add_assoc, Nat.reduceAdd])))
  generalize ((((((w.alloc (.cells (ints .u64 hs) 147)).alloc (.cells (ints .u8 b) 155)).alloc (.cells (ints .u64 [c0, c1]) 149)).alloc (.cells (ints .u64 (zeros 8)) 147)).alloc (.cells (ints .u64 (zeros 16)) 163)).alloc (.cells (ints .u64 (zeros 16)) 163)) = w0 at *
  go_loopw [17] (fun t wr => ∃ i : Nat, i ≤ 16 ∧ t = .int .i64 (i : Int) ∧ CB w wr hs b c0 c1 ((mL b).take i ++ zeros (16 - i)) (zeros 16)) (fun t wr => 16 - (intOf t).toNat)
  case atStart => exact ⟨0, by omega, rfl, C0⟩
  case round =>
    clear C0
    obtain ⟨i, hi, rfl, C⟩ := hrel
    by_cases hlt : i < 16
    · have hd : decide ((i : Int) < 16) = true := by simp; omega
      have hii : (i : Int) < 16 := by omega
      obtain ⟨p, Hp⟩ : ∃ p, Hid (8 * i = p) := ⟨_, Lib.hid rfl⟩
      have hp : 8 * (i : Int) = (p : Int) := by rw [← Hp.out]; omega
      have hp16 : (p : Int) < 128 := by rw [← Hp.out]; omega
      have hlg := long_c (some ⟨w.heap.size + 1, 0, none⟩) 128 b hbb (by rw [hb]; decide) p (by omega) wr (Sl.blk C.b)
      rw [hb] at hlg
      have hv := mL_getD b hlt
      rw [Hp.out] at hv
      have HM := Lib.hid (take_set (n := 16) (mL_len b) hlt hv)
      have hle : ((mL b).take i ++ zeros (16 - i)).length = 16 := by rw [List.length_append, List.length_take, mL_len, zeros_len]; omega
      generalize (mL b).take i ++ zeros (16 - i) = M at *
      clear hv
      generalize numAt b p 8 = n at *
      go_wp2_with fail
      refine hlg.mono ?_
      clear hlg
      rintro e w1 ⟨rfl, hb1⟩
      have D := C.below hb1
      clear C hb1
      have c1 := D.m.int (i := i) (by omega)
      have z1 := D.m.frozen i
      have E := D.setM i n
      rw [HM.out] at E
      clear HM D hle
      generalize M.getD i 0 = mv at *
      go_wp2_with fail
      exact ⟨⟨i + 1, by omega, by go_num, E⟩, by simp [intOf] <;> omega⟩
    · have e16 : i = 16 := by omega
      have hd : decide ((i : Int) < 16) = false := by simp; omega
      have hz : (mL b).take i ++ zeros (16 - i) = mL b := by rw [List.take_of_length_le (by rw [mL_len]; omega), e16]; simp [zeros]
      rw [hz] at C
      clear hz e16
      have hml := mL_lt hbb
      have hmn := mL_len b
      obtain ⟨M, HM⟩ : ∃ M, Hid (mL b = M) := ⟨_, Lib.hid rfl⟩
      rw [HM.out] at C hml hmn
      go_wp2_with fail
      go_loopw [27] (fun t wr => ∃ k : Nat, k ≤ 8 ∧ t = .int .i64 (k : Int) ∧ CB w wr hs b c0 c1 M (vK hs k)) (fun t wr => 8 - (intOf t).toNat)
      case atStart => exact ⟨0, by omega, rfl, C⟩
      case round =>
        clear C
        obtain ⟨k, hk, rfl, C⟩ := hrel
        by_cases hlk : k < 8
        · have hd2 : decide ((k : Int) < 8) = true := by simp; omega
          have hki : (k : Int) < 8 := by omega
          have d0 := C.h.int (i := k) (by omega)
          have d1 := (HW.out _ C.bel).first hlk
          have D := C.drew
          have HE : Hid (((vK hs k).set k (hs.getD k 0)).set (k + 8) (firstL.getD k 0) = vK hs (k + 1)) := Lib.hid rfl
          have hx0 := u64_getD hh k
          have hx1 := u64_getD firstL_lt k
          generalize hs.getD k 0 = x0 at *
          generalize firstL.getD k 0 = x1 at *
          generalize vK hs k = V at *
          obtain ⟨-, k0⟩ := C.v.at_ (i := k) (by omega)
          obtain ⟨-, k1⟩ := C.v.at_ (i := k + 8) (by omega)
          have z0 := C.v.frozen k
          have z1 := C.v.frozen (k + 8)
          have hne : (⟨w.heap.size + 5, k, none⟩ : Addr) ≠ ⟨w.heap.size + 5, k + 8, none⟩ := by simp
          have E := (D.setV k hx0).setV (k + 8) hx1
          rw [HE.out] at E
          generalize V.getD k 0 = y0 at *
          generalize V.getD (k + 8) 0 = y1 at *
          clear D HE
          go_wp2_with fail
          go_region
          go_wp2_with fail
          exact ⟨⟨k + 1, by omega, by go_num, E⟩, by simp [intOf] <;> omega⟩
        · have e8 : k = 8 := by omega
          have hd2 : decide ((k : Int) < 8) = false := by simp; omega
          rw [e8] at C
          clear e8
          have hvl := vK_lt hh 8
          have HZ2 : Hid (foK hs (rdB M (vT (vK hs 8) c0 c1) 12) 8 = Z) := Lib.hid (by rw [← HM.out, ← HZ.out]; rfl)
          clear HM HZ
          generalize vK hs 8 = v0 at *
          have HV : Hid (((v0.set 12 (v0.getD 12 0 ^^^ c0)).set 13 (v0.getD 13 0 ^^^ c1)).set 14 (18446744073709551615 ^^^ v0.getD 14 0) = vT v0 c0 c1) := Lib.hid rfl
          obtain ⟨hx, k0⟩ := C.v.at_ (i := 12) (by omega)
          obtain ⟨hy, k1⟩ := C.v.at_ (i := 13) (by omega)
          obtain ⟨hz, k2⟩ := C.v.at_ (i := 14) (by omega)
          have z0 := C.v.frozen 12
          have z1 := C.v.frozen 13
          have z2 := C.v.frozen 14
          have kc := C.c.int (i := 0) (Nat.zero_lt_succ _)
          have kd := C.c.int (i := 1) (Nat.lt_succ_self _)
          simp only [List.getD_cons_zero, List.getD_cons_succ] at kc kd
          have hxo := u64_xor_nat (v0.getD 12 0) c0 hx h0
          have hyo := u64_xor_nat (v0.getD 13 0) c1 hy h1
          have hzo : bits BinOp.xor IntKind.u64 IntKind.u64.max ((v0.getD 14 0 : Nat) : Int) = ((18446744073709551615 ^^^ v0.getD 14 0 : Nat) : Int) := u64_xor_nat 18446744073709551615 (v0.getD 14 0) (by decide) hz
          have D := ((C.setV 12 (Nat.xor_lt_two_pow (n := 64) hx h0 : v0.getD 12 0 ^^^ c0 < 18446744073709551616)).setV 13 (Nat.xor_lt_two_pow (n := 64) hy h1 : v0.getD 13 0 ^^^ c1 < 18446744073709551616)).setV 14 (Nat.xor_lt_two_pow (n := 64) (by decide) hz : 18446744073709551615 ^^^ v0.getD 14 0 < 18446744073709551616)
          rw [HV.out] at D
          clear HV
          generalize v0.getD 12 0 ^^^ c0 = x at *
          generalize v0.getD 12 0 = xx at *
          generalize v0.getD 13 0 ^^^ c1 = y at *
          generalize v0.getD 13 0 = yy at *
          generalize 18446744073709551615 ^^^ v0.getD 14 0 = z at *
          generalize v0.getD 14 0 = zz at *
          go_wp2_with fail
          clear k0 k1 k2 z0 z1 z2 hxo hyo hzo kc kd hx hy hz C
          generalize (((wr.setCell ⟨w.heap.size + 5, 12, none⟩ (.int .u64 (x : Int))).setCell ⟨w.heap.size + 5, 13, none⟩ (.int .u64 (y : Int))).setCell ⟨w.heap.size + 5, 14, none⟩ (.int .u64 (z : Int))) = w1 at *
          generalize vT v0 c0 c1 = vs at *
          clear hvl
          go_loopw [59] (fun t wr => ∃ r : Nat, r ≤ 12 ∧ t = .int .i64 (r : Int) ∧ CB w wr hs b c0 c1 M (rdB M vs r)) (fun t wr => 12 - (intOf t).toNat)
          case atStart => exact ⟨0, by omega, rfl, D⟩
          case round =>
            clear D
            obtain ⟨r, hr, rfl, C⟩ := hrel
            by_cases hlr : r < 12
            · have hd3 : decide ((r : Int) < 12) = true := by simp; omega
              obtain ⟨q, Hq⟩ : ∃ q, Hid (r % 10 = q) := ⟨_, Lib.hid rfl⟩
              have hq : q < 10 := by rw [← Hq.out]; omega
              have hqi : (q : Int) < 10 := by omega
              have hrm : (r : Int).tmod 10 = (q : Int) := by rw [Int.tmod_eq_emod_of_nonneg (by omega), ← Hq.out]; omega
              have HR : Hid (stK M (rdB M vs r) (rowN q) 8 = rdB M vs (r + 1)) := Lib.hid (by rw [← Hq.out]; rfl)
              have hS := (HW.out _ C.bel).row q
              have hrl := rowN_len q hq
              have hrb := rowN_lt q hq
              clear Hq
              generalize rdB M vs r = V at *
              generalize rowN q = row at *
              have hrne : row ≠ [] := fun e => by rw [e] at hrl; simp at hrl
              have D := C.below (bSetRow ((Below.refl wr.heap.size wr).alloc (Nat.le_refl _) (.cells (ints .u8 (zeros 16)) 96)) (Nat.le_refl _) (ints .u8 row))
              have X0 := Blk.new wr 96 (ints .u8 (zeros 16))
              have X1 := X0.row (ints .u8 row)
              have hgl := C.v.lt
              clear C
              go_wp2_with (first
                | (refine wpList_valG rfl (run_loadSl rfl rfl hS Tryz.ar96 hrl hrne) ?_; (try simp only [Act.put, List.setIfInBounds_toArray, List.set_cons_zero, List.set_cons_succ, World.size_alloc, setRow_size, Nat.add_assoc, Nat.reduceAdd]))
                | (refine wpList_alloc_ints rfl 96 rfl Tryz.z96 ?_; (try simp only [Act.put, List.setIfInBounds_toArray, List.set_cons_zero, List.set_cons_succ, World.size_alloc, setRow_size, Nat.add_assoc, Nat.reduceAdd]))
                | (refine wpList_store_ints rfl 96 _ _ rfl wr.heap.size rfl rfl X0 (zeros_size _ _) Tryz.ar96 hrl ?_; (try simp only [Act.put, List.setIfInBounds_toArray, List.set_cons_zero, List.set_cons_succ, World.size_alloc, setRow_size, Nat.add_assoc, Nat.reduceAdd])))
              clear X0 hS
              generalize ((wr.alloc (.cells (ints .u8 (zeros 16)) 96)).setRow wr.heap.size (ints .u8 row)) = w2 at *
              generalize wr.heap.size = nb at *
              go_loopw [66] (fun t wr => ∃ i : Nat, i ≤ 8 ∧ t = .int .i64 (i : Int) ∧ CB w wr hs b c0 c1 M (stK M V row i) ∧ Blk wr nb 96 (ints .u8 row)) (fun t wr => 8 - (intOf t).toNat)
              case atStart => exact ⟨0, by omega, rfl, D, X1⟩
              case round =>
                clear D X1
                obtain ⟨j, hj, rfl, C, X⟩ := hrel
                by_cases hlj : j < 8
                · have hd4 : decide ((j : Int) < 8) = true := by simp; omega
                  obtain ⟨p, Hp⟩ : ∃ p, Hid (j % 4 = p) := ⟨_, Lib.hid rfl⟩
                  obtain ⟨o, Ho⟩ : ∃ o, Hid (j / 4 = o) := ⟨_, Lib.hid rfl⟩
                  obtain ⟨u, Hu⟩ : ∃ u, Hid (2 * j = u) := ⟨_, Lib.hid rfl⟩
                  have hp : p < 4 := by rw [← Hp.out]; omega
                  have ho : o < 2 := by rw [← Ho.out]; omega
                  have hu : u + 1 < 16 := by rw [← Hu.out]; omega
                  have hjm : (j : Int).tmod 4 = (p : Int) := by rw [Int.tmod_eq_emod_of_nonneg (by omega), ← Hp.out]; omega
                  have hjd : (j : Int).tdiv 4 = (o : Int) := by rw [Int.tdiv_eq_ediv_of_nonneg (by omega), ← Ho.out]; omega
                  have hju : 2 * (j : Int) = (u : Int) := by rw [← Hu.out]; omega
                  have HS : Hid (stK M V row (j + 1) = stN (stK M V row j) p o (M.getD (row.getD u 0) 0) (M.getD (row.getD (u + 1) 0) 0)) := Lib.hid (by rw [← Hp.out, ← Ho.out, ← Hu.out]; rfl)
                  have r0 := X.int (i := u) (by omega)
                  have r1 := X.int (i := u + 1) (by omega)
                  have b0 := getD_bound hrb (by decide) u
                  have b1 := getD_bound hrb (by decide) (u + 1)
                  generalize row.getD u 0 = xa at *
                  generalize row.getD (u + 1) 0 = xb at *
                  have m0 := C.m.int (i := xa) (by omega)
                  have m1 := C.m.int (i := xb) (by omega)
                  have l0 := u64_getD hml xa
                  have l1 := u64_getD hml xb
                  generalize M.getD xa 0 = ya at *
                  generalize M.getD xb 0 = yb at *
                  have f1 := stir_c (w.heap.size + 5) p o hp ho ya yb l0 l1 wr.drew _ C.v.drew
                  rw [← HS.out] at f1
                  have hxa : (xa : Int) < 16 := by omega
                  have hxb : (xb : Int) < 16 := by omega
                  have hui : (u : Int) < 16 := by omega
                  have hwo : IntKind.i64.wrap (o : Int) = (o : Int) := IntWalk.i64_in _ (by omega)
                  have hwu : IntKind.i64.wrap (u : Int) = (u : Int) := IntWalk.i64_in _ (by omega)
                  have hwv : IntKind.i64.wrap ((u : Int) + 1) = ((u + 1 : Nat) : Int) := (IntWalk.i64_in _ (by omega)).trans (by omega)
                  have huj : ((u + 1 : Nat) : Int) < 16 := by omega
                  clear HS Hp Ho Hu
                  generalize u + 1 = u1 at *
                  go_wp2_with fail
                  go_still_tail 17, (by kernel_rfl)
                  change wpList _ _ _ _ _ wr.drew
                  go_wp2_with fail
                  refine f1.mono ?_
                  clear f1 r0 r1 m0 m1
                  rintro e w3 ⟨rfl, hV, hc⟩
                  have D := C.drew.ch hc hV
                  have X2 := hc.blk X.drew (show nb ≠ w.heap.size + 5 by omega)
                  go_wp2_with fail
                  exact ⟨⟨j + 1, by omega, by go_num, D, X2⟩, by simp [intOf] <;> omega⟩
                · have ej : j = 8 := by omega
                  have hd4 : decide ((j : Int) < 8) = false := by simp; omega
                  rw [ej, HR.out] at C
                  clear ej
                  go_wp2_with fail
                  exact ⟨⟨r + 1, by omega, by go_num, C⟩, by simp [intOf] <;> omega⟩
            · have er : r = 12 := by omega
              have hd3 : decide ((r : Int) < 12) = false := by simp; omega
              rw [er] at C
              clear er
              generalize rdB M vs 12 = V at *
              go_wp2_with fail
              go_loopw [89] (fun t wr => ∃ j : Nat, j ≤ 8 ∧ t = .int .i64 (j : Int) ∧ CB w wr (foK hs V j) b c0 c1 M V) (fun t wr => 8 - (intOf t).toNat)
              case atStart => exact ⟨0, by omega, rfl, C⟩
              case round =>
                have hvl := C.v.lt64
                clear C
                obtain ⟨j, hj, rfl, C⟩ := hrel
                by_cases hlj : j < 8
                · have hd4 : decide ((j : Int) < 8) = true := by simp; omega
                  have hji : (j : Int) < 8 := by omega
                  have hjk : (j : Int) < 16 := by omega
                  have hfl := foK_len hs V j
                  rw [hl] at hfl
                  have d0 := C.h.int (i := j) (by omega)
                  have bh := u64_getD (foK_lt hh hvl j) j
                  obtain ⟨bv, k0⟩ := C.v.at_ (i := j) (by omega)
                  obtain ⟨bw, k1⟩ := C.v.at_ (i := j + 8) (by omega)
                  have HS : Hid ((foK hs V j).set j ((foK hs V j).getD j 0 ^^^ (V.getD j 0 ^^^ V.getD (j + 8) 0)) = foK hs V (j + 1)) := Lib.hid rfl
                  have x1 := u64_xor_nat (V.getD j 0) (V.getD (j + 8) 0) bv bw
                  have x2 := u64_xor_nat ((foK hs V j).getD j 0) (V.getD j 0 ^^^ V.getD (j + 8) 0) bh (Nat.xor_lt_two_pow (n := 64) bv bw)
                  have D := C.drew
                  generalize (foK hs V j).getD j 0 ^^^ (V.getD j 0 ^^^ V.getD (j + 8) 0) = n at *
                  generalize V.getD j 0 ^^^ V.getD (j + 8) 0 = n2 at *
                  generalize V.getD j 0 = n3 at *
                  generalize V.getD (j + 8) 0 = n4 at *
                  have HD : Hid (∃ n5, n5 = (foK hs V j).getD j 0) := Lib.hid ⟨_, rfl⟩
                  generalize (foK hs V j).getD j 0 = n6 at *
                  generalize foK hs V j = F at *
                  clear HD
                  have hjw : IntKind.i64.wrap ((j : Int) + 8) = ((j + 8 : Nat) : Int) := (IntWalk.i64_in _ (by omega)).trans (by omega)
                  have hjl : ((j + 8 : Nat) : Int) < 16 := by omega
                  generalize j + 8 = j8 at *
                  go_wp2_with fail
                  go_still_tail 12, (by kernel_rfl)
                  change wpList _ _ _ _ _ wr.drew
                  clear d0 k0 k1 C x1 x2
                  generalize wr.drew = w2 at *
                  have d0 := D.h.int (i := j) (by omega)
                  have z0 := D.h.frozen j
                  have E := D.setH j n
                  rw [HS.out] at E
                  generalize F.getD j 0 = n7 at *
                  clear D HS
                  go_wp2_with fail
                  exact ⟨⟨j + 1, by omega, by go_num, E⟩, by simp [intOf] <;> omega⟩
                · have ej : j = 8 := by omega
                  have hd4 : decide ((j : Int) < 8) = false := by simp; omega
                  rw [ej, HZ2.out] at C
                  have hZl : Z.length = 8 := by rw [← HZ2.out, foK_len, hl]
                  clear ej HZ2
                  go_wp2_with (first | (refine wpList_load_ints rfl 147 _ rfl _ rfl C.h Tryz.ar6147 hZl ?_; (try simp only [Act.put, List.setIfInBounds_toArray, List.set_cons_zero, List.set_cons_succ, World.size_alloc, setRow_size, Nat.add_assoc, Nat.reduceAdd])) | (refine wpList_store_ints rfl 147 _ _ rfl _ rfl rfl C.z (zeros_size _ _) Tryz.ar6147 hZl ?_; (try simp only [Act.put, List.setIfInBounds_toArray, List.set_cons_zero, List.set_cons_succ, World.size_alloc, setRow_size, Nat.add_assoc, Nat.reduceAdd])))
                  refine ret_ints rfl rfl (C.z.row _) Tryz.ar6147 hZl ⟨rfl, ?_⟩
                  exact bSetRow C.bel (by omega) _
end Go.Proofs.YtaiffkajkbiidaaGreatDoor
