/- A round of AES by tables: octet.PutWord, shifted, Round. No condition but that bytes are below 256. -/
import Derived.Test.YtaiffkajkbiidaaGreatDoorW3a
namespace Go.Proofs.YtaiffkajkbiidaaGreatDoor
set_option linter.unusedSimpArgs false
set_option linter.unusedVariables false
set_option linter.unusedSectionVars false
set_option linter.unusedVariables false
open Go.RowKit
theorem Tryz.z365 : IsZero Tryz.prog 65 4 .u8 := isZero (by kernel_rfl)
set_option maxHeartbeats 4000000 in
theorem putWord_c (n : Nat) (hn : n < 4294967296) (w : World) :
    Calls Tryz.prog 44 #[.int .u32 n] w fun e w' => e = .returned (.agg (ints .u8 (dig 256 4 n))) ∧ Below w.heap.size w w' := by
  go_enter Tryz.func44, Tryz.ntmps44
  go_wp2_with (first | (refine wpList_alloc_ints rfl 65 rfl Tryz.z365 ?_; (try simp only [Act.put, List.setIfInBounds_toArray, List.set_cons_zero, List.set_cons_succ, World.size_alloc, setRow_size, Nat.add_assoc, Nat.reduceAdd])))
  go_loopw [5] (fun t wr => ∃ k : Nat, k ≤ 4 ∧ t = .int .i64 k ∧ Blk wr w.heap.size 65 (ints .u8 (zeros 4)) ∧ Blk wr (w.heap.size + 1) 65 (ints .u8 ((dig 256 4 n).take k ++ zeros (4 - k))) ∧ Below w.heap.size w wr) (fun t wr => 4 - (intOf t).toNat)
  case atStart => exact ⟨0, by omega, rfl, (Blk.new _ _ _).alloc _, Blk.new' (by simp), (((Below.refl _ _).alloc (Nat.le_refl _) _).alloc (by simp) _)⟩
  case round =>
    rename_i hrel
    obtain ⟨k, hk, rfl, C0, C1, hbelr⟩ := hrel
    by_cases hlt : k < 4
    · have hl : ((dig 256 4 n).take k ++ zeros (4 - k)).length = 4 := by simp [zeros]; omega
      have c1 := C1.int (i := k) (by omega)
      have z1 := C1.frozen k
      have hv : (dig 256 4 n).getD k 0 = n / 256 ^ k % 256 := dig_getD 256 4 n k hlt
      have C1' := C1.intSet k (n / 256 ^ k % 256)
      rw [take_set (n := 4) (dig_length _ _ _) hlt hv] at C1'
      have HC := Lib.hid C1'
      clear C1' hl hv
      go_wp2
      rw [shr_byte]
      exact ⟨⟨k + 1, by omega, by go_num, C0.far (by first | omega | (simp; done) | (simp; omega)) _, HC.out, hbelr.setCell (by first | omega | (simp; done) | (simp; omega)) _⟩, by simp [intOf] <;> omega⟩
    · obtain rfl : k = 4 := by omega
      have he : (dig 256 4 n).take 4 ++ zeros (4 - 4) = dig 256 4 n := by rw [List.take_of_length_le (by simp)]; simp [zeros]
      rw [he] at C1
      clear he
      go_wp2_with (first | (refine wpList_load_ints rfl 65 _ rfl _ rfl C1 Tryz.ar365 (dig_length _ _ _) ?_; (try simp only [Act.put, List.setIfInBounds_toArray, List.set_cons_zero, List.set_cons_succ, World.size_alloc, setRow_size, Nat.add_assoc, Nat.reduceAdd])) | (refine wpList_store_ints rfl 65 _ _ rfl _ rfl rfl C0 (zeros_size _ _) Tryz.ar365 (dig_length _ _ _) ?_; (try simp only [Act.put, List.setIfInBounds_toArray, List.set_cons_zero, List.set_cons_succ, World.size_alloc, setRow_size, Nat.add_assoc, Nat.reduceAdd])))
      refine ret_ints rfl rfl (C0.row _) Tryz.ar365 (dig_length _ _ _) ⟨rfl, ?_⟩
      exact bSetRow hbelr (by simp) _
def shN (r c : Nat) : Nat := r + 4 * ((c + r) % 4)
theorem shN_lt {r c : Nat} (hr : r < 4) : shN r c < 16 := by unfold shN; omega
set_option maxHeartbeats 4000000 in
theorem shifted_c (r c : Nat) (hr : r < 4) (hc : c < 4) (w : World) : Calls Tryz.prog 63 #[.int .i64 (r : Int), .int .i64 (c : Int)] w fun e w' => e = .returned (.int .i64 (shN r c : Nat)) ∧ w = w' := by
  obtain ⟨j, Hj⟩ : ∃ j, Hid ((c + r) % 4 = j) := ⟨_, Lib.hid rfl⟩
  have hj : j < 4 := by rw [← Hj.out]; omega
  have hrt : ((c : Int) + (r : Int)).tmod 4 = (j : Int) := by
    rw [Int.tmod_eq_emod_of_nonneg (by omega), ← Hj.out]; omega
  have HS : Hid (((shN r c : Nat) : Int) = (r : Int) + 4 * (j : Int)) := Lib.hid (by unfold shN; rw [Hj.out]; omega)
  go_enter Tryz.func63, Tryz.ntmps63
  go_wp2
  go_ret
  exact ⟨by rw [HS.out]; rfl, rfl⟩
/-- A column's number behind so many rows; the columns. -/
def rkK (L b key : List Nat) (c : Nat) : Nat → Nat
  | 0 => numAt key (4 * c) 4
  | r + 1 => rkK L b key c r ^^^ mixV L (256 * r + b.getD (shN r c) 0)
theorem mixV_lt {L : List Nat} (hL : ∀ x ∈ L, x < 256) (n : Nat) : mixV L n < 4294967296 := brK_lt (by decide) _ _ 4 (Nat.le_refl _)
theorem rkK_lt {L b key : List Nat} (hL : ∀ x ∈ L, x < 256) (hk : ∀ x ∈ key, x < 256) (c : Nat) : ∀ r, rkK L b key c r < 4294967296
  | 0 => numAt_lt hk (4 * c) 4
  | r + 1 => Nat.xor_lt_two_pow (n := 32) (rkK_lt hL hk c r) (mixV_lt hL _)
def rdK (L b key : List Nat) : Nat → List Nat
  | 0 => []
  | c + 1 => rdK L b key c ++ dig 256 4 (rkK L b key c 4)
theorem rdK_len (L b key : List Nat) : ∀ c, (rdK L b key c).length = 4 * c
  | 0 => rfl
  | c + 1 => by unfold rdK; rw [List.length_append, rdK_len, dig_length]; omega
def rdN (L b key : List Nat) : List Nat := rdK L b key 4
theorem rdN_len (L b key : List Nat) : (rdN L b key).length = 16 := rdK_len L b key 4
theorem rdK_lt (L b key : List Nat) : ∀ c, ∀ x ∈ rdK L b key c, x < 256
  | 0 => fun x hx => by cases hx
  | c + 1 => fun x hx => by
    unfold rdK at hx
    exact (List.mem_append.1 hx).elim (rdK_lt L b key c x) (dig_lt (by omega) _ _ x)
theorem rdN_lt (L b key : List Nat) : ∀ x ∈ rdN L b key, x < 256 := rdK_lt L b key 4
theorem splice_at {A zs : List Nat} {p m n : Nat} (hp : A.length = p) (hz : zs.length = n) : splice (A ++ zeros (n + m)) p zs = (A ++ zs) ++ zeros m := by
  subst hp hz
  unfold splice
  rw [List.take_left, List.append_assoc, ← List.drop_drop, List.drop_left]
  unfold zeros
  rw [List.drop_replicate, Nat.add_sub_cancel_left]
set_option maxRecDepth 100000 in
set_option maxHeartbeats 8000000 in
theorem round_c (g gb : Nat) (L b key : List Nat) (hL : ∀ x ∈ L, x < 256) (hb : b.length = 16) (hbb : ∀ x ∈ b, x < 256) (hk : key.length = 16) (hkb : ∀ x ∈ key, x < 256) (w : World) (hT : TbI w g gb L 1024) :
    Calls Tryz.prog 62 #[.pointer (some ⟨g, 0, none⟩), .agg (ints .u8 b), .agg (ints .u8 key)] w fun e w' => e = .returned (.agg (ints .u8 (rdN L b key))) ∧ Below w.heap.size w w' := by
  have hb0 := (((Below.refl w.heap.size w).alloc (Nat.le_refl _) (.cells (ints .u8 b) 96)).alloc (by simp) (.cells (ints .u8 key) 96))
  go_enter Tryz.func62, Tryz.ntmps62
  go_wp2_with (first | (refine wpList_alloc_ints rfl 96 rfl Tryz.z96 ?_; (try simp only [Act.put, List.setIfInBounds_toArray, List.set_cons_zero, List.set_cons_succ, World.size_alloc, setRow_size, Nat.add_assoc, Nat.reduceAdd])))
  obtain ⟨s, HSz⟩ : ∃ s, Hid (w.heap.size = s) := ⟨_, Lib.hid rfl⟩
  have A0 := (((Blk.new w 96 (ints .u8 b)).alloc (.cells (ints .u8 key) 96)).alloc (.cells (ints .u8 (zeros 16)) 96)).alloc (.cells (ints .u8 (zeros 16)) 96)
  have A1 := ((Blk.new (w.alloc (.cells (ints .u8 b) 96)) 96 (ints .u8 key)).alloc (.cells (ints .u8 (zeros 16)) 96)).alloc (.cells (ints .u8 (zeros 16)) 96)
  have A2 := (Blk.new ((w.alloc (.cells (ints .u8 b) 96)).alloc (.cells (ints .u8 key) 96)) 96 (ints .u8 (zeros 16))).alloc (.cells (ints .u8 (zeros 16)) 96)
  have A3 := Blk.new (((w.alloc (.cells (ints .u8 b) 96)).alloc (.cells (ints .u8 key) 96)).alloc (.cells (ints .u8 (zeros 16)) 96)) 96 (ints .u8 (zeros 16))
  have hbel0 := (hb0.alloc (by simp; omega) (.cells (ints .u8 (zeros 16)) 96)).alloc (by simp; omega) (.cells (ints .u8 (zeros 16)) 96)
  simp only [World.size_alloc, Nat.add_assoc, Nat.reduceAdd] at A1 A2 A3
  generalize ((((w.alloc (.cells (ints .u8 b) 96)).alloc (.cells (ints .u8 key) 96)).alloc (.cells (ints .u8 (zeros 16)) 96)).alloc (.cells (ints .u8 (zeros 16)) 96)) = w0 at *
  clear hb0
  go_loopw [15] (fun t wr => ∃ c : Nat, c ≤ 4 ∧ t = .int .i64 (c : Int) ∧ Blk wr w.heap.size 96 (ints .u8 b) ∧ Blk wr (w.heap.size + 1) 96 (ints .u8 key) ∧ Blk wr (w.heap.size + 2) 96 (ints .u8 (zeros 16)) ∧ Blk wr (w.heap.size + 3) 96 (ints .u8 (rdK L b key c ++ zeros (16 - 4 * c))) ∧ Below w.heap.size w wr) (fun t wr => 4 - (intOf t).toNat)
  case atStart => exact ⟨0, by omega, rfl, A0, A1, A2, A3, hbel0⟩
  case round =>
    clear A0 A1 A2 A3 hbel0
    obtain ⟨c, hc, rfl, A0, A1, A2, A3, hbel⟩ := hrel
    by_cases hlt : c < 4
    · have hd : decide ((c : Int) < 4) = true := by simp; omega
      obtain ⟨p, Hp⟩ : ∃ p, Hid (4 * c = p) := ⟨_, Lib.hid rfl⟩
      have hp : 4 * (c : Int) = (p : Int) := by rw [← Hp.out]; omega
      have hp16 : p + 4 ≤ 16 := by rw [← Hp.out]; omega
      have hwd := word_c (some ⟨w.heap.size + 1, 0, none⟩) 16 key hkb (by rw [hk]; decide) p (by omega) wr (Sl.blk A1)
      rw [hk] at hwd
      have HK0 : Hid (numAt key p 4 = rkK L b key c 0) := Lib.hid (by rw [← Hp.out]; rfl)
      rw [HK0.out] at hwd
      go_wp2_with fail
      refine hwd.mono ?_
      clear hwd
      rintro e w1 ⟨rfl, hb1⟩
      have hbel1 := bCall hbel hb1 hbel.size
      have C0 := A0.below' hb1
      have C1 := A1.below' hb1
      have C2 := A2.below' hb1
      have C3 := A3.below' hb1
      have T1 := hT.below hbel1
      clear A0 A1 A2 A3 hbel hb1
      go_wp2_with fail
      go_loopw [9, 22] (fun s t wr' => ∃ r : Nat, r ≤ 4 ∧ t = .int .i64 (r : Int) ∧ s = .int .u32 ((rkK L b key c r : Nat) : Int) ∧ Below w1.heap.size w1 wr') (fun s t wr' => 4 - (intOf t).toNat)
      case atStart => exact ⟨0, by omega, rfl, rfl, Below.refl _ _⟩
      case round =>
        obtain ⟨r, hr, rfl, rfl, hb2⟩ := hrel
        by_cases hlr : r < 4
        · have hd2 : decide ((r : Int) < 4) = true := by simp; omega
          have D0 := C0.below' hb2
          have T2 := T1.below hb2
          have hsh := shN_lt (c := c) hlr
          have hri : (r : Int) < 4 := by omega
          have hsi : ((shN r c : Nat) : Int) < 16 := by omega
          have c0 := D0.int (i := shN r c) (by omega)
          have hx := getD_bound hbb (by decide) (shN r c)
          have HR : Hid (rkK L b key c (r + 1) = rkK L b key c r ^^^ mixV L (256 * r + b.getD (shN r c) 0)) := Lib.hid rfl
          have hsc := shifted_c r c hlr hlt
          generalize b.getD (shN r c) 0 = x at *
          generalize shN r c = j at *
          have hxi : (x : Int) < 256 := by omega
          have c1 := T2.mix (k := 256 * r + x) (by omega)
          have hoff : 1 + (256 * r + x) = 1 + r * 256 + x := by omega
          rw [hoff] at c1
          have HX := Lib.hid (u32_xor_nat (rkK L b key c r) (mixV L (256 * r + x)) (rkK_lt hL hkb c r) (mixV_lt hL _))
          generalize mixV L (256 * r + x) = mv at *
          generalize rkK L b key c r = kv at *
          have hg0 := D0.lt
          have hg1 := T2.lt
          go_wp2_with fail
          refine wp_region_below (by kernel_rfl) (by kernel_rfl) ?_
          go_big_quiet_step (fail)
          go_big_quiet_step (fail)
          go_big_quiet_step (fail)
          go_big_quiet_step (fail)
          go_big_quiet_step (fail)
          refine quiet_call 63 rfl rfl Tryz.func63 (by kernel_rfl) (by kernel_rfl) (fun W hQ => pureB (hsc W)) ?_
          (try simp only [Act.put, List.setIfInBounds_toArray, List.set_cons_zero, List.set_cons_succ, World.size_alloc, setRow_size, Nat.add_assoc, Nat.reduceAdd])
          go_big_quiet_step ((intro _; rfl))
          refine quiet_cell rfl rfl rfl Tryz.underlying5 hg0 c0 ?_
          (try simp only [Act.put, List.setIfInBounds_toArray, List.set_cons_zero, List.set_cons_succ, World.size_alloc, setRow_size, Nat.add_assoc, Nat.reduceAdd])
          refine quiet_run (v := .pointer (some ⟨g, 0, none⟩)) rfl (fun W => by kernel_rfl) ?_
          (try simp only [Act.put, List.setIfInBounds_toArray, List.set_cons_zero, List.set_cons_succ, World.size_alloc, setRow_size, Nat.add_assoc, Nat.reduceAdd])
          refine quiet_run (v := .pointer (some ⟨g, 1, none⟩)) rfl (fun W => by kernel_rfl) ?_
          (try simp only [Act.put, List.setIfInBounds_toArray, List.set_cons_zero, List.set_cons_succ, World.size_alloc, setRow_size, Nat.add_assoc, Nat.reduceAdd])
          go_big_quiet_step ((intro _; rfl))
          go_big_quiet_step ((intro _; rfl))
          refine quiet_cell rfl rfl rfl Tryz.underlying52 hg1 c1 ?_
          (try simp only [Act.put, List.setIfInBounds_toArray, List.set_cons_zero, List.set_cons_succ, World.size_alloc, setRow_size, Nat.add_assoc, Nat.reduceAdd])
          refine quiet_run (v := .int .u32 (bits BinOp.xor IntKind.u32 (kv : Int) (mv : Int))) rfl (fun W => by kernel_rfl) ?_; rw [HX.out]
          (try simp only [Act.put, List.setIfInBounds_toArray, List.set_cons_zero, List.set_cons_succ, World.size_alloc, setRow_size, Nat.add_assoc, Nat.reduceAdd])
          go_big_quiet_step (fail)
          refine wpQuiet_nil ?_
          intro w' hw'
          go_wp2_with fail
          exact ⟨⟨r + 1, by omega, by go_num, by rw [HR.out], bCall hb2 hw' hb2.size⟩, by simp [intOf] <;> omega⟩
        · obtain rfl : r = 4 := by omega
          have hd2 : decide (((4 : Nat) : Int) < 4) = false := by simp
          have hbel2 := bCall hbel1 hb2 hbel1.size
          have D0 := C0.below' hb2
          have D1 := C1.below' hb2
          have D2 := C2.below' hb2
          have D3 := C3.below' hb2
          clear C0 C1 C2 C3 T1 hbel1 hb2
          have hpw := putWord_c (rkK L b key c 4) (rkK_lt hL hkb c 4)
          have HRD : Hid (rdK L b key (c + 1) = rdK L b key c ++ dig 256 4 (rkK L b key c 4)) := Lib.hid rfl
          go_wp2_with fail
          refine (hpw _).mono ?_
          clear hpw
          rintro e w3 ⟨rfl, hb3⟩
          have hbel3 := bCall hbel2 hb3 hbel2.size
          have E0 := (D0.below' hb3).alloc (.cells (ints .u8 (zeros 4)) 65)
          have E1 := (D1.below' hb3).alloc (.cells (ints .u8 (zeros 4)) 65)
          have E2 := (D2.below' hb3).alloc (.cells (ints .u8 (zeros 4)) 65)
          have E3 := (D3.below' hb3).alloc (.cells (ints .u8 (zeros 4)) 65)
          have E4 := Blk.new w3 65 (ints .u8 (zeros 4))
          have hl3 := (D3.below' hb3).lt
          have dl : (dig 256 4 (rkK L b key c 4)).length = 4 := dig_length _ _ _
          generalize dig 256 4 (rkK L b key c 4) = zs at *
          have F0 := E0.rowFar (show w.heap.size ≠ w3.heap.size by omega) (ints .u8 zs)
          have F1 := E1.rowFar (show w.heap.size + 1 ≠ w3.heap.size by omega) (ints .u8 zs)
          have F2 := E2.rowFar (show w.heap.size + 2 ≠ w3.heap.size by omega) (ints .u8 zs)
          have F3 := E3.rowFar (show w.heap.size + 3 ≠ w3.heap.size by omega) (ints .u8 zs)
          have F4 := E4.row (ints .u8 zs)
          have hbel4 := bSetRow (hbel3.alloc hbel3.size (.cells (ints .u8 (zeros 4)) 65)) hbel3.size (ints .u8 zs)
          clear D0 D1 D2 D3 hbel2 hb3 E0 E1 E2 E3 hbel3
          go_wp2_with (first | (refine wpList_alloc_ints rfl 65 rfl Tryz.z365 ?_; (try simp only [Act.put, List.setIfInBounds_toArray, List.set_cons_zero, List.set_cons_succ, World.size_alloc, setRow_size, Nat.add_assoc, Nat.reduceAdd])) | (refine wpList_store_ints rfl 65 _ _ rfl w3.heap.size rfl rfl E4 (zeros_size _ _) Tryz.ar365 dl ?_; (try simp only [Act.put, List.setIfInBounds_toArray, List.set_cons_zero, List.set_cons_succ, World.size_alloc, setRow_size, Nat.add_assoc, Nat.reduceAdd])))
          clear E4
          have hl5 : w.heap.size + 3 < w3.heap.size := hl3
          generalize ((w3.alloc (.cells (ints .u8 (zeros 4)) 65)).setRow w3.heap.size (ints .u8 zs)) = w5 at *
          generalize w3.heap.size = s5 at *
          have hpi : (0 : Int) ≤ (p : Int) := by omega
          have hpj : (p : Int) ≤ 16 := by omega
          have hne16 : ¬ (16 = p) := by omega
          have hwp : IntKind.i64.wrap (p : Int) = (p : Int) := IntWalk.i64_in _ (by omega)
          refine wp_region_still_tail 4 (by kernel_rfl) (by kernel_rfl) ?_
          simp only [List.take_succ_cons, List.take_zero, List.drop_succ_cons, List.drop_zero]
          repeat still_step
          refine wpStill_nil ?_
          change wpList _ _ _ _ _ w5.drew
          have hal : (rdK L b key c).length = p := by rw [rdK_len, Hp.out]
          have G3 := F3.drew
          rw [show 16 - 4 * c = 4 + (16 - 4 * (c + 1)) by omega] at G3
          have hRl : (rdK L b key c ++ zeros (4 + (16 - 4 * (c + 1)))).length = 16 := by rw [List.length_append, hal, zeros_len, ← Hp.out]; omega
          have hsp := splice_at (m := 16 - 4 * (c + 1)) hal dl
          refine wpList_copy_ints (off := p) (dLen := 16 - p) (sLen := 4) rfl rfl Tryz.underlying23 Tryz.s15 rfl rfl G3 (Sl.blk F4.drew) (by rw [dl]; exact (Nat.min_eq_left (by omega : 4 ≤ 16 - p)).symm) (fun _ => rfl) (by rw [hRl, dl]; omega) ?_
          intro w6 G4 ho
          rw [hsp, ← HRD.out] at G4
          have G0 := F0.drew.only ho (by omega)
          have G1 := F1.drew.only ho (by omega)
          have G2 := F2.drew.only ho (by omega)
          have hbel6 := ho.below _ _ hbel4.drew (by omega)
          clear F0 F1 F2 F3 F4 G3 hbel4 hsp hRl hal ho hwp hne16 hpi hpj
          go_wp2_with fail
          exact ⟨⟨c + 1, by omega, by go_num, G0, G1, G2, G4, hbel6⟩, by simp [intOf] <;> omega⟩
    · obtain rfl : c = 4 := by omega
      have hd : decide (((4 : Nat) : Int) < 4) = false := by simp
      have hz : rdK L b key 4 ++ zeros (16 - 4 * 4) = rdN L b key := by unfold rdN; simp [zeros]
      rw [hz] at A3
      clear hz
      go_wp2_with (first | (refine wpList_load_ints rfl 96 _ rfl _ rfl A3 Tryz.ar96 (rdN_len _ _ _) ?_; (try simp only [Act.put, List.setIfInBounds_toArray, List.set_cons_zero, List.set_cons_succ, World.size_alloc, setRow_size, Nat.add_assoc, Nat.reduceAdd])) | (refine wpList_store_ints rfl 96 _ _ rfl _ rfl rfl A2 (zeros_size _ _) Tryz.ar96 (rdN_len _ _ _) ?_; (try simp only [Act.put, List.setIfInBounds_toArray, List.set_cons_zero, List.set_cons_succ, World.size_alloc, setRow_size, Nat.add_assoc, Nat.reduceAdd])))
      refine ret_ints rfl rfl (A2.row _) Tryz.ar96 (rdN_len _ _ _) ⟨rfl, ?_⟩
      exact bSetRow hbel (by omega) _
end Go.Proofs.YtaiffkajkbiidaaGreatDoor
