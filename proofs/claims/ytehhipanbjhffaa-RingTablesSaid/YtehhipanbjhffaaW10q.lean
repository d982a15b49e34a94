/- The reference's rest: the product of two polynomials, the powers from x^128 on put away. No condition but that both are below x^128 and the three places below 128. -/
import Derived.Test.YtehhipanbjhffaaG10g
import Derived.Test.YtehhipanbjhffaaKit6
import Derived.Test.YtehhipanbjhffaaW10p
namespace Go.Proofs.Ytehhipanbjhffaa
set_option linter.unusedSimpArgs false
set_option linter.unusedVariables false
set_option linter.unusedSectionVars false
set_option linter.unusedVariables false
open Go.RowKit
open Gf (up upN mulS mul)
theorem Try.one5 : IsOne Try.prog 5 := by unfold IsOne; kernel_rfl
theorem poly_cell {W : World} {g t N : Nat} (h : Blk W g t (ints .u8 (polyN N))) (k : Nat) (hk : k < 256) : ∃ v : Nat, v < 2 ∧ Hid (N / 2 ^ k % 2 = v) ∧ W.cell? ⟨g, k, none⟩ = some (.int .u8 (v : Int)) ∧ bits BinOp.xor IntKind.u8 (v : Int) 1 = ((v ^^^ 1 : Nat) : Int) := by
  have e := h.int (i := k) (by rw [polyN_len]; exact hk)
  rw [polyN_getD N hk] at e
  exact ⟨_, by omega, Lib.hid rfl, e, u8xor (a := N / 2 ^ k % 2) (b := 1) (by omega) (by omega)⟩
theorem poly_flip {W : World} {g t N k v : Nat} (H : Hid (N / 2 ^ k % 2 = v)) (hk : k < 256) (h : Blk W g t (ints .u8 ((polyN N).set k (v ^^^ 1)))) : Blk W g t (ints .u8 (polyN (N ^^^ 1 * 2 ^ k))) := by
  rw [← H.out, polyN_flip N k hk] at h; exact h
set_option maxRecDepth 100000 in
set_option maxHeartbeats 20000000 in
theorem rest_ref (p q a b c : Nat) (hp : p < 2 ^ 128) (hq : q < 2 ^ 128) (ha : a < 128) (hb : b < 128) (hc : c < 128) (w : World) :
    Calls Try.prog 32 #[.agg (ints .u8 (polyN p)), .agg (ints .u8 (polyN q)), .int .i64 (a : Int), .int .i64 (b : Int), .int .i64 (c : Int)] w fun e w' => e = .returned (.agg (ints .u8 (polyN (mul (R3 a b c) p q)))) ∧ Below w.heap.size w w' := by
  have hpl := polyN_len p
  have hql := polyN_len q
  have HR := Lib.hid (red_cl (R3_lt ha hb hc) hp q)
  have B0 := (((Blk.new w 47 (ints .u8 (polyN p))).alloc (.cells (ints .u8 (polyN q)) 47)).alloc (.cells (ints .u8 (zeros 256)) 47)).alloc (.cells (ints .u8 (zeros 256)) 47)
  have B1 := ((Blk.new (w.alloc (.cells (ints .u8 (polyN p)) 47)) 47 (ints .u8 (polyN q))).alloc (.cells (ints .u8 (zeros 256)) 47)).alloc (.cells (ints .u8 (zeros 256)) 47)
  have B2 := (Blk.new ((w.alloc (.cells (ints .u8 (polyN p)) 47)).alloc (.cells (ints .u8 (polyN q)) 47)) 47 (ints .u8 (zeros 256))).alloc (.cells (ints .u8 (zeros 256)) 47)
  have B3 := Blk.new (((w.alloc (.cells (ints .u8 (polyN p)) 47)).alloc (.cells (ints .u8 (polyN q)) 47)).alloc (.cells (ints .u8 (zeros 256)) 47)) 47 (ints .u8 (zeros 256))
  rw [World.size_alloc] at B1
  rw [World.size_alloc, World.size_alloc] at B2
  rw [World.size_alloc, World.size_alloc, World.size_alloc] at B3
  simp only [Nat.add_assoc, Nat.reduceAdd] at B2 B3
  have hbel := ((((Below.refl w.heap.size w).alloc (Nat.le_refl _) (.cells (ints .u8 (polyN p)) 47)).alloc (by simp) (.cells (ints .u8 (polyN q)) 47)).alloc (by simp; omega) (.cells (ints .u8 (zeros 256)) 47)).alloc (by simp; omega) (.cells (ints .u8 (zeros 256)) 47)
  go_enter Try.func32, Try.ntmps32
  go_wp2_with (refine wpList_alloc_ints rfl 47 rfl Try.z47 ?_; (try simp only [Act.put, List.setIfInBounds_toArray, List.set_cons_zero, List.set_cons_succ, World.size_alloc, setRow_size, Nat.add_assoc, Nat.reduceAdd]))
  generalize ((((w.alloc (.cells (ints .u8 (polyN p)) 47)).alloc (.cells (ints .u8 (polyN q)) 47)).alloc (.cells (ints .u8 (zeros 256)) 47)).alloc (.cells (ints .u8 (zeros 256)) 47)) = w1 at *
  rw [← polyN_zero] at B3
  go_loopw [12] (fun t wr => ∃ i : Nat, i ≤ 128 ∧ t = .int .i64 i ∧ Blk wr w.heap.size 47 (ints .u8 (polyN p)) ∧ Blk wr (w.heap.size + 1) 47 (ints .u8 (polyN q)) ∧ Blk wr (w.heap.size + 2) 47 (ints .u8 (zeros 256)) ∧ Blk wr (w.heap.size + 3) 47 (ints .u8 (polyN (clS p q i))) ∧ Below w.heap.size w wr) (fun t wr => 128 - (intOf t).toNat)
  case atStart => exact ⟨0, by omega, rfl, B0, B1, B2, B3, hbel⟩
  case round =>
    rename_i hrel
    obtain ⟨i, hi, rfl, C0, C1, C2, C3, hbelr⟩ := hrel
    by_cases hlt : i < 128
    · have c1 := C1.int (i := i) (by omega)
      rw [polyN_getD q (by omega)] at c1
      have hd0 : decide ((i : Int) < 128) = true := by simp; omega
      have Hb := Lib.hid (clS_bit p q i)
      rcases Nat.mod_two_eq_zero_or_one (q / 2 ^ i) with h2 | h2
      · rw [h2] at c1 Hb
        have hn : clS p q (i + 1) = clS p q i := by rw [Hb.out, Nat.zero_mul, Nat.xor_zero]
        rw [← hn] at C3
        have HC := Lib.hid C3
        clear hn C3 Hb h2
        go_wp2
        exact ⟨⟨i + 1, by omega, by go_num, C0, C1, C2, HC.out, hbelr⟩, by simp [intOf] <;> omega⟩
      · rw [h2] at c1 Hb
        have hq1 : ((((1 : Nat) : Int)) == 0) = false := by decide
        clear h2
        rw [Nat.one_mul] at Hb
        go_wp2
        obtain ⟨wo, rfl⟩ : ∃ wo : World, wo = wr := ⟨_, rfl⟩
        go_loopw [13] (fun t wr => ∃ k : Nat, k ≤ 128 ∧ t = .int .i64 k ∧ Blk wr w.heap.size 47 (ints .u8 (polyN p)) ∧ Blk wr (w.heap.size + 1) 47 (ints .u8 (polyN q)) ∧ Blk wr (w.heap.size + 2) 47 (ints .u8 (zeros 256)) ∧ Blk wr (w.heap.size + 3) 47 (ints .u8 (polyN (clS p q i ^^^ p % 2 ^ k * 2 ^ i))) ∧ Below w.heap.size w wr) (fun t wr => 128 - (intOf t).toNat)
        case atStart => exact ⟨0, by omega, rfl, C0, C1, C2, by rw [Nat.pow_zero, Nat.mod_one, Nat.zero_mul, Nat.xor_zero]; exact C3, hbelr⟩
        case round =>
          rename_i hrel
          obtain ⟨k, hk, rfl, D0, D1, D2, D3, hbel4⟩ := hrel
          clear C0 C1 C2 C3 hbelr c1
          by_cases hlk : k < 128
          · have d0 := D0.int (i := k) (by omega)
            rw [polyN_getD p (by omega)] at d0
            have hN := polyN_len (clS p q i ^^^ p % 2 ^ k * 2 ^ i)
            have d3 := D3.int (i := i + k) (by omega)
            rw [polyN_getD _ (by omega)] at d3
            have z3 := D3.frozen (i + k)
            have hv := polyN_set (clS p q i ^^^ p % 2 ^ k * 2 ^ i) (p / 2 ^ k % 2) (i + k) (by omega) (by omega)
            rw [cl_step] at hv
            have D3' := D3.intSet (i + k) (((clS p q i ^^^ p % 2 ^ k * 2 ^ i) / 2 ^ (i + k) % 2) ^^^ (p / 2 ^ k % 2))
            rw [hv] at D3'
            have HD := Lib.hid D3'
            have hb1 : (clS p q i ^^^ p % 2 ^ k * 2 ^ i) / 2 ^ (i + k) % 2 < 256 := by omega
            have hb2 : p / 2 ^ k % 2 < 256 := by omega
            clear hv D3'
            generalize (clS p q i ^^^ p % 2 ^ k * 2 ^ i) / 2 ^ (i + k) % 2 = x at *
            generalize p / 2 ^ k % 2 = y at *
            have hx := u8xor hb1 hb2
            have hd0 : decide ((k : Int) < 128) = true := by simp; omega
            clear Hb
            go_wp2
            go_region
            all_goals

              go_wp2
              exact ⟨⟨k + 1, by omega, by go_num, (D0.far (by first | omega | (simp; done) | (simp; omega)) _).drew, (D1.far (by first | omega | (simp; done) | (simp; omega)) _).drew, (D2.far (by first | omega | (simp; done) | (simp; omega)) _).drew, HD.out.drew, (hbel4.setCell (by first | omega | (simp; done) | (simp; omega)) _).drew⟩, by simp [intOf] <;> omega⟩
          · obtain rfl : k = 128 := by omega
            rw [Nat.mod_eq_of_lt hp, ← Hb.out] at D3
            clear Hb
            go_wp2
            exact ⟨⟨i + 1, by omega, by go_num, D0, D1, D2, D3, hbel4⟩, by simp [intOf] <;> omega⟩
    · obtain rfl : i = 128 := by omega
      have HH : Hid (red (R3 a b c) 127 (clS p q 128) = mul (R3 a b c) p q) := HR
      clear HR B0 B1 B2 B3 hbel
      generalize clS p q 128 = N0 at *
      obtain ⟨M, HM⟩ : ∃ M, Hid (mul (R3 a b c) p q = M) := ⟨_, Lib.hid rfl⟩
      rw [HM.out] at HH
      go_wp2
      obtain ⟨wo, rfl⟩ : ∃ wo : World, wo = wr := ⟨_, rfl⟩
      go_loopw [14] (fun t wr => ∃ m N : Nat, m ≤ 127 ∧ t = .int .i64 ((127 + m : Nat) : Int) ∧ red (R3 a b c) m N = M ∧ Blk wr (w.heap.size + 2) 47 (ints .u8 (zeros 256)) ∧ Blk wr (w.heap.size + 3) 47 (ints .u8 (polyN N)) ∧ Below w.heap.size w wr) (fun t wr => (intOf t).toNat)
      case atStart => exact ⟨127, N0, by omega, rfl, HH.out, C2, C3, hbelr⟩
      case round =>
        rename_i hrel
        obtain ⟨m, N, hm, rfl, hred, D2, D3, hbel4⟩ := hrel
        clear C0 C1 C2 C3 hbelr
        have hN := polyN_len N
        rcases m with _ | j
        · obtain rfl : N = M := hred
          clear HH
          have hfin : decide ((127 : Int) ≥ 128) = false := by decide
          go_wp2_with (first | (refine wpList_load_ints rfl 47 _ rfl (w.heap.size + 3) rfl D3 Try.ar47 hN ?_; (try simp only [Act.put, List.setIfInBounds_toArray, List.set_cons_zero, List.set_cons_succ, World.size_alloc, setRow_size, Nat.add_assoc, Nat.reduceAdd])) | (refine wpList_store_ints rfl 47 _ _ rfl (w.heap.size + 2) rfl rfl D2 (zeros_size _ _) Try.ar47 hN ?_; (try simp only [Act.put, List.setIfInBounds_toArray, List.set_cons_zero, List.set_cons_succ, World.size_alloc, setRow_size, Nat.add_assoc, Nat.reduceAdd])))
          exact ret_ints rfl rfl (D2.row _) Try.ar47 hN ⟨by rw [HM.out], bSetRow hbel4 (by omega) _⟩
        · clear HH
          have hred' : red (R3 a b c) j (redStep (R3 a b c) j N) = M := hred
          have HR := Lib.hid hred'
          clear hred hred'
          rw [show 127 + (j + 1) = 128 + j by omega]
          obtain ⟨i, hi⟩ : ∃ i : Nat, i = 128 + j := ⟨_, rfl⟩
          rw [← hi]
          have hge : decide ((i : Int) ≥ 128) = true := by simp; omega
          have hi256 : i < 255 := by omega
          have hi0 : 128 ≤ i := by omega
          have hsub : (i : Int) - 128 = (j : Int) := by omega
          have hnext : (i : Int) - 1 = ((127 + j : Nat) : Int) := by omega
          have Hi := Lib.hid hi
          have Hnext := Lib.hid hnext
          clear hi hnext
          obtain ⟨v, hv, H, c3, -⟩ := poly_cell D3 i (by omega)
          have hv2 : v = 0 ∨ v = 1 := by omega
          rcases hv2 with rfl | rfl
          · have hno : redStep (R3 a b c) j N = N := red_no _ (by rw [← Hi.out]; exact H.out)
            have HN := Lib.hid hno
            clear hno
            go_wp2
            exact ⟨⟨j, N, by omega, by rw [Hnext.out], by rw [← HR.out, HN.out], D2, D3, hbel4⟩, by simp [intOf] <;> omega⟩
          · have HY : Hid (((((N ^^^ 1 * 2 ^ i) ^^^ 1 * 2 ^ (j + a)) ^^^ 1 * 2 ^ (j + b)) ^^^ 1 * 2 ^ (j + c)) ^^^ 1 * 2 ^ j = redStep (R3 a b c) j N) := Lib.hid (by rw [Hi.out]; exact red_yes (by rw [← Hi.out]; exact H.out))
            go_wp2_with (first
              | (refine wpList_store_one rfl 5 _ _ rfl Try.one5 D3 i 0 rfl rfl (by omega) ?_; intro w2 E2 F2; rw [polyN_clear N i (by omega) H.out] at E2; obtain ⟨v2, hv2, H2, e2, x2⟩ := poly_cell E2 (j + a) (by omega); (try simp only [Act.put, List.setIfInBounds_toArray, List.set_cons_zero, List.set_cons_succ, World.size_alloc, setRow_size, Nat.add_assoc, Nat.reduceAdd]))
              | (refine wpList_store_one rfl 5 _ _ rfl Try.one5 E2 (j + a) (v2 ^^^ 1) rfl rfl (by rw [polyN_len]; omega) ?_; intro w3 E3' F3; have E3 := poly_flip H2 (by omega) E3'; clear E3'; obtain ⟨v3, hv3, H3, e3, x3⟩ := poly_cell E3 (j + b) (by omega); (try simp only [Act.put, List.setIfInBounds_toArray, List.set_cons_zero, List.set_cons_succ, World.size_alloc, setRow_size, Nat.add_assoc, Nat.reduceAdd]))
              | (refine wpList_store_one rfl 5 _ _ rfl Try.one5 E3 (j + b) (v3 ^^^ 1) rfl rfl (by rw [polyN_len]; omega) ?_; intro w4 E4' F4; have E4 := poly_flip H3 (by omega) E4'; clear E4'; obtain ⟨v4, hv4, H4, e4, x4⟩ := poly_cell E4 (j + c) (by omega); (try simp only [Act.put, List.setIfInBounds_toArray, List.set_cons_zero, List.set_cons_succ, World.size_alloc, setRow_size, Nat.add_assoc, Nat.reduceAdd]))
              | (refine wpList_store_one rfl 5 _ _ rfl Try.one5 E4 (j + c) (v4 ^^^ 1) rfl rfl (by rw [polyN_len]; omega) ?_; intro w5 E5' F5; have E5 := poly_flip H4 (by omega) E5'; clear E5'; obtain ⟨v5, hv5, H5, e5, x5⟩ := poly_cell E5 j (by omega); (try simp only [Act.put, List.setIfInBounds_toArray, List.set_cons_zero, List.set_cons_succ, World.size_alloc, setRow_size, Nat.add_assoc, Nat.reduceAdd]))
              | (refine wpList_store_one rfl 5 _ _ rfl Try.one5 E5 j (v5 ^^^ 1) rfl rfl (by rw [polyN_len]; omega) ?_; intro w6 E6' F6; have E6 := poly_flip H5 (by omega) E6'; clear E6'; (try simp only [Act.put, List.setIfInBounds_toArray, List.set_cons_zero, List.set_cons_succ, World.size_alloc, setRow_size, Nat.add_assoc, Nat.reduceAdd])))
            rw [HY.out] at E6
            exact ⟨⟨j, redStep (R3 a b c) j N, by omega, by rw [Hnext.out], HR.out, F6.blk (F5.blk (F4.blk (F3.blk (F2.blk D2 (by omega)) (by omega)) (by omega)) (by omega)) (by omega), E6, F6.below (F5.below (F4.below (F3.below (F2.below hbel4 (by omega)) (by omega)) (by omega)) (by omega)) (by omega)⟩, by simp [intOf] <;> omega⟩
end Go.Proofs.Ytehhipanbjhffaa
