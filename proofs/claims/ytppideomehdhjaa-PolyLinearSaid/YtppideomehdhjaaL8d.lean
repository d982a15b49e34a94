/- The walk of PolyLinear. No condition but that bytes are below 256. -/
import Derived.Test.YtppideomehdhjaaL8b
import Derived.Test.YtppideomehdhjaaFlat
import Derived.Test.YtppideomehdhjaaKit11
namespace Go.Proofs.Ytppideomehdhjaa
set_option linter.unusedSimpArgs false
set_option linter.unusedVariables false
set_option linter.unusedSectionVars false
set_option linter.unusedVariables false
open Go.RowKit
theorem lin8_pow (r j : Nat) : numOf (val (numOf (r ^ j)) * val (numOf r)) = numOf (r ^ (j + 1)) := by
  refine numOf_congr ?_
  rw [val_numOf, val_numOf, ← Nat.mul_mod, Nat.pow_succ]
theorem lin8_sum (S c q : Nat) : numOf (val (numOf S) + val (numOf (val (numOf c) * val (numOf q)))) = numOf (S + c * q) := by
  refine numOf_congr ?_
  rw [val_numOf, val_numOf, val_numOf, val_numOf, ← Nat.mul_mod, ← Nat.add_mod]
theorem lin8_end (key : List Nat) {bs : List Nat} {n : Nat} (h : bs.length = 16 * n) : numOf (polyA key bs) = numOf (sumP (byN key) bs n n) := by
  unfold polyA
  rw [show chunks bs.length = n by unfold chunks; omega, polyV_sums, numOf_mod]
theorem one5_c : Value.agg #[.int .u32 1, .int .u32 0, .int .u32 0, .int .u32 0, .int .u32 0] = .agg (ints .u32 (numOf 1)) := by rw [show numOf 1 = [1, 0, 0, 0, 0] by decide]; rfl
set_option maxRecDepth 100000 in
set_option maxHeartbeats 16000000 in
theorem polyLinear_c (key : List Nat) (xss : List (List Nat)) (a : Option Addr) (c : Nat) (hl : key.length = 16) (hb : ∀ x ∈ key, x < 2 ^ 8) (hx : ∀ xs ∈ xss, xs.length = 16 ∧ ∀ x ∈ xs, x < 2 ^ 8) (w : World) (hs0 : SlA w a .u8 16 xss) :
    Calls Try.prog 9 #[.agg (ints .u8 key), .slice a xss.length c] w fun e w' => e = .returned (.bool true) ∧ Below w.heap.size w w' := by
  have B0 := Blk.new w 22 (ints .u8 key)
  have hbel0 := (Below.refl w.heap.size w).alloc (Nat.le_refl _) (.cells (ints .u8 key) 22)
  by_cases h10 : xss.length ≤ 10
  · have hx16 : ∀ xs ∈ xss, xs.length = 16 := fun xs h => (hx xs h).1
    have hx8 : ∀ xs ∈ xss, ∀ x ∈ xs, x < 256 := fun xs h => (hx xs h).2
    have hfl := flat16 hx16
    have hfb := flat_lt hx8
    obtain ⟨n, HN⟩ : ∃ n, Hid (xss.length = n) := ⟨_, Lib.hid rfl⟩
    rw [HN.out] at h10 hfl ⊢
    have HFL := Lib.hid hfl
    have HEND := Lib.hid (lin8_end key hfl)
    clear hfl
    have hd0 : decide ((n : Int) > 10) = false := by simp; omega
    have B1 := B0.alloc (.cells (ints .u32 (zeros 5)) 44)
    have Z1 := Blk.new (w.alloc (.cells (ints .u8 key) 22)) 44 (ints .u32 (zeros 5))
    rw [World.size_alloc] at Z1
    have hbel := hbel0.alloc (by simp) (.cells (ints .u32 (zeros 5)) 44)
    have hof := fun W => of_c (clampL key) (clampL_len key) (clampL_lt hb) 0 (by omega) W
    clear hbel0
    go_enter Try.func9, Try.ntmps9
    go_wp2_with (first | (refine wpList_alloc_ints rfl 44 rfl Try.z44 ?_; (try simp only [Act.put, List.setIfInBounds_toArray, List.set_cons_zero, List.set_cons_succ, World.size_alloc, setRow_size, Nat.add_assoc, Nat.reduceAdd])) | (refine wpList_load_ints rfl 22 _ rfl w.heap.size rfl B1 Try.ar22 hl ?_; (try simp only [Act.put, List.setIfInBounds_toArray, List.set_cons_zero, List.set_cons_succ, World.size_alloc, setRow_size, Nat.add_assoc, Nat.reduceAdd])))
    generalize ((w.alloc (.cells (ints .u8 key) 22)).alloc (.cells (ints .u32 (zeros 5)) 44)) = w1 at *
    have hl1 := Z1.lt
    refine (clamp_c key hl hb _).mono ?_
    rintro e w3 ⟨rfl, hb3⟩
    have hz3 := hb3.size
    go_wp2_with fail
    refine (hof _).mono ?_
    rintro e w4 ⟨rfl, hb4⟩
    rw [show ofN (clampL key) 0 = byN key from rfl]
    obtain ⟨YL, HYL⟩ : ∃ YL, Hid (numOf (byN key) = YL) := ⟨_, Lib.hid rfl⟩
    obtain ⟨OL, HOL⟩ : ∃ OL, Hid (numOf 1 = OL) := ⟨_, Lib.hid rfl⟩
    have hone : Hid (Value.agg #[.int .u32 1, .int .u32 0, .int .u32 0, .int .u32 0, .int .u32 0] = .agg (ints .u32 OL)) := Lib.hid (by rw [← HOL.out]; exact one5_c)
    have hyl : YL.length = 5 := by rw [← HYL.out]; exact numOf_len _
    have hol : OL.length = 5 := by rw [← HOL.out]; exact numOf_len _
    rw [HYL.out]
    have hb34 := bCall hb3 hb4 hb3.size
    have hz4 := hb34.size
    have Z5 := Blk.new w4 44 (ints .u32 (zeros 5))
    have Y5 := (Z5.row (ints .u32 YL)).alloc (.cells (ints .u32 (zeros 5)) 44)
    have C5 := (((B1.below' hb34).alloc (.cells (ints .u32 (zeros 5)) 44)).rowFar (show w.heap.size ≠ w4.heap.size by omega) (ints .u32 YL)).alloc (.cells (ints .u32 (zeros 5)) 44)
    have S5 := (((Z1.below' hb34).alloc (.cells (ints .u32 (zeros 5)) 44)).rowFar (show w.heap.size + 1 ≠ w4.heap.size by omega) (ints .u32 YL)).alloc (.cells (ints .u32 (zeros 5)) 44)
    have Q5 := Blk.new ((w4.alloc (.cells (ints .u32 (zeros 5)) 44)).setRow w4.heap.size (ints .u32 YL)) 44 (ints .u32 (zeros 5))
    rw [setRow_size, World.size_alloc] at Q5
    have Q6 := Q5.row (ints .u32 OL)
    have Y6 := Y5.rowFar (show w4.heap.size ≠ w4.heap.size + 1 by omega) (ints .u32 OL)
    have C6 := C5.rowFar (show w.heap.size ≠ w4.heap.size + 1 by omega) (ints .u32 OL)
    have S6 := S5.rowFar (show w.heap.size + 1 ≠ w4.heap.size + 1 by omega) (ints .u32 OL)
    have hbel6 := bSetRow ((bSetRow ((bCall hbel hb34 hbel.size).alloc (by have := hbel.size; omega) (.cells (ints .u32 (zeros 5)) 44)) (show w.heap.size ≤ w4.heap.size by omega) (ints .u32 YL)).alloc (by rw [setRow_size, World.size_alloc]; omega) (.cells (ints .u32 (zeros 5)) 44)) (show w.heap.size ≤ w4.heap.size + 1 by omega) (ints .u32 OL)
    go_wp2_with (first | (refine wpList_alloc_ints rfl 44 rfl Try.z44 ?_; (try simp only [Act.put, List.setIfInBounds_toArray, List.set_cons_zero, List.set_cons_succ, World.size_alloc, setRow_size, Nat.add_assoc, Nat.reduceAdd])) | (refine wpList_store_ints (k := .u32) (xs := YL) rfl 44 _ _ rfl w4.heap.size rfl rfl Z5 (zeros_size _ _) Try.ar44 hyl ?_; (try simp only [Act.put, List.setIfInBounds_toArray, List.set_cons_zero, List.set_cons_succ, World.size_alloc, setRow_size, Nat.add_assoc, Nat.reduceAdd])) | (refine wpList_store_ints (k := .u32) (xs := OL) rfl 44 _ _ rfl (w4.heap.size + 1) rfl hone.out Q5 (zeros_size _ _) Try.ar44 hol ?_; (try simp only [Act.put, List.setIfInBounds_toArray, List.set_cons_zero, List.set_cons_succ, World.size_alloc, setRow_size, Nat.add_assoc, Nat.reduceAdd])))
    generalize (((((w4.alloc (.cells (ints .u32 (zeros 5)) 44)).setRow w4.heap.size (ints .u32 YL)).alloc (.cells (ints .u32 (zeros 5)) 44))).setRow (w4.heap.size + 1) (ints .u32 OL)) = w6 at *
    clear Z5 hb4 hb34 hz3 hb3 B0 B1 Z1 hbel Q5 Y5 C5 S5
    have hgy : w.heap.size + 1 < w4.heap.size := by omega
    generalize w4.heap.size = gy at *
    obtain ⟨r, HR⟩ : ∃ r, Hid (byN key = r) := ⟨_, Lib.hid rfl⟩
    rw [HR.out] at HYL HEND
    obtain rfl := HYL.out
    obtain rfl := HOL.out
    have hx16I : Hid (∀ p, p < n → (xss.getD p []).length = 16 ∧ (∀ x ∈ xss.getD p [], x < 256) ∧ chunkN xss.flatten p = ofN (xss.getD p []) 1) := Lib.hid fun p hp => by
      have hp' : p < xss.length := by rw [HN.out]; exact hp
      refine ⟨getD_prop (p := fun l => l.length = 16) hx16 hp', getD_prop (p := fun l => ∀ x ∈ l, x < 256) hx8 hp', ?_⟩
      rw [chunk_whole (by rw [HFL.out]; omega), blk_flat hx16 p hp']
    go_loopw [9] (fun t wr => ∃ i : Nat, i ≤ n ∧ t = .int .i64 ((i : Int) - 1) ∧ Blk wr w.heap.size 22 (ints .u8 key) ∧ Blk wr (w.heap.size + 1) 44 (ints .u32 (numOf (sumP r xss.flatten n (n - i)))) ∧ Blk wr gy 44 (ints .u32 (numOf r)) ∧ Blk wr (gy + 1) 44 (ints .u32 (numOf (r ^ (n - i)))) ∧ Below w.heap.size w wr) (fun t wr => (intOf t + 1).toNat)
    case atStart => exact ⟨n, by omega, rfl, C6, by rw [Nat.sub_self, show numOf (sumP r xss.flatten n 0) = zeros 5 from (by show numOf 0 = zeros 5; decide)]; exact S6, Y6, by rw [Nat.sub_self]; exact Q6, hbel6⟩
    case round =>
      obtain ⟨i, hi, rfl, D0, D1, D2, D3, hbelr⟩ := hrel
      clear C6 S6 Y6 Q6 hbel6
      by_cases h0 : i = 0
      · subst h0
        rw [Nat.sub_zero] at D1 D3
        rw [show (((0 : Nat) : Int) - 1) = -1 by omega]
        have hsl1 := numOf_len (sumP r xss.flatten n n)
        have hw6 : w.heap.size + 2 ≤ gy := by omega
        go_wp2
        go_loopw [5, 10] (fun v t wr => ∃ i : Nat, i ≤ n ∧ t = .int .i64 (i : Int) ∧ Own wr (gy + 2) 5 .u8 v ((xss.take i).flatten) ∧ gy + 2 ≤ wr.heap.size ∧ Blk wr w.heap.size 22 (ints .u8 key) ∧ Blk wr (w.heap.size + 1) 44 (ints .u32 (numOf (sumP r xss.flatten n n))) ∧ Below w.heap.size w wr) (fun v t wr => n - (intOf t).toNat)
        case atStart => exact ⟨0, by omega, rfl, Own.nil _ _ _ _, by have := D3.lt; omega, D0, D1, hbelr⟩
        case round =>
          obtain ⟨i, hi, rfl, hown, hgs, E0, E1, hbelx⟩ := hrel
          clear D0 D1 D2 D3 hbelr
          by_cases hlt : i < n
          · have hlx : i < xss.length := by rw [HN.out]; exact hlt
            obtain ⟨g, off, rfl, hg, hr⟩ := (hs0.below hbelx) i hlx
            obtain ⟨hxi, hxi8, -⟩ := hx16I.out i hlt
            have Hfs := Lib.hid (flat_succ hlx)
            have hsl := range_sl hg hr
            have hln : (xss.take i).flatten.length + (xss.getD i []).length < 2 ^ 40 := by
              rw [hxi, flat16 (fun y hy => hx16 y (List.mem_of_mem_take hy)), List.length_take]; omega
            have hd1 : decide ((i : Int) < (n : Int)) = true := by simp; omega
            generalize xss.getD i [] = xi at *
            generalize (xss.take i).flatten = zs at *
            go_wp2_with (refine wpList_append_sl (zs := xi) rfl rfl Try.underlying30 Try.inf8 rfl (by omega) rfl hown rfl hxi.symm (fun h => by cases h) hsl hln hgs ?_; intro v2 w2 hown2 hgr; have hbel2 := bGrown hbelx hgr (by omega) hown (by omega); have F0 := E0.grownOwn hgr hown (by omega); have F1 := E1.grownOwn hgr hown (by omega); have hz2 := hgr.size; (try simp only [Act.put, List.setIfInBounds_toArray, List.set_cons_zero, List.set_cons_succ, World.size_alloc, setRow_size, Nat.add_assoc, Nat.reduceAdd]))
            exact ⟨⟨i + 1, by omega, by go_num, by rw [Hfs.out]; exact hown2, by omega, F0, F1, hbel2⟩, by simp [intOf] <;> omega⟩
          · obtain rfl : i = n := by omega
            have hd1 : decide ((i : Int) < (i : Int)) = false := by simp
            have he : xss.take i = xss := List.take_of_length_le (by rw [HN.out]; omega)
            rw [he] at hown
            have hf31 : xss.flatten.length < 2 ^ 31 := by rw [HFL.out]; omega
            have L1 := Lib.hid fun W (hW : Below wr.heap.size wr W) => valOwn8 hl hb hfb hf31 (hown.below hW)
            clear he
            go_wp2
            refine wp_region_below (by kernel_rfl) (by kernel_rfl) ?_
            refine quiet_load rfl rfl rfl E0 Try.ar22 hl ?_
            (try simp only [Act.put, List.setIfInBounds_toArray, List.set_cons_zero, List.set_cons_succ, World.size_alloc, setRow_size, Nat.add_assoc, Nat.reduceAdd])
            refine quiet_move rfl rfl rfl ?_
            (try simp only [Act.put, List.setIfInBounds_toArray, List.set_cons_zero, List.set_cons_succ, World.size_alloc, setRow_size, Nat.add_assoc, Nat.reduceAdd])
            refine quiet_call 27 rfl rfl Try.func27 (by kernel_rfl) (by kernel_rfl) (fun W hQ => L1.out W hQ) ?_
            (try simp only [Act.put, List.setIfInBounds_toArray, List.set_cons_zero, List.set_cons_succ, World.size_alloc, setRow_size, Nat.add_assoc, Nat.reduceAdd])
            refine quiet_load rfl rfl rfl E1 Try.ar44 hsl1 ?_
            (try simp only [Act.put, List.setIfInBounds_toArray, List.set_cons_zero, List.set_cons_succ, World.size_alloc, setRow_size, Nat.add_assoc, Nat.reduceAdd])
            refine quiet_eql rfl rfl rfl rfl Try.eg8n (n8eq _ _ (numOf_len _) HEND.out) ?_
            (try simp only [Act.put, List.setIfInBounds_toArray, List.set_cons_zero, List.set_cons_succ, World.size_alloc, setRow_size, Nat.add_assoc, Nat.reduceAdd])
            refine quiet_move rfl rfl rfl ?_
            (try simp only [Act.put, List.setIfInBounds_toArray, List.set_cons_zero, List.set_cons_succ, World.size_alloc, setRow_size, Nat.add_assoc, Nat.reduceAdd])
            refine quiet_call 24 rfl rfl Try.func24 (by kernel_rfl) (by kernel_rfl) (fun W hQ => awake8_c W) ?_
            (try simp only [Act.put, List.setIfInBounds_toArray, List.set_cons_zero, List.set_cons_succ, World.size_alloc, setRow_size, Nat.add_assoc, Nat.reduceAdd])
            refine quiet_pickt (by rfl) (by rfl) (by rfl) (by rfl) (by rfl) ?_
            (try simp only [Act.put, List.setIfInBounds_toArray, List.set_cons_zero, List.set_cons_succ, World.size_alloc, setRow_size, Nat.add_assoc, Nat.reduceAdd])
            refine quiet_assign rfl rfl rfl ?_
            (try simp only [Act.put, List.setIfInBounds_toArray, List.set_cons_zero, List.set_cons_succ, World.size_alloc, setRow_size, Nat.add_assoc, Nat.reduceAdd])
            refine wpQuiet_nil ?_
            intro w' hw'
            go_wp2
            go_ret
            exact ⟨rfl, bCall hbelx hw' hbelx.size⟩
      · obtain ⟨p, rfl⟩ : ∃ p, i = p + 1 := ⟨i - 1, by omega⟩
        rw [show (((p + 1 : Nat) : Int) - 1) = (p : Int) by omega]
        have hpn : p < n := by omega
        have hlx : p < xss.length := by rw [HN.out]; exact hpn
        obtain ⟨g, off, rfl, hg, hr⟩ := (hs0.below hbelr) p hlx
        obtain ⟨hxi, hxi8, hxc⟩ := hx16I.out p hpn
        obtain ⟨j, Hj⟩ : ∃ j, Hid (n - (p + 1) = j) := ⟨_, Lib.hid rfl⟩
        have Hj1 : Hid (n - p = j + 1) := Lib.hid (by have := Hj.out; omega)
        rw [Hj.out] at D1 D3
        have HSUM := Lib.hid (show sumP r xss.flatten n (j + 1) = sumP r xss.flatten n j + ofN (xss.getD p []) 1 * r ^ (j + 1) by
          rw [← hxc, show p = n - 1 - j by have := Hj.out; omega]; rfl)
        have HR0 := fun W (hW : Below w.heap.size w W) => (hs0.below hW) p hlx
        have HSR := Lib.hid HR0
        clear hxc HR0
        obtain ⟨xi, HX⟩ : ∃ xi, Hid (xss.getD p [] = xi) := ⟨_, Lib.hid rfl⟩
        rw [HX.out] at hxi hxi8 HSUM HSR hr
        obtain ⟨S, HS⟩ : ∃ S, Hid (sumP r xss.flatten n j = S) := ⟨_, Lib.hid rfl⟩
        rw [HS.out] at D1 HSUM
        have hql := numOf_len (r ^ j)
        have hql' := numOf_len (r ^ (j + 1))
        have hsl := numOf_len S
        have hgyl := D2.lt
        go_wp2_with (first | (refine wpList_load_ints rfl 44 _ rfl (gy + 1) rfl D3 Try.ar44 hql ?_; (try simp only [Act.put, List.setIfInBounds_toArray, List.set_cons_zero, List.set_cons_succ, World.size_alloc, setRow_size, Nat.add_assoc, Nat.reduceAdd])) | (refine wpList_load_ints rfl 44 _ rfl gy rfl D2 Try.ar44 hyl ?_; (try simp only [Act.put, List.setIfInBounds_toArray, List.set_cons_zero, List.set_cons_succ, World.size_alloc, setRow_size, Nat.add_assoc, Nat.reduceAdd])))
        refine (times_c _ _ hql (lt32 _) hyl (lt32 _) _).mono ?_
        rintro e w7 ⟨rfl, hb7⟩
        rw [lin8_pow]
        have E3' := D3.below' hb7
        have E3 := E3'.row (ints .u32 (numOf (r ^ (j + 1))))
        have E0 := (D0.below' hb7).rowFar (show w.heap.size ≠ gy + 1 by omega) (ints .u32 (numOf (r ^ (j + 1))))
        have E1 := (D1.below' hb7).rowFar (show w.heap.size + 1 ≠ gy + 1 by omega) (ints .u32 (numOf (r ^ (j + 1))))
        have E2 := (D2.below' hb7).rowFar (show gy ≠ gy + 1 by omega) (ints .u32 (numOf (r ^ (j + 1))))
        have hbel7 := bSetRow (bCall hbelr hb7 hbelr.size) (show w.heap.size ≤ gy + 1 by omega) (ints .u32 (numOf (r ^ (j + 1))))
        go_wp2_with (refine wpList_store_ints (k := .u32) (xs := numOf (r ^ (j + 1))) rfl 44 _ _ rfl (gy + 1) rfl rfl E3' (by rw [ints_size, hql]) Try.ar44 hql' ?_; (try simp only [Act.put, List.setIfInBounds_toArray, List.set_cons_zero, List.set_cons_succ, World.size_alloc, setRow_size, Nat.add_assoc, Nat.reduceAdd]))
        generalize (w7.setRow (gy + 1) (ints .u32 (numOf (r ^ (j + 1))))) = w8 at *
        have hrw : ∀ W, Below w8.heap.size w8 W → W.rangeAt g (off + p * 16) (vals .u8 xi) := fun W hW => by
          obtain ⟨g2, off2, q1, -, q3⟩ := HSR.out W (bCall hbel7 hW hbel7.size)
          cases q1
          exact q3
        refine wp_region_last2 9 (by kernel_rfl) (by kernel_rfl) (by kernel_rfl) (by kernel_rfl) (fun D act_ W => ∃ u28 u29 u30 u31 u32 u33 u34 u35 u36 : Value, act_ = { tmps := #[Value.agg (ints IntKind.u8 key), Value.slice (some { block := g, off := off }) n c, Value.pointer (some { block := w.heap.size, off := 0 }), undef, Value.bool false, Value.slice none 0 0, Value.pointer (some { block := w.heap.size + 1, off := 0 }), Value.pointer (some { block := gy, off := 0 }), Value.pointer (some { block := gy + 1, off := 0 }), Value.int IntKind.i64 ↑p, undef, Value.slice (some { block := g, off := off }) n c, Value.int IntKind.i64 ↑n, Value.bool false, Value.agg (ints IntKind.u8 key), Value.agg (ints IntKind.u8 (clampL key)), Value.agg (ints IntKind.u32 (numOf r)), Value.agg #[Value.int IntKind.u32 1, Value.int IntKind.u32 0, Value.int IntKind.u32 0, Value.int IntKind.u32 0, Value.int IntKind.u32 0], Value.slice (some { block := g, off := off }) n c, Value.int IntKind.i64 ↑n, Value.int IntKind.i64 (↑n - 1), Value.int IntKind.i64 ↑p, Value.bool true, u23, u24, Value.agg (ints IntKind.u32 (numOf (r ^ j))), Value.agg (ints IntKind.u32 (numOf r)), Value.agg (ints IntKind.u32 (numOf (r ^ (j + 1)))), u28, u29, u30, u31, u32, u33, u34, u35, u36, undef, undef, undef, undef, undef, undef, undef, undef, undef, undef, undef, undef, undef, undef, undef, undef, undef, undef, undef, undef], defers := [] } ∧ Below w8.heap.size w8 W ∧ (D 0 → u28 = .agg (ints .u32 (numOf S))) ∧ (D 1 → u29 = .slice (some ⟨g, off, none⟩) n c) ∧ (D 2 → u30 = .int .i64 (p : Int)) ∧ (D 3 → u31 = .pointer (some ⟨g, off + p * 16, none⟩)) ∧ (D 4 → u32 = .agg (ints .u8 xi)) ∧ (D 5 → u33 = .agg (ints .u32 (numOf (ofN xi 1)))) ∧ (D 6 → u34 = .agg (ints .u32 (numOf (r ^ (j + 1))))) ∧ (D 7 → u35 = .agg (ints .u32 (numOf (val (numOf (ofN xi 1)) * val (numOf (r ^ (j + 1))))))) ∧ (D 8 → u36 = .agg (ints .u32 (numOf (val (numOf S) + val (numOf (val (numOf (ofN xi 1)) * val (numOf (r ^ (j + 1)))))))))) ?_ ?_ ?_
        · exact ⟨_, _, _, _, _, _, _, _, _, rfl, ⟨rfl, rfl, rfl, Nat.le_refl _, fun _ _ => rfl⟩, (fun h => h.elim), (fun h => h.elim), (fun h => h.elim), (fun h => h.elim), (fun h => h.elim), (fun h => h.elim), (fun h => h.elim), (fun h => h.elim), (fun h => h.elim)⟩
        · intro i o hilt hi D act_ W hI hnD hall
          obtain ⟨u28, u29, u30, u31, u32, u33, u34, u35, u36, rfl, hW, f0, f1, f2, f3, f4, f5, f6, f7, f8⟩ := hI
          rcases i with _ | _ | _ | _ | _ | _ | _ | _ | _ | i
          · simp only [Nat.zero_add, Nat.reduceAdd, List.getElem?_toArray, List.getElem?_cons_succ, List.getElem?_cons_zero, Option.some.injEq] at hi
            subst hi
            refine wpOp_load rfl rfl rfl rfl (E1.below' hW) Try.ar44 hsl ?_
            exact ⟨_, _, _, _, _, _, _, _, _, rfl, hW, (fun _ => rfl), (fun h => f1 (rl h)), (fun h => f2 (rl h)), (fun h => f3 (rl h)), (fun h => f4 (rl h)), (fun h => f5 (rl h)), (fun h => f6 (rl h)), (fun h => f7 (rl h)), (fun h => f8 (rl h))⟩
          · simp only [Nat.zero_add, Nat.reduceAdd, List.getElem?_toArray, List.getElem?_cons_succ, List.getElem?_cons_zero, Option.some.injEq] at hi
            subst hi
            refine wpOp_value (v := .slice (some ⟨g, off, none⟩) n c) rfl rfl rfl ?_
            exact ⟨_, _, _, _, _, _, _, _, _, rfl, hW, (fun h => f0 (rl h)), (fun _ => rfl), (fun h => f2 (rl h)), (fun h => f3 (rl h)), (fun h => f4 (rl h)), (fun h => f5 (rl h)), (fun h => f6 (rl h)), (fun h => f7 (rl h)), (fun h => f8 (rl h))⟩
          · simp only [Nat.zero_add, Nat.reduceAdd, List.getElem?_toArray, List.getElem?_cons_succ, List.getElem?_cons_zero, Option.some.injEq] at hi
            subst hi
            refine wpOp_value (v := .int .i64 (p : Int)) rfl rfl rfl ?_
            exact ⟨_, _, _, _, _, _, _, _, _, rfl, hW, (fun h => f0 (rl h)), (fun h => f1 (rl h)), (fun _ => rfl), (fun h => f3 (rl h)), (fun h => f4 (rl h)), (fun h => f5 (rl h)), (fun h => f6 (rl h)), (fun h => f7 (rl h)), (fun h => f8 (rl h))⟩
          · simp only [Nat.zero_add, Nat.reduceAdd, List.getElem?_toArray, List.getElem?_cons_succ, List.getElem?_cons_zero, Option.some.injEq] at hi
            subst hi
            obtain rfl := f1 (pre_of hall 1 rfl)
            obtain rfl := f2 (pre_of hall 2 rfl)
            refine wpOp_value (v := .pointer (some ⟨g, off + p * 16, none⟩)) rfl rfl (run_idxSl rfl rfl rfl hpn Try.underlying58 (by kernel_rfl)) ?_
            exact ⟨_, _, _, _, _, _, _, _, _, rfl, hW, (fun h => f0 (rl h)), (fun h => f1 (rl h)), (fun h => f2 (rl h)), (fun _ => rfl), (fun h => f4 (rl h)), (fun h => f5 (rl h)), (fun h => f6 (rl h)), (fun h => f7 (rl h)), (fun h => f8 (rl h))⟩
          · simp only [Nat.zero_add, Nat.reduceAdd, List.getElem?_toArray, List.getElem?_cons_succ, List.getElem?_cons_zero, Option.some.injEq] at hi
            subst hi
            obtain rfl := f3 (pre_of hall 3 rfl)
            refine wpOp_value (v := .agg (ints .u8 xi)) rfl rfl (run_loadRange rfl rfl (hrw W hW) Try.ar22 hxi) ?_
            exact ⟨_, _, _, _, _, _, _, _, _, rfl, hW, (fun h => f0 (rl h)), (fun h => f1 (rl h)), (fun h => f2 (rl h)), (fun h => f3 (rl h)), (fun _ => rfl), (fun h => f5 (rl h)), (fun h => f6 (rl h)), (fun h => f7 (rl h)), (fun h => f8 (rl h))⟩
          · simp only [Nat.zero_add, Nat.reduceAdd, List.getElem?_toArray, List.getElem?_cons_succ, List.getElem?_cons_zero, Option.some.injEq] at hi
            subst hi
            obtain rfl := f4 (pre_of hall 4 rfl)
            refine wpOp_call 28 rfl rfl rfl Try.func28 (by kernel_rfl) (by kernel_rfl) (of_c xi hxi hxi8 1 (by omega) W) ?_
            intro W' hW'
            exact ⟨_, _, _, _, _, _, _, _, _, rfl, bCall hW hW' hW.size, (fun h => f0 (rl h)), (fun h => f1 (rl h)), (fun h => f2 (rl h)), (fun h => f3 (rl h)), (fun h => f4 (rl h)), (fun _ => rfl), (fun h => f6 (rl h)), (fun h => f7 (rl h)), (fun h => f8 (rl h))⟩
          · simp only [Nat.zero_add, Nat.reduceAdd, List.getElem?_toArray, List.getElem?_cons_succ, List.getElem?_cons_zero, Option.some.injEq] at hi
            subst hi
            refine wpOp_load rfl rfl rfl rfl (E3.below' hW) Try.ar44 hql' ?_
            exact ⟨_, _, _, _, _, _, _, _, _, rfl, hW, (fun h => f0 (rl h)), (fun h => f1 (rl h)), (fun h => f2 (rl h)), (fun h => f3 (rl h)), (fun h => f4 (rl h)), (fun h => f5 (rl h)), (fun _ => rfl), (fun h => f7 (rl h)), (fun h => f8 (rl h))⟩
          · simp only [Nat.zero_add, Nat.reduceAdd, List.getElem?_toArray, List.getElem?_cons_succ, List.getElem?_cons_zero, Option.some.injEq] at hi
            subst hi
            obtain rfl := f5 (pre_of hall 5 rfl)
            obtain rfl := f6 (pre_of hall 6 rfl)
            refine wpOp_call 29 rfl rfl rfl Try.func29 (by kernel_rfl) (by kernel_rfl) (times_c _ _ (numOf_len _) (lt32 _) (numOf_len _) (lt32 _) W) ?_
            intro W' hW'
            exact ⟨_, _, _, _, _, _, _, _, _, rfl, bCall hW hW' hW.size, (fun h => f0 (rl h)), (fun h => f1 (rl h)), (fun h => f2 (rl h)), (fun h => f3 (rl h)), (fun h => f4 (rl h)), (fun h => f5 (rl h)), (fun h => f6 (rl h)), (fun _ => rfl), (fun h => f8 (rl h))⟩
          · simp only [Nat.zero_add, Nat.reduceAdd, List.getElem?_toArray, List.getElem?_cons_succ, List.getElem?_cons_zero, Option.some.injEq] at hi
            subst hi
            obtain rfl := f0 (pre_of hall 0 rfl)
            obtain rfl := f7 (pre_of hall 7 rfl)
            refine wpOp_call 30 rfl rfl rfl Try.func30 (by kernel_rfl) (by kernel_rfl) (plus_c _ _ (numOf_len _) (lt32 _) (numOf_len _) (lt32 _) W) ?_
            intro W' hW'
            exact ⟨_, _, _, _, _, _, _, _, _, rfl, bCall hW hW' hW.size, (fun h => f0 (rl h)), (fun h => f1 (rl h)), (fun h => f2 (rl h)), (fun h => f3 (rl h)), (fun h => f4 (rl h)), (fun h => f5 (rl h)), (fun h => f6 (rl h)), (fun h => f7 (rl h)), (fun _ => rfl)⟩
          · exfalso; omega
        · rintro D act_ W ⟨u28, u29, u30, u31, u32, u33, u34, u35, u36, rfl, hW, f0, f1, f2, f3, f4, f5, f6, f7, f8⟩ hall
          obtain rfl := f0 (hall 0 (by decide))
          obtain rfl := f1 (hall 1 (by decide))
          obtain rfl := f2 (hall 2 (by decide))
          obtain rfl := f3 (hall 3 (by decide))
          obtain rfl := f4 (hall 4 (by decide))
          obtain rfl := f5 (hall 5 (by decide))
          obtain rfl := f6 (hall 6 (by decide))
          obtain rfl := f7 (hall 7 (by decide))
          obtain rfl := f8 (hall 8 (by decide))
          clear f0 f1 f2 f3 f4 f5 f6 f7 f8 hall
          rw [lin8_sum, ← HSUM.out]
          have F1 := E1.below' hW
          have G1 := F1.row (ints .u32 (numOf (sumP r xss.flatten n (j + 1))))
          have G0 := (E0.below' hW).rowFar (show w.heap.size ≠ w.heap.size + 1 by omega) (ints .u32 (numOf (sumP r xss.flatten n (j + 1))))
          have G2 := (E2.below' hW).rowFar (show gy ≠ w.heap.size + 1 by omega) (ints .u32 (numOf (sumP r xss.flatten n (j + 1))))
          have G3 := (E3.below' hW).rowFar (show gy + 1 ≠ w.heap.size + 1 by omega) (ints .u32 (numOf (sumP r xss.flatten n (j + 1))))
          have hbel9 := bSetRow (bCall hbel7 hW hbel7.size) (show w.heap.size ≤ w.heap.size + 1 by omega) (ints .u32 (numOf (sumP r xss.flatten n (j + 1))))
          refine wpOp_store rfl rfl rfl rfl rfl F1 ((ints_size _ _).trans hsl) Try.ar44 (numOf_len _) ?_
          go_wp2
          exact ⟨⟨p, by omega, rfl, G0, by rw [Hj1.out]; exact G1, G2, by rw [Hj1.out]; exact G3, hbel9⟩, by simp [intOf] <;> omega⟩
  · have hd0 : decide ((xss.length : Int) > 10) = true := by simp; omega
    go_enter Try.func9, Try.ntmps9
    go_wp2
    go_ret
    exact ⟨rfl, hbel0⟩
end Go.Proofs.Ytppideomehdhjaa
