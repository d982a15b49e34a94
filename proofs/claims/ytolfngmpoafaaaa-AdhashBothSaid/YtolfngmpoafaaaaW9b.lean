/- What the reference of layer 9 answers: the hash; the words of a key. No condition but that the rows are no longer than a slice may be. -/
import Derived.Test.YtolfngmpoafaaaaW9
namespace Go.Proofs.Ytolfngmpoafaaaa
set_option linter.unusedSimpArgs false
set_option linter.unusedVariables false
set_option linter.unusedSectionVars false
set_option linter.unusedVariables false
open Go.RowKit
theorem nhB_len (W bs : List Nat) (p : Nat) : (nhB W bs p).length = 8 := by simp [nhB]
theorem nhH_len (W bs : List Nat) : (nhH W bs).length = 32 := by simp [nhH, nhB_len]
theorem nhOut_len (W bs : List Nat) : (nhOut W bs).length = 32 := by unfold nhOut; split; exact nhH_len W bs; simp
theorem nhH_getD (W bs : List Nat) (p i : Nat) (hp : p < 4) (hi : i < 8) : (nhH W bs).getD (8 * p + i) 0 = (nhB W bs p).getD i 0 := by
  have h0 := nhB_len W bs 0
  have h1 := nhB_len W bs 1
  have h2 := nhB_len W bs 2
  have h3 := nhB_len W bs 3
  unfold nhH
  simp only [List.getD_eq_getElem?_getD]
  rcases p with _ | _ | _ | _ | p
  · rw [List.getElem?_append_left (by omega), show 8 * 0 + i = i by omega]
  · rw [List.getElem?_append_right (by omega), List.getElem?_append_left (by omega), h0, show 8 * (0 + 1) + i - 8 = i by omega]
  · rw [List.getElem?_append_right (by omega), List.getElem?_append_right (by omega), List.getElem?_append_left (by omega), h0, h1, show 8 * (0 + 1 + 1) + i - 8 - 8 = i by omega]
  · rw [List.getElem?_append_right (by omega), List.getElem?_append_right (by omega), List.getElem?_append_right (by omega), h0, h1, h2, show 8 * (0 + 1 + 1 + 1) + i - 8 - 8 - 8 = i by omega]
  · omega
set_option maxRecDepth 100000 in
set_option maxHeartbeats 4000000 in
theorem rhash_c (aw ab : Option Addr) (cw cb : Nat) (W bs : List Nat) (hb : ∀ x ∈ bs, x < 256) (hW : ∀ x ∈ W, x < 4294967296) (hlb : bs.length < 2 ^ 40) (hlW : W.length < 2 ^ 40) (w : World) (hsw : Sl w aw .u32 W) (hsb : Sl w ab .u8 bs) :
    Calls Try.prog 38 #[.slice aw W.length cw, .slice ab bs.length cb] w fun e w' => e = .returned (.tuple #[.agg (ints .u8 (nhOut W bs)), .int .i64 (nhErr W bs : Nat)]) ∧ Below w.heap.size w w' := by
  have Z0 := (Blk.new w 47 (ints .u8 (zeros 32))).alloc (.cells (ints .u8 (zeros 32)) 47)
  have Z1 := Blk.new (w.alloc (.cells (ints .u8 (zeros 32)) 47)) 47 (ints .u8 (zeros 32))
  rw [World.size_alloc] at Z1
  have hbel := ((Below.refl w.heap.size w).alloc (Nat.le_refl _) (.cells (ints .u8 (zeros 32)) 47)).alloc (by simp) (.cells (ints .u8 (zeros 32)) 47)
  have hbelz := bSetRow hbel (Nat.le_refl w.heap.size) (ints .u8 (zeros 32))
  have ZR := Z0.row (ints .u8 (zeros 32))
  by_cases h1 : 1024 < bs.length
  · have e1 : nhErr W bs = 6 := by simp [nhErr, h1]
    have e2 : nhOut W bs = zeros 32 := by simp [nhOut, e1, zeros]
    rw [e1, e2]
    clear e1 e2
    go_enter Try.func38, Try.ntmps38
    go_wp2_with (first | (refine wpList_alloc_ints rfl 47 rfl Try.z47 ?_; (try simp only [Act.put, List.setIfInBounds_toArray, List.set_cons_zero, List.set_cons_succ, World.size_alloc, setRow_size, Nat.add_assoc, Nat.reduceAdd])) | (refine wpList_load_ints rfl 47 _ rfl (w.heap.size + 1) rfl Z1 Try.ar47 (zeros_len _) ?_; (try simp only [Act.put, List.setIfInBounds_toArray, List.set_cons_zero, List.set_cons_succ, World.size_alloc, setRow_size, Nat.add_assoc, Nat.reduceAdd])) | (refine wpList_store_ints rfl 47 _ _ rfl w.heap.size rfl rfl Z0 (zeros_size _ _) Try.ar47 (zeros_len _) ?_; (try simp only [Act.put, List.setIfInBounds_toArray, List.set_cons_zero, List.set_cons_succ, World.size_alloc, setRow_size, Nat.add_assoc, Nat.reduceAdd])))
    exact ret_ints_tmp rfl rfl rfl ZR Try.ar47 (zeros_len _) ⟨rfl, hbelz⟩
  · by_cases h2 : bs.length % 16 = 0
    · by_cases h3 : W.length < bs.length / 4 + 12
      · have e1 : nhErr W bs = 2 := by simp [nhErr, h1, h2, h3]
        have e2 : nhOut W bs = zeros 32 := by simp [nhOut, e1, zeros]
        rw [e1, e2]
        clear e1 e2
        go_enter Try.func38, Try.ntmps38
        go_wp2_with (first | (refine wpList_alloc_ints rfl 47 rfl Try.z47 ?_; (try simp only [Act.put, List.setIfInBounds_toArray, List.set_cons_zero, List.set_cons_succ, World.size_alloc, setRow_size, Nat.add_assoc, Nat.reduceAdd])) | (refine wpList_load_ints rfl 47 _ rfl (w.heap.size + 1) rfl Z1 Try.ar47 (zeros_len _) ?_; (try simp only [Act.put, List.setIfInBounds_toArray, List.set_cons_zero, List.set_cons_succ, World.size_alloc, setRow_size, Nat.add_assoc, Nat.reduceAdd])) | (refine wpList_store_ints rfl 47 _ _ rfl w.heap.size rfl rfl Z0 (zeros_size _ _) Try.ar47 (zeros_len _) ?_; (try simp only [Act.put, List.setIfInBounds_toArray, List.set_cons_zero, List.set_cons_succ, World.size_alloc, setRow_size, Nat.add_assoc, Nat.reduceAdd])))
        exact ret_ints_tmp rfl rfl rfl ZR Try.ar47 (zeros_len _) ⟨rfl, hbelz⟩
      · have e1 : nhErr W bs = 0 := by simp [nhErr, h1, h2, h3]
        have e2 : nhOut W bs = nhH W bs := by simp [nhOut, e1]
        rw [e1, e2]
        clear e1 e2
        have hH := nhH_len W bs
        have h3i : ¬ (W.length : Int) < (bs.length : Int) / 4 + 12 := by omega
        go_enter Try.func38, Try.ntmps38
        go_wp2_with (first | (refine wpList_alloc_ints rfl 47 rfl Try.z47 ?_; (try simp only [Act.put, List.setIfInBounds_toArray, List.set_cons_zero, List.set_cons_succ, World.size_alloc, setRow_size, Nat.add_assoc, Nat.reduceAdd])))
        generalize ((w.alloc (.cells (ints .u8 (zeros 32)) 47)).alloc (.cells (ints .u8 (zeros 32)) 47)) = w0 at *
        clear ZR hbelz
        go_loopw [7] (fun t wr => ∃ p : Nat, p ≤ 4 ∧ t = .int .i64 p ∧ Blk wr w.heap.size 47 (ints .u8 (zeros 32)) ∧ Blk wr (w.heap.size + 1) 47 (ints .u8 ((nhH W bs).take (8 * p) ++ zeros (32 - 8 * p))) ∧ Below w.heap.size w wr) (fun t wr => 4 - (intOf t).toNat)
        case atStart => exact ⟨0, by omega, rfl, Z0, Z1, hbel⟩
        case round =>
          rename_i hrel
          obtain ⟨p, hp, rfl, C0, C1, hbelr⟩ := hrel
          by_cases hlt : p < 4
          · have hs := nhS_lt W bs p (bs.length / 16)
            have hget := fun i hi => nhH_getD W bs p i hlt hi
            have Hget := Lib.hid hget
            clear hget
            go_wp2_with (fail)
            refine (pass_c aw ab cw cb W bs hb hW hlb hlW p (by omega) (by omega) _ (hsw.below hbelr) (hsb.below hbelr)).mono ?_
            rintro e w1 ⟨rfl, hb1⟩
            go_wp2_with (fail)
            refine (put_c _ 8 hs (by omega) w1).mono ?_
            rintro e w2 ⟨v, rfl, hown, hb2⟩
            have hown : Own w2 w1.heap.size 5 .u8 v (nhB W bs p) := hown
            have D0 := (C0.below' hb1).below' hb2
            have D1 := (C1.below' hb1).below' hb2
            have l1 := C1.lt
            have l2 := hb1.size
            have hbel2 := bCall (bCall hbelr hb1 hbelr.size) hb2 (Nat.le_trans hbelr.size hb1.size)
            clear C0 C1 hbelr hb1 hb2
            have hBl := nhB_len W bs p
            have hBb : ∀ x ∈ nhB W bs p, x < 256 := dig_lt (by omega) _ _
            obtain ⟨g, c', rfl, hg, -, hsl, hc1, hc2⟩ := hown.sl2 (by intro h; rw [h] at hBl; cases hBl)
            rw [hBl]
            have Hown := Lib.hid hown
            clear hown hs
            go_wp2
            go_loopw [9] (fun t wr => ∃ i : Nat, i ≤ 8 ∧ t = .int .i64 i ∧ Blk wr w.heap.size 47 (ints .u8 (zeros 32)) ∧ Blk wr (w.heap.size + 1) 47 (ints .u8 ((nhH W bs).take (8 * p + i) ++ zeros (32 - (8 * p + i)))) ∧ Sl wr (some ⟨g, 0, none⟩) .u8 (nhB W bs p) ∧ Below w.heap.size w wr) (fun t wr => 8 - (intOf t).toNat)
            case atStart => exact ⟨0, by omega, rfl, D0, D1, hsl, hbel2⟩
            case round =>
              rename_i hrel
              obtain ⟨i, hi, rfl, E0, E1, hsl, hbel3⟩ := hrel
              by_cases hli : i < 8
              · have c1 := hsl.eq (i := i) (by omega)
                rw [Nat.zero_add] at c1
                have hv := Hget.out i hli
                have hvl := getD_bound hBb (by omega) i
                generalize (nhB W bs p).getD i 0 = v at *
                have ht := take_set (n := 32) hH (by omega) hv
                have hlen : ((nhH W bs).take (8 * p + i) ++ zeros (32 - (8 * p + i))).length = 32 := by simp [zeros, hH]; omega
                have c2 := E1.int (i := 8 * p + i) (by omega)
                have z2 := E1.frozen (8 * p + i)
                have E1' := E1.intSet (8 * p + i) v
                rw [ht] at E1'
                have HE := Lib.hid E1'
                clear ht hlen hv E1'
                go_wp2
                exact ⟨⟨i + 1, by omega, by go_num, E0.far (by first | omega | (simp; done) | (simp; omega)) _, HE.out, hsl.far (by simp <;> omega) _, hbel3.setCell (by first | omega | (simp; done) | (simp; omega)) _⟩, by simp [intOf] <;> omega⟩
              · obtain rfl : i = 8 := by omega
                go_wp2
                exact ⟨⟨p + 1, by omega, by go_num, E0, E1, hbel3⟩, by simp [intOf] <;> omega⟩
          · obtain rfl : p = 4 := by omega
            have he : (nhH W bs).take (8 * 4) ++ zeros (32 - 8 * 4) = nhH W bs := by rw [List.take_of_length_le (by omega)]; simp [zeros]
            rw [he] at C1
            clear he
            go_wp2_with (first | (refine wpList_load_ints rfl 47 _ rfl (w.heap.size + 1) rfl C1 Try.ar47 hH ?_; (try simp only [Act.put, List.setIfInBounds_toArray, List.set_cons_zero, List.set_cons_succ, World.size_alloc, setRow_size, Nat.add_assoc, Nat.reduceAdd])) | (refine wpList_store_ints rfl 47 _ _ rfl w.heap.size rfl rfl C0 (zeros_size _ _) Try.ar47 hH ?_; (try simp only [Act.put, List.setIfInBounds_toArray, List.set_cons_zero, List.set_cons_succ, World.size_alloc, setRow_size, Nat.add_assoc, Nat.reduceAdd])))
            exact ret_ints_tmp rfl rfl rfl (C0.row _) Try.ar47 hH ⟨rfl, bSetRow hbelr (Nat.le_refl _) _⟩
    · have e1 : nhErr W bs = 5 := by simp [nhErr, h1, h2]
      have e2 : nhOut W bs = zeros 32 := by simp [nhOut, e1, zeros]
      rw [e1, e2]
      clear e1 e2
      go_enter Try.func38, Try.ntmps38
      go_wp2_with (first | (refine wpList_alloc_ints rfl 47 rfl Try.z47 ?_; (try simp only [Act.put, List.setIfInBounds_toArray, List.set_cons_zero, List.set_cons_succ, World.size_alloc, setRow_size, Nat.add_assoc, Nat.reduceAdd])) | (refine wpList_load_ints rfl 47 _ rfl (w.heap.size + 1) rfl Z1 Try.ar47 (zeros_len _) ?_; (try simp only [Act.put, List.setIfInBounds_toArray, List.set_cons_zero, List.set_cons_succ, World.size_alloc, setRow_size, Nat.add_assoc, Nat.reduceAdd])) | (refine wpList_store_ints rfl 47 _ _ rfl w.heap.size rfl rfl Z0 (zeros_size _ _) Try.ar47 (zeros_len _) ?_; (try simp only [Act.put, List.setIfInBounds_toArray, List.set_cons_zero, List.set_cons_succ, World.size_alloc, setRow_size, Nat.add_assoc, Nat.reduceAdd])))
      exact ret_ints_tmp rfl rfl rfl ZR Try.ar47 (zeros_len _) ⟨rfl, hbelz⟩
end Go.Proofs.Ytolfngmpoafaaaa
