/- The walk of PolyOne. No condition but that bytes are below 256. -/
import Derived.Test.YtppideomehdhjaaL8b
namespace Go.Proofs.Ytppideomehdhjaa
set_option linter.unusedSimpArgs false
set_option linter.unusedVariables false
set_option linter.unusedSectionVars false
set_option linter.unusedVariables false
open Go.RowKit
theorem one_set {part : List Nat} {k : Nat} (hl : part.length = 16) (hk : k < 16) : (part.take k ++ zeros (16 - k)).set k 1 = part.take k ++ [1] ++ zeros (15 - k) := by
  rw [List.set_append_right _ _ (by rw [List.length_take]; omega), List.length_take, Nat.min_eq_left (by omega), Nat.sub_self]
  unfold zeros
  rw [show 16 - k = (15 - k) + 1 by omega, List.replicate_succ, List.set_cons_zero, List.append_assoc]
  rfl
theorem one_val {key part : List Nat} {k : Nat} (hl : part.length = 16) (hk : k < 16) (h0 : k ≠ 0) : numOf (polyA key (part.take k)) = numOf (val (numOf (ofN (part.take k ++ [1] ++ zeros (15 - k)) 0)) * val (numOf (byN key))) := by
  have hlt : (part.take k).length = k := by rw [List.length_take]; omega
  have hA : polyA key (part.take k) = (0 % pp + chunkN (part.take k) 0) * byN key % pp := by
    unfold polyA
    rw [show chunks (part.take k).length = 0 + 1 by unfold chunks; omega]
    rfl
  have hC : chunkN (part.take k) 0 = le (part.take k ++ [1]) := by
    unfold chunkN blk
    rw [Nat.mul_zero, List.drop_zero, List.take_take, Nat.min_eq_right (by omega)]
  refine numOf_congr ?_
  rw [hA, hC, chunk_part, val_numOf, val_numOf, ← Nat.mul_mod, Nat.mod_mod, Nat.zero_mod, Nat.zero_add]
theorem one_whole {key part : List Nat} (hl : part.length = 16) : numOf (polyA key part) = numOf (val (numOf (ofN part 1)) * val (numOf (byN key))) := by
  have hA : polyA key part = (0 % pp + chunkN part 0) * byN key % pp := by
    unfold polyA
    rw [hl]
    rfl
  have hC : chunkN part 0 = ofN part 1 := by
    rw [chunk_whole (by omega)]
    unfold blk
    rw [Nat.mul_zero, List.drop_zero, List.take_of_length_le (by omega)]
  refine numOf_congr ?_
  rw [hA, hC, val_numOf, val_numOf, ← Nat.mul_mod, Nat.mod_mod, Nat.zero_mod, Nat.zero_add]
theorem hashP_nil (key : List Nat) : hashP key [] = zeros 16 := by unfold hashP; rw [polyA_nil, dig_zero]; rfl
section
variable {P : Program} {o : Oper} {a : Act} {w : World}
theorem run_sliceArrHi {T e len g off n : Nat} {x y : Operand} (ho : o.op = .slice T x none (some y) none) (hT : P.underlying T = some (.array len e)) (hx : a.eval x = .pointer (some ⟨g, off, none⟩)) (hy : a.eval y = .int .i64 (n : Int)) (hn : n ≤ len) (h0 : 0 < len) (hs : (P.info? e).map (·.size) = some 1) :
    (execOp a.eval o).run P w = .ok (.value (.slice (some ⟨g, off, none⟩) n len)) w := by
  obtain ⟨d, hd, hd1⟩ := Option.map_eq_some_iff.1 hs
  have hal : P.arrayLen T = len := by simp [Program.arrayLen, hT]
  have hel : P.elem T = e := by simp [Program.elem, hT]
  have hT' : P.underlying T = some (.array (P.arrayLen T) (P.elem T)) := by rw [hal, hel]; exact hT
  have hr := run_sliceAt_array_h (P := P) (w := w) T ⟨g, off, none⟩ hT' .i64 n (by omega) (by rw [hal]; omega)
  have hsz : (sizeOf (P.elem T)).run P w = .ok 1 w := by simp [sizeOf, typeInfo, hel, hd, hd1]
  rw [hsz, hal] at hr
  have hne : ¬ len = 0 := by omega
  unfold execOp
  simp only [ho, hx, hy, Option.map_some, Option.map_none, Sem.run_bind, Sem.run_pure, hr, Result.andThen_ok, slicedAt, Int.toNat_natCast, if_neg hne, Nat.zero_mul, Addr.add_mid, Nat.add_zero, Nat.sub_zero]
end
set_option maxRecDepth 100000 in
set_option maxHeartbeats 16000000 in
theorem polyOne_c (key part : List Nat) (n : Nat) (hl : key.length = 16) (hb : ∀ x ∈ key, x < 2 ^ 8) (hpl : part.length = 16) (hpb : ∀ x ∈ part, x < 2 ^ 8) (hn : n < 2 ^ 8) (w : World) :
    Calls Try.prog 7 #[.agg (ints .u8 key), .agg (ints .u8 part), .int .u8 (n : Int)] w fun e w' => e = .returned (.bool true) ∧ Below w.heap.size w w' := by
  have B0 := (Blk.new w 22 (ints .u8 key)).alloc (.cells (ints .u8 part) 22)
  have B1 := Blk.new (w.alloc (.cells (ints .u8 key) 22)) 22 (ints .u8 part)
  rw [World.size_alloc] at B1
  have hbel := ((Below.refl w.heap.size w).alloc (Nat.le_refl _) (.cells (ints .u8 key) 22)).alloc (by simp) (.cells (ints .u8 part) 22)
  obtain ⟨k, HK⟩ : ∃ k, Hid (n % 16 = k) := ⟨_, Lib.hid rfl⟩
  have hr : (n : Int) % 16 = (k : Int) := by have := HK.out; omega
  have hk16 : k < 16 := by rw [← HK.out]; omega
  have hw64 : IntKind.i64.wrap (k : Int) = (k : Int) := by rw [IntKind.wrap_i64]; omega
  have hof := fun W => of_c (clampL key) (clampL_len key) (clampL_lt hb) 0 (by omega) W
  go_enter Try.func7, Try.ntmps7
  go_wp2_with (refine wpList_load_ints rfl 22 _ rfl w.heap.size rfl B0 Try.ar22 hl ?_; (try simp only [Act.put, List.setIfInBounds_toArray, List.set_cons_zero, List.set_cons_succ, World.size_alloc, setRow_size, Nat.add_assoc, Nat.reduceAdd]))
  generalize ((w.alloc (.cells (ints .u8 key) 22)).alloc (.cells (ints .u8 part) 22)) = w1 at *
  have hl1 := B1.lt
  refine (clamp_c key hl hb _).mono ?_
  rintro e w3 ⟨rfl, hb3⟩
  have hz3 := hb3.size
  have hb3' := hb3
  go_wp2_with fail
  refine (hof _).mono ?_
  rintro e w4 ⟨rfl, hb4⟩
  rw [show ofN (clampL key) 0 = byN key from rfl]
  have hb34 := bCall hb3 hb4 hb3.size
  have hz4 := hb34.size
  have Z5 := Blk.new w4 44 (ints .u32 (zeros 5))
  have Y5 := (Z5.row (ints .u32 (numOf (byN key)))).alloc (.cells (ints .u8 (zeros 16)) 22)
  have C5 := (((B0.below' hb34).alloc (.cells (ints .u32 (zeros 5)) 44)).rowFar (show w.heap.size ≠ w4.heap.size by omega) (ints .u32 (numOf (byN key)))).alloc (.cells (ints .u8 (zeros 16)) 22)
  have P5 := (((B1.below' hb34).alloc (.cells (ints .u32 (zeros 5)) 44)).rowFar (show w.heap.size + 1 ≠ w4.heap.size by omega) (ints .u32 (numOf (byN key)))).alloc (.cells (ints .u8 (zeros 16)) 22)
  have O5 := Blk.new ((w4.alloc (.cells (ints .u32 (zeros 5)) 44)).setRow w4.heap.size (ints .u32 (numOf (byN key)))) 22 (ints .u8 (zeros 16))
  rw [setRow_size, World.size_alloc] at O5
  have hbel5 := (bSetRow ((bCall hbel hb34 hbel.size).alloc (by have := hbel.size; omega) (.cells (ints .u32 (zeros 5)) 44)) (show w.heap.size ≤ w4.heap.size by omega) (ints .u32 (numOf (byN key)))).alloc (by rw [setRow_size, World.size_alloc]; omega) (.cells (ints .u8 (zeros 16)) 22)
  have hyl := numOf_len (byN key)
  go_wp2_with (first | (refine wpList_alloc_ints rfl 44 rfl Try.z44 ?_; (try simp only [Act.put, List.setIfInBounds_toArray, List.set_cons_zero, List.set_cons_succ, World.size_alloc, setRow_size, Nat.add_assoc, Nat.reduceAdd])) | (refine wpList_alloc_ints rfl 22 rfl Try.z22 ?_; (try simp only [Act.put, List.setIfInBounds_toArray, List.set_cons_zero, List.set_cons_succ, World.size_alloc, setRow_size, Nat.add_assoc, Nat.reduceAdd])) | (refine wpList_store_ints (k := .u32) (xs := numOf (byN key)) rfl 44 _ _ rfl w4.heap.size rfl rfl Z5 (zeros_size _ _) Try.ar44 hyl ?_; (try simp only [Act.put, List.setIfInBounds_toArray, List.set_cons_zero, List.set_cons_succ, World.size_alloc, setRow_size, Nat.add_assoc, Nat.reduceAdd])))
  generalize (((w4.alloc (.cells (ints .u32 (zeros 5)) 44)).setRow w4.heap.size (ints .u32 (numOf (byN key)))).alloc (.cells (ints .u8 (zeros 16)) 22)) = w5 at *
  clear Z5 hb4 hb34 hz3 hb3 hb3' B0 B1 hbel
  generalize w4.heap.size = gy at *
  go_loopw [10] (fun t wr => ∃ j : Nat, j ≤ k ∧ t = .int .i64 (j : Int) ∧ Blk wr w.heap.size 22 (ints .u8 key) ∧ Blk wr (w.heap.size + 1) 22 (ints .u8 part) ∧ Blk wr gy 44 (ints .u32 (numOf (byN key))) ∧ Blk wr (gy + 1) 22 (ints .u8 (part.take j ++ zeros (16 - j))) ∧ Below w.heap.size w wr) (fun t wr => k - (intOf t).toNat)
  case atStart => exact ⟨0, by omega, rfl, C5, P5, Y5, by simpa using O5, hbel5⟩
  case round =>
    obtain ⟨j, hj, rfl, D0, D1, D2, D3, hbelr⟩ := hrel
    clear C5 P5 Y5 O5 hbel5
    have hol : (part.take j ++ zeros (16 - j)).length = 16 := by rw [List.length_append, List.length_take, zeros_len]; omega
    by_cases hlt : j < k
    · have hd0 : decide ((j : Int) < (k : Int)) = true := by simp; omega
      have c0 := D1.int (i := j) (by omega)
      have c3 := D3.int (i := j) (by omega)
      have z3 := D3.frozen j
      have D3' := D3.intSet j (part.getD j 0)
      rw [take_set hpl (by omega) rfl] at D3'
      have HD := Lib.hid D3'
      have vx := getD_bound hpb (by omega) j
      have hj16 : j < 16 := by omega
      clear D3' hol
      generalize part.getD j 0 = x at *
      go_wp2
      exact ⟨⟨j + 1, by omega, by go_num, D0.far (by first | omega | (simp; done) | (simp; omega)) _, D1.far (by first | omega | (simp; done) | (simp; omega)) _, D2.far (by first | omega | (simp; done) | (simp; omega)) _, HD.out, hbelr.setCell (by first | omega | (simp; done) | (simp; omega)) _⟩, by simp [intOf] <;> omega⟩
    · obtain rfl : j = k := by omega
      have hd0 : decide ((j : Int) < (j : Int)) = false := by simp
      have HS := Lib.hid (one_set hpl hk16)
      by_cases h0 : j = 0
      · subst h0
        have HQ := Lib.hid (one_whole (key := key) hpl)
        have hd1 : (((0 : Nat) : Int) == 0) = true := by simp
        go_wp2_with (refine wpList_store_one (k := .u8) (n := 1) rfl 5 _ _ rfl Try.one8s D3 0 rfl rfl (by rw [hol]; omega) ?_; intro w6 D6 F6; have E0 := F6.blk D0 (show w.heap.size ≠ gy + 1 by omega); have E1 := F6.blk D1 (show w.heap.size + 1 ≠ gy + 1 by omega); have E2 := F6.blk D2 (show gy ≠ gy + 1 by omega); have hbel6 := F6.below hbelr (show w.heap.size ≤ gy + 1 by omega); (try simp only [Act.put, List.setIfInBounds_toArray, List.set_cons_zero, List.set_cons_succ, World.size_alloc, setRow_size, Nat.add_assoc, Nat.reduceAdd]))
        have hsp : Sl w6 (some ⟨w.heap.size + 1, 0, none⟩) .u8 part := Sl.blk E1
        have H1 := Lib.hid fun W => hash8_c key [] hl hb (by simp) (by decide) none 0 (by decide) W (Sl.nil _ _ _)
        have H2 := Lib.hid fun W (h : Sl W (some ⟨w.heap.size + 1, 0, none⟩) .u8 part) => val8_c key part hl hb hpb (by omega) (some ⟨w.heap.size + 1, 0, none⟩) 16 (by omega) W h
        rw [hpl] at H2
        refine wp_region_below (by kernel_rfl) (by kernel_rfl) ?_
        refine quiet_load rfl rfl rfl E0 Try.ar22 hl ?_
        (try simp only [Act.put, List.setIfInBounds_toArray, List.set_cons_zero, List.set_cons_succ, World.size_alloc, setRow_size, Nat.add_assoc, Nat.reduceAdd])
        refine quiet_call 18 rfl rfl Try.func18 (by kernel_rfl) (by kernel_rfl) (fun W hQ => H1.out W) ?_
        (try simp only [Act.put, List.setIfInBounds_toArray, List.set_cons_zero, List.set_cons_succ, World.size_alloc, setRow_size, Nat.add_assoc, Nat.reduceAdd])
        refine quiet_run (v := .agg (ints .u8 (zeros 16))) rfl (fun W => by kernel_rfl) ?_
        (try simp only [Act.put, List.setIfInBounds_toArray, List.set_cons_zero, List.set_cons_succ, World.size_alloc, setRow_size, Nat.add_assoc, Nat.reduceAdd])
        refine quiet_eql rfl rfl rfl rfl Try.eg8b (b8eq _ _ (hashP_len _ _) (hashP_nil _)) ?_
        (try simp only [Act.put, List.setIfInBounds_toArray, List.set_cons_zero, List.set_cons_succ, World.size_alloc, setRow_size, Nat.add_assoc, Nat.reduceAdd])
        refine quiet_move rfl rfl rfl ?_
        (try simp only [Act.put, List.setIfInBounds_toArray, List.set_cons_zero, List.set_cons_succ, World.size_alloc, setRow_size, Nat.add_assoc, Nat.reduceAdd])
        refine quiet_load rfl rfl rfl E0 Try.ar22 hl ?_
        (try simp only [Act.put, List.setIfInBounds_toArray, List.set_cons_zero, List.set_cons_succ, World.size_alloc, setRow_size, Nat.add_assoc, Nat.reduceAdd])
        refine quiet_run (v := .slice (some ⟨w.heap.size + 1, 0, none⟩) 16 16) rfl (fun W => by kernel_rfl) ?_
        (try simp only [Act.put, List.setIfInBounds_toArray, List.set_cons_zero, List.set_cons_succ, World.size_alloc, setRow_size, Nat.add_assoc, Nat.reduceAdd])
        refine quiet_call 27 rfl rfl Try.func27 (by kernel_rfl) (by kernel_rfl) (fun W hQ => H2.out W (hsp.below hQ)) ?_
        (try simp only [Act.put, List.setIfInBounds_toArray, List.set_cons_zero, List.set_cons_succ, World.size_alloc, setRow_size, Nat.add_assoc, Nat.reduceAdd])
        refine quiet_load rfl rfl rfl E1 Try.ar22 hpl ?_
        (try simp only [Act.put, List.setIfInBounds_toArray, List.set_cons_zero, List.set_cons_succ, World.size_alloc, setRow_size, Nat.add_assoc, Nat.reduceAdd])
        refine quiet_call 28 rfl rfl Try.func28 (by kernel_rfl) (by kernel_rfl) (fun W hQ => of_c part hpl hpb 1 (by omega) W) ?_
        (try simp only [Act.put, List.setIfInBounds_toArray, List.set_cons_zero, List.set_cons_succ, World.size_alloc, setRow_size, Nat.add_assoc, Nat.reduceAdd])
        refine quiet_load rfl rfl rfl E2 Try.ar44 hyl ?_
        (try simp only [Act.put, List.setIfInBounds_toArray, List.set_cons_zero, List.set_cons_succ, World.size_alloc, setRow_size, Nat.add_assoc, Nat.reduceAdd])
        refine quiet_call 29 rfl rfl Try.func29 (by kernel_rfl) (by kernel_rfl) (fun W hQ => times_c _ _ (numOf_len _) (lt32 _) (numOf_len _) (lt32 _) W) ?_
        (try simp only [Act.put, List.setIfInBounds_toArray, List.set_cons_zero, List.set_cons_succ, World.size_alloc, setRow_size, Nat.add_assoc, Nat.reduceAdd])
        refine quiet_eql rfl rfl rfl rfl Try.eg8n (n8eq _ _ (numOf_len _) HQ.out) ?_
        (try simp only [Act.put, List.setIfInBounds_toArray, List.set_cons_zero, List.set_cons_succ, World.size_alloc, setRow_size, Nat.add_assoc, Nat.reduceAdd])
        refine quiet_pickt (by rfl) (by rfl) (by rfl) (by rfl) (by rfl) ?_
        (try simp only [Act.put, List.setIfInBounds_toArray, List.set_cons_zero, List.set_cons_succ, World.size_alloc, setRow_size, Nat.add_assoc, Nat.reduceAdd])
        refine quiet_move rfl rfl rfl ?_
        (try simp only [Act.put, List.setIfInBounds_toArray, List.set_cons_zero, List.set_cons_succ, World.size_alloc, setRow_size, Nat.add_assoc, Nat.reduceAdd])
        refine quiet_call 24 rfl rfl Try.func24 (by kernel_rfl) (by kernel_rfl) (fun W hQ => awake8_c W) ?_
        (try simp only [Act.put, List.setIfInBounds_toArray, List.set_cons_zero, List.set_cons_succ, World.size_alloc, setRow_size, Nat.add_assoc, Nat.reduceAdd])
        refine quiet_pickt (by rfl) (by rfl) (by rfl) (by rfl) (by rfl) ?_
        (try simp only [Act.put, List.setIfInBounds_toArray, List.set_cons_zero, List.set_cons_succ, World.size_alloc, setRow_size, Nat.add_assoc, Nat.reduceAdd])
        refine quiet_assign rfl rfl rfl ?_
        (try simp only [Act.put, List.setIfInBounds_toArray, List.set_cons_zero, List.set_cons_succ, World.size_alloc, setRow_size, Nat.add_assoc, Nat.reduceAdd])
        refine wpQuiet_nil ?_
        intro w' hw'
        go_wp2
        go_ret
        exact ⟨rfl, bCall hbel6 hw' hbel6.size⟩
      · have HQ := Lib.hid (one_val (key := key) hpl hk16 h0)
        have hd1 : ((j : Int) == 0) = false := by simp; omega
        have hlast : (part.take j ++ [1] ++ zeros (15 - j)).length = 16 := by simp [zeros_len]; omega
        have hlb : ∀ x ∈ part.take j ++ [1] ++ zeros (15 - j), x < 256 := fun x hx => by
          rcases List.mem_append.1 hx with hx | hx
          · rcases List.mem_append.1 hx with hx | hx
            · exact hpb x (List.mem_of_mem_take hx)
            · obtain rfl := List.mem_singleton.1 hx; omega
          · exact zeros_lt _ (by omega) x hx
        have hj16I : (j : Int) < 16 := by omega
        go_wp2_with (refine wpList_store_one (k := .u8) (n := 1) rfl 5 _ _ rfl Try.one8s D3 j rfl rfl (by rw [hol]; omega) ?_; intro w6 D6 F6; rw [HS.out] at D6; have E0 := F6.blk D0 (show w.heap.size ≠ gy + 1 by omega); have E1 := F6.blk D1 (show w.heap.size + 1 ≠ gy + 1 by omega); have E2 := F6.blk D2 (show gy ≠ gy + 1 by omega); have hbel6 := F6.below hbelr (show w.heap.size ≤ gy + 1 by omega); (try simp only [Act.put, List.setIfInBounds_toArray, List.set_cons_zero, List.set_cons_succ, World.size_alloc, setRow_size, Nat.add_assoc, Nat.reduceAdd]))
        have hsp : Sl w6 (some ⟨w.heap.size + 1, 0, none⟩) .u8 (part.take j) := (Sl.blk E1).take j
        have htl : (part.take j).length = j := by rw [List.length_take]; omega
        have H2 := Lib.hid fun W (h : Sl W (some ⟨w.heap.size + 1, 0, none⟩) .u8 (part.take j)) => val8_c key (part.take j) hl hb (fun x hx => hpb x (List.mem_of_mem_take hx)) (by omega) (some ⟨w.heap.size + 1, 0, none⟩) 16 (by omega) W h
        rw [htl] at H2
        obtain ⟨last, HL⟩ : ∃ last, Hid (part.take j ++ [1] ++ zeros (15 - j) = last) := ⟨_, Lib.hid rfl⟩
        rw [HL.out] at D6 hlast hlb HQ
        refine wp_region_below (by kernel_rfl) (by kernel_rfl) ?_
        refine quiet_load rfl rfl rfl E0 Try.ar22 hl ?_
        (try simp only [Act.put, List.setIfInBounds_toArray, List.set_cons_zero, List.set_cons_succ, World.size_alloc, setRow_size, Nat.add_assoc, Nat.reduceAdd])
        refine quiet_move rfl rfl rfl ?_
        (try simp only [Act.put, List.setIfInBounds_toArray, List.set_cons_zero, List.set_cons_succ, World.size_alloc, setRow_size, Nat.add_assoc, Nat.reduceAdd])
        refine quiet_run (v := .slice (some ⟨w.heap.size + 1, 0, none⟩) j 16) rfl (fun W => run_sliceArrHi rfl Try.underlying22 rfl rfl (by omega) (by omega) Try.s15) ?_
        (try simp only [Act.put, List.setIfInBounds_toArray, List.set_cons_zero, List.set_cons_succ, World.size_alloc, setRow_size, Nat.add_assoc, Nat.reduceAdd])
        refine quiet_call 27 rfl rfl Try.func27 (by kernel_rfl) (by kernel_rfl) (fun W hQ => H2.out W (hsp.below hQ)) ?_
        (try simp only [Act.put, List.setIfInBounds_toArray, List.set_cons_zero, List.set_cons_succ, World.size_alloc, setRow_size, Nat.add_assoc, Nat.reduceAdd])
        refine quiet_load rfl rfl rfl D6 Try.ar22 hlast ?_
        (try simp only [Act.put, List.setIfInBounds_toArray, List.set_cons_zero, List.set_cons_succ, World.size_alloc, setRow_size, Nat.add_assoc, Nat.reduceAdd])
        refine quiet_call 28 rfl rfl Try.func28 (by kernel_rfl) (by kernel_rfl) (fun W hQ => of_c last hlast hlb 0 (by omega) W) ?_
        (try simp only [Act.put, List.setIfInBounds_toArray, List.set_cons_zero, List.set_cons_succ, World.size_alloc, setRow_size, Nat.add_assoc, Nat.reduceAdd])
        refine quiet_load rfl rfl rfl E2 Try.ar44 hyl ?_
        (try simp only [Act.put, List.setIfInBounds_toArray, List.set_cons_zero, List.set_cons_succ, World.size_alloc, setRow_size, Nat.add_assoc, Nat.reduceAdd])
        refine quiet_call 29 rfl rfl Try.func29 (by kernel_rfl) (by kernel_rfl) (fun W hQ => times_c _ _ (numOf_len _) (lt32 _) (numOf_len _) (lt32 _) W) ?_
        (try simp only [Act.put, List.setIfInBounds_toArray, List.set_cons_zero, List.set_cons_succ, World.size_alloc, setRow_size, Nat.add_assoc, Nat.reduceAdd])
        refine quiet_eql rfl rfl rfl rfl Try.eg8n (n8eq _ _ (numOf_len _) HQ.out) ?_
        (try simp only [Act.put, List.setIfInBounds_toArray, List.set_cons_zero, List.set_cons_succ, World.size_alloc, setRow_size, Nat.add_assoc, Nat.reduceAdd])
        refine quiet_move rfl rfl rfl ?_
        (try simp only [Act.put, List.setIfInBounds_toArray, List.set_cons_zero, List.set_cons_succ, World.size_alloc, setRow_size, Nat.add_assoc, Nat.reduceAdd])
        refine quiet_call 24 rfl rfl Try.func24 (by kernel_rfl) (by kernel_rfl) (fun W hQ => awake8_c W) ?_
        (try simp only [Act.put, List.setIfInBounds_toArray, List.set_cons_zero, List.set_cons_succ, World.size_alloc, setRow_size, Nat.add_assoc, Nat.reduceAdd])
        refine quiet_pickt (by rfl) (by rfl) (by rfl) (by rfl) (by rfl) ?_
        (try simp only [Act.put, List.setIfInBounds_toArray, List.set_cons_zero, List.set_cons_succ, World.size_alloc, setRow_size, Nat.add_assoc, Nat.reduceAdd])
        refine quiet_assign rfl rfl rfl ?_
        (try simp only [Act.put, List.setIfInBounds_toArray, List.set_cons_zero, List.set_cons_succ, World.size_alloc, setRow_size, Nat.add_assoc, Nat.reduceAdd])
        refine wpQuiet_nil ?_
        intro w' hw'
        go_wp2
        go_ret
        exact ⟨rfl, bCall hbel6 hw' hbel6.size⟩
end Go.Proofs.Ytppideomehdhjaa
