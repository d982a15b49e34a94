/- What the reference of layer 7 answers: sums, products, values, parts. No condition but that bytes are below 256. -/
import Derived.Test.YtolfngmpoafaaaaW7e
import Derived.Test.YtolfngmpoafaaaaR7b
namespace Go.Proofs.Ytolfngmpoafaaaa
set_option linter.unusedSimpArgs false
set_option linter.unusedVariables false
set_option linter.unusedSectionVars false
set_option linter.unusedVariables false
open Go.RowKit
/-- A row of n places, the first k of them filled. -/
def fillN (n : Nat) (f : Nat → Nat) (k : Nat) : List Nat := (List.range k).map f ++ zeros (n - k)
theorem fillN_len {n k : Nat} (f : Nat → Nat) (hk : k ≤ n) : (fillN n f k).length = n := by simp [fillN, zeros]; omega
theorem fillN_set {n k v : Nat} (f : Nat → Nat) (hk : k < n) (hv : f k = v) : (fillN n f k).set k v = fillN n f (k + 1) := by
  unfold fillN zeros
  have e1 : n - k = (n - (k+1)) + 1 := by omega
  rw [List.set_append_right _ _ (by simp), List.length_map, List.length_range, Nat.sub_self, e1, List.replicate_succ, List.set_cons_zero, List.range_succ, List.map_append]
  simp [hv]
theorem fillN_zero (n : Nat) (f : Nat → Nat) : fillN n f 0 = zeros n := by simp [fillN]
theorem fillN_full (n : Nat) (f : Nat → Nat) : fillN n f n = (List.range n).map f := by simp [fillN, zeros]
theorem range_getD {xs : List Nat} {n : Nat} (h : xs.length = n) : (List.range n).map (fun i => xs.getD i 0) = xs := by
  apply List.ext_getElem? fun i => ?_
  by_cases hi : i < n
  · rw [List.getElem?_map, List.getElem?_range hi, getD_lt (by omega)]; rfl
  · rw [List.getElem?_eq_none (by simp; omega), List.getElem?_eq_none (by omega)]
theorem undig_add (b : Nat) : ∀ (xs ys : List Nat), xs.length = ys.length → undig b ((List.range xs.length).map fun i => xs.getD i 0 + ys.getD i 0) = undig b xs + undig b ys
  | [], [], _ => rfl
  | x :: xs, y :: ys, h => by
    have ih := undig_add b xs ys (by simpa using h)
    rw [List.length_cons, List.range_succ_eq_map, List.map_cons, List.map_map]
    simp only [undig, List.getD_cons_zero]
    have e : ((fun i => (x :: xs).getD i 0 + (y :: ys).getD i 0) ∘ Nat.succ) = fun i => xs.getD i 0 + ys.getD i 0 := by funext i; simp
    rw [e, ih, Nat.mul_add]
    omega
set_option maxHeartbeats 2000000 in
theorem rplus_c (xs ys : List Nat) (hl : xs.length = 17) (hb : ∀ x ∈ xs, x < 256) (hl' : ys.length = 17) (hb' : ∀ x ∈ ys, x < 256) (w : World) :
    Calls Try.prog 66 #[.agg (ints .u8 xs), .agg (ints .u8 ys)] w fun e w' => e = .returned (.agg (ints .u8 (restOf ((le xs + le ys) % pp)))) ∧ Below w.heap.size w w' := by
  have hmk : ∀ W : World, (Instr.makeSlice 109 (.int .i64 17) (.int .i64 17)).run Try.prog W = .ok (.slice (some ⟨W.heap.size, 0, none⟩) 17 17) (W.alloc (.cells (ints .i64 (zeros 17)) 3)) := fun _ => by kernel_rfl
  go_enter Try.func66, Try.ntmps66
  go_wp2_with (first | (refine wpList_alloc_ints rfl 91 rfl Try.z91 ?_; (try simp only [Act.put, List.setIfInBounds_toArray, List.set_cons_zero, List.set_cons_succ, World.size_alloc, setRow_size, Nat.add_assoc, Nat.reduceAdd])))
  go_loopw [6] (fun t wr => ∃ k : Nat, k ≤ 17 ∧ t = .int .i64 k ∧ Blk wr w.heap.size 91 (ints .u8 xs) ∧ Blk wr (w.heap.size + 1) 91 (ints .u8 ys) ∧ Blk wr (w.heap.size + 2) 91 (ints .u8 (zeros 17)) ∧ Blk wr (w.heap.size + 3) 3 (ints .i64 (fillN 17 (fun i => xs.getD i 0 + ys.getD i 0) k)) ∧ Below w.heap.size w wr) (fun t wr => 17 - (intOf t).toNat)
  case atStart => exact ⟨0, by omega, rfl, (((Blk.new _ _ _).alloc _).alloc _).alloc _, ((Blk.new' (by simp)).alloc _).alloc _, (Blk.new' (by simp)).alloc _, by rw [fillN_zero]; exact Blk.new' (by simp), ((((Below.refl _ _).alloc (Nat.le_refl _) _).alloc (by simp) _).alloc (by simp; omega) _).alloc (by simp; omega) _⟩
  case round =>
    rename_i hrel
    obtain ⟨k, hk, rfl, C0, C1, C2, C3, hbelr⟩ := hrel
    by_cases hlt : k < 17
    · have c0 := C0.int (i := k) (by omega)
      have c1 := C1.int (i := k) (by omega)
      have hfl := fillN_len (fun i => xs.getD i 0 + ys.getD i 0) hk
      have c3 := C3.int (i := k) (by omega)
      have z3 := C3.frozen k
      have vx := getD_bound hb (by omega) k
      have vy := getD_bound hb' (by omega) k
      have C3' := C3.intSet k (xs.getD k 0 + ys.getD k 0)
      rw [fillN_set _ hlt rfl] at C3'
      have HC := Lib.hid C3'
      clear C3' hfl
      generalize xs.getD k 0 = x at *
      generalize ys.getD k 0 = y at *
      generalize (fillN 17 (fun i => xs.getD i 0 + ys.getD i 0) k).getD k 0 = z at *
      go_wp2
      go_region
      all_goals
        go_wp2
        refine ⟨⟨k + 1, by omega, by go_num, (C0.far (by first | omega | (simp; done) | (simp; omega)) _).drew, (C1.far (by first | omega | (simp; done) | (simp; omega)) _).drew, (C2.far (by first | omega | (simp; done) | (simp; omega)) _).drew, ?_, (hbelr.setCell (by first | omega | (simp; done) | (simp; omega)) _).drew⟩, by simp [intOf] <;> omega⟩
        have := HC.out.drew
        rw [Int.natCast_add] at this
        exact this
    · obtain rfl : k = 17 := by omega
      rw [fillN_full] at C3
      have hsum : undig 256 ((List.range 17).map fun i => xs.getD i 0 + ys.getD i 0) = le xs + le ys := by
        have := undig_add 256 xs ys (hl.trans hl'.symm)
        rw [hl] at this; exact this
      have hlb : ∀ x ∈ (List.range 17).map (fun i => xs.getD i 0 + ys.getD i 0), x < 2 ^ 54 := by
        intro x hx
        obtain ⟨i, -, rfl⟩ := List.mem_map.1 hx
        have := getD_bound hb (by omega) i
        have := getD_bound hb' (by omega) i
        omega
      have hll : ((List.range 17).map (fun i => xs.getD i 0 + ys.getD i 0)).length = 17 := by simp
      have Hsum := Lib.hid hsum
      clear hsum
      generalize (List.range 17).map (fun i => xs.getD i 0 + ys.getD i 0) = L at *
      have hcall := bytes_c (some ⟨w.heap.size + 3, 0, none⟩) 17 L hlb (by omega) wr (Sl.blk C3)
      rw [hll] at hcall
      have Hcall := Lib.hid hcall
      clear hcall
      go_wp2_with (fail)
      refine (Hcall.out).mono ?_
      rintro e w2 ⟨bs, a', c', rfl, hsl, hbs, hle, hbl, hb2⟩
      go_wp2_with (fail)
      refine (divide_c a' c' bs hbs (by omega) w2 hsl).mono ?_
      rintro e w3 ⟨rfl, hb3⟩
      have E2 := (C2.below' hb2).below' hb3
      have hl2 := (C2.below' hb2).lt
      have hl1 := C2.lt
      go_wp2_with (first | (refine wpList_store_ints rfl 91 _ _ rfl _ rfl rfl E2 (zeros_size _ _) Try.ar91 (restOf_len _) ?_; (try simp only [Act.put, List.setIfInBounds_toArray, List.set_cons_zero, List.set_cons_succ, World.size_alloc, setRow_size, Nat.add_assoc, Nat.reduceAdd])))
      refine ret_ints rfl rfl (E2.row _) Try.ar91 (restOf_len _) ⟨by rw [Hsum.out], ?_⟩
      exact bSetRow (bCall (bCall hbelr hb2 (by omega)) hb3 (by omega)) (by simp) _

set_option maxRecDepth 100000 in
set_option maxHeartbeats 4000000 in
theorem rtimes_c (xs ys : List Nat) (hl : xs.length = 17) (hb : ∀ x ∈ xs, x < 256) (hl' : ys.length = 17) (hb' : ∀ x ∈ ys, x < 256) (w : World) :
    Calls Try.prog 65 #[.agg (ints .u8 xs), .agg (ints .u8 ys)] w fun e w' => e = .returned (.agg (ints .u8 (restOf ((le xs * le ys) % pp)))) ∧ Below w.heap.size w w' := by
  have hmk : ∀ W : World, (Instr.makeSlice 109 (.int .i64 33) (.int .i64 33)).run Try.prog W = .ok (.slice (some ⟨W.heap.size, 0, none⟩) 33 33) (W.alloc (.cells (ints .i64 (zeros 33)) 3)) := fun _ => by kernel_rfl
  go_enter Try.func65, Try.ntmps65
  go_wp2_with (first | (refine wpList_alloc_ints rfl 91 rfl Try.z91 ?_; (try simp only [Act.put, List.setIfInBounds_toArray, List.set_cons_zero, List.set_cons_succ, World.size_alloc, setRow_size, Nat.add_assoc, Nat.reduceAdd])))
  go_loopw [6] (fun t wr => ∃ i : Nat, i ≤ 17 ∧ t = .int .i64 i ∧ Blk wr w.heap.size 91 (ints .u8 xs) ∧ Blk wr (w.heap.size + 1) 91 (ints .u8 ys) ∧ Blk wr (w.heap.size + 2) 91 (ints .u8 (zeros 17)) ∧ Blk wr (w.heap.size + 3) 3 (ints .i64 (prodN 17 33 xs ys (17 * i))) ∧ Below w.heap.size w wr) (fun t wr => 17 - (intOf t).toNat)
  case atStart => exact ⟨0, by omega, rfl, (((Blk.new _ _ _).alloc _).alloc _).alloc _, ((Blk.new' (by simp)).alloc _).alloc _, (Blk.new' (by simp)).alloc _, Blk.new' (by simp), ((((Below.refl _ _).alloc (Nat.le_refl _) _).alloc (by simp) _).alloc (by simp; omega) _).alloc (by simp; omega) _⟩
  case round =>
    rename_i hrel
    obtain ⟨i, hi, rfl, C0, C1, C2, C3, hbelr⟩ := hrel
    by_cases hlt : i < 17
    · go_wp2
      go_loopw [7] (fun t wr => ∃ j : Nat, j ≤ 17 ∧ t = .int .i64 j ∧ Blk wr w.heap.size 91 (ints .u8 xs) ∧ Blk wr (w.heap.size + 1) 91 (ints .u8 ys) ∧ Blk wr (w.heap.size + 2) 91 (ints .u8 (zeros 17)) ∧ Blk wr (w.heap.size + 3) 3 (ints .i64 (prodN 17 33 xs ys (17 * i + j))) ∧ Below w.heap.size w wr) (fun t wr => 17 - (intOf t).toNat)
      case atStart => exact ⟨0, by omega, rfl, C0, C1, C2, C3, hbelr⟩
      case round =>
        rename_i hrel
        obtain ⟨j, hj, rfl, D0, D1, D2, D3, hbel2⟩ := hrel
        by_cases hlj : j < 17
        · have hpl := prodN_len 17 33 xs ys (17 * i + j)
          have hpm : (prodN 17 33 xs ys (17 * i + j)).getD (i + j) 0 < 2 ^ 30 := getD_bound (fun x hx => Nat.lt_of_le_of_lt (prodN_le (B := 256) hb hb' (by omega) (17 * i + j) x hx) (by omega)) (by omega) (i + j)
          have c0 := D0.int (i := i) (by omega)
          have c1 := D1.int (i := j) (by omega)
          have c3 := D3.int (i := i + j) (by omega)
          have z3 := D3.frozen (i + j)
          have vx := getD_bound hb (by omega) i
          have vy := getD_bound hb' (by omega) j
          have D3' := D3.intSet (i + j) ((prodN 17 33 xs ys (17 * i + j)).getD (i + j) 0 + xs.getD i 0 * ys.getD j 0)
          rw [← prodN_succ xs ys i j hlj] at D3'
          have HC := Lib.hid D3'
          clear D3' hpl
          generalize (prodN 17 33 xs ys (17 * i + j)).getD (i + j) 0 = m at *
          generalize xs.getD i 0 = x at *
          generalize ys.getD j 0 = y at *
          have hxy : x * y ≤ 255 * 255 := Nat.mul_le_mul (by omega) (by omega)
          have ew : Hid (wrap64 ((x : Int) * y) = ((x * y : Nat) : Int)) := by
            have e : (x : Int) * y = ((x * y : Nat) : Int) := by simp
            refine Lib.hid ?_
            rw [e]
            exact IntWalk.wrap64_in _ (by omega)
          have ew2 : Hid (wrap64 ((m : Int) + ((x * y : Nat) : Int)) = ((m + x * y : Nat) : Int)) := by
            refine Lib.hid ?_
            rw [IntWalk.wrap64_in _ (by omega)]
            simp
          have Hxy := Lib.hid hxy
          clear hxy
          go_wp2
          go_region
          all_goals
            rw [ew.out, ew2.out]
            go_wp2
            exact ⟨⟨j + 1, by omega, by go_num, (D0.far (by first | omega | (simp; done) | (simp; omega)) _).drew, (D1.far (by first | omega | (simp; done) | (simp; omega)) _).drew, (D2.far (by first | omega | (simp; done) | (simp; omega)) _).drew, HC.out.drew, (hbel2.setCell (by first | omega | (simp; done) | (simp; omega)) _).drew⟩, by simp [intOf] <;> omega⟩
        · obtain rfl : j = 17 := by omega
          go_wp2
          exact ⟨⟨i + 1, by omega, by go_num, D0, D1, D2, D3, hbel2⟩, by simp [intOf] <;> omega⟩
    · obtain rfl : i = 17 := by omega
      have hprod : undig 256 (prodN 17 33 xs ys (17 * 17)) = le xs * le ys := prodN_val 256 hl hl' (by omega)
      have hlb : ∀ x ∈ prodN 17 33 xs ys (17 * 17), x < 2 ^ 54 := fun x hx => Nat.lt_of_le_of_lt (prodN_le (B := 256) hb hb' (by omega) (17 * 17) x hx) (by omega)
      have hll := prodN_len 17 33 xs ys (17 * 17)
      have Hsum := Lib.hid hprod
      clear hprod
      generalize prodN 17 33 xs ys (17 * 17) = L at *
      have hcall := bytes_c (some ⟨w.heap.size + 3, 0, none⟩) 33 L hlb (by omega) wr (Sl.blk C3)
      rw [hll] at hcall
      have Hcall := Lib.hid hcall
      clear hcall
      go_wp2_with (fail)
      refine (Hcall.out).mono ?_
      rintro e w2 ⟨bs, a', c', rfl, hsl, hbs, hle, hbl, hb2⟩
      go_wp2_with (fail)
      refine (divide_c a' c' bs hbs (by omega) w2 hsl).mono ?_
      rintro e w3 ⟨rfl, hb3⟩
      have E2 := (C2.below' hb2).below' hb3
      have hl2 := (C2.below' hb2).lt
      have hl1 := C2.lt
      go_wp2_with (first | (refine wpList_store_ints rfl 91 _ _ rfl _ rfl rfl E2 (zeros_size _ _) Try.ar91 (restOf_len _) ?_; (try simp only [Act.put, List.setIfInBounds_toArray, List.set_cons_zero, List.set_cons_succ, World.size_alloc, setRow_size, Nat.add_assoc, Nat.reduceAdd])))
      refine ret_ints rfl rfl (E2.row _) Try.ar91 (restOf_len _) ⟨by rw [Hsum.out], ?_⟩
      exact bSetRow (bCall (bCall hbelr hb2 (by omega)) hb3 (by omega)) (by simp) _

set_option maxRecDepth 100000 in
set_option maxHeartbeats 4000000 in
theorem rlow_c (rs : List Nat) (hl : rs.length = 17) (w : World) :
    Calls Try.prog 51 #[.agg (ints .u8 rs)] w fun e w' => e = .returned (.agg (ints .u8 (rs.take 16))) ∧ Below w.heap.size w w' := by
  go_enter Try.func51, Try.ntmps51
  go_wp2_with (first | (refine wpList_alloc_ints rfl 35 rfl Try.z35 ?_; (try simp only [Act.put, List.setIfInBounds_toArray, List.set_cons_zero, List.set_cons_succ, World.size_alloc, setRow_size, Nat.add_assoc, Nat.reduceAdd])))
  go_loopw [4] (fun t wr => ∃ k : Nat, k ≤ 16 ∧ t = .int .i64 k ∧ Blk wr w.heap.size 91 (ints .u8 rs) ∧ Blk wr (w.heap.size + 1) 35 (ints .u8 (zeros 16)) ∧ Blk wr (w.heap.size + 2) 35 (ints .u8 (fillN 16 (fun i => rs.getD i 0) k)) ∧ Below w.heap.size w wr) (fun t wr => 16 - (intOf t).toNat)
  case atStart => exact ⟨0, by omega, rfl, ((Blk.new _ _ _).alloc _).alloc _, (Blk.new' (by simp)).alloc _, by rw [fillN_zero]; exact Blk.new' (by simp), (((Below.refl _ _).alloc (Nat.le_refl _) _).alloc (by simp) _).alloc (by simp; omega) _⟩
  case round =>
    rename_i hrel
    obtain ⟨k, hk, rfl, C0, C1, C2, hbelr⟩ := hrel
    by_cases hlt : k < 16
    · have c0 := C0.int (i := k) (by omega)
      have hfl := fillN_len (fun i => rs.getD i 0) hk
      have c2 := C2.int (i := k) (by omega)
      have z2 := C2.frozen k
      have C2' := C2.intSet k (rs.getD k 0)
      rw [fillN_set _ hlt rfl] at C2'
      have HC := Lib.hid C2'
      clear C2' hfl
      generalize rs.getD k 0 = x at *
      generalize (fillN 16 (fun i => rs.getD i 0) k).getD k 0 = z at *
      go_wp2
      exact ⟨⟨k + 1, by omega, by go_num, C0.far (by first | omega | (simp; done) | (simp; omega)) _, C1.far (by first | omega | (simp; done) | (simp; omega)) _, HC.out, hbelr.setCell (by first | omega | (simp; done) | (simp; omega)) _⟩, by simp [intOf] <;> omega⟩
    · obtain rfl : k = 16 := by omega
      have he : fillN 16 (fun i => rs.getD i 0) 16 = rs.take 16 := by
        rw [fillN_full]
        have h := range_getD (xs := rs.take 16) (n := 16) (by simp; omega)
        rw [← h]
        refine List.map_congr_left fun i hi => ?_
        rw [List.mem_range] at hi
        rw [List.getD_eq_getElem?_getD, List.getD_eq_getElem?_getD, List.getElem?_take, if_pos hi]
      have hdl : (rs.take 16).length = 16 := by simp; omega
      rw [he] at C2
      clear he
      go_wp2_with (first | (refine wpList_load_ints rfl 35 _ rfl (w.heap.size + 2) rfl C2 Try.ar35 hdl ?_; (try simp only [Act.put, List.setIfInBounds_toArray, List.set_cons_zero, List.set_cons_succ, World.size_alloc, setRow_size, Nat.add_assoc, Nat.reduceAdd])) | (refine wpList_store_ints rfl 35 _ _ rfl _ rfl rfl C1 (zeros_size _ _) Try.ar35 hdl ?_; (try simp only [Act.put, List.setIfInBounds_toArray, List.set_cons_zero, List.set_cons_succ, World.size_alloc, setRow_size, Nat.add_assoc, Nat.reduceAdd])))
      refine ret_ints rfl rfl (C1.row _) Try.ar35 hdl ⟨rfl, ?_⟩
      exact bSetRow hbelr (by simp) _
end Go.Proofs.Ytolfngmpoafaaaa
