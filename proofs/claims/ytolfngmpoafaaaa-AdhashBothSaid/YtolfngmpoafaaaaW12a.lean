/- Sums and differences of numbers of 128 bits: octet.Wide's Plus and Minus, wringerref01.Plus. No condition but that words are below 2^64 and bytes below 256. -/
import Derived.Test.YtolfngmpoafaaaaP12
import Derived.Test.YtolfngmpoafaaaaR7b
import Derived.Test.YtolfngmpoafaaaaL8a
import Derived.Laws.Externs
namespace Go.Proofs.Ytolfngmpoafaaaa
set_option linter.unusedSimpArgs false
set_option linter.unusedVariables false
set_option linter.unusedSectionVars false
set_option linter.unusedVariables false
open Go.RowKit
theorem add64_r (x y c : Nat) (hc : c ≤ 1) (w : World) :
    (callFunc 46 #[.int .u64 (x : Int), .int .u64 (y : Int), .int .u64 (c : Int)]).run Try.prog w = .ok (.value (.tuple #[.int .u64 (((x + y + c) % 18446744073709551616 : Nat) : Int), .int .u64 (((x + y + c) / 18446744073709551616 : Nat) : Int)])) w := by
  rw [run_callFunc_extern Try.func46 (by kernel_rfl) (by kernel_rfl) (by kernel_rfl) (e := add64Entry) (by kernel_rfl), run_add64 x y c (by omega) (by omega) (by omega) (by omega)]
  simp only [Result.andThen]
  congr 5 <;> omega
def sub64E : Array Value → Sem Value := fun args => do
  let (x, y, b) ← Extern.MathBitsCarry.three "Sub64" args
  pure (Extern.MathBitsCarry.pair ((x + Extern.MathBitsCarry.m64 - y - b) % Extern.MathBitsCarry.m64) (if x < y + b then 1 else 0))
theorem run_sub64E {P : Program} (x y b : Nat) (hb : b ≤ 1) (w : World) :
    (sub64E #[.int .u64 x, .int .u64 y, .int .u64 b]).run P w =
      .ok (.tuple #[.int .u64 (((x + 18446744073709551616 - y - b) % 18446744073709551616 : Nat) : Int), .int .u64 ((if x < y + b then 1 else 0 : Nat) : Int)]) w := by
  have : b = 0 ∨ b = 1 := by omega
  rcases this with rfl | rfl <;> rfl
theorem sub64_r (x y b : Nat) (hb : b ≤ 1) (w : World) :
    (callFunc 47 #[.int .u64 (x : Int), .int .u64 (y : Int), .int .u64 (b : Int)]).run Try.prog w = .ok (.value (.tuple #[.int .u64 (((x + 18446744073709551616 - y - b) % 18446744073709551616 : Nat) : Int), .int .u64 ((if x < y + b then 1 else 0 : Nat) : Int)])) w := by
  rw [run_callFunc_extern Try.func47 (by kernel_rfl) (by kernel_rfl) (by kernel_rfl) (e := sub64E) (by kernel_rfl), run_sub64E x y b hb]
  rfl
theorem Try.arW : IsArr Try.prog 30 2 := isStr Try.underlying30 (by kernel_rfl)
theorem Try.zW : IsZero Try.prog 30 2 .u64 := isZero (by kernel_rfl)
set_option maxRecDepth 100000 in
set_option maxHeartbeats 4000000 in
theorem wplusG_c (x0 x1 y0 y1 : Nat) (h0 : x0 < 18446744073709551616) (h1 : x1 < 18446744073709551616) (k0 : y0 < 18446744073709551616) (k1 : y1 < 18446744073709551616) (w : World) :
    Calls Try.prog 25 #[.agg (ints .u64 [x0, x1]), .agg (ints .u64 [y0, y1])] w fun e w' => e = .returned (.agg (ints .u64 [(x0 + y0) % 18446744073709551616, (x1 + y1 + (x0 + y0) / 18446744073709551616) % 18446744073709551616])) ∧ Below w.heap.size w w' := by
  have B0 := ((Blk.new w 30 (ints .u64 [x0, x1])).alloc (.cells (ints .u64 [y0, y1]) 30)).alloc (.cells (ints .u64 (zeros 2)) 30)
  have B1 := (Blk.new (w.alloc (.cells (ints .u64 [x0, x1]) 30)) 30 (ints .u64 [y0, y1])).alloc (.cells (ints .u64 (zeros 2)) 30)
  have B2 := Blk.new ((w.alloc (.cells (ints .u64 [x0, x1]) 30)).alloc (.cells (ints .u64 [y0, y1]) 30)) 30 (ints .u64 (zeros 2))
  rw [World.size_alloc] at B1
  rw [World.size_alloc, World.size_alloc] at B2
  simp only [Nat.add_assoc, Nat.reduceAdd] at B2
  have hbel := (((Below.refl w.heap.size w).alloc (Nat.le_refl _) (.cells (ints .u64 [x0, x1]) 30)).alloc (by simp) (.cells (ints .u64 [y0, y1]) 30)).alloc (by simp; omega) (.cells (ints .u64 (zeros 2)) 30)
  have hq : (x0 + y0) / 18446744073709551616 ≤ 1 := by omega
  have a0 := fun W => add64_r x0 y0 0 (by omega) W
  have a1 := fun W => add64_r x1 y1 ((x0 + y0) / 18446744073709551616) hq W
  simp only [Nat.add_zero, show ((0 : Nat) : Int) = 0 from rfl] at a0
  have c0 := B0.int (i := 0) (by simp)
  have c1 := B0.int (i := 1) (by simp)
  have d0 := B1.int (i := 0) (by simp)
  have d1 := B1.int (i := 1) (by simp)
  simp only [List.getD_cons_zero, List.getD_cons_succ] at c0 c1 d0 d1
  obtain ⟨q, Hq⟩ : ∃ q, q = (x0 + y0) / 18446744073709551616 := ⟨_, rfl⟩
  obtain ⟨s, Hs⟩ : ∃ s, s = (x0 + y0) % 18446744073709551616 := ⟨_, rfl⟩
  rw [← Hq, ← Hs] at a0
  rw [← Hq] at a1
  obtain ⟨t, Ht⟩ : ∃ t, t = (x1 + y1 + q) % 18446744073709551616 := ⟨_, rfl⟩
  obtain ⟨u, Hu⟩ : ∃ u, u = (x1 + y1 + q) / 18446744073709551616 := ⟨_, rfl⟩
  rw [← Ht, ← Hu] at a1
  have HQ := Lib.hid Hq
  have HS := Lib.hid Hs
  have HT := Lib.hid Ht
  clear Hq Hs Ht Hu hq
  go_enter Try.func25, Try.ntmps25
  go_wp2_with (first | (refine wpList_alloc_ints rfl 30 rfl Try.zW ?_; (try simp only [Act.put, List.setIfInBounds_toArray, List.set_cons_zero, List.set_cons_succ, World.size_alloc, setRow_size, Nat.add_assoc, Nat.reduceAdd])) | (refine wpList_store_ints (k := .u64) (xs := [s, t]) rfl 30 _ _ rfl (w.heap.size + 2) rfl rfl B2 (zeros_size _ _) Try.arW rfl ?_; (try simp only [Act.put, List.setIfInBounds_toArray, List.set_cons_zero, List.set_cons_succ, World.size_alloc, setRow_size, Nat.add_assoc, Nat.reduceAdd])))
  refine ret_ints rfl rfl (B2.row _) Try.arW rfl ⟨?_, bSetRow hbel (by omega) _⟩
  rw [HQ.out] at HT
  rw [HS.out, HT.out]
def lt1 (x y : Nat) : Nat := if x < y then 1 else 0
set_option maxRecDepth 100000 in
set_option maxHeartbeats 4000000 in
theorem wminusG_c (x0 x1 y0 y1 : Nat) (h0 : x0 < 18446744073709551616) (h1 : x1 < 18446744073709551616) (k0 : y0 < 18446744073709551616) (k1 : y1 < 18446744073709551616) (w : World) :
    Calls Try.prog 26 #[.agg (ints .u64 [x0, x1]), .agg (ints .u64 [y0, y1])] w fun e w' => e = .returned (.agg (ints .u64 [(x0 + 18446744073709551616 - y0) % 18446744073709551616, (x1 + 18446744073709551616 - y1 - lt1 x0 y0) % 18446744073709551616])) ∧ Below w.heap.size w w' := by
  have B0 := ((Blk.new w 30 (ints .u64 [x0, x1])).alloc (.cells (ints .u64 [y0, y1]) 30)).alloc (.cells (ints .u64 (zeros 2)) 30)
  have B1 := (Blk.new (w.alloc (.cells (ints .u64 [x0, x1]) 30)) 30 (ints .u64 [y0, y1])).alloc (.cells (ints .u64 (zeros 2)) 30)
  have B2 := Blk.new ((w.alloc (.cells (ints .u64 [x0, x1]) 30)).alloc (.cells (ints .u64 [y0, y1]) 30)) 30 (ints .u64 (zeros 2))
  rw [World.size_alloc] at B1
  rw [World.size_alloc, World.size_alloc] at B2
  simp only [Nat.add_assoc, Nat.reduceAdd] at B2
  have hbel := (((Below.refl w.heap.size w).alloc (Nat.le_refl _) (.cells (ints .u64 [x0, x1]) 30)).alloc (by simp) (.cells (ints .u64 [y0, y1]) 30)).alloc (by simp; omega) (.cells (ints .u64 (zeros 2)) 30)
  have hq : lt1 x0 y0 ≤ 1 := by unfold lt1; split <;> omega
  have a0 := fun W => sub64_r x0 y0 0 (by omega) W
  have el : (if x0 < y0 then 1 else 0 : Nat) = lt1 x0 y0 := rfl
  have a1 := fun W => sub64_r x1 y1 (lt1 x0 y0) hq W
  simp only [Nat.add_zero, Nat.sub_zero, show ((0 : Nat) : Int) = 0 from rfl, el] at a0
  clear el
  have c0 := B0.int (i := 0) (by simp)
  have c1 := B0.int (i := 1) (by simp)
  have d0 := B1.int (i := 0) (by simp)
  have d1 := B1.int (i := 1) (by simp)
  simp only [List.getD_cons_zero, List.getD_cons_succ] at c0 c1 d0 d1
  obtain ⟨q, Hq⟩ : ∃ q, q = lt1 x0 y0 := ⟨_, rfl⟩
  obtain ⟨s, Hs⟩ : ∃ s, s = (x0 + 18446744073709551616 - y0) % 18446744073709551616 := ⟨_, rfl⟩
  rw [← Hq, ← Hs] at a0
  rw [← Hq] at a1
  obtain ⟨t, Ht⟩ : ∃ t, t = (x1 + 18446744073709551616 - y1 - q) % 18446744073709551616 := ⟨_, rfl⟩
  obtain ⟨u, Hu⟩ : ∃ u, u = (if x1 < y1 + q then 1 else 0 : Nat) := ⟨_, rfl⟩
  rw [← Ht, ← Hu] at a1
  have HQ := Lib.hid Hq
  have HS := Lib.hid Hs
  have HT := Lib.hid Ht
  clear Hq Hs Ht Hu hq
  go_enter Try.func26, Try.ntmps26
  go_wp2_with (first | (refine wpList_alloc_ints rfl 30 rfl Try.zW ?_; (try simp only [Act.put, List.setIfInBounds_toArray, List.set_cons_zero, List.set_cons_succ, World.size_alloc, setRow_size, Nat.add_assoc, Nat.reduceAdd])) | (refine wpList_store_ints (k := .u64) (xs := [s, t]) rfl 30 _ _ rfl (w.heap.size + 2) rfl rfl B2 (zeros_size _ _) Try.arW rfl ?_; (try simp only [Act.put, List.setIfInBounds_toArray, List.set_cons_zero, List.set_cons_succ, World.size_alloc, setRow_size, Nat.add_assoc, Nat.reduceAdd])))
  refine ret_ints rfl rfl (B2.row _) Try.arW rfl ⟨?_, bSetRow hbel (by omega) _⟩
  rw [HQ.out] at HT
  rw [HS.out, HT.out]
theorem wminus_c (a b : Nat) (w : World) :
    Calls Try.prog 26 #[.agg (ints .u64 (W12 a)), .agg (ints .u64 (W12 b))] w fun e w' => e = .returned (.agg (ints .u64 (W12 (a + 340282366920938463463374607431768211456 - b % 340282366920938463463374607431768211456)))) ∧ Below w.heap.size w w' := by
  have h := wminusG_c _ _ _ _ (Nat.mod_lt a (by omega)) (Nat.mod_lt (a / 18446744073709551616) (by omega)) (Nat.mod_lt b (by omega)) (Nat.mod_lt (b / 18446744073709551616) (by omega)) w
  have e : [(a % 18446744073709551616 + 18446744073709551616 - b % 18446744073709551616) % 18446744073709551616, (a / 18446744073709551616 % 18446744073709551616 + 18446744073709551616 - b / 18446744073709551616 % 18446744073709551616 - lt1 (a % 18446744073709551616) (b % 18446744073709551616)) % 18446744073709551616] = W12 (a + 340282366920938463463374607431768211456 - b % 340282366920938463463374607431768211456) := by
    unfold W12 lt1
    congr 1
    · omega
    · congr 1
      split <;> omega
  rw [e] at h
  exact h
theorem wplus_c (a b : Nat) (w : World) :
    Calls Try.prog 25 #[.agg (ints .u64 (W12 a)), .agg (ints .u64 (W12 b))] w fun e w' => e = .returned (.agg (ints .u64 (W12 (a + b)))) ∧ Below w.heap.size w w' := by
  have h := wplusG_c _ _ _ _ (Nat.mod_lt a (by omega)) (Nat.mod_lt (a / 18446744073709551616) (by omega)) (Nat.mod_lt b (by omega)) (Nat.mod_lt (b / 18446744073709551616) (by omega)) w
  rw [W12_plus] at h
  exact h
/-- A number of the bytes of a sum. -/
theorem rplus_take {n k v : Nat} {xs : List Nat} (hl : xs.length = n) (hk : k < n) (hv : v = xs.getD k 0) : (xs.take k ++ zeros (n - k)).set k v = xs.take (k + 1) ++ zeros (n - (k + 1)) := take_set hl hk hv.symm
theorem add12_step {xs ys : List Nat} (hl : xs.length = 16) (hl' : ys.length = 16) (hb : ∀ x ∈ xs, x < 256) (hb' : ∀ x ∈ ys, x < 256) {k : Nat} (hk : k < 16) :
    (xs.getD k 0 + ys.getD k 0 + (le (xs.take k) + le (ys.take k)) / 256 ^ k) % 256 = (dig 256 16 (le xs + le ys)).getD k 0 ∧
    (xs.getD k 0 + ys.getD k 0 + (le (xs.take k) + le (ys.take k)) / 256 ^ k) / 256 = (le (xs.take (k + 1)) + le (ys.take (k + 1))) / 256 ^ (k + 1) ∧
    (le (xs.take k) + le (ys.take k)) / 256 ^ k ≤ 1 := by
  have hp : 0 < 256 ^ k := Nat.pow_pos (by omega)
  have h1 := undig_split 256 xs k (by omega)
  have h2 := undig_split 256 ys k (by omega)
  have t1 := undig_take 256 xs k (by omega)
  have t2 := undig_take 256 ys k (by omega)
  have l1 : undig 256 (xs.take k) < 256 ^ k := by
    have := undig_lt (b := 256) (xs.take k) (fun x hx => hb x (List.mem_of_mem_take hx))
    rwa [List.length_take, Nat.min_eq_left (by omega)] at this
  have l2 : undig 256 (ys.take k) < 256 ^ k := by
    have := undig_lt (b := 256) (ys.take k) (fun x hx => hb' x (List.mem_of_mem_take hx))
    rwa [List.length_take, Nat.min_eq_left (by omega)] at this
  refine ⟨?_, ?_, ?_⟩
  · rw [dig_getD 256 16 _ k hk]
    unfold le
    rw [h1, h2]
    generalize undig 256 (xs.take k) = p
    generalize undig 256 (ys.take k) = q
    generalize xs.getD k 0 = x
    generalize ys.getD k 0 = y
    generalize undig 256 (xs.drop (k + 1)) = r
    generalize undig 256 (ys.drop (k + 1)) = s
    rw [show p + 256 ^ k * (x + 256 * r) + (q + 256 ^ k * (y + 256 * s)) = (p + q) + 256 ^ k * (x + y + 256 * (r + s)) by rw [Nat.mul_add, Nat.mul_add, Nat.mul_add, Nat.mul_add]; simp only [Nat.mul_add]; omega]
    rw [Nat.add_mul_div_left _ _ hp]
    omega
  · unfold le
    rw [t1, t2]
    generalize undig 256 (xs.take k) = p
    generalize undig 256 (ys.take k) = q
    rw [show p + xs.getD k 0 * 256 ^ k + (q + ys.getD k 0 * 256 ^ k) = (p + q) + 256 ^ k * (xs.getD k 0 + ys.getD k 0) by rw [Nat.mul_comm (xs.getD k 0), Nat.mul_comm (ys.getD k 0), Nat.mul_add]; omega]
    rw [Nat.pow_succ, ← Nat.div_div_eq_div_mul, Nat.add_mul_div_left _ _ hp]
    rw [Nat.add_comm ((p + q) / 256 ^ k)]
  · unfold le
    exact Nat.lt_succ_iff.1 (Nat.div_lt_of_lt_mul (by omega))
set_option maxRecDepth 100000 in
set_option maxHeartbeats 4000000 in
theorem rplus12_c (xs ys : List Nat) (hl : xs.length = 16) (hb : ∀ x ∈ xs, x < 256) (hl' : ys.length = 16) (hb' : ∀ x ∈ ys, x < 256) (w : World) :
    Calls Try.prog 39 #[.agg (ints .u8 xs), .agg (ints .u8 ys)] w fun e w' => e = .returned (.agg (ints .u8 (dig 256 16 (le xs + le ys)))) ∧ Below w.heap.size w w' := by
  have B0 := (((Blk.new w 35 (ints .u8 xs)).alloc (.cells (ints .u8 ys) 35)).alloc (.cells (ints .u8 (zeros 16)) 35)).alloc (.cells (ints .u8 (zeros 16)) 35)
  have B1 := ((Blk.new (w.alloc (.cells (ints .u8 xs) 35)) 35 (ints .u8 ys)).alloc (.cells (ints .u8 (zeros 16)) 35)).alloc (.cells (ints .u8 (zeros 16)) 35)
  have B2 := (Blk.new ((w.alloc (.cells (ints .u8 xs) 35)).alloc (.cells (ints .u8 ys) 35)) 35 (ints .u8 (zeros 16))).alloc (.cells (ints .u8 (zeros 16)) 35)
  have B3 := Blk.new (((w.alloc (.cells (ints .u8 xs) 35)).alloc (.cells (ints .u8 ys) 35)).alloc (.cells (ints .u8 (zeros 16)) 35)) 35 (ints .u8 (zeros 16))
  rw [World.size_alloc] at B1
  rw [World.size_alloc, World.size_alloc] at B2
  rw [World.size_alloc, World.size_alloc, World.size_alloc] at B3
  simp only [Nat.add_assoc, Nat.reduceAdd] at B2 B3
  have hbel := ((((Below.refl w.heap.size w).alloc (Nat.le_refl _) (.cells (ints .u8 xs) 35)).alloc (by simp) (.cells (ints .u8 ys) 35)).alloc (by simp; omega) (.cells (ints .u8 (zeros 16)) 35)).alloc (by simp; omega) (.cells (ints .u8 (zeros 16)) 35)
  go_enter Try.func39, Try.ntmps39
  go_wp2_with (refine wpList_alloc_ints rfl 35 rfl Try.z35 ?_; (try simp only [Act.put, List.setIfInBounds_toArray, List.set_cons_zero, List.set_cons_succ, World.size_alloc, setRow_size, Nat.add_assoc, Nat.reduceAdd]))
  generalize ((((w.alloc (.cells (ints .u8 xs) 35)).alloc (.cells (ints .u8 ys) 35)).alloc (.cells (ints .u8 (zeros 16)) 35)).alloc (.cells (ints .u8 (zeros 16)) 35)) = w1 at *
  have hDl : (dig 256 16 (le xs + le ys)).length = 16 := dig_length _ _ _
  go_loopw [6, 7] (fun cy t wr => ∃ k : Nat, k ≤ 16 ∧ t = .int .i64 (k : Int) ∧ cy = .int .i64 (((le (xs.take k) + le (ys.take k)) / 256 ^ k : Nat) : Int) ∧ Blk wr w.heap.size 35 (ints .u8 xs) ∧ Blk wr (w.heap.size + 1) 35 (ints .u8 ys) ∧ Blk wr (w.heap.size + 2) 35 (ints .u8 (zeros 16)) ∧ Blk wr (w.heap.size + 3) 35 (ints .u8 ((dig 256 16 (le xs + le ys)).take k ++ zeros (16 - k))) ∧ Below w.heap.size w wr) (fun cy t wr => 16 - (intOf t).toNat)
  case atStart => exact ⟨0, by omega, rfl, by simp [le, undig], B0, B1, B2, by simpa using B3, hbel⟩
  case round =>
    obtain ⟨k, hk, rfl, rfl, C0, C1, C2, C3, hbelr⟩ := hrel
    clear B0 B1 B2 B3 hbel
    by_cases hlt : k < 16
    · have hd0 : decide ((k : Int) < 16) = true := by simp; omega
      obtain ⟨s1, s2, s3⟩ := add12_step hl hl' hb hb' hlt
      have hol : ((dig 256 16 (le xs + le ys)).take k ++ zeros (16 - k)).length = 16 := by rw [List.length_append, List.length_take, zeros_len, hDl]; omega
      have c0 := C0.int (i := k) (by omega)
      have c1 := C1.int (i := k) (by omega)
      have c3 := C3.int (i := k) (by omega)
      have z3 := C3.frozen k
      have vx := getD_bound hb (by omega) k
      have vy := getD_bound hb' (by omega) k
      have HS : Hid (∀ v, v = (dig 256 16 (le xs + le ys)).getD k 0 → Blk (wr.setCell ⟨w.heap.size + 3, k, none⟩ (.int .u8 (v : Int))) (w.heap.size + 3) 35 (ints .u8 ((dig 256 16 (le xs + le ys)).take (k + 1) ++ zeros (16 - (k + 1))))) := Lib.hid fun v hv => by
        have := C3.intSet k v
        rwa [rplus_take hDl hlt hv] at this
      have S1 := Lib.hid s1
      have S2 := Lib.hid s2
      clear s1 s2 hol hDl
      generalize (le (xs.take k) + le (ys.take k)) / 256 ^ k = cc at *
      generalize xs.getD k 0 = x at *
      generalize ys.getD k 0 = y at *
      go_wp2
      go_region
      all_goals
        go_wp2
        rw [show ((x : Int) + (y : Int) + (cc : Int)) % 256 = (((x + y + cc) % 256 : Nat) : Int) by omega, show ((x : Int) + (y : Int) + (cc : Int)) / 256 = (((x + y + cc) / 256 : Nat) : Int) by omega]
        exact ⟨⟨k + 1, by omega, by go_num, by rw [S2.out], (C0.far (by first | omega | (simp; done) | (simp; omega)) _).drew, (C1.far (by first | omega | (simp; done) | (simp; omega)) _).drew, (C2.far (by first | omega | (simp; done) | (simp; omega)) _).drew, (HS.out _ S1.out).drew, (hbelr.setCell (by first | omega | (simp; done) | (simp; omega)) _).drew⟩, by simp [intOf] <;> omega⟩
    · obtain rfl : k = 16 := by omega
      have hd0 : decide (((16 : Nat) : Int) < 16) = false := by simp
      rw [List.take_of_length_le (by omega), show zeros (16 - 16) = [] from rfl, List.append_nil] at C3
      go_wp2_with (first | (refine wpList_load_ints rfl 35 _ rfl (w.heap.size + 3) rfl C3 Try.ar35 hDl ?_; (try simp only [Act.put, List.setIfInBounds_toArray, List.set_cons_zero, List.set_cons_succ, World.size_alloc, setRow_size, Nat.add_assoc, Nat.reduceAdd])) | (refine wpList_store_ints (k := .u8) (xs := dig 256 16 (le xs + le ys)) rfl 35 _ _ rfl (w.heap.size + 2) rfl rfl C2 (zeros_size _ _) Try.ar35 hDl ?_; (try simp only [Act.put, List.setIfInBounds_toArray, List.set_cons_zero, List.set_cons_succ, World.size_alloc, setRow_size, Nat.add_assoc, Nat.reduceAdd])))
      exact ret_ints rfl rfl (C2.row _) Try.ar35 hDl ⟨rfl, bSetRow hbelr (by omega) _⟩
end Go.Proofs.Ytolfngmpoafaaaa
