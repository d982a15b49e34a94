/- The reference's Raised. No condition but that bytes are below 256 and the number fits. -/
import Derived.Test.YtehhipanbjhffaaW10t
namespace Go.Proofs.Ytehhipanbjhffaa
set_option linter.unusedSimpArgs false
set_option linter.unusedVariables false
set_option linter.unusedSectionVars false
set_option linter.unusedVariables false
open Go.RowKit
open Gf (up upN mulS mul R1 D1 dot down downN)
set_option maxRecDepth 100000 in
set_option maxHeartbeats 4000000 in
theorem raisedNeg_ref (n : Int) (as_ : List Nat) (hn : n < 0) (hl : as_.length = 16) (w : World) :
    Calls Try.prog 23 #[.int .i64 n, .agg (ints .u8 as_)] w fun e w' => e = .returned (.agg (ints .u8 as_)) ∧ Below w.heap.size w w' := by
  have B0 := (Blk.new w 22 (ints .u8 as_)).alloc (.cells (ints .u8 (zeros 16)) 22)
  have B1 := Blk.new (w.alloc (.cells (ints .u8 as_) 22)) 22 (ints .u8 (zeros 16))
  rw [World.size_alloc] at B1
  have hbel := ((Below.refl w.heap.size w).alloc (Nat.le_refl _) (.cells (ints .u8 as_) 22)).alloc (by simp) (.cells (ints .u8 (zeros 16)) 22)
  go_enter Try.func23, Try.ntmps23
  go_wp2_with (refine wpList_alloc_ints rfl 22 rfl Try.z22 ?_; (try simp only [Act.put, List.setIfInBounds_toArray, List.set_cons_zero, List.set_cons_succ, World.size_alloc, setRow_size, Nat.add_assoc, Nat.reduceAdd]))
  generalize ((w.alloc (.cells (ints .u8 as_) 22)).alloc (.cells (ints .u8 (zeros 16)) 22)) = w1 at *
  go_loopw [5] (fun t wr => t = .int .i64 0 ∧ wr = w1) (fun t wr => 0)
  case atStart => exact ⟨rfl, rfl⟩
  case round =>
    rename_i hrel
    obtain ⟨rfl, rfl⟩ := hrel
    have h0 : decide ((0 : Int) < n) = false := by simp; omega
    go_wp2_with (first | (refine wpList_load_ints rfl 22 _ rfl w.heap.size rfl B0 Try.ar22 hl ?_; (try simp only [Act.put, List.setIfInBounds_toArray, List.set_cons_zero, List.set_cons_succ, World.size_alloc, setRow_size, Nat.add_assoc, Nat.reduceAdd])) | (refine wpList_store_ints rfl 22 _ _ rfl (w.heap.size + 1) rfl rfl B1 (zeros_size _ _) Try.ar22 hl ?_; (try simp only [Act.put, List.setIfInBounds_toArray, List.set_cons_zero, List.set_cons_succ, World.size_alloc, setRow_size, Nat.add_assoc, Nat.reduceAdd])))
    exact ret_ints rfl rfl (B1.row _) Try.ar22 hl ⟨rfl, bSetRow hbel (by omega) _⟩
def topL (xs : List Nat) : List Nat := (dblB xs).take 15 ++ [xs.getD 15 0 * 2 % 256]
set_option maxRecDepth 100000 in
set_option maxHeartbeats 20000000 in
theorem raised_ref (n : Nat) (as_ : List Nat) (hn : n < 2 ^ 63) (hl : as_.length = 16) (hb : ∀ x ∈ as_, x < 256) (w : World) :
    Calls Try.prog 23 #[.int .i64 n, .agg (ints .u8 as_)] w fun e w' => e = .returned (.agg (ints .u8 (belem (upN R2 n (bnum as_))))) ∧ Below w.heap.size w w' := by
  have hx := bnum_lt hl hb
  have hxe := belem_bnum hl hb
  have hn' : (n : Int) ≤ 9223372036854775807 := by omega
  clear hn
  have B0 := (Blk.new w 22 (ints .u8 as_)).alloc (.cells (ints .u8 (zeros 16)) 22)
  have B1 := Blk.new (w.alloc (.cells (ints .u8 as_) 22)) 22 (ints .u8 (zeros 16))
  rw [World.size_alloc] at B1
  have hbel := ((Below.refl w.heap.size w).alloc (Nat.le_refl _) (.cells (ints .u8 as_) 22)).alloc (by simp) (.cells (ints .u8 (zeros 16)) 22)
  go_enter Try.func23, Try.ntmps23
  go_wp2_with (refine wpList_alloc_ints rfl 22 rfl Try.z22 ?_; (try simp only [Act.put, List.setIfInBounds_toArray, List.set_cons_zero, List.set_cons_succ, World.size_alloc, setRow_size, Nat.add_assoc, Nat.reduceAdd]))
  generalize ((w.alloc (.cells (ints .u8 as_) 22)).alloc (.cells (ints .u8 (zeros 16)) 22)) = w1 at *
  rw [← hxe] at B0
  obtain ⟨x, Hx⟩ : ∃ x, Hid (bnum as_ = x) := ⟨_, Lib.hid rfl⟩
  rw [Hx.out] at B0 hx
  clear hxe
  go_loopw [5] (fun t wr => ∃ i : Nat, i ≤ n ∧ t = .int .i64 i ∧ Blk wr w.heap.size 22 (ints .u8 (belem (upN R2 i x))) ∧ Blk wr (w.heap.size + 1) 22 (ints .u8 (zeros 16)) ∧ Below w.heap.size w wr) (fun t wr => n - (intOf t).toNat)
  case atStart => exact ⟨0, by omega, rfl, B0, B1, hbel⟩
  case round =>
    rename_i hrel
    obtain ⟨i, hi, rfl, C0, C1, hbelr⟩ := hrel
    clear B0 B1 hbel
    have hX := Gf.upN_lt R2_lt hx i
    have Hs := Lib.hid (show belem (upN R2 (i + 1) x) = dblB (belem (upN R2 i x)) from (dblB_belem hX).symm)
    have hlx := belem_len (upN R2 i x)
    have hbx := belem_lt (upN R2 i x)
    by_cases hlt : i < n
    · generalize belem (upN R2 i x) = xs at *
      have hdl := dblB_len xs
      have c0 := C0.int (i := 0) (by omega)
      have v0 := getD_bound hbx (by omega) 0
      have hd0 : decide ((i : Int) < (n : Int)) = true := by simp; omega
      have he := dblB_getD xs (i := 15) (by omega)
      rw [if_neg (by omega)] at he
      generalize hxs0 : xs.getD 0 0 = x0 at *
      have htop : x0 / 128 = 0 ∨ x0 / 128 = 1 := by omega
      have ht8 : ((x0 : Int) / 128) = ((x0 / 128 : Nat) : Int) := by omega
      generalize x0 / 128 = t8 at *
      clear hxs0
      go_wp2
      have C0' : Blk wr w.heap.size 22 (ints .u8 (mix (dblB xs) xs 0)) := by rw [mix_zero]; exact C0
      have He := Lib.hid he
      clear C0 he c0 ht8 v0
      go_loopw [7] (fun t wr => ∃ k : Nat, k ≤ 15 ∧ t = .int .i64 k ∧ Blk wr w.heap.size 22 (ints .u8 (mix (dblB xs) xs k)) ∧ Blk wr (w.heap.size + 1) 22 (ints .u8 (zeros 16)) ∧ Below w.heap.size w wr) (fun t wr => 15 - (intOf t).toNat)
      case atStart => exact ⟨0, by omega, rfl, C0', C1, hbelr⟩
      case round =>
        rename_i hrel
        obtain ⟨k, hk, rfl, E0, E1, hbel4⟩ := hrel
        clear C0' C1 hbelr
        have hml := mix_len hdl hlx (show k ≤ 16 by omega)
        by_cases hlk : k < 15
        · have e0 := E0.int (i := k) (by omega)
          have e1 := E0.int (i := k + 1) (by omega)
          have z0 := E0.frozen k
          rw [mix_get hdl (by omega) k (by omega)] at e0
          rw [mix_get hdl (by omega) (k + 1) (by omega)] at e1
          have vx := getD_bound hbx (by omega) k
          have vy := getD_bound hbx (by omega) (k + 1)
          have hv := dblB_getD xs (i := k) (by omega)
          rw [if_pos hlk] at hv
          have E0' := E0.intSet k ((dblB xs).getD k 0)
          rw [mix_set hdl hlx (by omega), hv] at E0'
          have HE := Lib.hid E0'
          have hor : bits BinOp.or IntKind.u8 (((xs.getD k 0 : Nat) : Int) * 2 % 256) (((xs.getD (k + 1) 0 : Nat) : Int) / 128) = ((xs.getD k 0 * 2 % 256 ||| xs.getD (k + 1) 0 / 128 : Nat) : Int) := by
            rw [show ((xs.getD k 0 : Nat) : Int) * 2 % 256 = ((xs.getD k 0 * 2 % 256 : Nat) : Int) by simp, show (((xs.getD (k + 1) 0 : Nat) : Int) / 128) = ((xs.getD (k + 1) 0 / 128 : Nat) : Int) by simp, u8_or_nat _ _ (by omega) (by omega)]
          have HX := Lib.hid hor
          have hd1 : decide ((k : Int) < 15) = true := by simp; omega
          clear E0' hv hor hml
          generalize xs.getD k 0 = p at *
          generalize xs.getD (k + 1) 0 = q at *
          go_wp2
          go_region
          all_goals
            rw [HX.out]
            go_wp2
            exact ⟨⟨k + 1, by omega, by go_num, HE.out.drew, (E1.far (by first | omega | (simp; done) | (simp; omega)) _).drew, (hbel4.setCell (by first | omega | (simp; done) | (simp; omega)) _).drew⟩, by simp [intOf] <;> omega⟩
        · obtain rfl : k = 15 := by omega
          have e0 := E0.int (i := 15) (by omega)
          rw [mix_get hdl (by omega) 15 (by omega)] at e0
          have vx := getD_bound hbx (by omega) 15
          have hset := mix_set hdl hlx (show 15 < 16 by omega)
          rw [mix_all hdl hlx, He.out] at hset
          have Hset := Lib.hid hset
          clear hset
          generalize xs.getD 15 0 = p at *
          rcases htop with rfl | rfl
          · go_wp2_with (refine wpList_store_one rfl 5 _ _ rfl Try.one5 E0 15 (p * 2 % 256) rfl rfl (by omega) ?_; intro w7 J5 F7; (try simp only [Act.put, List.setIfInBounds_toArray, List.set_cons_zero, List.set_cons_succ, World.size_alloc, setRow_size, Nat.add_assoc, Nat.reduceAdd]))
            have hs0 := Hset.out
            rw [Nat.zero_mul, Nat.xor_zero] at hs0
            rw [hs0, ← Hs.out] at J5
            exact ⟨⟨i + 1, by omega, by go_num, J5, F7.blk E1 (by omega), F7.below hbel4 (by omega)⟩, by simp [intOf] <;> omega⟩
          · have hp2 : p * 2 % 256 < 256 := by omega
            obtain ⟨v7, hv7⟩ : ∃ v7, Hid (p * 2 % 256 = v7) := ⟨_, Lib.hid rfl⟩
            have hv8 : v7 < 256 := by rw [← hv7.out]; exact hp2
            have hx8 := u8xor hv8 (show 135 < 256 by omega)
            have hx9 : bits BinOp.xor IntKind.u8 (v7 : Int) 135 = ((v7 ^^^ 135 : Nat) : Int) := hx8
            clear hp2 hx8
            go_wp2_with (first
              | (refine wpList_store_one rfl 5 _ _ rfl Try.one5 E0 15 (p * 2 % 256) rfl rfl (by omega) ?_; intro w7 J5 F7; rw [hv7.out] at J5; have e9 := J5.int (i := 15) (by rw [List.length_set]; omega); rw [List.getD_eq_getElem?_getD, List.getElem?_set_self (by omega), Option.getD_some] at e9; (try simp only [Act.put, List.setIfInBounds_toArray, List.set_cons_zero, List.set_cons_succ, World.size_alloc, setRow_size, Nat.add_assoc, Nat.reduceAdd]))
              | (refine wpList_store_one rfl 5 _ _ rfl Try.one5 J5 15 (v7 ^^^ 135) rfl rfl (by rw [List.length_set]; omega) ?_; intro w8 J6 F8; rw [List.set_set] at J6; (try simp only [Act.put, List.setIfInBounds_toArray, List.set_cons_zero, List.set_cons_succ, World.size_alloc, setRow_size, Nat.add_assoc, Nat.reduceAdd])))
            have hs0 := Hset.out
            rw [Nat.one_mul, hv7.out] at hs0
            rw [hs0, ← Hs.out] at J6
            exact ⟨⟨i + 1, by omega, by go_num, J6, F8.blk (F7.blk E1 (by omega)) (by omega), F8.below (F7.below hbel4 (by omega)) (by omega)⟩, by simp [intOf] <;> omega⟩
    · obtain rfl : i = n := by omega
      have hd0 : decide ((i : Int) < (i : Int)) = false := by simp
      go_wp2_with (first | (refine wpList_load_ints rfl 22 _ rfl w.heap.size rfl C0 Try.ar22 hlx ?_; (try simp only [Act.put, List.setIfInBounds_toArray, List.set_cons_zero, List.set_cons_succ, World.size_alloc, setRow_size, Nat.add_assoc, Nat.reduceAdd])) | (refine wpList_store_ints rfl 22 _ _ rfl (w.heap.size + 1) rfl rfl C1 (zeros_size _ _) Try.ar22 hlx ?_; (try simp only [Act.put, List.setIfInBounds_toArray, List.set_cons_zero, List.set_cons_succ, World.size_alloc, setRow_size, Nat.add_assoc, Nat.reduceAdd])))
      exact ret_ints rfl rfl (C1.row _) Try.ar22 hlx ⟨by rw [Hx.out], bSetRow hbelr (by omega) _⟩
end Go.Proofs.Ytehhipanbjhffaa
