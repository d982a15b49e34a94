/- The reference's Multiple. No condition but that bytes are below 256 and the number below 2^64. -/
import Derived.Test.YtehhipanbjhffaaW10r
namespace Go.Proofs.Ytehhipanbjhffaa
set_option linter.unusedSimpArgs false
set_option linter.unusedVariables false
set_option linter.unusedSectionVars false
set_option linter.unusedVariables false
open Go.RowKit
open Gf (up upN mulS mul R1)
theorem polyN_fill (n k : Nat) (hk : k < 256) : (polyN (n % 2 ^ k)).set k (n / 2 ^ k % 2) = polyN (n % 2 ^ (k + 1)) := by
  have h := polyN_set (n % 2 ^ k) (n / 2 ^ k % 2) k hk (by omega)
  rw [Nat.div_eq_of_lt (Nat.mod_lt n (Nat.two_pow_pos k)), Nat.zero_mod, Nat.zero_xor, Gf.xor_add k (Nat.mod_lt _ (Nat.two_pow_pos k))] at h
  rw [h, Nat.mod_pow_succ, Nat.mul_comm]
set_option maxRecDepth 100000 in
set_option maxHeartbeats 4000000 in
theorem multiple_ref (n : Nat) (as_ : List Nat) (hn : n < 2 ^ 64) (hl : as_.length = 16) (hb : ∀ x ∈ as_, x < 256) (w : World) :
    Calls Try.prog 25 #[.int .u64 n, .agg (ints .u8 as_)] w fun e w' => e = .returned (.agg (ints .u8 (belem (mul R2 (bnum as_) n)))) ∧ Below w.heap.size w w' := by
  have hx := bnum_lt hl hb
  have hd := Gf.mul_lt R2_lt hx n
  have hel := belem_len (mul R2 (bnum as_) n)
  have B0 := ((Blk.new w 22 (ints .u8 as_)).alloc (.cells (ints .u8 (zeros 16)) 22)).alloc (.cells (ints .u8 (zeros 256)) 47)
  have B1 := (Blk.new (w.alloc (.cells (ints .u8 as_) 22)) 22 (ints .u8 (zeros 16))).alloc (.cells (ints .u8 (zeros 256)) 47)
  have B2 := Blk.new ((w.alloc (.cells (ints .u8 as_) 22)).alloc (.cells (ints .u8 (zeros 16)) 22)) 47 (ints .u8 (zeros 256))
  rw [World.size_alloc] at B1
  rw [World.size_alloc, World.size_alloc] at B2
  simp only [Nat.add_assoc, Nat.reduceAdd] at B2
  have hbel := (((Below.refl w.heap.size w).alloc (Nat.le_refl _) (.cells (ints .u8 as_) 22)).alloc (by simp) (.cells (ints .u8 (zeros 16)) 22)).alloc (by simp; omega) (.cells (ints .u8 (zeros 256)) 47)
  have Hx := Lib.hid hx
  have Hd := Lib.hid hd
  have hn64 : n < 18446744073709551616 := hn
  have Hn := Lib.hid hn
  clear hx hd hn
  go_enter Try.func25, Try.ntmps25
  go_wp2_with (first | (refine wpList_alloc_ints rfl 22 rfl Try.z22 ?_; (try simp only [Act.put, List.setIfInBounds_toArray, List.set_cons_zero, List.set_cons_succ, World.size_alloc, setRow_size, Nat.add_assoc, Nat.reduceAdd])) | (refine wpList_alloc_ints rfl 47 rfl Try.z47 ?_; (try simp only [Act.put, List.setIfInBounds_toArray, List.set_cons_zero, List.set_cons_succ, World.size_alloc, setRow_size, Nat.add_assoc, Nat.reduceAdd])))
  generalize (((w.alloc (.cells (ints .u8 as_) 22)).alloc (.cells (ints .u8 (zeros 16)) 22)).alloc (.cells (ints .u8 (zeros 256)) 47)) = w1 at *
  rw [← polyN_zero] at B2
  go_loopw [6] (fun t wr => ∃ k : Nat, k ≤ 64 ∧ t = .int .i64 k ∧ Blk wr w.heap.size 22 (ints .u8 as_) ∧ Blk wr (w.heap.size + 1) 22 (ints .u8 (zeros 16)) ∧ Blk wr (w.heap.size + 2) 47 (ints .u8 (polyN (n % 2 ^ k))) ∧ Below w.heap.size w wr) (fun t wr => 64 - (intOf t).toNat)
  case atStart => exact ⟨0, by omega, rfl, B0, B1, by rw [Nat.pow_zero, Nat.mod_one]; exact B2, hbel⟩
  case round =>
    rename_i hrel
    obtain ⟨k, hk, rfl, C0, C1, C2, hbelr⟩ := hrel
    by_cases hlt : k < 64
    · have hpl := polyN_len (n % 2 ^ k)
      obtain ⟨v, hv⟩ : ∃ v : Nat, v = n / 2 ^ k := ⟨_, rfl⟩
      have hf := polyN_fill n k (by omega)
      have hvI : (n : Int) / 2 ^ k = (v : Int) := by rw [hv]; simp
      have hv64 : (v : Int) ≤ 18446744073709551615 := by have := Nat.div_le_self n (2 ^ k); omega
      rw [← hv] at hf
      have HV := Lib.hid hf
      clear hv hf
      have hd0 : decide ((k : Int) < 64) = true := by simp; omega
      go_wp2_with (refine wpList_store_one rfl 5 _ _ rfl Try.one5 C2 k (v % 2) rfl (congrArg (Value.int IntKind.u8) (show (v : Int) % 2 = ((v % 2 : Nat) : Int) by omega)) (by omega) ?_; intro w2 E2 F2; rw [HV.out] at E2; (try simp only [Act.put, List.setIfInBounds_toArray, List.set_cons_zero, List.set_cons_succ, World.size_alloc, setRow_size, Nat.add_assoc, Nat.reduceAdd]))
      exact ⟨⟨k + 1, by omega, by go_num, F2.blk C0 (by omega), F2.blk C1 (by omega), E2, F2.below hbelr (by omega)⟩, by simp [intOf] <;> omega⟩
    · obtain rfl : k = 64 := by omega
      rw [Nat.mod_eq_of_lt Hn.out] at C2
      have hpl := polyN_len n
      have hd0 : decide ((64 : Int) < 64) = false := by decide
      go_wp2
      refine wp_region_last 5 (by kernel_rfl) (by kernel_rfl) (by kernel_rfl) (by kernel_rfl) (fun D a W => ∃ u9 u10 u11 u12 u13 u14 u15 u16 u17 u18 u19 u20 u21 u22 u23 : Value, a = { tmps := #[.int .u64 n, .agg (ints .u8 as_), undef, .pointer (some ⟨w.heap.size, 0, none⟩), .pointer (some ⟨w.heap.size + 1, 0, none⟩), .pointer (some ⟨w.heap.size + 2, 0, none⟩), .int .i64 64, .int .i64 64, .bool false, u9, u10, u11, u12, u13, u14, u15, u16, u17, u18, u19, u20, u21, u22, u23], defers := [] } ∧ Below wr.heap.size wr W ∧ (D 0 → u19 = .agg (ints .u8 as_)) ∧ (D 1 → u20 = .agg (ints .u8 (polyN (bnum as_)))) ∧ (D 2 → u21 = .agg (ints .u8 (polyN n))) ∧ (D 3 → u22 = .agg (ints .u8 (polyN (mul R2 (bnum as_) n)))) ∧ (D 4 → u23 = .agg (ints .u8 (belem (mul R2 (bnum as_) n))))) ?_ ?_ ?_
      · exact ⟨_, _, _, _, _, _, _, _, _, _, _, _, _, _, _, rfl, ⟨rfl, rfl, rfl, Nat.le_refl _, fun _ _ => rfl⟩, (fun h => h.elim), (fun h => h.elim), (fun h => h.elim), (fun h => h.elim), (fun h => h.elim)⟩
      · intro i o hilt hi D a W hI hnD hall
        obtain ⟨u9, u10, u11, u12, u13, u14, u15, u16, u17, u18, u19, u20, u21, u22, u23, rfl, hW, f0, f1, f2, f3, f4⟩ := hI
        rcases i with _ | _ | _ | _ | _ | i
        · simp only [Nat.zero_add, Nat.reduceAdd, List.getElem?_toArray, List.getElem?_cons_succ, List.getElem?_cons_zero, Option.some.injEq] at hi
          subst hi
          refine wpOp_load rfl rfl rfl rfl (C0.below' hW) Try.ar22 hl ?_
          exact ⟨_, _, _, _, _, _, _, _, _, _, _, _, _, _, _, rfl, hW, (fun _ => rfl), (fun h => f1 (h.resolve_left (by decide))), (fun h => f2 (h.resolve_left (by decide))), (fun h => f3 (h.resolve_left (by decide))), (fun h => f4 (h.resolve_left (by decide)))⟩
        · simp only [Nat.zero_add, Nat.reduceAdd, List.getElem?_toArray, List.getElem?_cons_succ, List.getElem?_cons_zero, Option.some.injEq] at hi
          subst hi
          obtain rfl := f0 (pre_of hall 0 rfl)
          refine wpOp_call 38 rfl rfl rfl Try.func38 (by kernel_rfl) (by kernel_rfl) (high_ref as_ hl hb W) ?_
          intro W' hW'
          exact ⟨_, _, _, _, _, _, _, _, _, _, _, _, _, _, _, rfl, bCall hW hW' hW.size, (fun h => f0 (h.resolve_left (by decide))), (fun _ => rfl), (fun h => f2 (h.resolve_left (by decide))), (fun h => f3 (h.resolve_left (by decide))), (fun h => f4 (h.resolve_left (by decide)))⟩
        · simp only [Nat.zero_add, Nat.reduceAdd, List.getElem?_toArray, List.getElem?_cons_succ, List.getElem?_cons_zero, Option.some.injEq] at hi
          subst hi
          refine wpOp_load rfl rfl rfl rfl (C2.below' hW) Try.ar47 hpl ?_
          exact ⟨_, _, _, _, _, _, _, _, _, _, _, _, _, _, _, rfl, hW, (fun h => f0 (h.resolve_left (by decide))), (fun h => f1 (h.resolve_left (by decide))), (fun _ => rfl), (fun h => f3 (h.resolve_left (by decide))), (fun h => f4 (h.resolve_left (by decide)))⟩
        · simp only [Nat.zero_add, Nat.reduceAdd, List.getElem?_toArray, List.getElem?_cons_succ, List.getElem?_cons_zero, Option.some.injEq] at hi
          subst hi
          obtain rfl := f1 (pre_of hall 1 rfl)
          obtain rfl := f2 (pre_of hall 2 rfl)
          refine wpOp_call 32 rfl rfl rfl Try.func32 (by kernel_rfl) (by kernel_rfl) (rest2_ref (bnum as_) n Hx.out (Nat.lt_of_lt_of_le hn64 (by decide)) W) ?_
          intro W' hW'
          exact ⟨_, _, _, _, _, _, _, _, _, _, _, _, _, _, _, rfl, bCall hW hW' hW.size, (fun h => f0 (h.resolve_left (by decide))), (fun h => f1 (h.resolve_left (by decide))), (fun h => f2 (h.resolve_left (by decide))), (fun _ => rfl), (fun h => f4 (h.resolve_left (by decide)))⟩
        · simp only [Nat.zero_add, Nat.reduceAdd, List.getElem?_toArray, List.getElem?_cons_succ, List.getElem?_cons_zero, Option.some.injEq] at hi
          subst hi
          obtain rfl := f3 (pre_of hall 3 rfl)
          refine wpOp_call 37 rfl rfl rfl Try.func37 (by kernel_rfl) (by kernel_rfl) (highest_ref (mul R2 (bnum as_) n) Hd.out W) ?_
          intro W' hW'
          exact ⟨_, _, _, _, _, _, _, _, _, _, _, _, _, _, _, rfl, bCall hW hW' hW.size, (fun h => f0 (h.resolve_left (by decide))), (fun h => f1 (h.resolve_left (by decide))), (fun h => f2 (h.resolve_left (by decide))), (fun h => f3 (h.resolve_left (by decide))), (fun _ => rfl)⟩
        · exfalso; omega
      · rintro D a W ⟨u9, u10, u11, u12, u13, u14, u15, u16, u17, u18, u19, u20, u21, u22, u23, rfl, hW, f0, f1, f2, f3, f4⟩ hall
        obtain rfl := f0 (hall 0 (by decide))
        obtain rfl := f1 (hall 1 (by decide))
        obtain rfl := f2 (hall 2 (by decide))
        obtain rfl := f3 (hall 3 (by decide))
        obtain rfl := f4 (hall 4 (by decide))
        clear f0 f1 f2 f3 f4 hall
        have K2 := C1.below' hW
        have hbel1 := bCall hbelr hW (by have := C1.lt; omega)
        refine wpOp_store rfl rfl rfl rfl rfl K2 (zeros_size _ _) Try.ar22 hel ?_
        go_wp2
        exact ret_ints rfl rfl (K2.row _) Try.ar22 hel ⟨rfl, bSetRow hbel1 (by omega) _⟩
end Go.Proofs.Ytehhipanbjhffaa
