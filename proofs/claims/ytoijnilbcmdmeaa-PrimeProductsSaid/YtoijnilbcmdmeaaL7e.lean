/- The walks of the statements on products modulo 2^130 - 5. No condition but that parts fit 32 bits. -/
import Derived.Test.YtoijnilbcmdmeaaL7
import Derived.Test.YtoijnilbcmdmeaaW7f
namespace Go.Proofs.Ytoijnilbcmdmeaa
open Go.RowKit
set_option maxRecDepth 100000 in
set_option maxHeartbeats 4000000 in
theorem primeProducts_c (xs ys : List Nat) (hl : xs.length = 5) (hb : ∀ x ∈ xs, x < 2 ^ 32) (hl' : ys.length = 5) (hb' : ∀ x ∈ ys, x < 2 ^ 32) (w : World) :
    Calls Try.prog 5 #[.agg (ints .u32 xs), .agg (ints .u32 ys)] w fun e w' => e = .returned (.bool true) ∧ Below w.heap.size w w' := by
  go_enter Try.func5, Try.ntmps5
  go_wp2
  have B1 := (Blk.new w 23 (ints .u32 xs)).alloc (.cells (ints .u32 ys) 23)
  have B2 := Blk.new (w.alloc (.cells (ints .u32 xs) 23)) 23 (ints .u32 ys)
  rw [World.size_alloc] at B2
  have hbel := ((Below.refl w.heap.size w).alloc (Nat.le_refl _) (.cells (ints .u32 xs) 23)).alloc (by simp) (.cells (ints .u32 ys) 23)
  have hsz : Hid (((w.alloc (.cells (ints .u32 xs) 23)).alloc (.cells (ints .u32 ys) 23)).heap.size = w.heap.size + 2) := Lib.hid (by simp)
  generalize ((w.alloc (.cells (ints .u32 xs) 23)).alloc (.cells (ints .u32 ys) 23)) = w0 at *
  have hr1 := restOf_len (val xs % pp)
  have hr1b := restOf_lt (val xs % pp)
  have hr2 := restOf_len (val ys % pp)
  have hr2b := restOf_lt (val ys % pp)
  have e1 : le (restOf (val xs % pp)) = val xs % pp := le_restOf (Nat.lt_trans (Nat.mod_lt _ pp_pos) pp_lt17)
  have e2 : le (restOf (val ys % pp)) = val ys % pp := le_restOf (Nat.lt_trans (Nat.mod_lt _ pp_pos) pp_lt17)
  have hp := rtimes_c _ _ hr1 hr1b hr2 hr2b
  rw [e1, e2] at hp
  have Hp := Lib.hid hp
  clear hp e1 e2
  have hsl : (restOf ((val xs % pp * (val ys % pp)) % pp)).length = 17 := restOf_len _
  refine wp_region_inv (by kernel_rfl) (by kernel_rfl) (fun D a W => ∃ u5 u6 u7 u8 u9 u10 : Value, a = { tmps := #[.agg (ints .u32 xs), .agg (ints .u32 ys), .pointer (some ⟨w.heap.size, 0, none⟩), .pointer (some ⟨w.heap.size + 1, 0, none⟩), .bool false, u5, u6, u7, u8, u9, u10, undef, undef, undef, undef, undef, undef, undef, undef, undef], defers := [] } ∧ Below w0.heap.size w0 W ∧ (D 0 → u6 = .agg (ints .u32 xs)) ∧ (D 1 → u7 = .agg (ints .u8 (restOf (val xs % pp)))) ∧ (D 2 → u8 = .agg (ints .u32 ys)) ∧ (D 3 → u9 = .agg (ints .u8 (restOf (val ys % pp)))) ∧ (D 4 → u10 = .agg (ints .u8 (restOf ((val xs % pp * (val ys % pp)) % pp)))) ∧ (D 5 → Al W w0.heap.size u5 25 17 .u8 (D 6) (restOf ((val xs % pp * (val ys % pp)) % pp))) ∧ (D 6 → D 5)) ?_ ?_ ?_
  · exact ⟨_, _, _, _, _, _, rfl, ⟨rfl, rfl, rfl, Nat.le_refl _, fun _ _ => rfl⟩, (fun h => h.elim), (fun h => h.elim), (fun h => h.elim), (fun h => h.elim), (fun h => h.elim), (fun h => h.elim), (fun h => h.elim)⟩
  · intro i o hi D a W hI hnD hall
    obtain ⟨u5, u6, u7, u8, u9, u10, rfl, hW, f0, f1, f2, f3, f4, f5, f6⟩ := hI
    rcases i with _ | _ | _ | _ | _ | _ | _ | i
    · simp only [Nat.zero_add, Nat.reduceAdd, List.getElem?_toArray, List.getElem?_cons_succ, List.getElem?_cons_zero, Option.some.injEq] at hi
      subst hi
      refine wpOp_load rfl rfl rfl rfl (B1.below' hW) Try.ar23 hl ?_
      exact ⟨_, _, _, _, _, _, rfl, hW, (fun _ => rfl), (fun h => f1 (h.resolve_left (by decide))), (fun h => f2 (h.resolve_left (by decide))), (fun h => f3 (h.resolve_left (by decide))), (fun h => f4 (h.resolve_left (by decide))), (fun h => (f5 (h.resolve_left (by decide))).same (fun h' => h'.resolve_left (by decide))), (fun h => .inr (f6 (h.resolve_left (by decide))))⟩
    · simp only [Nat.zero_add, Nat.reduceAdd, List.getElem?_toArray, List.getElem?_cons_succ, List.getElem?_cons_zero, Option.some.injEq] at hi
      subst hi
      obtain rfl := f0 (pre_of hall 0 rfl)
      refine wpOp_call 31 rfl rfl rfl Try.func31 (by kernel_rfl) (by kernel_rfl) (value_c xs hl hb W) ?_
      intro W' hW'
      exact ⟨_, _, _, _, _, _, rfl, bCall hW hW' hW.size, (fun h => f0 (h.resolve_left (by decide))), (fun _ => rfl), (fun h => f2 (h.resolve_left (by decide))), (fun h => f3 (h.resolve_left (by decide))), (fun h => f4 (h.resolve_left (by decide))), (fun h => (f5 (h.resolve_left (by decide))).below hW' (fun h' => h'.resolve_left (by decide))), (fun h => .inr (f6 (h.resolve_left (by decide))))⟩
    · simp only [Nat.zero_add, Nat.reduceAdd, List.getElem?_toArray, List.getElem?_cons_succ, List.getElem?_cons_zero, Option.some.injEq] at hi
      subst hi
      refine wpOp_load rfl rfl rfl rfl (B2.below' hW) Try.ar23 hl' ?_
      exact ⟨_, _, _, _, _, _, rfl, hW, (fun h => f0 (h.resolve_left (by decide))), (fun h => f1 (h.resolve_left (by decide))), (fun _ => rfl), (fun h => f3 (h.resolve_left (by decide))), (fun h => f4 (h.resolve_left (by decide))), (fun h => (f5 (h.resolve_left (by decide))).same (fun h' => h'.resolve_left (by decide))), (fun h => .inr (f6 (h.resolve_left (by decide))))⟩
    · simp only [Nat.zero_add, Nat.reduceAdd, List.getElem?_toArray, List.getElem?_cons_succ, List.getElem?_cons_zero, Option.some.injEq] at hi
      subst hi
      obtain rfl := f2 (pre_of hall 2 rfl)
      refine wpOp_call 31 rfl rfl rfl Try.func31 (by kernel_rfl) (by kernel_rfl) (value_c ys hl' hb' W) ?_
      intro W' hW'
      exact ⟨_, _, _, _, _, _, rfl, bCall hW hW' hW.size, (fun h => f0 (h.resolve_left (by decide))), (fun h => f1 (h.resolve_left (by decide))), (fun h => f2 (h.resolve_left (by decide))), (fun _ => rfl), (fun h => f4 (h.resolve_left (by decide))), (fun h => (f5 (h.resolve_left (by decide))).below hW' (fun h' => h'.resolve_left (by decide))), (fun h => .inr (f6 (h.resolve_left (by decide))))⟩
    · simp only [Nat.zero_add, Nat.reduceAdd, List.getElem?_toArray, List.getElem?_cons_succ, List.getElem?_cons_zero, Option.some.injEq] at hi
      subst hi
      obtain rfl := f1 (pre_of hall 1 rfl)
      obtain rfl := f3 (pre_of hall 3 rfl)
      refine wpOp_call 36 rfl rfl rfl Try.func36 (by kernel_rfl) (by kernel_rfl) (Hp.out W) ?_
      intro W' hW'
      exact ⟨_, _, _, _, _, _, rfl, bCall hW hW' hW.size, (fun h => f0 (h.resolve_left (by decide))), (fun h => f1 (h.resolve_left (by decide))), (fun h => f2 (h.resolve_left (by decide))), (fun h => f3 (h.resolve_left (by decide))), (fun _ => rfl), (fun h => (f5 (h.resolve_left (by decide))).below hW' (fun h' => h'.resolve_left (by decide))), (fun h => .inr (f6 (h.resolve_left (by decide))))⟩
    · simp only [Nat.zero_add, Nat.reduceAdd, List.getElem?_toArray, List.getElem?_cons_succ, List.getElem?_cons_zero, Option.some.injEq] at hi
      subst hi
      refine wpOp_alloc rfl rfl rfl Try.z25 ?_
      have hnS : ¬ (6 = 5 ∨ D 6) := fun h => h.elim (by decide) (fun h => hnD (f6 h))
      exact ⟨_, _, _, _, _, _, rfl, hW.alloc hW.size _, (fun h => f0 (h.resolve_left (by decide))), (fun h => f1 (h.resolve_left (by decide))), (fun h => f2 (h.resolve_left (by decide))), (fun h => f3 (h.resolve_left (by decide))), (fun h => f4 (h.resolve_left (by decide))), (fun _ => Al.new hW.size (fun h => (hnS h).elim)), (fun _ => .inl rfl)⟩
    · simp only [Nat.zero_add, Nat.reduceAdd, List.getElem?_toArray, List.getElem?_cons_succ, List.getElem?_cons_zero, Option.some.injEq] at hi
      subst hi
      obtain rfl := f4 (pre_of hall 4 rfl)
      obtain ⟨g, l, rfl, hg, hl0, hB, hst⟩ := f5 (pre_of hall 5 rfl)
      refine wpOp_store rfl rfl rfl rfl rfl hB ((ints_size _ _).trans hl0) Try.ar25 hsl ?_
      exact ⟨_, _, _, _, _, _, rfl, bSetRow hW hg _, (fun h => f0 (h.resolve_left (by decide))), (fun h => f1 (h.resolve_left (by decide))), (fun h => f2 (h.resolve_left (by decide))), (fun h => f3 (h.resolve_left (by decide))), (fun h => f4 (h.resolve_left (by decide))), (fun _ => Al.set hB hg hsl), (fun _ => .inr (pre_of hall 5 rfl))⟩
    · exfalso; simp at hi
  · rintro D a W ⟨u5, u6, u7, u8, u9, u10, rfl, hW, f0, f1, f2, f3, f4, f5, f6⟩ hall
    obtain rfl := f0 (hall 0 (by decide))
    obtain rfl := f1 (hall 1 (by decide))
    obtain rfl := f2 (hall 2 (by decide))
    obtain rfl := f3 (hall 3 (by decide))
    obtain rfl := f4 (hall 4 (by decide))
    obtain ⟨g5, l5, rfl, hg5, -, hB5, hl5⟩ := f5 (hall 5 (by decide))
    obtain rfl := hl5 (hall 6 (by decide))
    clear f0 f1 f2 f3 f4 f5 f6 hall
    have C1 := B1.below' hW
    have C2 := B2.below' hW
    have hl1 := B2.lt
    have hbel1 := bCall hbel hW (by omega)
    have hq : dig 67108864 5 (le (restOf ((val xs % pp * (val ys % pp)) % pp))) = numOf (val xs * val ys) := by
      rw [le_restOf (Nat.lt_trans (Nat.mod_lt _ pp_pos) pp_lt17), ← Nat.mul_mod]; rfl
    have hpc := parts_c _ hsl (restOf_lt _)
    rw [hq] at hpc
    have Hpc := Lib.hid hpc
    clear hpc hq
    generalize restOf ((val xs % pp * (val ys % pp)) % pp) = rs at *
    go_wp2
    refine wp_region_below (by kernel_rfl) (by kernel_rfl) ?_
    refine quiet_load rfl rfl rfl C1 Try.ar23 hl ?_
    (try simp only [Act.put, List.setIfInBounds_toArray, List.set_cons_zero, List.set_cons_succ, World.size_alloc, setRow_size, Nat.add_assoc, Nat.reduceAdd])
    refine quiet_load rfl rfl rfl C2 Try.ar23 hl' ?_
    (try simp only [Act.put, List.setIfInBounds_toArray, List.set_cons_zero, List.set_cons_succ, World.size_alloc, setRow_size, Nat.add_assoc, Nat.reduceAdd])
    refine quiet_call 37 rfl rfl Try.func37 (by kernel_rfl) (by kernel_rfl) (fun W _ => times_c xs ys hl hb hl' hb' W) ?_
    (try simp only [Act.put, List.setIfInBounds_toArray, List.set_cons_zero, List.set_cons_succ, World.size_alloc, setRow_size, Nat.add_assoc, Nat.reduceAdd])
    refine quiet_load rfl rfl rfl hB5 Try.ar25 hsl ?_
    (try simp only [Act.put, List.setIfInBounds_toArray, List.set_cons_zero, List.set_cons_succ, World.size_alloc, setRow_size, Nat.add_assoc, Nat.reduceAdd])
    refine quiet_call 33 rfl rfl Try.func33 (by kernel_rfl) (by kernel_rfl) (fun W _ => Hpc.out W) ?_
    (try simp only [Act.put, List.setIfInBounds_toArray, List.set_cons_zero, List.set_cons_succ, World.size_alloc, setRow_size, Nat.add_assoc, Nat.reduceAdd])
    refine quiet_eql rfl rfl rfl rfl Try.eg28 (numSame _ _ (numOf_len _) rfl) ?_
    (try simp only [Act.put, List.setIfInBounds_toArray, List.set_cons_zero, List.set_cons_succ, World.size_alloc, setRow_size, Nat.add_assoc, Nat.reduceAdd])
    refine quiet_move rfl rfl rfl ?_
    (try simp only [Act.put, List.setIfInBounds_toArray, List.set_cons_zero, List.set_cons_succ, World.size_alloc, setRow_size, Nat.add_assoc, Nat.reduceAdd])
    refine quiet_call 34 rfl rfl Try.func34 (by kernel_rfl) (by kernel_rfl) (fun W _ => awake7_c W) ?_
    (try simp only [Act.put, List.setIfInBounds_toArray, List.set_cons_zero, List.set_cons_succ, World.size_alloc, setRow_size, Nat.add_assoc, Nat.reduceAdd])
    refine quiet_pickt (by rfl) (by rfl) (by rfl) (by rfl) (by rfl) ?_
    (try simp only [Act.put, List.setIfInBounds_toArray, List.set_cons_zero, List.set_cons_succ, World.size_alloc, setRow_size, Nat.add_assoc, Nat.reduceAdd])
    refine quiet_assign rfl rfl rfl ?_
    (try simp only [Act.put, List.setIfInBounds_toArray, List.set_cons_zero, List.set_cons_succ, World.size_alloc, setRow_size, Nat.add_assoc, Nat.reduceAdd])
    refine wpQuiet_nil ?_
    intro w' hw'
    go_wp2
    go_ret
    exact ⟨rfl, bCall hbel1 hw' hbel1.size⟩
end Go.Proofs.Ytoijnilbcmdmeaa
