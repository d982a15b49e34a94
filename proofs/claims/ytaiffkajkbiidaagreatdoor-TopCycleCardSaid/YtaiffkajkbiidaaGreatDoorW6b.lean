/- BLAKE2b's half step: what it leaves is sixteen words. No condition but that words are below 2^64. -/
import Derived.Test.YtaiffkajkbiidaaGreatDoorW6a
import Derived.StillTailTactics
namespace Go.Proofs.YtaiffkajkbiidaaGreatDoor
set_option linter.unusedSimpArgs false
set_option linter.unusedVariables false
set_option linter.unusedSectionVars false
set_option linter.unusedVariables false
open Go.RowKit
theorem u64_getD {xs : List Nat} (h : ∀ x ∈ xs, x < 18446744073709551616) (i : Nat) : xs.getD i 0 < 18446744073709551616 := getD_bound h (by decide) i
theorem u64_set {xs : List Nat} {i n : Nat} (h : ∀ x ∈ xs, x < 18446744073709551616) (hn : n < 18446744073709551616) : ∀ x ∈ xs.set i n, x < 18446744073709551616 := fun x hx => (List.mem_or_eq_of_mem_set hx).elim (h x) fun e => e ▸ hn
/-- Sixteen words in a block. -/
structure V16 (w : World) (g : Nat) (vs : List Nat) : Prop where
  len : vs.length = 16
  lt64 : ∀ x ∈ vs, x < 18446744073709551616
  blk : Blk w g 163 (ints .u64 vs)
theorem V16.drew {w : World} {g : Nat} {vs : List Nat} (h : V16 w g vs) : V16 w.drew g vs := ⟨h.len, h.lt64, h.blk⟩
theorem V16.set {w : World} {g : Nat} {vs : List Nat} (h : V16 w g vs) (i : Nat) {n : Nat} (hn : n < 18446744073709551616) : V16 (w.setCell ⟨g, i, none⟩ (.int .u64 (n : Int))) g (vs.set i n) :=
  ⟨by rw [List.length_set, h.len], u64_set h.lt64 hn, h.blk.intSet i n⟩
theorem V16.at_ {w : World} {g : Nat} {vs : List Nat} (h : V16 w g vs) {i : Nat} (hi : i < 16) : vs.getD i 0 < 18446744073709551616 ∧ w.cell? ⟨g, i, none⟩ = some (.int .u64 ((vs.getD i 0 : Nat) : Int)) :=
  ⟨u64_getD h.lt64 i, h.blk.int (by rw [h.len]; exact hi)⟩
theorem V16.frozen {w : World} {g : Nat} {vs : List Nat} (h : V16 w g vs) (i : Nat) : w.frozen? ⟨g, i, none⟩ = false := h.blk.frozen i
theorem V16.lt {w : World} {g : Nat} {vs : List Nat} (h : V16 w g vs) : g < w.heap.size := h.blk.lt
theorem V16.ch {w w' : World} {g g' : Nat} {vs : List Nat} (h : V16 w g vs) (hc : Ch g' w w') (hne : g ≠ g') : V16 w' g vs := ⟨h.len, h.lt64, hc.blk h.blk hne⟩
theorem V16.below {w w' : World} {g : Nat} {vs : List Nat} (h : V16 w g vs) (hb : Below w.heap.size w w') : V16 w' g vs := ⟨h.len, h.lt64, h.blk.below' hb⟩
def half1 (vs : List Nat) (a b x : Nat) : List Nat := vs.set a ((vs.getD a 0 + vs.getD b 0 + x) % 18446744073709551616)
def half2 (vs : List Nat) (d a s : Nat) : List Nat := vs.set d (rotW (vs.getD d 0 ^^^ vs.getD a 0) s)
def half3 (vs : List Nat) (c d : Nat) : List Nat := vs.set c ((vs.getD c 0 + vs.getD d 0) % 18446744073709551616)
def halfN (vs : List Nat) (a b c d x s1 s2 : Nat) : List Nat := half2 (half3 (half2 (half1 vs a b x) d a s1) c d) b c s2
theorem wrapA (A B x : Nat) : IntKind.u64.wrap ((A : Int) + IntKind.u64.wrap ((B : Int) + (x : Int))) = (((A + B + x) % 18446744073709551616 : Nat) : Int) := by
  rw [IntKind.wrap_u64, IntKind.wrap_u64]; omega
theorem wrapB (A B : Nat) : IntKind.u64.wrap ((A : Int) + (B : Int)) = (((A + B) % 18446744073709551616 : Nat) : Int) := by
  rw [IntKind.wrap_u64]; omega
set_option maxRecDepth 100000 in
set_option maxHeartbeats 8000000 in
theorem half_c (g a b c d : Nat) (ha : a < 16) (hb : b < 16) (hc : c < 16) (hd : d < 16) (x : Nat) (hx : x < 18446744073709551616) (y1 y2 k1 k2 : Int) (s1 s2 : Nat) (hn1 : IntKind.i64.wrap (-y1) = k1) (hn2 : IntKind.i64.wrap (-y2) = k2)
    (hk1 : (k1 = -32 ∧ s1 = 32) ∨ (k1 = -24 ∧ s1 = 40) ∨ (k1 = -16 ∧ s1 = 48) ∨ (k1 = -63 ∧ s1 = 1)) (hk2 : (k2 = -32 ∧ s2 = 32) ∨ (k2 = -24 ∧ s2 = 40) ∨ (k2 = -16 ∧ s2 = 48) ∨ (k2 = -63 ∧ s2 = 1)) (w : World) (vs : List Nat) (hV : V16 w g vs) :
    Calls Tryz.prog 77 #[.pointer (some ⟨g, 0, none⟩), .int .i64 (a : Int), .int .i64 (b : Int), .int .i64 (c : Int), .int .i64 (d : Int), .int .u64 (x : Int), .int .i64 y1, .int .i64 y2] w fun e w' => e = .returned (.tuple #[]) ∧ V16 w' g (halfN vs a b c d x s1 s2) ∧ Ch g w w' := by
  have HA : (a : Int) < 16 := by omega
  have HB : (b : Int) < 16 := by omega
  have HC : (c : Int) < 16 := by omega
  have HD : (d : Int) < 16 := by omega
  obtain ⟨r, HR⟩ : ∃ r, Hid (halfN vs a b c d x s1 s2 = r) := ⟨_, Lib.hid rfl⟩
  rw [HR.out]
  obtain ⟨hA, cA⟩ := hV.at_ ha
  obtain ⟨hB, cB⟩ := hV.at_ hb
  have hw1 := wrapA (vs.getD a 0) (vs.getD b 0) x
  have hn : (vs.getD a 0 + vs.getD b 0 + x) % 18446744073709551616 < 18446744073709551616 := Nat.mod_lt _ (by decide)
  obtain ⟨v1, H1⟩ : ∃ v1, Hid (half1 vs a b x = v1) := ⟨_, Lib.hid rfl⟩
  have E1 : Hid (vs.set a ((vs.getD a 0 + vs.getD b 0 + x) % 18446744073709551616) = v1) := Lib.hid H1.out
  generalize (vs.getD a 0 + vs.getD b 0 + x) % 18446744073709551616 = n1 at *
  generalize vs.getD a 0 = A at *
  generalize vs.getD b 0 = B at *
  go_enter Tryz.func77, Tryz.ntmps77
  go_wp2_with fail
  go_still_tail 14, (by kernel_rfl)
  change wpList _ _ _ _ _ w.drew
  have hch := (Ch.refl g w).drew
  replace hV := hV.drew
  clear cA cB
  generalize w.drew = w1 at *
  have cA := (hV.at_ ha).2
  have zA := hV.frozen a
  replace hV := hV.set a hn
  rw [E1.out] at hV
  replace hch := hch.trans (Ch.of_far (Far.set w1 g a (.int .u64 (n1 : Int))))
  generalize vs.getD a 0 = A' at *
  go_wp2_with fail
  clear hw1 cA zA hA hB
  generalize (w1.setCell ⟨g, a, none⟩ (.int .u64 (n1 : Int))) = w2 at *
  obtain ⟨hA, cA⟩ := hV.at_ ha
  obtain ⟨hD, cD⟩ := hV.at_ hd
  have hgl := hV.lt
  have hxor := u64_xor_nat (v1.getD d 0) (v1.getD a 0) hD hA
  have hX : v1.getD d 0 ^^^ v1.getD a 0 < 18446744073709551616 := Nat.xor_lt_two_pow (n := 64) hD hA
  obtain ⟨v2, H2⟩ : ∃ v2, Hid (half2 v1 d a s1 = v2) := ⟨_, Lib.hid rfl⟩
  have E2 : Hid (v1.set d (rotW (v1.getD d 0 ^^^ v1.getD a 0) s1) = v2) := Lib.hid H2.out
  generalize v1.getD d 0 ^^^ v1.getD a 0 = X at *
  generalize v1.getD d 0 = D at *
  generalize v1.getD a 0 = A2 at *
  have hrot := fun W => pureB (rot64_c X hX k1 s1 hk1 W)
  have hR := rotW_lt (x := X) (s := s1) hX
  generalize rotW X s1 = R at *
  refine wp_region_below_tail 17 (by kernel_rfl) (by kernel_rfl) ?_
  simp only [List.take_succ_cons, List.take_zero, List.drop_succ_cons, List.drop_zero]
  go_big_quiet_step (fail)
  go_big_quiet_step (fail)
  go_big_quiet_step (fail)
  go_big_quiet_step (fail)
  refine quiet_run (v := .pointer (some ⟨g, 0, none⟩)) rfl (fun W => by kernel_rfl) ?_
  (try simp only [Act.put, List.setIfInBounds_toArray, List.set_cons_zero, List.set_cons_succ, World.size_alloc, setRow_size, Nat.add_assoc, Nat.reduceAdd])
  go_big_quiet_step ((intro _; rfl))
  refine quiet_cell rfl rfl rfl Tryz.underlying106 hgl cD ?_
  (try simp only [Act.put, List.setIfInBounds_toArray, List.set_cons_zero, List.set_cons_succ, World.size_alloc, setRow_size, Nat.add_assoc, Nat.reduceAdd])
  go_big_quiet_step (fail)
  go_big_quiet_step (fail)
  refine quiet_run (v := .pointer (some ⟨g, 0, none⟩)) rfl (fun W => by kernel_rfl) ?_
  (try simp only [Act.put, List.setIfInBounds_toArray, List.set_cons_zero, List.set_cons_succ, World.size_alloc, setRow_size, Nat.add_assoc, Nat.reduceAdd])
  go_big_quiet_step ((intro _; rfl))
  refine quiet_cell rfl rfl rfl Tryz.underlying106 hgl cA ?_
  (try simp only [Act.put, List.setIfInBounds_toArray, List.set_cons_zero, List.set_cons_succ, World.size_alloc, setRow_size, Nat.add_assoc, Nat.reduceAdd])
  go_big_quiet_step ((intro _; rfl))
  go_big_quiet_step (fail)
  go_big_quiet_step ((intro _; rfl))
  refine quiet_call 79 rfl rfl Tryz.func79 (by kernel_rfl) (by kernel_rfl) (fun W hQ => hrot W) ?_
  (try simp only [Act.put, List.setIfInBounds_toArray, List.set_cons_zero, List.set_cons_succ, World.size_alloc, setRow_size, Nat.add_assoc, Nat.reduceAdd])
  refine quiet_run (v := .pointer (some ⟨g, 0, none⟩)) rfl (fun W => by kernel_rfl) ?_
  (try simp only [Act.put, List.setIfInBounds_toArray, List.set_cons_zero, List.set_cons_succ, World.size_alloc, setRow_size, Nat.add_assoc, Nat.reduceAdd])
  refine wpQuiet_nil ?_
  intro w' hw'
  replace hV := hV.below hw'
  replace hch := hch.trans (Ch.of_below (g := g) hw')
  clear cA cD hrot hxor hgl hw' hA hD hX
  have cD := (hV.at_ hd).2
  have zD := hV.frozen d
  replace hV := hV.set d hR
  rw [E2.out] at hV
  replace hch := hch.trans (Ch.of_far (Far.set w' g d (.int .u64 (R : Int))))
  generalize v1.getD d 0 = D3 at *
  go_wp2_with fail
  clear cD zD
  generalize (w'.setCell ⟨g, d, none⟩ (.int .u64 (R : Int))) = w3 at *
  obtain ⟨hC4, cC⟩ := hV.at_ hc
  obtain ⟨hD4, cD⟩ := hV.at_ hd
  have hw4 := wrapB (v2.getD c 0) (v2.getD d 0)
  have hn4 : (v2.getD c 0 + v2.getD d 0) % 18446744073709551616 < 18446744073709551616 := Nat.mod_lt _ (by decide)
  obtain ⟨v3, H3⟩ : ∃ v3, Hid (half3 v2 c d = v3) := ⟨_, Lib.hid rfl⟩
  have E3 : Hid (v2.set c ((v2.getD c 0 + v2.getD d 0) % 18446744073709551616) = v3) := Lib.hid H3.out
  generalize (v2.getD c 0 + v2.getD d 0) % 18446744073709551616 = n4 at *
  generalize v2.getD c 0 = C4 at *
  generalize v2.getD d 0 = D4 at *
  go_still_tail 12, (by kernel_rfl)
  change wpList _ _ _ _ _ w3.drew
  replace hch := hch.drew
  replace hV := hV.drew
  clear cC cD
  generalize w3.drew = w4 at *
  have cC := (hV.at_ hc).2
  have zC := hV.frozen c
  replace hV := hV.set c hn4
  rw [E3.out] at hV
  replace hch := hch.trans (Ch.of_far (Far.set w4 g c (.int .u64 (n4 : Int))))
  generalize v2.getD c 0 = C5 at *
  go_wp2_with fail
  clear hw4 cC zC hC4 hD4
  generalize (w4.setCell ⟨g, c, none⟩ (.int .u64 (n4 : Int))) = w5 at *
  obtain ⟨hB, cB⟩ := hV.at_ hb
  obtain ⟨hC, cC⟩ := hV.at_ hc
  have hgl := hV.lt
  have hxor := u64_xor_nat (v3.getD b 0) (v3.getD c 0) hB hC
  have hX : v3.getD b 0 ^^^ v3.getD c 0 < 18446744073709551616 := Nat.xor_lt_two_pow (n := 64) hB hC
  have E4 : Hid (v3.set b (rotW (v3.getD b 0 ^^^ v3.getD c 0) s2) = r) := Lib.hid (by rw [← HR.out]; unfold halfN; rw [H1.out, H2.out, H3.out]; rfl)
  generalize v3.getD b 0 ^^^ v3.getD c 0 = X6 at *
  generalize v3.getD b 0 = B6 at *
  generalize v3.getD c 0 = C6 at *
  have hrot := fun W => pureB (rot64_c X6 hX k2 s2 hk2 W)
  have hR2 := rotW_lt (x := X6) (s := s2) hX
  generalize rotW X6 s2 = R2 at *
  refine wp_region_below_tail 17 (by kernel_rfl) (by kernel_rfl) ?_
  simp only [List.take_succ_cons, List.take_zero, List.drop_succ_cons, List.drop_zero]
  go_big_quiet_step (fail)
  go_big_quiet_step (fail)
  go_big_quiet_step (fail)
  go_big_quiet_step (fail)
  refine quiet_run (v := .pointer (some ⟨g, 0, none⟩)) rfl (fun W => by kernel_rfl) ?_
  (try simp only [Act.put, List.setIfInBounds_toArray, List.set_cons_zero, List.set_cons_succ, World.size_alloc, setRow_size, Nat.add_assoc, Nat.reduceAdd])
  go_big_quiet_step ((intro _; rfl))
  refine quiet_cell rfl rfl rfl Tryz.underlying106 hgl cB ?_
  (try simp only [Act.put, List.setIfInBounds_toArray, List.set_cons_zero, List.set_cons_succ, World.size_alloc, setRow_size, Nat.add_assoc, Nat.reduceAdd])
  go_big_quiet_step (fail)
  go_big_quiet_step (fail)
  refine quiet_run (v := .pointer (some ⟨g, 0, none⟩)) rfl (fun W => by kernel_rfl) ?_
  (try simp only [Act.put, List.setIfInBounds_toArray, List.set_cons_zero, List.set_cons_succ, World.size_alloc, setRow_size, Nat.add_assoc, Nat.reduceAdd])
  go_big_quiet_step ((intro _; rfl))
  refine quiet_cell rfl rfl rfl Tryz.underlying106 hgl cC ?_
  (try simp only [Act.put, List.setIfInBounds_toArray, List.set_cons_zero, List.set_cons_succ, World.size_alloc, setRow_size, Nat.add_assoc, Nat.reduceAdd])
  go_big_quiet_step ((intro _; rfl))
  go_big_quiet_step (fail)
  go_big_quiet_step ((intro _; rfl))
  refine quiet_call 79 rfl rfl Tryz.func79 (by kernel_rfl) (by kernel_rfl) (fun W hQ => hrot W) ?_
  (try simp only [Act.put, List.setIfInBounds_toArray, List.set_cons_zero, List.set_cons_succ, World.size_alloc, setRow_size, Nat.add_assoc, Nat.reduceAdd])
  refine quiet_run (v := .pointer (some ⟨g, 0, none⟩)) rfl (fun W => by kernel_rfl) ?_
  (try simp only [Act.put, List.setIfInBounds_toArray, List.set_cons_zero, List.set_cons_succ, World.size_alloc, setRow_size, Nat.add_assoc, Nat.reduceAdd])
  refine wpQuiet_nil ?_
  intro w' hw'
  replace hV := hV.below hw'
  replace hch := hch.trans (Ch.of_below (g := g) hw')
  clear cB cC hrot hxor hgl hw'
  have cB := (hV.at_ hb).2
  have zB := hV.frozen b
  replace hV := hV.set b hR2
  rw [E4.out] at hV
  replace hch := hch.trans (Ch.of_far (Far.set w' g b (.int .u64 (R2 : Int))))
  generalize v3.getD b 0 = B7 at *
  go_wp2_with fail
  exact bodyPost_end (v := .tuple #[]) (by simp [results, Tryz.results77]) rfl ⟨rfl, hV, hch⟩
end Go.Proofs.YtaiffkajkbiidaaGreatDoor
