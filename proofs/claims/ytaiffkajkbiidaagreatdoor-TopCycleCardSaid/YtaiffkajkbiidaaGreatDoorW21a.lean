/- The cipher of all schemes, AEZ of one byte: New, Encipher. No condition but that bytes are below 256. -/
import Derived.Test.YtaiffkajkbiidaaGreatDoorW15d
import Derived.Test.YtaiffkajkbiidaaGreatDoorW19f
import Derived.Test.YtaiffkajkbiidaaGreatDoorW16c
namespace Go.Proofs.YtaiffkajkbiidaaGreatDoor
set_option linter.unusedSimpArgs false
set_option linter.unusedVariables false
set_option linter.unusedSectionVars false
set_option linter.unusedVariables false
open Go.RowKit
/-- AEZ's keys as a scheme. -/
def ezV (gk : Nat) : Value := .agg #[.pointer (some ⟨gk, 0, none⟩)]
set_option maxRecDepth 100000 in
set_option maxHeartbeats 40000000 in
theorem schemed_c (gt gb : Nat) (key : List Nat) (a : Option Addr) (c : Nat) (h0 : key.length ≠ 0) (h128 : key.length ≤ 128) (hb : ∀ x ∈ key, x < 256) (hc : key.length ≤ c) (hn : a = none → c = 0) (w : World) (hT : IsTab w gt gb) (hG : GlB w) (hS : Sl w a .u8 key) :
    Calls Tryz.prog 22 #[.pointer (some ⟨gt, 0, none⟩), .int .i64 3, .slice a key.length c] w fun e w' => ∃ gk, e = .returned (.tuple #[.iface 81 (.agg #[.pointer (some ⟨gk, 0, none⟩)]), .int .i64 0]) ∧ w.heap.size ≤ gk ∧ IsKey w' gk gt gb (exI key) (exJ key) (exZ key) ∧ Below w.heap.size w w' := by
  go_enter Tryz.func22, Tryz.ntmps22
  go_wp2_with fail
  refine (extract_c gt gb key a c h0 h128 hb hc hn w hT hG hS).mono ?_
  rintro e w1 ⟨gk, rfl, hg, K, hbel⟩
  go_wp2_with fail
  refine bodyPost_ret (v := .tuple #[.iface 81 (.agg #[.pointer (some ⟨gk, 0, none⟩)]), .int .i64 0]) ?_ rfl ⟨_, rfl, hg, K, hbel⟩
  simp [results, Tryz.results22]
/-- A cipher of AEZ, in memory. -/
structure IsCip (w : World) (gc gk gt gb : Nat) (I J Z : List Nat) : Prop where
  blk : Blk w gc 62 #[.int .i64 3, .iface 81 (.agg #[.pointer (some ⟨gk, 0, none⟩)])]
  key : IsKey w gk gt gb I J Z
theorem IsCip.below {w w' : World} {gc gk gt gb : Nat} {I J Z : List Nat} (h : IsCip w gc gk gt gb I J Z) (hb : Below w.heap.size w w') : IsCip w' gc gk gt gb I J Z := ⟨h.blk.below' hb, h.key.below hb⟩
theorem IsCip.c0 {w : World} {gc gk gt gb : Nat} {I J Z : List Nat} (h : IsCip w gc gk gt gb I J Z) : w.cell? ⟨gc, 0, none⟩ = some (.int .i64 3) := by rw [h.blk.cell]; rfl
theorem IsCip.c1 {w : World} {gc gk gt gb : Nat} {I J Z : List Nat} (h : IsCip w gc gk gt gb I J Z) : w.cell? ⟨gc, 1, none⟩ = some (.iface 81 (.agg #[.pointer (some ⟨gk, 0, none⟩)])) := by rw [h.blk.cell]; rfl
set_option maxRecDepth 100000 in
set_option maxHeartbeats 40000000 in
theorem wideNew_c (gt gb : Nat) (key : List Nat) (a : Option Addr) (c : Nat) (h0 : key.length ≠ 0) (h128 : key.length ≤ 128) (hb : ∀ x ∈ key, x < 256) (hc : key.length ≤ c) (hn : a = none → c = 0) (w : World) (hT : IsTab w gt gb) (hG : GlB w) (hS : Sl w a .u8 key) :
    Calls Tryz.prog 15 #[.pointer (some ⟨gt, 0, none⟩), .int .i64 3, .slice a key.length c] w fun e w' => ∃ gc gk, e = .returned (.tuple #[.pointer (some ⟨gc, 0, none⟩), .int .i64 0]) ∧ w.heap.size ≤ gc ∧ IsCip w' gc gk gt gb (exI key) (exJ key) (exZ key) ∧ Below w.heap.size w w' := by
  go_enter Tryz.func15, Tryz.ntmps15
  go_wp2_with fail
  refine (schemed_c gt gb key a c h0 h128 hb hc hn w hT hG hS).mono ?_
  rintro e w1 ⟨gk, rfl, hg, K, hbel⟩
  have B1 := Blk.new w1 62 #[.int .i64 3, .iface 81 (.agg #[.pointer (some ⟨gk, 0, none⟩)])]
  have hb1 := (Below.refl w1.heap.size w1).alloc (Nat.le_refl _) (.cells #[.int .i64 3, .iface 81 (.agg #[.pointer (some ⟨gk, 0, none⟩)])] 62)
  have K1 := K.below hb1
  have hbel1 := bCall hbel hb1 hbel.size
  go_wp2_with fail
  refine bodyPost_ret (v := .tuple #[.pointer (some ⟨w1.heap.size, 0, none⟩), .int .i64 0]) ?_ rfl ⟨w1.heap.size, gk, rfl, hbel.size, ⟨B1, K1⟩, hbel1⟩
  simp [results, Tryz.results15]
/-- What a byte is enciphered or deciphered to. -/
def cdT (back : Bool) (S : Nat → Nat → Nat) (G : Nat → Nat) (b : Nat) : Nat := if back then decT S G b else encT S G b
def cdN (back : Bool) (I J Z t : List Nat) (b : Nat) : Nat := cdT back (sT I J Z (hashN I J Z t)) (gG I J Z (hashN I J Z t)) b
theorem tinyBoth_c (back : Bool) (gk gt gb : Nat) (I J Z t : List Nat) (ht : ∀ x ∈ t, x < 256) (htl : t.length < 2 ^ 31) (ta : Option Addr) (ct : Nat) (hct : t.length ≤ ct) (gr : Nat) (b : Nat) (hb : b < 256) (a : Option Addr) (c : Nat) (w : World) (hgr : gr < w.heap.size) (hc : w.cell? ⟨gr, 0, none⟩ = some (.slice ta t.length ct)) (hst : Sl w ta .u8 t) (hs : Sl w a .u8 [b]) (hK : IsKey w gk gt gb I J Z) :
    Calls Tryz.prog 168 #[.pointer (some ⟨gk, 0, none⟩), .slice (some ⟨gr, 0, none⟩) 1 1, .slice a 1 c, .bool back] w fun e w' => ∃ v, e = .returned (.tuple #[v, .int .i64 0]) ∧ Own w' w.heap.size 5 .u8 v [cdN back I J Z t b] ∧ Below w.heap.size w w' := by
  have hh : ∀ W, Below w.heap.size w W → Calls Tryz.prog 170 #[.pointer (some ⟨gk, 0, none⟩), .slice (some ⟨gr, 0, none⟩) 1 1] W fun e w' => e = .returned (.agg (ints .u8 (hashN I J Z t))) ∧ Below W.heap.size W w' := fun W h =>
    hash_c gk gt gb I J Z t ht htl ta ct hct gr 0 1 W (Nat.lt_of_lt_of_le hgr h.size) ((h.cell (p := ⟨gr, 0, none⟩) hgr).trans hc) (hst.below h) (hK.below h)
  cases back
  · exact tinyEnc_c gk gt gb I J Z (hashN I J Z t) (hashN_len _ _ _ _) (hashN_lt _ _ _ _ ht) b hb a c _ w hs hK hh
  · exact tinyDec_c gk gt gb I J Z (hashN I J Z t) (hashN_len _ _ _ _) (hashN_lt _ _ _ _ ht) b hb a c _ w hs hK hh
set_option maxRecDepth 100000 in
set_option maxHeartbeats 40000000 in
theorem ezrow_c (back : Bool) (gk gt gb : Nat) (I J Z t : List Nat) (ht : ∀ x ∈ t, x < 256) (htl : t.length < 2 ^ 31) (ta : Option Addr) (ct : Nat) (hct : t.length ≤ ct) (gr : Nat) (b : Nat) (hb : b < 256) (a : Option Addr) (c : Nat) (w : World) (hgr : gr < w.heap.size) (hc : w.cell? ⟨gr, 0, none⟩ = some (.slice ta t.length ct)) (hst : Sl w ta .u8 t) (hs : Sl w a .u8 [b]) (hK : IsKey w gk gt gb I J Z) :
    Calls Tryz.prog 167 #[.agg #[.pointer (some ⟨gk, 0, none⟩)], .slice (some ⟨gr, 0, none⟩) 1 1, .slice a 1 c, .bool back] w fun e w' => ∃ v, e = .returned (.tuple #[v, .int .i64 0]) ∧ Own w' w.heap.size 5 .u8 v [cdN back I J Z t b] ∧ Below w.heap.size w w' := by
  have hb1 := (Below.refl w.heap.size w).alloc (Nat.le_refl _) (.cells #[.pointer (some ⟨gk, 0, none⟩)] 81)
  have ht1 := (tinyBoth_c back gk gt gb I J Z t ht htl ta ct hct gr b hb a c (w.alloc (.cells #[.pointer (some ⟨gk, 0, none⟩)] 81)) (Nat.lt_of_lt_of_le hgr hb1.size) ((hb1.cell (p := ⟨gr, 0, none⟩) hgr).trans hc) (hst.below hb1) (hs.below hb1) (hK.below hb1))
  go_enter Tryz.func167, Tryz.ntmps167
  go_wp2_with fail
  refine ht1.mono ?_
  rintro e w1 ⟨v, rfl, ov, hb2⟩
  have ov1 := ov.mono (B' := w.heap.size) hb1.size
  have hbel := bCall hb1 hb2 hb1.size
  clear ov hb2 ht1
  go_wp2_with fail
  refine bodyPost_ret (v := .tuple #[v, .int .i64 0]) ?_ rfl ⟨_, rfl, ov1, hbel⟩
  simp [results, Tryz.results167]
set_option maxRecDepth 100000 in
set_option maxHeartbeats 40000000 in
theorem ezEnc_c (gk gt gb : Nat) (I J Z t : List Nat) (ht : ∀ x ∈ t, x < 256) (htl : t.length < 2 ^ 31) (ta : Option Addr) (ct : Nat) (hct : t.length ≤ ct) (b : Nat) (hb : b < 256) (a : Option Addr) (c : Nat) (w : World) (hst : Sl w ta .u8 t) (hs : Sl w a .u8 [b]) (hK : IsKey w gk gt gb I J Z) :
    Calls Tryz.prog 166 #[.agg #[.pointer (some ⟨gk, 0, none⟩)], .slice ta t.length ct, .slice a 1 c] w fun e w' => ∃ v, e = .returned (.tuple #[v, .int .i64 0]) ∧ Own w' w.heap.size 5 .u8 v [cdN false I J Z t b] ∧ Below w.heap.size w w' := by
  obtain ⟨w1, h1⟩ : ∃ w1, w1 = w.alloc (.cells #[.pointer (some ⟨gk, 0, none⟩)] 81) := ⟨_, rfl⟩
  have hb1 : Below w.heap.size w w1 := by rw [h1]; exact (Below.refl w.heap.size w).alloc (Nat.le_refl _) _
  obtain ⟨w2, h2⟩ : ∃ w2, w2 = w1.alloc (.cells #[.slice ta t.length ct] 23) := ⟨_, rfl⟩
  have hb2 : Below w.heap.size w w2 := by rw [h2]; exact hb1.alloc hb1.size _
  have hg : w1.heap.size < w2.heap.size := by rw [h2]; simp
  have hB : Blk w2 w1.heap.size 23 #[.slice ta t.length ct] := by rw [h2]; exact Blk.new _ _ _
  have hc : w2.cell? ⟨w1.heap.size, 0, none⟩ = some (.slice ta t.length ct) := by rw [hB.cell]; rfl
  have ht1 := ezrow_c false gk gt gb I J Z t ht htl ta ct hct w1.heap.size b hb a c w2 hg hc (hst.below hb2) (hs.below hb2) (hK.below hb2)
  go_enter Tryz.func166, Tryz.ntmps166
  go_wp2_with fail
  rw [show w1.heap.size = w.heap.size + 1 by rw [h1]; simp] at ht1
  rw [h2, h1] at ht1
  refine ht1.mono ?_
  rintro e w3 ⟨v, rfl, ov, hb3⟩
  rw [← h1, ← h2] at ov hb3
  have ov1 := ov.mono (B' := w.heap.size) hb2.size
  have hbel := bCall hb2 hb3 hb2.size
  clear ov hb3 ht1
  go_wp2_with fail
  refine bodyPost_ret (v := .tuple #[v, .int .i64 0]) ?_ rfl ⟨_, rfl, ov1, hbel⟩
  simp [results, Tryz.results166]
set_option maxRecDepth 100000 in
set_option maxHeartbeats 40000000 in
theorem ezDec_c (gk gt gb : Nat) (I J Z t : List Nat) (ht : ∀ x ∈ t, x < 256) (htl : t.length < 2 ^ 31) (ta : Option Addr) (ct : Nat) (hct : t.length ≤ ct) (b : Nat) (hb : b < 256) (a : Option Addr) (c : Nat) (w : World) (hst : Sl w ta .u8 t) (hs : Sl w a .u8 [b]) (hK : IsKey w gk gt gb I J Z) :
    Calls Tryz.prog 165 #[.agg #[.pointer (some ⟨gk, 0, none⟩)], .slice ta t.length ct, .slice a 1 c] w fun e w' => ∃ v, e = .returned (.tuple #[v, .int .i64 0]) ∧ Own w' w.heap.size 5 .u8 v [cdN true I J Z t b] ∧ Below w.heap.size w w' := by
  obtain ⟨w1, h1⟩ : ∃ w1, w1 = w.alloc (.cells #[.pointer (some ⟨gk, 0, none⟩)] 81) := ⟨_, rfl⟩
  have hb1 : Below w.heap.size w w1 := by rw [h1]; exact (Below.refl w.heap.size w).alloc (Nat.le_refl _) _
  obtain ⟨w2, h2⟩ : ∃ w2, w2 = w1.alloc (.cells #[.slice ta t.length ct] 23) := ⟨_, rfl⟩
  have hb2 : Below w.heap.size w w2 := by rw [h2]; exact hb1.alloc hb1.size _
  have hg : w1.heap.size < w2.heap.size := by rw [h2]; simp
  have hB : Blk w2 w1.heap.size 23 #[.slice ta t.length ct] := by rw [h2]; exact Blk.new _ _ _
  have hc : w2.cell? ⟨w1.heap.size, 0, none⟩ = some (.slice ta t.length ct) := by rw [hB.cell]; rfl
  have ht1 := ezrow_c true gk gt gb I J Z t ht htl ta ct hct w1.heap.size b hb a c w2 hg hc (hst.below hb2) (hs.below hb2) (hK.below hb2)
  go_enter Tryz.func165, Tryz.ntmps165
  go_wp2_with fail
  rw [show w1.heap.size = w.heap.size + 1 by rw [h1]; simp] at ht1
  rw [h2, h1] at ht1
  refine ht1.mono ?_
  rintro e w3 ⟨v, rfl, ov, hb3⟩
  rw [← h1, ← h2] at ov hb3
  have ov1 := ov.mono (B' := w.heap.size) hb2.size
  have hbel := bCall hb2 hb3 hb2.size
  clear ov hb3 ht1
  go_wp2_with fail
  refine bodyPost_ret (v := .tuple #[v, .int .i64 0]) ?_ rfl ⟨_, rfl, ov1, hbel⟩
  simp [results, Tryz.results165]
set_option maxRecDepth 100000 in
set_option maxHeartbeats 40000000 in
theorem least_c (gc gk gt gb : Nat) (I J Z : List Nat) (w : World) (hC : IsCip w gc gk gt gb I J Z) :
    Calls Tryz.prog 23 #[.pointer (some ⟨gc, 0, none⟩)] w fun e w' => e = .returned (.int .i64 1) ∧ w = w' := by
  have k0 := hC.c0
  go_enter Tryz.func23, Tryz.ntmps23
  go_wp2_with fail
  go_ret
  exact ⟨rfl, rfl⟩
set_option maxRecDepth 100000 in
set_option maxHeartbeats 40000000 in
theorem turned_c (back : Bool) (gc gk gt gb : Nat) (I J Z t : List Nat) (ht : ∀ x ∈ t, x < 256) (htl : t.length < 2 ^ 31) (ta : Option Addr) (ct : Nat) (hct : t.length ≤ ct) (b : Nat) (hb : b < 256) (a : Option Addr) (c : Nat) (w : World) (hst : Sl w ta .u8 t) (hs : Sl w a .u8 [b]) (hC : IsCip w gc gk gt gb I J Z) :
    Calls Tryz.prog 16 #[.pointer (some ⟨gc, 0, none⟩), .slice ta t.length ct, .slice a 1 c, .bool back] w fun e w' => ∃ v, e = .returned (.tuple #[v, .int .i64 0]) ∧ Own w' w.heap.size 5 .u8 v [cdN back I J Z t b] ∧ Below w.heap.size w w' := by
  have k1 := hC.c1
  have hEn := ezEnc_c gk gt gb I J Z t ht htl ta ct hct b hb a c w hst hs hC.key
  have hDe := ezDec_c gk gt gb I J Z t ht htl ta ct hct b hb a c w hst hs hC.key
  have hle := least_c gc gk gt gb I J Z w hC
  have hm1 : ∀ W : World, (method 376 81 (.agg #[.pointer (some ⟨gk, 0, none⟩)]) "Encipher").run Tryz.prog W = .ok (166, .agg #[.pointer (some ⟨gk, 0, none⟩)]) W := fun _ => by kernel_rfl
  have hm2 : ∀ W : World, (method 376 81 (.agg #[.pointer (some ⟨gk, 0, none⟩)]) "Decipher").run Tryz.prog W = .ok (165, .agg #[.pointer (some ⟨gk, 0, none⟩)]) W := fun _ => by kernel_rfl
  go_enter Tryz.func16, Tryz.ntmps16
  go_wp2_with fail
  refine hle.mono ?_
  clear hle
  rintro e w1 ⟨rfl, rfl⟩
  cases back
  · go_wp2_with fail
    refine hEn.mono ?_
    clear hEn hDe
    rintro e w1 ⟨v, rfl, ov, hbel⟩
    go_wp2_with fail
    refine bodyPost_ret (v := .tuple #[v, .int .i64 0]) ?_ rfl ⟨_, rfl, ov, hbel⟩
    simp [results, Tryz.results16]
  · go_wp2_with fail
    refine hDe.mono ?_
    clear hEn hDe
    rintro e w1 ⟨v, rfl, ov, hbel⟩
    go_wp2_with fail
    refine bodyPost_ret (v := .tuple #[v, .int .i64 0]) ?_ rfl ⟨_, rfl, ov, hbel⟩
    simp [results, Tryz.results16]
set_option maxRecDepth 100000 in
set_option maxHeartbeats 40000000 in
theorem wideEnc_c (gc gk gt gb : Nat) (I J Z t : List Nat) (ht : ∀ x ∈ t, x < 256) (htl : t.length < 2 ^ 31) (ta : Option Addr) (ct : Nat) (hct : t.length ≤ ct) (b : Nat) (hb : b < 256) (a : Option Addr) (c : Nat) (w : World) (hst : Sl w ta .u8 t) (hs : Sl w a .u8 [b]) (hC : IsCip w gc gk gt gb I J Z) :
    Calls Tryz.prog 10 #[.pointer (some ⟨gc, 0, none⟩), .slice ta t.length ct, .slice a 1 c] w fun e w' => ∃ v, e = .returned (.tuple #[v, .int .i64 0]) ∧ Own w' w.heap.size 5 .u8 v [cdN false I J Z t b] ∧ Below w.heap.size w w' := by
  have h1 := turned_c false gc gk gt gb I J Z t ht htl ta ct hct b hb a c w hst hs hC
  go_enter Tryz.func10, Tryz.ntmps10
  go_wp2_with fail
  refine h1.mono ?_
  clear h1
  rintro e w1 ⟨v, rfl, ov, hbel⟩
  go_wp2_with fail
  refine bodyPost_ret (v := .tuple #[v, .int .i64 0]) ?_ rfl ⟨_, rfl, ov, hbel⟩
  simp [results, Tryz.results10]
set_option maxRecDepth 100000 in
set_option maxHeartbeats 40000000 in
theorem wideDec_c (gc gk gt gb : Nat) (I J Z t : List Nat) (ht : ∀ x ∈ t, x < 256) (htl : t.length < 2 ^ 31) (ta : Option Addr) (ct : Nat) (hct : t.length ≤ ct) (b : Nat) (hb : b < 256) (a : Option Addr) (c : Nat) (w : World) (hst : Sl w ta .u8 t) (hs : Sl w a .u8 [b]) (hC : IsCip w gc gk gt gb I J Z) :
    Calls Tryz.prog 11 #[.pointer (some ⟨gc, 0, none⟩), .slice ta t.length ct, .slice a 1 c] w fun e w' => ∃ v, e = .returned (.tuple #[v, .int .i64 0]) ∧ Own w' w.heap.size 5 .u8 v [cdN true I J Z t b] ∧ Below w.heap.size w w' := by
  have h1 := turned_c true gc gk gt gb I J Z t ht htl ta ct hct b hb a c w hst hs hC
  go_enter Tryz.func11, Tryz.ntmps11
  go_wp2_with fail
  refine h1.mono ?_
  clear h1
  rintro e w1 ⟨v, rfl, ov, hbel⟩
  go_wp2_with fail
  refine bodyPost_ret (v := .tuple #[v, .int .i64 0]) ?_ rfl ⟨_, rfl, ov, hbel⟩
  simp [results, Tryz.results11]
end Go.Proofs.YtaiffkajkbiidaaGreatDoor
