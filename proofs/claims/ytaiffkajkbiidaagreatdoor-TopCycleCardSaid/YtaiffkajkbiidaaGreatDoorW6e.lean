/- BLAKE2b's last block: (*Hash).block with last. No condition but that words are below 2^64 and bytes below 256. -/
import Derived.Test.YtaiffkajkbiidaaGreatDoorW6d
import Derived.OwnWalk
namespace Go.Proofs.YtaiffkajkbiidaaGreatDoor
set_option linter.unusedSimpArgs false
set_option linter.unusedVariables false
set_option linter.unusedSectionVars false
set_option linter.unusedVariables false
open Go.RowKit
/-- A hash, in memory: eight words, the count's two, the rest, the sum's size. -/
structure HB (w : World) (g : Nat) (hs : List Nat) (c0 c1 : Nat) (v : Value) (n : Nat) : Prop where
  blk : Blk w g 151 (vals .u64 hs ++ vals .u64 [c0, c1] ++ [v, .int .i64 (n : Int)]).toArray
  len : hs.length = 8
theorem HB.lt {w : World} {g : Nat} {hs : List Nat} {c0 c1 : Nat} {v : Value} {n : Nat} (h : HB w g hs c0 c1 v n) : g < w.heap.size := h.blk.lt
theorem HB.below {w w' : World} {g : Nat} {hs : List Nat} {c0 c1 : Nat} {v : Value} {n : Nat} (h : HB w g hs c0 c1 v n) (hb : Below w.heap.size w w') : HB w' g hs c0 c1 v n := ⟨h.blk.below' hb, h.len⟩
theorem HB.drew {w : World} {g : Nat} {hs : List Nat} {c0 c1 : Nat} {v : Value} {n : Nat} (h : HB w g hs c0 c1 v n) : HB w.drew g hs c0 c1 v n := ⟨h.blk.drew, h.len⟩
theorem HB.only {w w' : World} {g g' : Nat} {hs : List Nat} {c0 c1 : Nat} {v : Value} {n : Nat} (h : HB w g hs c0 c1 v n) (ho : Only w w' g') (hne : g ≠ g') : HB w' g hs c0 c1 v n := ⟨h.blk.only ho hne, h.len⟩
theorem HB.vlen {w : World} {g : Nat} {hs : List Nat} {c0 c1 : Nat} {v : Value} {n : Nat} (h : HB w g hs c0 c1 v n) : (vals .u64 hs).length = 8 := by rw [vals_len, h.len]
theorem HB.asH {w : World} {g : Nat} {hs : List Nat} {c0 c1 : Nat} {v : Value} {n : Nat} (h : HB w g hs c0 c1 v n) : Blk w g 151 ([] ++ vals .u64 hs ++ (vals .u64 [c0, c1] ++ [v, .int .i64 (n : Int)])).toArray := by
  have h1 := h.blk
  rw [List.append_assoc] at h1
  exact h1
theorem HB.rH {w : World} {g : Nat} {hs : List Nat} {c0 c1 : Nat} {v : Value} {n : Nat} (h : HB w g hs c0 c1 v n) : w.rangeAt g 0 (vals .u64 hs) := h.asH.part rfl
theorem HB.rC {w : World} {g : Nat} {hs : List Nat} {c0 c1 : Nat} {v : Value} {n : Nat} (h : HB w g hs c0 c1 v n) : w.rangeAt g 8 (vals .u64 [c0, c1]) := h.blk.part h.vlen.symm
theorem HB.cV {w : World} {g : Nat} {hs : List Nat} {c0 c1 : Nat} {v : Value} {n : Nat} (h : HB w g hs c0 c1 v n) : w.cell? ⟨g, 10, none⟩ = some v := by
  rw [h.blk.cell, List.getElem?_toArray, List.getElem?_append_right (by rw [List.length_append, h.vlen, vals_len]; simp), List.length_append, h.vlen, vals_len]; rfl
theorem HB.cN {w : World} {g : Nat} {hs : List Nat} {c0 c1 : Nat} {v : Value} {n : Nat} (h : HB w g hs c0 c1 v n) : w.cell? ⟨g, 11, none⟩ = some (.int .i64 (n : Int)) := by
  rw [h.blk.cell, List.getElem?_toArray, List.getElem?_append_right (by rw [List.length_append, h.vlen, vals_len]; simp), List.length_append, h.vlen, vals_len]; rfl
theorem Tryz.ar6155 : IsArr Tryz.prog 155 128 := isArr Tryz.underlying155 (by kernel_rfl)
theorem Tryz.z6155 : IsZero Tryz.prog 155 128 .u8 := isZero (by kernel_rfl)
theorem bldW (n : Nat) (W : World) : (Instr.build 149 #[(0, .int .u64 (n : Int))]).run Tryz.prog W = .ok (.agg (ints .u64 [n, 0])) W := by kernel_rfl
theorem run_bldW {o : Oper} {a : Act} {x : Operand} {n : Nat} {w : World} (ho : o.op = .build 149 #[(0, x)]) (hx : a.eval x = .int .u64 (n : Int)) : (execOp a.eval o).run Tryz.prog w = .ok (.value (.agg (ints .u64 [n, 0]))) w := by
  unfold execOp
  simp only [ho, List.map_toArray, List.map_cons, List.map_nil, hx]
  simp only [Sem.run_bind, bldW, Result.andThen_ok]
  rfl
theorem GlB.ch {w w' : World} {g : Nat} (h : GlB w) (hc : Ch g w w') (h2 : 2 ≠ g) (h3 : 3 ≠ g) : GlB w' :=
  ⟨hc.sl h.1 fun b off e => by cases e; exact h2, hc.sl h.2 fun b off e => by cases e; exact h3⟩
theorem GlB.lt {w : World} (h : GlB w) : 2 < w.heap.size ∧ 3 < w.heap.size := by
  obtain ⟨g, o, e, h1, -⟩ := h.1 (by decide)
  obtain ⟨g', o', e', h2, -⟩ := h.2 (by decide)
  cases e
  cases e'
  exact ⟨h1, h2⟩
theorem splice_128 (b : List Nat) (h : b.length ≤ 128) : splice (zeros 128) 0 b = b ++ zeros (128 - b.length) := by
  have h1 := splice_zeros b (128 - b.length)
  rwa [show b.length + (128 - b.length) = 128 by omega] at h1
theorem wrapN64 (n : Nat) (h : n < 2 ^ 31) : IntKind.u64.wrap (n : Int) = (n : Int) := by rw [IntKind.wrap_u64]; omega
set_option maxRecDepth 100000 in
set_option maxHeartbeats 40000000 in
theorem hblock_c (g : Nat) (hs b : List Nat) (v : Value) (sz : Nat) (a : Option Addr) (c : Nat) (hh : ∀ x ∈ hs, x < 18446744073709551616) (hbl : b.length ≤ 128) (hbb : ∀ x ∈ b, x < 256) (hg2 : 2 ≠ g) (hg3 : 3 ≠ g) (w : World) (hG : GlB w) (hB : HB w g hs 0 0 v sz) (hS : Sl w a .u8 b) :
    Calls Tryz.prog 66 #[.pointer (some ⟨g, 0, none⟩), .slice a b.length c, .int .i64 (b.length : Int), .bool true] w fun e w' => e = .returned (.tuple #[]) ∧ HB w' g (compN hs (b ++ zeros (128 - b.length)) b.length 0) b.length 0 v sz ∧ Ch g w w' := by
  obtain ⟨n, Hn⟩ : ∃ n, Hid (b.length = n) := ⟨_, Lib.hid rfl⟩
  have hsp := splice_128 b hbl
  have hn : n ≤ 128 := by rw [← Hn.out]; exact hbl
  have hfl : (b ++ zeros (128 - n)).length = 128 := by rw [List.length_append, zeros_len, Hn.out]; omega
  have hfb : ∀ x ∈ b ++ zeros (128 - n), x < 256 := fun x hx => (List.mem_append.1 hx).elim (hbb x) (zeros_lt _ (by decide) x)
  rw [Hn.out] at hsp ⊢
  obtain ⟨Z, HZ⟩ : ∃ Z, Hid (compN hs (b ++ zeros (128 - n)) n 0 = Z) := ⟨_, Lib.hid rfl⟩
  rw [HZ.out]
  have hlh := hB.len
  have hgl := hB.lt
  have G1 := hG.below ((Below.refl w.heap.size w).alloc (Nat.le_refl _) (.cells (ints .u8 (zeros 128)) 155))
  have B1 := hB.below ((Below.refl w.heap.size w).alloc (Nat.le_refl _) (.cells (ints .u8 (zeros 128)) 155))
  have S1 := hS.below ((Below.refl w.heap.size w).alloc (Nat.le_refl _) (.cells (ints .u8 (zeros 128)) 155))
  have X1 := Blk.new w 155 (ints .u8 (zeros 128))
  have hbel1 := (Below.refl w.heap.size w).alloc (Nat.le_refl _) (.cells (ints .u8 (zeros 128)) 155)
  have hpl := fun W => wplusG_c 0 0 n 0 (by decide) (by decide) (by omega) (by decide) W
  rw [show (0 + n) % 18446744073709551616 = n by omega, show (0 + 0 + (0 + n) / 18446744073709551616) % 18446744073709551616 = 0 by omega] at hpl
  have hwr := wrapN64 n (by omega)
  have hgw : g ≠ w.heap.size := by omega
  go_enter Tryz.func66, Tryz.ntmps66
  go_wp2_with (first
    | (refine wpList_alloc_ints rfl 155 rfl Tryz.z6155 ?_; (try simp only [Act.put, List.setIfInBounds_toArray, List.set_cons_zero, List.set_cons_succ, World.size_alloc, setRow_size, Nat.add_assoc, Nat.reduceAdd]))
    | (refine wpList_copy_ints (off := 0) (dLen := 128) (sLen := n) rfl rfl Tryz.underlying23 Tryz.s15 rfl rfl X1 S1 (by rw [Hn.out]; exact (Nat.min_eq_left hn).symm) (fun _ => rfl) (by rw [Hn.out, zeros_len]; omega) ?_; intro w2 X2 ho2; rw [hsp] at X2; have B2 := B1.only ho2 hgw; have hbel2 := ho2.below _ _ hbel1 (Nat.le_refl _); have G2 := hG.below hbel2; clear B1 X1 S1 ho2 G1 hbel1; (try simp only [Act.put, List.setIfInBounds_toArray, List.set_cons_zero, List.set_cons_succ, World.size_alloc, setRow_size, Nat.add_assoc, Nat.reduceAdd]))
    | (refine wpList_valG rfl (run_loadRange rfl rfl B2.rC Tryz.ar149 rfl) ?_; (try simp only [Act.put, List.setIfInBounds_toArray, List.set_cons_zero, List.set_cons_succ, World.size_alloc, setRow_size, Nat.add_assoc, Nat.reduceAdd]))
    | (refine wpList_valG rfl (run_bldW rfl rfl) ?_; (try simp only [Act.put, List.setIfInBounds_toArray, List.set_cons_zero, List.set_cons_succ, World.size_alloc, setRow_size, Nat.add_assoc, Nat.reduceAdd])))
  refine (hpl _).mono ?_
  clear hpl
  rintro e w3 ⟨rfl, hb3⟩
  have B3 := B2.below hb3
  have X3 := X2.below' hb3
  have hbel3 := bCall hbel2 hb3 hbel2.size
  have HB3 := B3.blk
  have hvl := B3.vlen
  clear B2 X2 G2 hbel2 hb3
  go_wp2_with (refine wpList_store_part rfl 149 _ _ rfl 8 rfl (vs := vals .u64 [n, 0]) rfl HB3 hvl.symm Tryz.ar149 rfl rfl (vals_one _ _) ?_; intro w4 hB4 hF4; (try simp only [Act.put, List.setIfInBounds_toArray, List.set_cons_zero, List.set_cons_succ, World.size_alloc, setRow_size, Nat.add_assoc, Nat.reduceAdd]))
  have B4 : HB w4 g hs n 0 v sz := ⟨hB4, hlh⟩
  have X4 := hF4.blk X3 hgw.symm
  have hch := (Ch.of_below (g := g) hbel3).trans (Ch.of_far hF4)
  have G4 := hG.ch hch hg2 hg3
  have r0 := B4.rH
  have r1 := B4.rC
  clear hB4 B3 X3 HB3 hvl hbel3 hF4
  have hcmp := fun W (h : Below w4.heap.size w4 W) => compress_c hs (b ++ zeros (128 - n)) n 0 hlh hh hfl hfb (by omega) (by decide) W (G4.below h)
  have hcl := compN_len hs (b ++ zeros (128 - n)) n 0
  rw [hlh] at hcl
  rw [HZ.out] at hcl
  rw [HZ.out] at hcmp
  clear HZ
  generalize b ++ zeros (128 - n) = bb at *
  have hg4 := B4.lt
  refine wp_region_below_tail 12 (by kernel_rfl) (by kernel_rfl) ?_
  simp only [List.take_succ_cons, List.take_zero, List.drop_succ_cons, List.drop_zero]
  go_big_quiet_step (fail)
  go_big_quiet_step (fail)
  refine quiet_run (v := .pointer (some ⟨g, 0, none⟩)) rfl (fun W => by kernel_rfl) ?_
  (try simp only [Act.put, List.setIfInBounds_toArray, List.set_cons_zero, List.set_cons_succ, World.size_alloc, setRow_size, Nat.add_assoc, Nat.reduceAdd])
  refine quiet_run (v := .pointer (some ⟨g, 0, none⟩)) rfl (fun W => by kernel_rfl) ?_
  (try simp only [Act.put, List.setIfInBounds_toArray, List.set_cons_zero, List.set_cons_succ, World.size_alloc, setRow_size, Nat.add_assoc, Nat.reduceAdd])
  refine quiet_runC rfl (fun W hQ => run_loadRange rfl rfl (range_below hQ hg4 r0) Tryz.ar6147 hlh) ?_
  (try simp only [Act.put, List.setIfInBounds_toArray, List.set_cons_zero, List.set_cons_succ, World.size_alloc, setRow_size, Nat.add_assoc, Nat.reduceAdd])
  refine quiet_load rfl rfl rfl X4 Tryz.ar6155 hfl ?_
  (try simp only [Act.put, List.setIfInBounds_toArray, List.set_cons_zero, List.set_cons_succ, World.size_alloc, setRow_size, Nat.add_assoc, Nat.reduceAdd])
  go_big_quiet_step (fail)
  refine quiet_run (v := .pointer (some ⟨g, 0, none⟩)) rfl (fun W => by kernel_rfl) ?_
  (try simp only [Act.put, List.setIfInBounds_toArray, List.set_cons_zero, List.set_cons_succ, World.size_alloc, setRow_size, Nat.add_assoc, Nat.reduceAdd])
  refine quiet_run (v := .pointer (some ⟨g, 8, none⟩)) rfl (fun W => by kernel_rfl) ?_
  (try simp only [Act.put, List.setIfInBounds_toArray, List.set_cons_zero, List.set_cons_succ, World.size_alloc, setRow_size, Nat.add_assoc, Nat.reduceAdd])
  refine quiet_runC rfl (fun W hQ => run_loadRange rfl rfl (range_below hQ hg4 r1) Tryz.ar149 rfl) ?_
  (try simp only [Act.put, List.setIfInBounds_toArray, List.set_cons_zero, List.set_cons_succ, World.size_alloc, setRow_size, Nat.add_assoc, Nat.reduceAdd])
  go_big_quiet_step (fail)
  refine quiet_call 71 rfl rfl Tryz.func71 (by kernel_rfl) (by kernel_rfl) (fun W hQ => hcmp W hQ) ?_
  (try simp only [Act.put, List.setIfInBounds_toArray, List.set_cons_zero, List.set_cons_succ, World.size_alloc, setRow_size, Nat.add_assoc, Nat.reduceAdd])
  refine wpQuiet_nil ?_
  intro w' hw'
  have B6 := (B4.below hw').asH
  replace hch := hch.trans (Ch.of_below (g := g) hw')
  clear B4 G4 hw' X4 r0 r1 hcmp
  go_wp2_with (refine wpList_store_part rfl 147 _ _ rfl 0 rfl (pre := []) (vs := vals .u64 Z) rfl B6 rfl Tryz.ar6147 (by rw [vals_len]; exact hlh) (by rw [vals_len]; exact hcl) (vals_one _ _) ?_; intro w7 hB7 hF7; (try simp only [Act.put, List.setIfInBounds_toArray, List.set_cons_zero, List.set_cons_succ, World.size_alloc, setRow_size, Nat.add_assoc, Nat.reduceAdd]))
  refine bodyPost_end (v := .tuple #[]) (by simp [results, Tryz.results66]) rfl ⟨rfl, ⟨?_, hcl⟩, hch.trans (Ch.of_far hF7)⟩
  rw [List.append_assoc]
  exact hB7
end Go.Proofs.YtaiffkajkbiidaaGreatDoor
