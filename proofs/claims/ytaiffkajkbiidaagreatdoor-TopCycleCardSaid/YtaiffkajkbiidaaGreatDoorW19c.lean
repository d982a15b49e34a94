/- AEZ-tiny: Flip. No condition but that bytes are below 256. -/
import Derived.Test.YtaiffkajkbiidaaGreatDoorW19b
import Derived.Test.YtaiffkajkbiidaaGreatDoorPT
namespace Go.Proofs.YtaiffkajkbiidaaGreatDoor
set_option linter.unusedSimpArgs false
set_option linter.unusedVariables false
set_option linter.unusedSectionVars false
set_option linter.unusedVariables false
open Go.RowKit
/-- A block of one byte. -/
def bk1 (x : Nat) : List Nat := x :: zeros 15
theorem bk1_len (x : Nat) : (bk1 x).length = 16 := rfl
theorem bk1_lt {x : Nat} (h : x < 256) : ∀ y ∈ bk1 x, y < 256 := fun y hy => by
  unfold bk1 at hy
  rcases List.mem_cons.1 hy with rfl | hy
  · exact h
  · exact zeros_b 15 y hy
theorem blockN_one (x : Nat) : blockN [x] = bk1 x := rfl
/-- What Flip's bit hangs on. -/
def gG (I J Z H : List Nat) (y : Nat) : Nat := (eE I J Z 0 3 (xorsN (zeros 16) [bk1 y, H])).getD 0 0
set_option maxRecDepth 100000 in
set_option maxHeartbeats 8000000 in
theorem tinyFlip_c (gk gt gb : Nat) (I J Z H : List Nat) (hH : H.length = 16) (hHb : ∀ y ∈ H, y < 256) (x : Nat) (hx : x < 256) (a : Option Addr) (c : Nat) (w : World) (hs : Sl w a .u8 [x]) (hK : IsKey w gk gt gb I J Z) :
    Calls Tryz.prog 172 #[.pointer (some ⟨gk, 0, none⟩), .agg (ints .u8 H), .slice a 1 c] w fun e w' => ∃ v, e = .returned v ∧ Own w' w.heap.size 5 .u8 v [flT (gG I J Z H) x] ∧ Below w.heap.size w w' := by
  have H0 := Blk.new w 96 (ints .u8 H)
  have hb0 := (Below.refl w.heap.size w).alloc (Nat.le_refl _) (.cells (ints .u8 H) 96)
  have hs0 := hs.below hb0
  have K0 := hK.below hb0
  go_enter Tryz.func172, Tryz.ntmps172
  go_wp2_with fail
  generalize (w.alloc (.cells (ints .u8 H) 96)) = w0 at *
  refine (clone2_c a c 1 [x] rfl (by simp) _ hs0).mono ?_
  rintro e w1 ⟨v, rfl, ov, hb1⟩
  have H1 := H0.below' hb1
  have hs1 := hs0.below hb1
  have K1 := K0.below hb1
  have hbel1 := bCall hb0 hb1 hb0.size
  have ov1 := ov.mono (B' := w.heap.size) hb0.size
  clear H0 hs0 K0 ov hb1 hb0
  have hbk : ∀ W, Sl W a .u8 [x] → Calls Tryz.prog 38 #[.slice a 1 c] W fun e w' => e = .returned (.agg (ints .u8 (bk1 x))) ∧ Below W.heap.size W w' := fun W h => block_c a c [x] W h
  go_wp2_with fail
  refine (hbk _ hs1).mono ?_
  rintro e w2 ⟨rfl, hb2⟩
  have H2 := (H1.below' hb2).alloc (.cells (ints .u8 (zeros 16)) 96)
  have hbel2 := bCall hbel1 hb2 hbel1.size
  have ov2 := ov1.below hb2
  have K2 := K1.below hb2
  have B2 := Blk.new w2 96 (ints .u8 (zeros 16))
  have hb3 := (Below.refl w2.heap.size w2).alloc (Nat.le_refl _) (.cells (ints .u8 (zeros 16)) 96)
  have hl2 := (H1.below' hb2).lt
  have H3 := H2.rowFar (show w.heap.size ≠ w2.heap.size by omega) (ints .u8 (bk1 x))
  have B3 := B2.row (ints .u8 (bk1 x))
  have hb4 := bSetRow hb3 (Nat.le_refl _) (ints .u8 (bk1 x))
  have ov3 := ov2.below hb4
  have K3 := K2.below hb4
  have hbel3 := bCall hbel2 hb4 hbel2.size
  clear H1 hs1 K1 ov1 hbel1 hbk hb2 hb3 H2
  obtain ⟨y, Hy⟩ : ∃ y, Hid (x ||| 128 = y) := ⟨_, Lib.hid rfl⟩
  have hy : y < 256 := by rw [← Hy.out]; exact Nat.or_lt_two_pow (n := 8) hx (by decide)
  have hor : bits BinOp.or IntKind.u8 (x : Int) 128 = (y : Int) := by
    have h1 := u8_or_nat x 128 hx (by decide)
    rw [Hy.out] at h1
    exact h1
  go_wp2_with (first
    | (refine wpList_alloc_ints rfl 96 rfl Tryz.z96 ?_; (try simp only [Act.put, List.setIfInBounds_toArray, List.set_cons_zero, List.set_cons_succ, World.size_alloc, setRow_size, Nat.add_assoc, Nat.reduceAdd]))
    | (refine wpList_store_ints rfl 96 _ _ rfl _ rfl rfl B2 (zeros_size _ _) Tryz.ar96 (bk1_len x) ?_
       generalize ((w2.alloc (.cells (ints .u8 (zeros 16)) 96)).setRow w2.heap.size (ints .u8 (bk1 x))) = w4 at *
       have c0 : w4.cell? ⟨w2.heap.size, 0, none⟩ = some (.int .u8 (x : Int)) := (B3.cell 0).trans rfl
       have z0 := B3.frozen 0
       have B4 : Blk (w4.setCell ⟨w2.heap.size, 0, none⟩ (.int .u8 (y : Int))) w2.heap.size 96 (ints .u8 (bk1 y)) := B3.intSet 0 y
       have H4 := H3.far (p := ⟨w2.heap.size, 0, none⟩) (show w.heap.size ≠ w2.heap.size by omega) (.int .u8 (y : Int))
       have hb5 : Below w2.heap.size w2 (w4.setCell ⟨w2.heap.size, 0, none⟩ (.int .u8 (y : Int))) := hb4.setCell (p := ⟨w2.heap.size, 0, none⟩) (Nat.le_refl _) _
       have ov4 := ov2.below hb5
       have K4 := K2.below hb5
       have hbel4 := bCall hbel2 hb5 hbel2.size
       clear B2 B3 H3 hb4 hb5 ov2 ov3 K2 K3 hbel2 hbel3
       obtain ⟨w5, H5⟩ : ∃ w5, Hid (w4.setCell ⟨w2.heap.size, 0, none⟩ (.int .u8 (y : Int)) = w5) := ⟨_, Lib.hid rfl⟩
       rw [H5.out] at B4 H4 ov4 K4 hbel4
       have hbs := bs16_2 (bk1 y) H (bk1_len y) hH
       have B5 := Blk.new w5 96 (ints .u8 [bk1 y, H].flatten)
       have hb6 := (Below.refl w5.heap.size w5).alloc (Nat.le_refl _) (.cells (ints .u8 [bk1 y, H].flatten) 96)
       have hbel6 := bCall hbel4 hb6 hbel4.size
       have ov6 := ov4.below hb6
       have K6 := K4.below hb6
       have hpl : Calls Tryz.prog 186 #[.slice (some ⟨w5.heap.size, 0, none⟩) 2 2] (w5.alloc (.cells (ints .u8 [bk1 y, H].flatten) 96)) fun e w2 => e = .returned (.agg (ints .u8 (xorsN (zeros 16) [bk1 y, H]))) ∧ Below (w5.alloc (.cells (ints .u8 [bk1 y, H].flatten) 96)).heap.size (w5.alloc (.cells (ints .u8 [bk1 y, H].flatten) 96)) w2 := tinyplus_c w5.heap.size 2 [bk1 y, H] (two_all (p := fun k => k.length = 16) (bk1_len y) hH) (two_all (p := fun k => ∀ x ∈ k, x < 256) (bk1_lt hy) hHb) (show 2 < 2 ^ 31 by decide) _ (Sl.blk B5)
       have hxl : (xorsN (zeros 16) [bk1 y, H]).length = 16 := xorsN_len _ _ (zeros_len _)
       have hxb := xorsN_lt [bk1 y, H] (zeros 16) (zeros_b 16) (two_all (p := fun k => ∀ x ∈ k, x < 256) (bk1_lt hy) hHb)
       clear K4 ov4 hbel4 hb6 B5
       (try simp only [Act.put, List.setIfInBounds_toArray, List.set_cons_zero, List.set_cons_succ, World.size_alloc, setRow_size, Nat.add_assoc, Nat.reduceAdd]))
    | (rw [H5.out]; refine wpList_load_ints rfl 96 _ rfl w2.heap.size rfl B4 Tryz.ar96 (bk1_len y) ?_; (try simp only [Act.put, List.setIfInBounds_toArray, List.set_cons_zero, List.set_cons_succ, World.size_alloc, setRow_size, Nat.add_assoc, Nat.reduceAdd]))
    | (refine wpList_load_ints rfl 96 _ rfl w.heap.size rfl H4 Tryz.ar96 hH ?_; (try simp only [Act.put, List.setIfInBounds_toArray, List.set_cons_zero, List.set_cons_succ, World.size_alloc, setRow_size, Nat.add_assoc, Nat.reduceAdd]))
    | (refine wpList_runW rfl (run_bs2 (u0 := .agg (ints .u8 (bk1 y))) (u1 := .agg (ints .u8 H)) rfl rfl rfl (hbs _)) ?_; generalize (w5.alloc (.cells (ints .u8 [bk1 y, H].flatten) 96)) = w6 at *; (try simp only [Act.put, List.setIfInBounds_toArray, List.set_cons_zero, List.set_cons_succ, World.size_alloc, setRow_size, Nat.add_assoc, Nat.reduceAdd])))
  generalize w2.heap.size = nb at *
  refine hpl.mono ?_
  clear hpl
  rintro e w7 ⟨rfl, hb7⟩
  have K7 := K6.below hb7
  have ov7 := ov6.below hb7
  have hbel7 := bCall hbel6 hb7 hbel6.size
  clear K6 ov6 hbel6 hb7
  go_wp2_with fail
  refine (ezE_c gk gt gb I J Z (xorsN (zeros 16) [bk1 y, H]) 0 3 (by decide) (by decide) hxl hxb _ K7).mono ?_
  rintro e w8 ⟨rfl, hb8⟩
  have hel := eE_len I J Z 0 3 hxl
  have heb := eE_lt I J Z 0 3 hxb
  have HG : Hid (gG I J Z H y = (eE I J Z 0 3 (xorsN (zeros 16) [bk1 y, H])).getD 0 0) := Lib.hid rfl
  generalize eE I J Z 0 3 (xorsN (zeros 16) [bk1 y, H]) = E at *
  have ov8 := ov7.below hb8
  have hbel8 := bCall hbel7 hb8 hbel7.size
  obtain ⟨g, cv, rfl, hBg, hgl, sv, -, -⟩ := ov8.sl2 (by simp)
  have X8 := Blk.new w8 96 (ints .u8 (zeros 16))
  have X9 := X8.row (ints .u8 E)
  have hb9 := bSetRow ((Below.refl w8.heap.size w8).alloc (Nat.le_refl _) (.cells (ints .u8 (zeros 16)) 96)) (Nat.le_refl _) (ints .u8 E)
  have ov9 := ov8.below hb9
  have hbel9 := bCall hbel8 hb9 hbel8.size
  have sv9 := sv.below hb9
  clear hb8 hb9 ov7 ov8 hbel7 hbel8 K7 B4 H4 c0 z0 H5 hor hxl hxb sv hbs
  obtain ⟨q, Hq⟩ : ∃ q, Hid (E.getD 0 0 = q) := ⟨_, Lib.hid rfl⟩
  have hq : q < 256 := by rw [← Hq.out]; exact getD_bound heb (by decide) 0
  obtain ⟨r, Hr⟩ : ∃ r, Hid (q &&& 128 = r) := ⟨_, Lib.hid rfl⟩
  have hr : r < 256 := by rw [← Hr.out]; exact Nat.lt_of_le_of_lt Nat.and_le_left hq
  have hand : bits BinOp.and IntKind.u8 (q : Int) 128 = (r : Int) := by
    have h1 := u8_and_nat q 128 hq (by decide)
    rw [Hr.out] at h1
    exact h1
  obtain ⟨z, Hz⟩ : ∃ z, Hid (x ^^^ r = z) := ⟨_, Lib.hid rfl⟩
  have hxor : bits BinOp.xor IntKind.u8 (x : Int) (r : Int) = (z : Int) := by
    have h1 := u8_xor_nat x r hx hr
    rw [Hz.out] at h1
    exact h1
  have HF : Hid (flT (gG I J Z H) x = z) := Lib.hid (by
    unfold flT
    rw [Hy.out, HG.out, Hq.out, Hr.out, Hz.out])
  go_wp2_with (first
    | (refine wpList_alloc_ints rfl 96 rfl Tryz.z96 ?_; (try simp only [Act.put, List.setIfInBounds_toArray, List.set_cons_zero, List.set_cons_succ, World.size_alloc, setRow_size, Nat.add_assoc, Nat.reduceAdd]))
    | (refine wpList_store_ints rfl 96 _ _ rfl _ rfl rfl X8 (zeros_size _ _) Tryz.ar96 hel ?_
       generalize ((w8.alloc (.cells (ints .u8 (zeros 16)) 96)).setRow w8.heap.size (ints .u8 E)) = w9 at *
       (try simp only [Act.put, List.setIfInBounds_toArray, List.set_cons_zero, List.set_cons_succ, World.size_alloc, setRow_size, Nat.add_assoc, Nat.reduceAdd])))
  have c1 := sv9.eq (i := 0) (by simp)
  have c2 := X9.int (i := 0) (by rw [hel]; decide)
  rw [Hq.out] at c2
  have c1' : w9.cell? ⟨g, 0, none⟩ = some (.int .u8 (x : Int)) := c1
  have z1 := ov9.frozen_ (i := 0)
  clear c1
  go_region
  go_wp2_with fail
  go_ret
  rw [HF.out]
  have ov10 := ov9.set_ (i := 0) (n := z) (by simp)
  exact ⟨_, rfl, ov10.drewN 1, (hbel9.setCell (p := ⟨g, 0, none⟩) hBg _).drew⟩
end Go.Proofs.YtaiffkajkbiidaaGreatDoor
