/- The walk of TopByte. No condition but that bytes are below 256. -/
import Derived.Test.YtaiffkajkbiidaaGreatDoorWTb
import Derived.Test.YtaiffkajkbiidaaGreatDoorPT
namespace Go.Proofs.YtaiffkajkbiidaaGreatDoor
set_option linter.unusedSimpArgs false
set_option linter.unusedVariables false
set_option linter.unusedSectionVars false
set_option linter.unusedVariables false
open Go.RowKit
/-- Which bytes have been met. -/
def seenT (F : Nat → Nat) (i x : Nat) : Bool := (List.range i).any fun j => F j == x
def metA (F : Nat → Nat) (i : Nat) : Array Value := ((List.range 256).map fun x => Value.bool (seenT F i x)).toArray
theorem metA_zero (F : Nat → Nat) : metA F 0 = (List.replicate 256 (Value.bool false)).toArray := by
  unfold metA seenT
  simp only [List.range_zero, List.any_nil]
  rw [List.map_const', List.length_range]
theorem metA_get (F : Nat → Nat) (i : Nat) {x : Nat} (hx : x < 256) : (metA F i)[x]? = some (.bool (seenT F i x)) := by
  unfold metA
  rw [List.getElem?_toArray, List.getElem?_map, List.getElem?_range hx]; rfl
theorem seenT_not {F : Nat → Nat} {i : Nat} (hinj : ∀ a b, a < 256 → b < 256 → F a = F b → a = b) (hi : i < 256) : seenT F i (F i) = false := by
  unfold seenT
  rw [List.any_eq_false]
  intro j hj
  rw [List.mem_range] at hj
  intro he
  have := hinj j i (by omega) hi (by simpa using he)
  omega
theorem metA_set (F : Nat → Nat) (i : Nat) (hF : F i < 256) : (metA F i).setIfInBounds (F i) (.bool true) = metA F (i + 1) := by
  apply Array.ext_getElem?
  intro x
  by_cases hx : x < 256
  · rw [metA_get F (i + 1) hx, Array.getElem?_setIfInBounds, metA_get F i hx]
    have hsz : (metA F i).size = 256 := by unfold metA; simp
    have hs : seenT F (i + 1) x = (seenT F i x || F i == x) := by
      unfold seenT
      rw [List.range_succ, List.any_append]; simp
    rw [hs, hsz]
    by_cases he : F i = x
    · subst he; simp [hF]
    · rw [if_neg he]; simp [he]
  · have h1 : (metA F (i + 1)).size = 256 := by unfold metA; simp
    have h2 : ((metA F i).setIfInBounds (F i) (.bool true)).size = 256 := by rw [Array.size_setIfInBounds]; unfold metA; simp
    rw [Array.getElem?_eq_none (by omega), Array.getElem?_eq_none (by omega)]
theorem z256 (w : World) : (Instr.alloc 36 true (.tuple #[])).run Tryz.prog w = .ok (.pointer (some ⟨w.heap.size, 0, none⟩)) (w.alloc (.cells (List.replicate 256 (Value.bool false)).toArray 36)) := by kernel_rfl
theorem run_alloc256 {o : Oper} {a : Act} {w : World} (ho : o.op = .alloc 36) : (execOp a.eval o).run Tryz.prog w = .ok (.value (.pointer (some ⟨w.heap.size, 0, none⟩))) (w.alloc (.cells (List.replicate 256 (Value.bool false)).toArray 36)) := by
  unfold execOp
  simp only [ho, Sem.run_bind, z256, Result.andThen_ok]
  rfl
theorem run_bsB {o : Oper} {a : Act} {x : Operand} {n : Nat} {w : World} (ho : o.op = .buildSlice 23 1 #[(0, x)]) (hx : a.eval x = .int .u8 (n : Int)) : (execOp a.eval o).run Tryz.prog w = .ok (.value (.slice (some ⟨w.heap.size, 0, none⟩) 1 1)) (w.alloc (.cells (ints .u8 [n]) 5)) :=
  run_bs1 ho hx (by kernel_rfl)
theorem bCall' {B : Nat} {a w w' : World} (h : Below B a w) (h' : Below w.heap.size w w') (hB : B ≤ w.heap.size) : Below B a w' := bCall h h' hB
set_option maxRecDepth 100000 in
set_option maxHeartbeats 40000000 in
theorem topByte_c (key tw : List Nat) (a0 a1 : Option Addr) (c0 c1 : Nat) (hb0 : ∀ x ∈ key, x < 256) (hb1 : ∀ x ∈ tw, x < 256) (hc0 : key.length ≤ c0) (hc1 : tw.length ≤ c1) (hn0 : a0 = none → c0 = 0) (hm0 : key.length ≤ maxLen) (hm1 : tw.length ≤ maxLen) (w : World) (hGl : Gl w) (hG : GlB w) (S0 : Sl w a0 .u8 key) (S1 : Sl w a1 .u8 tw) :
    Calls Tryz.prog 4 #[.slice a0 key.length c0, .slice a1 tw.length c1] w fun e w' => e = .returned (.bool true) ∧ Below w.heap.size w w' := by
  have hmay := fun W => may3_c key.length c0 a0 W
  have hcip := fun (h : 0 < key.length ∧ key.length ≤ 128) W h1 h2 h3 => cipher3_c key a0 c0 (by omega) h.2 hb0 hc0 hn0 W h1 h2 h3
  obtain ⟨I, hI⟩ : ∃ I, Hid (exI key = I) := ⟨_, Lib.hid rfl⟩
  obtain ⟨J, hJ⟩ : ∃ J, Hid (exJ key = J) := ⟨_, Lib.hid rfl⟩
  obtain ⟨Z, hZ⟩ : ∃ Z, Hid (exZ key = Z) := ⟨_, Lib.hid rfl⟩
  rw [hI.out, hJ.out, hZ.out] at hcip
  have hEn := fun (htl : tw.length < 2 ^ 31) gc gk gt gb b hb a c W h1 h2 h3 => wideEnc_c gc gk gt gb I J Z tw hb1 htl a1 c1 hc1 b hb a c W h1 h2 h3
  obtain ⟨n, hn⟩ : ∃ n, Hid (key.length = n) := ⟨_, Lib.hid rfl⟩
  obtain ⟨m, hm⟩ : ∃ m, Hid (tw.length = m) := ⟨_, Lib.hid rfl⟩
  have hS : ∀ j x, sT I J Z (hashN I J Z tw) j x < 16 := sT_lt I J Z _
  have hFl : ∀ b, b < 256 → cdN false I J Z tw b < 256 := fun b hb => encT_lt hS _ hb
  have hFi : ∀ a b, a < 256 → b < 256 → cdN false I J Z tw a = cdN false I J Z tw b → a = b := fun a b ha hb h => encT_inj hS _ ha hb h
  obtain ⟨F, hF⟩ : ∃ F : Nat → Nat, Hid (∀ b, cdN false I J Z tw b = F b) := ⟨_, Lib.hid fun _ => rfl⟩
  simp only [hF.out] at hFl hFi hEn
  rw [hn.out] at hmay hcip hm0 ⊢
  rw [hm.out] at hEn hm1 ⊢
  clear hF hS hI hJ hZ
  go_enter Tryz.func4, Tryz.ntmps4
  go_wp2_with fail
  have B1 := Blk.new w 27 #[.int .i64 3, .slice a0 n c0, .slice none 0 0, .bool false]
  have hbl1 := (Below.refl w.heap.size w).alloc (Nat.le_refl _) (.cells #[.int .i64 3, .slice a0 n c0, .slice none 0 0, .bool false] 27)
  generalize (w.alloc (.cells #[.int .i64 3, .slice a0 n c0, .slice none 0 0, .bool false] 27)) = w1 at *
  refine (hmay w1).mono ?_
  clear hmay
  rintro e w2 ⟨rfl, hb2⟩
  have B2 := B1.below' hb2
  have hbl2 := bCall hbl1 hb2 hbl1.size
  clear B1 hbl1 hb2
  by_cases hk : 0 < n ∧ n ≤ 128
  · rw [decide_eq_true hk]
    by_cases hm60 : m ≤ 60
    · have e0 : decide ((m : Int) > 60) = false := by simp; omega
      have k0 : w2.cell? ⟨w.heap.size, 0, none⟩ = some (.int .i64 3) := by rw [B2.cell]; rfl
      have k1 : w2.cell? ⟨w.heap.size, 1, none⟩ = some (.slice a0 n c0) := by rw [B2.cell]; rfl
      have hc := hcip hk w2 (hGl.below hbl2) (hG.below hbl2) (S0.below hbl2)
      have hm31 : m < 2 ^ 31 := by omega
      replace hEn := hEn hm31
      clear hcip B2 hm1 hm0 hk hm60
      go_wp2_with fail
      refine hc.mono ?_
      clear hc k0 k1
      rintro e w3 ⟨gc, gk, gt, gb, rfl, hgc, C3, hb3⟩
      have hbl3 := bCall hbl2 hb3 hbl2.size
      clear hbl2 hb3
      have X3 := Blk.new w3 36 (List.replicate 256 (Value.bool false)).toArray
      rw [← metA_zero F] at X3
      have hb4 := (Below.refl w3.heap.size w3).alloc (Nat.le_refl _) (.cells (metA F 0) 36)
      have HC : Hid (∀ W, Below w3.heap.size w3 W → IsCip W gc gk gt gb I J Z) := Lib.hid fun W h => C3.below h
      have hnb := hbl3.size
      have HT : Hid (∀ W, Below w3.heap.size w3 W → Below w.heap.size w W) := Lib.hid fun W h => bCall hbl3 h hnb
      clear hbl3 C3
      go_wp2_with (refine wpList_runW rfl (run_alloc256 rfl) ?_; rw [← metA_zero F]; generalize (w3.alloc (.cells (metA F 0) 36)) = w4 at *; generalize w3.heap.size = nb at *; (try simp only [Act.put, List.setIfInBounds_toArray, List.set_cons_zero, List.set_cons_succ, World.size_alloc, setRow_size, Nat.add_assoc, Nat.reduceAdd]))
      go_loopw [9] (fun t wr => ∃ i : Nat, i ≤ 256 ∧ t = .int .i64 (i : Int) ∧ Blk wr nb 36 (metA F i) ∧ Below nb w3 wr) (fun t wr => 256 - (intOf t).toNat)
      case atStart => exact ⟨0, by omega, rfl, X3, hb4⟩
      case round =>
        clear X3 hb4
        obtain ⟨i, hi, rfl, X, hbel⟩ := hrel
        by_cases hlt : i < 256
        · have hd : decide ((i : Int) < 256) = true := by simp; omega
          have hcv : IntKind.u8.wrap (i : Int) = (i : Int) := by rw [IntKind.wrap_u8]; omega
          have hbn := hbel.size
          have hl := X.lt
          have hb5 := (Below.refl wr.heap.size wr).alloc (Nat.le_refl _) (.cells (ints .u8 [i]) 5)
          have X5 := X.below' hb5
          have N5 : Sl _ (some ⟨wr.heap.size, 0, none⟩) .u8 [i] := Sl.blk (Blk.new wr 5 (ints .u8 [i]))
          have hbel5 := bCall' hbel hb5 (Nat.le_of_lt hl)
          clear X
          go_wp2_with (refine wpList_runW rfl (run_bsB rfl rfl) ?_; generalize (wr.alloc (.cells (ints .u8 [i]) 5)) = w5 at *; generalize wr.heap.size = g5 at *; (try simp only [Act.put, List.setIfInBounds_toArray, List.set_cons_zero, List.set_cons_succ, World.size_alloc, setRow_size, Nat.add_assoc, Nat.reduceAdd]))
          have hT5 := HT.out _ hbel5
          refine (hEn gc gk gt gb i hlt _ 1 w5 (S1.below hT5) N5 (HC.out _ hbel5)).mono ?_
          rintro e w6 ⟨v, rfl, ov, hb6⟩
          have X6 := X5.below' hb6
          have hbel6 := bCall hbel5 hb6 (Nat.le_of_lt X5.lt)
          obtain ⟨ax, cx, rfl, sx, -, -⟩ := ov.sl
          obtain ⟨g6, o6, rfl, -, k6⟩ := sx.at_ (i := 0) (by simp)
          simp only [List.getD_cons_zero, Nat.add_zero] at k6
          have hy := hFl i hlt
          have m6 : w6.cell? ⟨nb, F i, none⟩ = some (.bool false) := by rw [X6.cell, metA_get F i hy, seenT_not hFi hlt]
          have z6 := X6.frozen (F i)
          have X7 := X6.set_ (F i) (.bool true)
          rw [metA_set F i hy] at X7
          have hbel7 : Below nb w3 (w6.setCell ⟨nb, F i, none⟩ (.bool true)) := hbel6.setCell (p := ⟨nb, F i, none⟩) (Nat.le_refl _) _
          clear X5 N5 hb6 ov sx X6 hb5 hcv hT5 hbel5 hbel6 hbel
          generalize F i = y at *
          have hyi : (y : Int) < 256 := by omega
          go_wp2_with fail
          exact ⟨⟨i + 1, by omega, by go_num, X7, hbel7⟩, by simp [intOf] <;> omega⟩
        · have hd : decide ((i : Int) < 256) = false := by simp; omega
          have hT5 := HT.out _ hbel
          go_wp2_with fail
          refine (topAwake_c wr (hGl.below hT5)).mono ?_
          rintro e w6 ⟨rfl, hb6⟩
          have hbel6 := bCall hT5 hb6 hT5.size
          go_wp2_with fail
          go_ret
          exact ⟨rfl, hbel6⟩
    · have e0 : decide ((m : Int) > 60) = true := by simp; omega
      go_wp2_with fail
      go_ret
      exact ⟨rfl, hbl2⟩
  · rw [decide_eq_false hk]
    go_wp2_with fail
    go_ret
    exact ⟨rfl, hbl2⟩
end Go.Proofs.YtaiffkajkbiidaaGreatDoor
