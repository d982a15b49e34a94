/- How the listed package variables of the top's statements are read. No condition. -/
import Derived.Test.YtaiffkajkbiidaaGreatDoorRow3
import Derived.Test.YtaiffkajkbiidaaGreatDoorWTb
import Derived.Test.YtaiffkajkbiidaaGreatDoorRows
import Derived.LaidMore
import Derived.LaidLaws
import Derived.Stop.Joined
import Derived.OpenShut
import Derived.Handed
namespace Go.Proofs.YtaiffkajkbiidaaGreatDoor
set_option linter.unusedSimpArgs false
set_option linter.unusedVariables false
set_option linter.unusedSectionVars false
set_option linter.unusedVariables false
open Go.ChangeShapes Go.WideShapes Go.ChangeAt Go.RowKit
section
variable {H : Type} {enc : TypeId × Value → H} {P : Program} {W : World} {base : Nat} {sp : Nat → Bool} {hd : Bool} {k : IntKind}
theorem vals_of_laid {t e n fuel : Nat} {cs : List Value} {ds : List Nat} {p : List MemPlace} (ht : P.underlying t = some (.array n e)) (he : P.underlying e = some (.int k)) (hce : P.cellsOf e = 1) (hct : P.cellsOf t = n) (hn : ds.length = n)
    (hf : DataW.trod enc P W base sp hd fuel t cs = some (.agg (ds.map fun x : Nat => DataW.lit (Lit.int k (x : Int))), p)) : cs = vals k ds := by
  obtain ⟨ys, m, -, hx, hlen, hyl, each⟩ := DataW.trod_array ht hf
  simp only [Prod.mk.injEq, DataW.agg.injEq] at hx
  obtain ⟨hx, -⟩ := hx
  rw [hct] at hlen
  simp only [hce, Nat.mul_one] at each
  unfold vals
  apply List.ext_getElem?
  intro i
  by_cases hi : i < n
  · have h1 := each i hi
    have h2 : ys[i]? = some ys[i] := List.getElem?_eq_getElem (by omega)
    rw [h2] at h1
    have h3 : (cs.drop i).take 1 = [cs[i]'(by omega)] := by
      rw [List.drop_eq_getElem_cons (by omega)]; rfl
    rw [h3] at h1
    obtain ⟨z, e0, e1, -⟩ := DataW.trod_int he h1
    have h4 := congrArg (fun l => l[i]?) hx
    simp only [List.getElem?_map, h2, Option.map_some, e1] at h4
    have h5 : ds[i]? = some ds[i] := List.getElem?_eq_getElem (by omega)
    rw [h5] at h4
    simp only [Option.map_some, Option.some.injEq, DataW.lit.injEq, Lit.int.injEq, true_and] at h4
    rw [List.getElem?_map, h5, List.getElem?_eq_getElem (by omega)]
    simp only [Option.map_some, Option.some.injEq]
    rw [h4]
    simpa using e0
  · rw [List.getElem?_eq_none (by omega), List.getElem?_eq_none (by simp; omega)]
theorem sl_of_laid {n : String} {g : Nat} {cs : Array Value} {xs : List Nat} (hg : P.globalNamed n = some g) (hv : W.var? P n = some cs) (hc : cs.toList = vals k xs) (hl : g < W.heap.size) : Sl W (some ⟨g, 0, none⟩) k xs := fun _ =>
  ⟨g, 0, rfl, hl, fun i hi => by
    have h1 := World.var?_cell hg hv i
    rw [Nat.zero_add, h1, ← Array.getElem?_toList, hc]
    unfold vals
    rw [List.getElem?_map, getD_lt hi]; rfl⟩
theorem heap_of_var {n : String} {g : Nat} {cs : Array Value} (hg : P.globalNamed n = some g) (hv : W.var? P n = some cs) (hne : cs.size ≠ 0) : g < W.heap.size := by
  have h1 := World.var?_cell hg hv 0
  rw [Array.getElem?_eq_getElem (by omega)] at h1
  refine Classical.byContradiction fun hn => ?_
  have h2 : W.heap[g]? = none := Array.getElem?_eq_none (by omega)
  simp [World.cell?, h2] at h1
end
theorem gn1 : Tryz.prog.globalNamed "wringer/blake.first" = some 2 := by kernel_rfl
theorem gn2 : Tryz.prog.globalNamed "wringer/blake.rows" = some 3 := by kernel_rfl
theorem gn3 : Tryz.prog.globalNamed "wringer/turn.mixes" = some 0 := by kernel_rfl
theorem gn4 : Tryz.prog.globalNamed "wringer/turn.unmixes" = some 1 := by kernel_rfl
theorem gt1 : (Tryz.prog.globals[2]?).map (·.type) = some 147 := by kernel_rfl
theorem gt2 : (Tryz.prog.globals[3]?).map (·.type) = some 165 := by kernel_rfl
theorem gt3 : (Tryz.prog.globals[0]?).map (·.type) = some 65 := by kernel_rfl
theorem gt4 : (Tryz.prog.globals[1]?).map (·.type) = some 65 := by kernel_rfl
def laidL : List (String × DataW Unit) := [("wringer/blake.first", Rows.laid_wringer_blake_first), ("wringer/blake.rows", Rows.laid_wringer_blake_rows), ("wringer/turn.mixes", Rows.laid_wringer_turn_mixes), ("wringer/turn.unmixes", Rows.laid_wringer_turn_unmixes)]
theorem d1 : (Rows.laid_wringer_blake_first : DataW Unit) = .agg (firstL.map fun x : Nat => DataW.lit (Lit.int .u64 (x : Int))) := rfl
theorem d3 : (Rows.laid_wringer_turn_mixes : DataW Unit) = .agg (mixesL.map fun x : Nat => DataW.lit (Lit.int .u8 (x : Int))) := rfl
theorem d4 : (Rows.laid_wringer_turn_unmixes : DataW Unit) = .agg (unmixesL.map fun x : Nat => DataW.lit (Lit.int .u8 (x : Int))) := rfl
theorem d2 : (Rows.laid_wringer_blake_rows : DataW Unit) = .agg ((List.range 10).map fun i => DataW.agg ((rowN i).map fun x : Nat => DataW.lit (Lit.int .u8 (x : Int)))) := rfl
set_option maxRecDepth 100000 in
set_option maxHeartbeats 4000000 in
theorem of_laid {W : World} (h : laidMetH Tryz.prog laidL W) : Gl W ∧ GlB W := by
  rw [MakeChecks.laidMetH_plain _ _ _ (by kernel_rfl)] at h
  obtain ⟨ps, h, -⟩ := h
  obtain ⟨g0, t0, cs0, f0, p0, q0, hg0, ht0, hv0, hd0, ⟨g1, t1, cs1, f1, p1, q1, hg1, ht1, hv1, hd1, ⟨g2, t2, cs2, f2, p2, q2, hg2, ht2, hv2, hd2, ⟨g3, t3, cs3, f3, p3, q3, hg3, ht3, hv3, hd3, -, -⟩, -⟩, -⟩, -⟩ := h
  obtain rfl := Option.some.inj (gn1.symm.trans hg0)
  obtain rfl := Option.some.inj (gn2.symm.trans hg1)
  obtain rfl := Option.some.inj (gn3.symm.trans hg2)
  obtain rfl := Option.some.inj (gn4.symm.trans hg3)
  obtain rfl := Option.some.inj (gt1.symm.trans ht0)
  obtain rfl := Option.some.inj (gt2.symm.trans ht1)
  obtain rfl := Option.some.inj (gt3.symm.trans ht2)
  obtain rfl := Option.some.inj (gt4.symm.trans ht3)
  have c8 : Tryz.prog.cellsOf 147 = 8 := by kernel_rfl
  have c4 : Tryz.prog.cellsOf 65 = 4 := by kernel_rfl
  have c16 : Tryz.prog.cellsOf 96 = 16 := by kernel_rfl
  have c160 : Tryz.prog.cellsOf 165 = 160 := by kernel_rfl
  rw [d1] at hd0
  rw [d2] at hd1
  rw [d3] at hd2
  rw [d4] at hd3
  have e0 := vals_of_laid Tryz.underlying147 Tryz.underlying106 Tryz.sz106 c8 (by rfl) hd0
  have e2 := vals_of_laid Tryz.underlying65 Tryz.underlying5 Tryz.sz5 c4 (by rfl) hd2
  have e3 := vals_of_laid Tryz.underlying65 Tryz.underlying5 Tryz.sz5 c4 (by rfl) hd3
  have e1 : cs1.toList = vals .u8 rowsL := by
    obtain ⟨ys, m, -, hx, hlen, hyl, each⟩ := DataW.trod_array Tryz.underlying165 hd1
    simp only [Prod.mk.injEq, DataW.agg.injEq] at hx
    obtain ⟨hx, -⟩ := hx
    rw [c160] at hlen
    simp only [c16] at each
    have row : ∀ i, i < 10 → (cs1.toList.drop (i * 16)).take 16 = vals .u8 (rowN i) := fun i hi => by
      have h1 := each i hi
      have h2 : ys[i]? = some ys[i] := List.getElem?_eq_getElem (by omega)
      rw [h2] at h1
      have h4 := congrArg (fun l => l[i]?) hx
      simp only [List.getElem?_map, h2, Option.map_some, List.getElem?_range hi, Option.some.injEq] at h4
      generalize ys[i] = y at h1 h4
      obtain ⟨y1, y2⟩ := y
      simp only at h4
      subst h4
      exact vals_of_laid Tryz.underlying96 Tryz.underlying5 Tryz.sz5 c16 (rowN_len i hi) h1
    have cat : ∀ j, j ≤ 10 → cs1.toList.take (16 * j) = vals .u8 (rowsL.take (16 * j)) := fun j => by
      induction j with
      | zero => intro _; rfl
      | succ j ih =>
        intro hj
        have h1 := ih (by omega)
        have h2 := row j (by omega)
        rw [show 16 * (j + 1) = 16 * j + 16 by omega, List.take_add, h1, Nat.mul_comm 16 j, h2, List.take_add]
        unfold vals rowN
        rw [List.map_append, Nat.mul_comm 16 j]
    have h10 := cat 10 (by omega)
    rw [List.take_of_length_le (by omega), List.take_of_length_le (by decide)] at h10
    exact h10
  have z0 : cs0.size ≠ 0 := by rw [← Array.length_toList, e0]; decide
  have z1 : cs1.size ≠ 0 := by rw [← Array.length_toList, e1]; decide
  have z2 : cs2.size ≠ 0 := by rw [← Array.length_toList, e2]; decide
  have z3 : cs3.size ≠ 0 := by rw [← Array.length_toList, e3]; decide
  exact ⟨⟨sl_of_laid hg2 hv2 e2 (heap_of_var hg2 hv2 z2), sl_of_laid hg3 hv3 e3 (heap_of_var hg3 hv3 z3)⟩, ⟨sl_of_laid hg0 hv0 e0 (heap_of_var hg0 hv0 z0), sl_of_laid hg1 hv1 e1 (heap_of_var hg1 hv1 z1)⟩⟩
set_option maxRecDepth 100000 in
/-- The door's own heap meets the condition. -/
theorem door_met (os : Os) (args : Array Value) : laidMetH Tryz.prog laidL ((World.doorLaid Tryz.prog 4000 os).forCall (fun _ _ => 0) ⟨#[], args, []⟩).memory :=
  laidMetH_of_parts3 (fuel := 8) (laidMet_of_run' 8 (by kernel_rfl) (by kernel_rfl)) (by kernel_rfl) (by kernel_rfl)
end Go.Proofs.YtaiffkajkbiidaaGreatDoor
