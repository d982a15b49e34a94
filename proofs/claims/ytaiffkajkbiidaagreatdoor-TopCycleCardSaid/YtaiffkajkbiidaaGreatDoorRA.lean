/- How the arguments of a statement are read: arrays by value as rows of whole numbers. No condition. -/
import Derived.Test.YtaiffkajkbiidaaGreatDoorKA
import Derived.Test.YtaiffkajkbiidaaGreatDoorRows
import Derived.ProofKit
import Derived.OpenShut
import Derived.ShutString
import Derived.ChangeOld
import Derived.Lib.SmallJoins
namespace Go.Proofs.YtaiffkajkbiidaaGreatDoor
set_option linter.unusedSimpArgs false
set_option linter.unusedVariables false
set_option linter.unusedSectionVars false
set_option linter.unusedVariables false
open Go.ChangeShapes Go.WideShapes Go.ChangeAt Go.RowKit
theorem own : ownKnob Tryz.prog.godebug = none := by kernel_rfl
theorem laidOut : laidOutB Tryz.prog = true := by kernel_rfl
set_option maxRecDepth 100000 in
/-- The signs of the program's row of starts, as a list: read off the text itself the kernel wants a time that grows as the square. -/
def startL : List Char := [Char.ofNat 104, Char.ofNat 97, Char.ofNat 114, Char.ofNat 110, Char.ofNat 101, Char.ofNat 115, Char.ofNat 115, Char.ofNat 32, Char.ofNat 53, Char.ofNat 49, Char.ofNat 102, Char.ofNat 97, Char.ofNat 55, Char.ofNat 49, Char.ofNat 56, Char.ofNat 98, Char.ofNat 99, Char.ofNat 102, Char.ofNat 50, Char.ofNat 50, Char.ofNat 49, Char.ofNat 53, Char.ofNat 97, Char.ofNat 51, Char.ofNat 53, Char.ofNat 102, Char.ofNat 52, Char.ofNat 100, Char.ofNat 54, Char.ofNat 98, Char.ofNat 101, Char.ofNat 98, Char.ofNat 98, Char.ofNat 50, Char.ofNat 56, Char.ofNat 52, Char.ofNat 102, Char.ofNat 101, Char.ofNat 100, Char.ofNat 100, Char.ofNat 99, Char.ofNat 57, Char.ofNat 53, Char.ofNat 57, Char.ofNat 57, Char.ofNat 49, Char.ofNat 52, Char.ofNat 55, Char.ofNat 98, Char.ofNat 54, Char.ofNat 48, Char.ofNat 57, Char.ofNat 52, Char.ofNat 57, Char.ofNat 98, Char.ofNat 56, Char.ofNat 100, Char.ofNat 100, Char.ofNat 49, Char.ofNat 52, Char.ofNat 98, Char.ofNat 98, Char.ofNat 57, Char.ofNat 51, Char.ofNat 101, Char.ofNat 50, Char.ofNat 52, Char.ofNat 55, Char.ofNat 48, Char.ofNat 99, Char.ofNat 51, Char.ofNat 53, Char.ofNat 32, Char.ofNat 99, Char.ofNat 117, Char.ofNat 116, Char.ofNat 32, Char.ofNat 97, Char.ofNat 116, Char.ofNat 32, Char.ofNat 119, Char.ofNat 114, Char.ofNat 105, Char.ofNat 110, Char.ofNat 103, Char.ofNat 101, Char.ofNat 114, Char.ofNat 47, Char.ofNat 119, Char.ofNat 114, Char.ofNat 105, Char.ofNat 110, Char.ofNat 103, Char.ofNat 101, Char.ofNat 114, Char.ofNat 116, Char.ofNat 111, Char.ofNat 112, Char.ofNat 46, Char.ofNat 84, Char.ofNat 111, Char.ofNat 112, Char.ofNat 82, Char.ofNat 111, Char.ofNat 119, Char.ofNat 32, Char.ofNat 119, Char.ofNat 114, Char.ofNat 105, Char.ofNat 110, Char.ofNat 103, Char.ofNat 101, Char.ofNat 114, Char.ofNat 47, Char.ofNat 119, Char.ofNat 114, Char.ofNat 105, Char.ofNat 110, Char.ofNat 103, Char.ofNat 101, Char.ofNat 114, Char.ofNat 116, Char.ofNat 111, Char.ofNat 112, Char.ofNat 46, Char.ofNat 84, Char.ofNat 111, Char.ofNat 112, Char.ofNat 66, Char.ofNat 121, Char.ofNat 116, Char.ofNat 101, Char.ofNat 32, Char.ofNat 119, Char.ofNat 114, Char.ofNat 105, Char.ofNat 110, Char.ofNat 103, Char.ofNat 101, Char.ofNat 114, Char.ofNat 47, Char.ofNat 119, Char.ofNat 114, Char.ofNat 105, Char.ofNat 110, Char.ofNat 103, Char.ofNat 101, Char.ofNat 114, Char.ofNat 116, Char.ofNat 111, Char.ofNat 112, Char.ofNat 46, Char.ofNat 84, Char.ofNat 111, Char.ofNat 112, Char.ofNat 67, Char.ofNat 121, Char.ofNat 99, Char.ofNat 108, Char.ofNat 101]
set_option maxRecDepth 100000 in
theorem startRowL : Tryz.prog.initOrder.toList = startL := by
  unfold Tryz.prog Tryz.progTables startL
  exact String.toList_ofList
/-- The word that the row's own words begin with. -/
def cutL : List Char := [Char.ofNat 99, Char.ofNat 117, Char.ofNat 116]
theorem s1 : behindMainWord (wordsSigns startL) = cutL :: (behindMainWord (wordsSigns startL)).tail := by kernel_rfl
theorem mk0 : behindMainWord (wordsSigns Tryz.prog.initOrder.toList) = cutL :: (behindMainWord (wordsSigns startL)).tail := by rw [startRowL]; exact s1
theorem mkE (P : Program) (r : List (List Char)) (h : behindMainWord (wordsSigns P.initOrder.toList) = cutL :: r) : P.make = some .cut := by unfold Program.make; rw [h]; rfl
theorem lfE (P : Program) (r : List (List Char)) (h : behindMainWord (wordsSigns P.initOrder.toList) = cutL :: r) : P.liftsFinal = false := by
  unfold Program.liftsFinal Program.headLifts; simp only [h]; rfl
theorem stE (r : List (List Char)) : stripLifts liftWords (cutL :: r) = ([], cutL :: r) := rfl
theorem meE (P : Program) (r : List (List Char)) (h : behindMainWord (wordsSigns P.initOrder.toList) = cutL :: r) (h1 : P.laysLater = false) (h2 : P.bearsReflect = false) (h3 : P.doorFits [] = true) : P.mayEnter = true := by
  unfold Program.mayEnter; simp only [h, stE, h1, h2, h3]; rfl
theorem makes : Tryz.prog.make = some .cut := mkE _ _ mk0
theorem lifts : Tryz.prog.liftsFinal = false := lfE _ _ mk0
theorem l1 : Tryz.prog.laysLater = false := by kernel_rfl
theorem l2 : Tryz.prog.bearsReflect = false := by kernel_rfl
theorem l3 : Tryz.prog.doorFits [] = true := by kernel_rfl
theorem starts : Tryz.prog.mayEnter = true := meE _ _ mk0 l1 l2 l3
section
variable {H : Type} {enc : TypeId × Value → H} {P : Program} {W : World} {base base' : Nat} {sp : Nat → Bool} {hd : Bool} {r : Reach}
theorem nat_of_wf {k : IntKind} (hk : k.signed = false) {z : Int} (h : (Lit.int k z).wf = true) : ∃ x : Nat, z = x ∧ x < 2 ^ k.bits := by
  cases k <;> simp [IntKind.signed] at hk
  · have := bounds_u8 h; exact ⟨z.toNat, by omega, by simp [IntKind.bits]; omega⟩
  · have := bounds_u16 h; exact ⟨z.toNat, by omega, by simp [IntKind.bits]; omega⟩
  · have := bounds_u32 h; exact ⟨z.toNat, by omega, by simp [IntKind.bits]; omega⟩
  · have := bounds_u64 h; exact ⟨z.toNat, by omega, by simp [IntKind.bits]; omega⟩
theorem open_arr {t e n : Nat} {k : IntKind} {v : Value} {d : DataW H} {p : List MemPlace} (ht : P.underlying t = some (.array n e)) (he : P.underlying e = some (.int k)) (hce : P.cellsOf e = 1) (hct : P.cellsOf t = n) (hk : k.signed = false)
    (hv : Value.okWide P W r base t v) (h : DataW.Trod enc P W base' sp hd t v d p) : ∃ xs : List Nat, v = .agg (ints k xs) ∧ xs.length = n ∧ ∀ x ∈ xs, x < 2 ^ k.bits := by
  simp only [Value.okWide, ht] at hv
  obtain ⟨cs, rfl, hsz, -⟩ := hv
  obtain ⟨fuel, hf⟩ := h
  obtain ⟨ys, m, -, -, hlen, hyl, each⟩ := DataW.trod_array ht hf
  rw [hct] at hsz
  simp only [hce, Nat.mul_one] at each
  have hcs : (Value.agg cs).cells.toList = cs.toList := rfl
  rw [hcs] at each
  have one : ∀ i, i < n → ∃ x : Nat, cs[i]? = some (.int k (x : Int)) ∧ x < 2 ^ k.bits := by
    intro i hi
    have h1 := each i hi
    have h2 : ys[i]? = some ys[i] := List.getElem?_eq_getElem (by omega)
    rw [h2] at h1
    have h3 : (cs.toList.drop i).take 1 = [cs[i]'(by omega)] := by
      rw [List.drop_eq_getElem_cons (by simp; omega)]; simp
    rw [h3] at h1
    obtain ⟨z, e0, -, hw⟩ := DataW.trod_int he h1
    obtain ⟨x, rfl, hx⟩ := nat_of_wf hk hw
    refine ⟨x, ?_, hx⟩
    rw [Array.getElem?_eq_getElem (by omega)]
    simpa using e0
  refine ⟨(List.range n).map fun i => if h : i < n then Classical.choose (one i h) else 0, ?_, by simp, ?_⟩
  · congr 1
    apply Array.ext_getElem?
    intro i
    rw [ints_get, List.getElem?_map]
    by_cases hi : i < n
    · rw [List.getElem?_range hi]
      simp only [Option.map_some, dif_pos hi]
      exact (Classical.choose_spec (one i hi)).1
    · rw [Array.getElem?_eq_none (by omega), List.getElem?_eq_none (by simp; omega)]; rfl
  · intro x hx
    obtain ⟨i, hi, rfl⟩ := List.mem_map.1 hx
    rw [List.mem_range] at hi
    rw [dif_pos hi]
    exact (Classical.choose_spec (one i hi)).2
theorem open_nat {t : Nat} {k : IntKind} {v : Value} {d : DataW H} {p : List MemPlace} (ht : P.underlying t = some (.int k)) (hk : k.signed = false)
    (hv : Value.okWide P W r base t v) (h : DataW.Trod enc P W base' sp hd t v d p) : ∃ x : Nat, v = .int k (x : Int) ∧ x < 2 ^ k.bits := by
  obtain ⟨z, rfl, -, -, wf⟩ := open_int ht hv h
  obtain ⟨x, rfl, hx⟩ := nat_of_wf hk wf
  exact ⟨x, rfl, hx⟩
/-- A slice of numbers that came in. -/
theorem open_sl {t e : Nat} {k : IntKind} {v : Value} {d : DataW H} {p : List MemPlace} (ht : P.underlying t = some (.slice e)) (he : P.underlying e = some (.int k)) (hce : P.cellsOf e = 1) (hk : k.signed = false)
    (hv : Value.okWide P W r base t v) (h : DataW.Trod enc P W 0 (fun _ => true) true t v d p) : ∃ (a : Option Addr) (c : Nat) (xs : List Nat), v = .slice a xs.length c ∧ Sl W a k xs ∧ xs.length ≤ c ∧ c ≤ maxLen ∧ ∀ x ∈ xs, x < 2 ^ k.bits := by
  obtain ⟨a, len, cap, rfl⟩ := okWide_slice ht hv
  have lt : ∀ x ∈ p, x.block < W.heap.size := by obtain ⟨m, hm⟩ := h; exact DataW.trod_lt m _ _ _ hm
  obtain ⟨fuel, hf⟩ := h
  rcases open_ints ht he hce hf with ⟨hcs, _⟩ | ⟨x, l, c, zs, hcs, _, hl, hm, hz, hx, hcell, hwz⟩
  · simp [Value.cells] at hcs
    obtain ⟨rfl, rfl, rfl⟩ := hcs
    exact ⟨none, 0, [], rfl, Sl.nil _ _ _, Nat.le_refl _, by simp [maxLen], by simp⟩
  · simp [Value.cells] at hcs
    obtain ⟨rfl, rfl, rfl⟩ := hcs
    have hzc : zs.length = cap := by simpa using hz
    have each : ∀ i, i < zs.length → ∃ y : Nat, zs.getD i 0 = y ∧ y < 2 ^ k.bits := fun i hi => nat_of_wf hk (hwz _ (by rw [List.getD_eq_getElem?_getD, List.getElem?_eq_getElem hi]; exact List.getElem_mem hi))
    have hxl : ((zs.take len).map Int.toNat).length = len := by simp; omega
    have hget : ∀ i, i < len → zs.getD i 0 = ((((zs.take len).map Int.toNat).getD i 0 : Nat) : Int) := by
      intro i hi
      obtain ⟨y, hy, -⟩ := each i (by omega)
      have e : ((zs.take len).map Int.toNat).getD i 0 = (zs.getD i 0).toNat := by
        simp [List.getD_eq_getElem?_getD, List.getElem?_map, List.getElem?_take, hi, List.getElem?_eq_getElem (show i < zs.length by omega)]
      rw [e, hy]; simp
    refine ⟨some x, cap, (zs.take len).map Int.toNat, by rw [hxl], fun hne => ?_, by rw [hxl]; exact hl, hm, ?_⟩
    · have hpos : 0 < len := by
        refine Nat.pos_of_ne_zero fun h0 => hne ?_
        apply List.length_eq_zero_iff.1; rw [hxl, h0]
      have hc0 := hcell 0 (by omega)
      have hsp : x.spot = none := by
        have h1 : x.add 0 = x := by simp [Addr.add]
        rw [h1] at hc0
        cases hs : x.spot with
        | none => rfl
        | some s => exfalso; unfold World.cell? at hc0; split at hc0 <;> simp [hs] at hc0
      obtain ⟨g, off, s⟩ := x
      obtain rfl : s = none := hsp
      have hadd : ∀ i, (⟨g, off, none⟩ : Addr).add i = ⟨g, off + i, none⟩ := Addr.add_mid g off
      refine ⟨g, off, rfl, ?_, fun i hi => ?_⟩
      · have := World.block_lt_of_cell? _ _ hc0
        rw [hadd] at this; exact this
      · rw [← hadd, hcell i (by omega), hget i (by omega)]
    · intro y hy
      obtain ⟨z, hz1, rfl⟩ := List.mem_map.1 hy
      obtain ⟨y, rfl, hy2⟩ := nat_of_wf hk (hwz z (List.mem_of_mem_take hz1))
      simpa using hy2
end
end Go.Proofs.YtaiffkajkbiidaaGreatDoor
/- How a slice among the arguments is read, a nil one told apart. No condition. -/
namespace Go.Proofs.YtaiffkajkbiidaaGreatDoor
set_option linter.unusedSimpArgs false
set_option linter.unusedVariables false
set_option linter.unusedSectionVars false
set_option linter.unusedVariables false
open Go.ChangeShapes Go.WideShapes Go.ChangeAt Go.RowKit
section
variable {H : Type} {enc : TypeId × Value → H} {P : Program} {W : World} {base : Nat} {r : Reach}
theorem open_slz {t e : Nat} {k : IntKind} {v : Value} {d : DataW H} {p : List MemPlace} (ht : P.underlying t = some (.slice e)) (he : P.underlying e = some (.int k)) (hce : P.cellsOf e = 1) (hk : k.signed = false)
    (hv : Value.okWide P W r base t v) (h : DataW.Trod enc P W 0 (fun _ => true) true t v d p) : ∃ (a : Option Addr) (c : Nat) (xs : List Nat), v = .slice a xs.length c ∧ Sl W a k xs ∧ xs.length ≤ c ∧ c ≤ maxLen ∧ (∀ x ∈ xs, x < 2 ^ k.bits) ∧ (a = none → c = 0) := by
  obtain ⟨a, c, xs, rfl, h1, h2, h3, h4⟩ := open_sl ht he hce hk hv h
  refine ⟨a, c, xs, rfl, h1, h2, h3, h4, ?_⟩
  rintro rfl
  obtain ⟨fuel, hf⟩ := h
  rcases open_ints ht he hce hf with ⟨hcs, _⟩ | ⟨x, l, c', zs, hcs, _⟩
  · simp [Value.cells] at hcs
    exact hcs.2
  · simp [Value.cells] at hcs
end
end Go.Proofs.YtaiffkajkbiidaaGreatDoor
