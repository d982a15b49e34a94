/- Two half bytes put together (cut.Join). No condition but that they are below 16. -/
import Derived.Test.YtaiffkajkbiidaaGreatDoorW14a
import Derived.BigRegion
namespace Go.Proofs.YtaiffkajkbiidaaGreatDoor
set_option linter.unusedSimpArgs false
set_option linter.unusedVariables false
set_option linter.unusedSectionVars false
set_option linter.unusedVariables false
open Go.RowKit
def jnK (l r : Nat) : Nat → Nat
  | 0 => 0
  | 1 => l * 16
  | _ => l * 16 + r
set_option maxRecDepth 20000 in
theorem or16 : ∀ l, l < 16 → ∀ r, r < 16 → l * 16 ||| r = l * 16 + r := by decide
set_option maxRecDepth 100000 in
set_option maxHeartbeats 8000000 in
theorem cutJoin_c (l r : Nat) (hl : l < 16) (hr : r < 16) (a : Option Addr) (c : Nat) (w : World) (hs : Sl w a .u8 [l, r]) :
    Calls Tryz.prog 175 #[.slice a 2 c] w fun e w' => ∃ v, e = .returned v ∧ Own w' w.heap.size 5 .u8 v [l * 16 + r] ∧ Below w.heap.size w w' := by
  have hmk : ∀ W : World, (Instr.makeSlice 23 (.int .i64 1) (.int .i64 1)).run Tryz.prog W = .ok (.slice (some ⟨W.heap.size, 0, none⟩) 1 1) (W.alloc (.cells (ints .u8 [0]) 5)) := fun _ => by kernel_rfl
  obtain ⟨g, off, hae, hg, hcl⟩ := hs (by simp)
  subst hae
  have k0 := hcl 0 (by simp)
  have k1 := hcl 1 (by simp)
  rw [Nat.add_zero] at k0
  rw [show ([l, r] : List Nat).getD 0 0 = l from rfl] at k0
  rw [show ([l, r] : List Nat).getD 1 0 = r from rfl] at k1
  have V0 : Hid (bits BinOp.or IntKind.u8 0 ((l : Int) % 16 * 16) = ((l * 16 : Nat) : Int)) := Lib.hid (by
    have h1 := u8_or_nat 0 (l * 16) (by omega) (by omega)
    rw [Nat.zero_or] at h1
    rw [show (l : Int) % 16 * 16 = ((l * 16 : Nat) : Int) by omega]
    exact h1)
  have V1 : Hid (bits BinOp.or IntKind.u8 ((l : Int) * 16) ((r : Int) % 16) = ((l * 16 + r : Nat) : Int)) := Lib.hid (by
    have h1 := u8_or_nat (l * 16) r (by omega) (by omega)
    rw [or16 l hl r hr] at h1
    rw [show (l : Int) * 16 = ((l * 16 : Nat) : Int) by omega, show (r : Int) % 16 = (r : Int) by omega]
    exact h1)
  have B1 := Blk.new w 5 (ints .u8 [0])
  have hbel1 := (Below.refl w.heap.size w).alloc (Nat.le_refl _) (.cells (ints .u8 [0]) 5)
  clear hs hcl
  go_enter Tryz.func175, Tryz.ntmps175
  go_wp2_with fail
  have k3 := (hbel1.cell (p := ⟨g, off, none⟩) hg).trans k0
  have k4 := (hbel1.cell (p := ⟨g, off + 1, none⟩) hg).trans k1
  generalize (w.alloc (.cells (ints .u8 [0]) 5)) = w2 at *
  go_loopw [13] (fun t wr => ∃ i : Nat, i ≤ 2 ∧ t = .int .i64 (i : Int) ∧ Blk wr w.heap.size 5 (ints .u8 [jnK l r i]) ∧ Below w.heap.size w wr) (fun t wr => 2 - (intOf t).toNat)
  case atStart => exact ⟨0, by omega, rfl, B1, hbel1⟩
  case round =>
    clear B1 hbel1 k3 k4
    obtain ⟨i, hi, rfl, B1, hbel1⟩ := hrel
    have hii : i = 0 ∨ i = 1 ∨ i = 2 := by omega
    have k3 := (hbel1.cell (p := ⟨g, off, none⟩) hg).trans k0
    have k4 := (hbel1.cell (p := ⟨g, off + 1, none⟩) hg).trans k1
    have hgs : g ≠ w.heap.size := by omega
    rcases hii with rfl | rfl | rfl
    · have c1 := B1.int (i := 0) (by simp)
      have z1 := B1.frozen 0
      rw [show ([jnK l r 0] : List Nat).getD 0 0 = 0 from rfl] at c1
      go_wp2_with fail
      go_region
      go_wp2_with fail
      rw [V0.out]
      have B2 := (B1.intSet 0 (l * 16)).drew
      have hbel2 := (hbel1.setCell (p := ⟨w.heap.size, 0, none⟩) (Nat.le_refl _) (.int .u8 ((l * 16 : Nat) : Int))).drew
      exact ⟨⟨1, by omega, rfl, B2, hbel2⟩, by simp [intOf]⟩
    · have c1 := B1.int (i := 0) (by simp)
      have z1 := B1.frozen 0
      rw [show ([jnK l r 1] : List Nat).getD 0 0 = l * 16 from rfl] at c1
      go_wp2_with fail
      go_region
      go_wp2_with fail
      rw [V1.out]
      have B2 := (B1.intSet 0 (l * 16 + r)).drew
      have hbel2 := (hbel1.setCell (p := ⟨w.heap.size, 0, none⟩) (Nat.le_refl _) (.int .u8 ((l * 16 + r : Nat) : Int))).drew
      exact ⟨⟨2, by omega, rfl, B2, hbel2⟩, by simp [intOf]⟩
    · have hd : decide (((2 : Nat) : Int) < 2) = false := by simp
      go_wp2_with fail
      go_ret
      exact ⟨_, rfl, Own.made (xs := [l * 16 + r]) B1 (Nat.le_refl _) (by simp [maxLen]), hbel1⟩
end Go.Proofs.YtaiffkajkbiidaaGreatDoor
