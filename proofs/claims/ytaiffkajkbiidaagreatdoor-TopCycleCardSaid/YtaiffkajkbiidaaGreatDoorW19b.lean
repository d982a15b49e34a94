/- AEZ-tiny: a byte's halves, Flip. No condition but that bytes are below 256. -/
import Derived.Test.YtaiffkajkbiidaaGreatDoorW19a
import Derived.Test.YtaiffkajkbiidaaGreatDoorKitC
namespace Go.Proofs.YtaiffkajkbiidaaGreatDoor
set_option linter.unusedSimpArgs false
set_option linter.unusedVariables false
set_option linter.unusedSectionVars false
set_option linter.unusedVariables false
open Go.RowKit
theorem ret_cells {P : Program} {fn : Func} {p T : Nat} (h : fn.results = #[.cell p T]) {R : Ending → World → Prop} {tmps : Array Value} {w : World} {g n t : Nat} {cs : Array Value} (hp : tmps.getD p undef = .pointer (some ⟨g, 0, none⟩))
    (hb : Blk w g t cs) (ha : IsArr P T n) (hl : cs.size = n) (hR : R (.returned (.agg cs)) w) : bodyPost P fn R .ret { tmps := tmps, defers := [] } w := by
  obtain ⟨⟨d, h1, hd⟩, h2⟩ := ha
  exact bodyPost_ret (results_cell_row h tmps w g t _ _ _ hp hb h1 (by cases d <;> first | rfl | cases hd) (by rw [hl]; exact h2)) rfl hR
theorem Tryz.ar254 : IsArr Tryz.prog 254 2 := isArr Tryz.underlying254 (by kernel_rfl)
set_option maxRecDepth 100000 in
set_option maxHeartbeats 8000000 in
theorem tinyHalves_c (x : Nat) (hx : x < 256) (a : Option Addr) (c : Nat) (w : World) (hs : Sl w a .u8 [x]) :
    Calls Tryz.prog 173 #[.slice a 1 c] w fun e w' => ∃ u v, e = .returned (.agg #[u, v]) ∧ Own w' w.heap.size 5 .u8 u [x / 16] ∧ Own w' w.heap.size 5 .u8 v [x % 16] ∧ Below w.heap.size w w' := by
  have c4 : ∀ W, (convert 3 194 (.int .i64 1)).run Tryz.prog W = .ok (.float .f64 f1) W := fun _ => by kernel_rfl
  have hb1 : ∀ y ∈ [x], y < 256 := fun y hy => by rw [List.mem_singleton.1 hy]; exact hx
  have A0 := Blk.new w 254 #[.slice none 0 0, .slice none 0 0]
  have hbel0 := (Below.refl w.heap.size w).alloc (Nat.le_refl _) (.cells #[.slice none 0 0, .slice none 0 0] 254)
  have hs0 := hs.below hbel0
  go_enter Tryz.func173, Tryz.ntmps173
  go_wp2_with fail
  generalize (w.alloc (.cells #[.slice none 0 0, .slice none 0 0] 254)) = w0 at *
  have h1 : ∀ W, Sl W a .u8 [x] → Calls Tryz.prog 187 #[.slice a 1 c, .complex .f64 0 f1] W fun e w' => ∃ v, e = .returned (.tuple #[v, .bool true]) ∧ Own w' W.heap.size 5 .u8 v [x / 16] ∧ Below W.heap.size W w' := fun W h => cutHalves_c 0 0 [x] (.inl ⟨rfl, rfl, rfl⟩) hb1 a c W h
  have h2 : ∀ W, Sl W a .u8 [x] → Calls Tryz.prog 187 #[.slice a 1 c, .complex .f64 f1 f1] W fun e w' => ∃ v, e = .returned (.tuple #[v, .bool true]) ∧ Own w' W.heap.size 5 .u8 v [x % 16] ∧ Below W.heap.size W w' := fun W h => cutHalves_c f1 1 [x] (.inr (.inl ⟨rfl, rfl, rfl⟩)) hb1 a c W h
  refine (h1 _ hs0).mono ?_
  rintro e w1 ⟨u, rfl, ou, hbb1⟩
  have A1 := A0.below' hbb1
  have hbel1 := bCall hbel0 hbb1 hbel0.size
  have hs1 := hs0.below hbb1
  have ou1 := ou.mono (B' := w.heap.size) hbel0.size
  go_wp2_with fail
  refine (h2 _ hs1).mono ?_
  rintro e w2 ⟨v, rfl, ov, hbb2⟩
  have A2 := A1.below' hbb2
  have hbel2 := bCall hbel1 hbb2 hbel1.size
  have ou2 := ou1.below hbb2
  have ov2 := ov.mono (B' := w.heap.size) hbel1.size
  obtain ⟨au, cu, rfl, -, -, -, -⟩ := ou2.slz
  obtain ⟨av, cv, rfl, -, -, -, -⟩ := ov2.slz
  clear h1 h2 hs0 hs1 A0 A1 ou ov ou1 hbel0 hbel1
  have k0 : w2.cell? ⟨w.heap.size, 0, none⟩ = some (.slice none 0 0) := by rw [A2.cell]; rfl
  have k1 : w2.cell? ⟨w.heap.size, 1, none⟩ = some (.slice none 0 0) := by rw [A2.cell]; rfl
  have z0 := A2.frozen 0
  have z1 := A2.frozen 1
  have A3 : Blk ((w2.setCell ⟨w.heap.size, 0, none⟩ (.slice au 1 cu)).setCell ⟨w.heap.size, 1, none⟩ (.slice av 1 cv)) w.heap.size 254 #[.slice au 1 cu, .slice av 1 cv] := (A2.set_ 0 (.slice au 1 cu)).set_ 1 (.slice av 1 cv)
  have hch : Ch w.heap.size w2 ((w2.setCell ⟨w.heap.size, 0, none⟩ (.slice au 1 cu)).setCell ⟨w.heap.size, 1, none⟩ (.slice av 1 cv)) := (Ch.of_far (Far.set w2 w.heap.size 0 _)).trans (Ch.of_far (Far.set _ w.heap.size 1 _))
  have ou3 := ou2.ch hch A2 (by decide)
  have ov3 := ov2.ch hch A2 (by decide)
  have hbel3 := hch.below hbel2 (Nat.le_refl _) hbel2.size
  clear ou2 ov2 A2 hch
  go_wp2_with fail
  exact ret_cells (cs := #[.slice au 1 cu, .slice av 1 cv]) rfl rfl A3 Tryz.ar254 rfl ⟨_, _, rfl, ou3, ov3, hbel3⟩
end Go.Proofs.YtaiffkajkbiidaaGreatDoor
