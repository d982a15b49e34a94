/- Cuts of half bytes (package cut), at the few places that a message of one byte comes to. No condition but that bytes are below 256. -/
import Derived.Test.YtaiffkajkbiidaaGreatDoorW3a
namespace Go.Proofs.YtaiffkajkbiidaaGreatDoor
set_option linter.unusedSimpArgs false
set_option linter.unusedVariables false
set_option linter.unusedSectionVars false
set_option linter.unusedVariables false
open Go.RowKit
/-- The numbers 1, 2 and 32 as floats. -/
def f1 : Nat := 4607182418800017408
def f2 : Nat := 4611686018427387904
def f32_ : Nat := 4629700416936869888
set_option maxRecDepth 100000 in
set_option maxHeartbeats 8000000 in
theorem fits_c (x m g : Nat) (hx : x = 0 ∨ x = f1) (hm : m = 2 ∨ m = 32) (w : World) (hc : w.cell? ⟨g, 0, none⟩ = some (.int .i64 (m : Int))) :
    Calls Tryz.prog 126 #[.float .f64 x, .pointer (some ⟨g, 0, none⟩)] w fun e w' => e = .returned (.bool true) ∧ w = w' := by
  have c1 : ∀ W, (convert 3 194 (.int .i64 2)).run Tryz.prog W = .ok (.float .f64 f2) W := fun _ => by kernel_rfl
  have c2 : ∀ W, (convert 3 194 (.int .i64 32)).run Tryz.prog W = .ok (.float .f64 f32_) W := fun _ => by kernel_rfl
  have c3 : ∀ W, (convert 3 194 (.int .i64 0)).run Tryz.prog W = .ok (.float .f64 0) W := fun _ => by kernel_rfl
  have c4 : ∀ W, (convert 3 194 (.int .i64 1)).run Tryz.prog W = .ok (.float .f64 f1) W := fun _ => by kernel_rfl
  have d3 : ∀ W, (convert 194 3 (.float .f64 0)).run Tryz.prog W = .ok (.int .i64 0) W := fun _ => by kernel_rfl
  have d4 : ∀ W, (convert 194 3 (.float .f64 f1)).run Tryz.prog W = .ok (.int .i64 1) W := fun _ => by kernel_rfl
  have e1 : ∀ W, (binOp .geq 194 (.float .f64 0) (.float .f64 0)).run Tryz.prog W = .ok (.bool true) W := fun _ => by kernel_rfl
  have e2 : ∀ W, (binOp .geq 194 (.float .f64 f1) (.float .f64 0)).run Tryz.prog W = .ok (.bool true) W := fun _ => by kernel_rfl
  have g1 : ∀ W, (binOp .leq 194 (.float .f64 0) (.float .f64 f2)).run Tryz.prog W = .ok (.bool true) W := fun _ => by kernel_rfl
  have g2 : ∀ W, (binOp .leq 194 (.float .f64 0) (.float .f64 f32_)).run Tryz.prog W = .ok (.bool true) W := fun _ => by kernel_rfl
  have g3 : ∀ W, (binOp .leq 194 (.float .f64 f1) (.float .f64 f2)).run Tryz.prog W = .ok (.bool true) W := fun _ => by kernel_rfl
  have g4 : ∀ W, (binOp .leq 194 (.float .f64 f1) (.float .f64 f32_)).run Tryz.prog W = .ok (.bool true) W := fun _ => by kernel_rfl
  have q1 : ∀ W, (binOp .eql 194 (.float .f64 0) (.float .f64 0)).run Tryz.prog W = .ok (.bool true) W := fun _ => by kernel_rfl
  have q2 : ∀ W, (binOp .eql 194 (.float .f64 f1) (.float .f64 f1)).run Tryz.prog W = .ok (.bool true) W := fun _ => by kernel_rfl
  rcases hx with rfl | rfl <;> rcases hm with rfl | rfl
  all_goals
    go_enter Tryz.func126, Tryz.ntmps126
    go_wp2
    go_ret
    exact ⟨rfl, rfl⟩
set_option maxRecDepth 100000 in
set_option maxHeartbeats 8000000 in
theorem whole_c (re m at_ : Nat) (h : (re = 0 ∧ m = 2 ∧ at_ = 0) ∨ (re = f1 ∧ m = 2 ∧ at_ = 1) ∨ (re = 0 ∧ m = 32 ∧ at_ = 0)) (w : World) :
    Calls Tryz.prog 116 #[.complex .f64 re f1, .int .i64 (m : Int)] w fun e w' => e = .returned (.tuple #[.int .i64 (at_ : Int), .int .i64 1, .bool true]) ∧ Below w.heap.size w w' := by
  have hmf : ∀ (fn : Fn) (first cap : Array Value) (w : World), (Instr.makeFunc fn first cap).run Tryz.prog w = .ok (.func fn first cap) w := fun _ _ _ _ => rfl
  have hnot : ∀ (x : Bool) (w : World), (Op.unary .not (.bool x)).run Tryz.prog w = .ok (.bool (!x)) w := fun _ _ => rfl
  have d3 : ∀ W, (convert 194 3 (.float .f64 0)).run Tryz.prog W = .ok (.int .i64 0) W := fun _ => by kernel_rfl
  have d4 : ∀ W, (convert 194 3 (.float .f64 f1)).run Tryz.prog W = .ok (.int .i64 1) W := fun _ => by kernel_rfl
  have hm : m = 2 ∨ m = 32 := by omega
  have M0 := Blk.new w 3 #[.int .i64 (m : Int)]
  have hbel := (Below.refl w.heap.size w).alloc (Nat.le_refl _) (.cells #[.int .i64 (m : Int)] 3)
  have hc : (w.alloc (.cells #[.int .i64 (m : Int)] 3)).cell? ⟨w.heap.size, 0, none⟩ = some (.int .i64 (m : Int)) := by rw [M0.cell]; rfl
  have hf0 := fits_c 0 m w.heap.size (.inl rfl) hm _ hc
  have hf1 := fits_c f1 m w.heap.size (.inr rfl) hm _ hc
  rcases h with ⟨rfl, rfl, rfl⟩ | ⟨rfl, rfl, rfl⟩ | ⟨rfl, rfl, rfl⟩
  · go_enter Tryz.func116, Tryz.ntmps116
    go_wp2_with fail
    refine hf0.mono ?_
    rintro e w1 ⟨rfl, rfl⟩
    go_wp2_with fail
    refine hf1.mono ?_
    rintro e w1 ⟨rfl, rfl⟩
    go_wp2_with fail
    refine bodyPost_ret (v := .tuple #[.int .i64 0, .int .i64 1, .bool true]) ?_ rfl ⟨rfl, hbel⟩
    simp [results, Tryz.results116]
  · go_enter Tryz.func116, Tryz.ntmps116
    go_wp2_with fail
    refine hf1.mono ?_
    rintro e w1 ⟨rfl, rfl⟩
    go_wp2_with fail
    refine hf1.mono ?_
    rintro e w1 ⟨rfl, rfl⟩
    go_wp2_with fail
    refine bodyPost_ret (v := .tuple #[.int .i64 1, .int .i64 1, .bool true]) ?_ rfl ⟨rfl, hbel⟩
    simp [results, Tryz.results116]
  · go_enter Tryz.func116, Tryz.ntmps116
    go_wp2_with fail
    refine hf0.mono ?_
    rintro e w1 ⟨rfl, rfl⟩
    go_wp2_with fail
    refine hf1.mono ?_
    rintro e w1 ⟨rfl, rfl⟩
    go_wp2_with fail
    refine bodyPost_ret (v := .tuple #[.int .i64 0, .int .i64 1, .bool true]) ?_ rfl ⟨rfl, hbel⟩
    simp [results, Tryz.results116]
def nibN (x at_ : Nat) : Nat := if at_ = 0 then x / 16 else x % 16
theorem and15 {x : Nat} (h : x < 256) : bits BinOp.and IntKind.u8 (x : Int) 15 = ((x % 16 : Nat) : Int) := by
  have h1 := u8_and_nat x 15 h (by omega)
  have h2 : x &&& 15 = x % 16 := Nat.and_two_pow_sub_one_eq_mod x 4
  rw [h2] at h1
  exact h1
theorem nibN_lt {x at_ : Nat} (h : x < 256) : nibN x at_ < 16 := by unfold nibN; split <;> omega
set_option maxRecDepth 100000 in
set_option maxHeartbeats 8000000 in
theorem cutHalves_c (re at_ : Nat) (xs : List Nat) (hl : (re = 0 ∧ xs.length = 1 ∧ at_ = 0) ∨ (re = f1 ∧ xs.length = 1 ∧ at_ = 1) ∨ (re = 0 ∧ xs.length = 16 ∧ at_ = 0)) (hb : ∀ x ∈ xs, x < 256) (a : Option Addr) (c : Nat) (w : World) (hs : Sl w a .u8 xs) :
    Calls Tryz.prog 187 #[.slice a xs.length c, .complex .f64 re f1] w fun e w' => ∃ v, e = .returned (.tuple #[v, .bool true]) ∧ Own w' w.heap.size 5 .u8 v [nibN (xs.getD 0 0) at_] ∧ Below w.heap.size w w' := by
  have hnot : ∀ (x : Bool) (w : World), (Op.unary .not (.bool x)).run Tryz.prog w = .ok (.bool (!x)) w := fun _ _ => rfl
  have hmk : ∀ W : World, (Instr.makeSlice 23 (.int .i64 1) (.int .i64 1)).run Tryz.prog W = .ok (.slice (some ⟨W.heap.size, 0, none⟩) 1 1) (W.alloc (.cells (ints .u8 [0]) 5)) := fun _ => by kernel_rfl
  have hne : xs ≠ [] := fun e => by rw [e] at hl; simp at hl
  have hw := whole_c re (2 * xs.length) at_ (by omega) w
  obtain ⟨N, HN⟩ : ∃ N, Hid (xs.length = N) := ⟨_, Lib.hid rfl⟩
  rw [HN.out] at hw hl ⊢
  have hN1 : 1 ≤ N := by omega
  have hN2 : N ≤ 16 := by omega
  have hat : at_ = 0 ∨ at_ = 1 := by omega
  obtain ⟨m, Hm⟩ : ∃ m, Hid (2 * N = m) := ⟨_, Lib.hid rfl⟩
  rw [Hm.out] at hw
  have hm2 : 2 * (N : Int) = (m : Int) := by rw [← Hm.out]; omega
  have hm3 : m ≤ 32 := by rw [← Hm.out]; omega
  obtain ⟨g, off, hae, hg, hcl⟩ := hs hne
  subst hae
  have k0 := hcl 0 (by rw [HN.out]; omega)
  rw [Nat.add_zero] at k0
  have hx := getD_bound hb (by decide) 0
  generalize xs.getD 0 0 = x at *
  have hi0 : (0 : Int) < (N : Int) := by omega
  clear hs hcl hl
  go_enter Tryz.func187, Tryz.ntmps187
  go_wp2_with fail
  refine hw.mono ?_
  rintro e w1 ⟨rfl, hb1⟩
  have k1 := (hb1.cell (p := ⟨g, off, none⟩) hg).trans k0
  have hg1 : g < w1.heap.size := Nat.lt_of_lt_of_le hg hb1.size
  have B1 := Blk.new w1 5 (ints .u8 [0])
  have hbel1 := hb1.alloc hb1.size (.cells (ints .u8 [0]) 5)
  have k2 := (Blk.new w1 5 (ints .u8 [0])).lt
  clear hw
  go_wp2_with fail
  have HA0 : bits BinOp.and IntKind.u8 ((x : Int) / 16) 15 = ((x / 16 : Nat) : Int) := by
    have h1 := and15 (x := x / 16) (by omega)
    rw [show x / 16 % 16 = x / 16 by omega] at h1
    simpa using h1
  have HA1 := and15 hx
  have H0 := Lib.hid HA0
  have H1 := Lib.hid HA1
  clear HA0 HA1
  have hl1 := hb1.size
  have hls : w.heap.size ≤ w1.heap.size := hb1.size
  generalize (w1.alloc (.cells (ints .u8 [0]) 5)) = w2 at *
  generalize w1.heap.size = s1 at *
  have k3 : w2.cell? ⟨g, off, none⟩ = some (.int .u8 (x : Int)) := (hbel1.cell (p := ⟨g, off, none⟩) hg).trans k0
  go_loopw [27] (fun t wr => ∃ i : Nat, i ≤ 1 ∧ t = .int .i64 (i : Int) ∧ Blk wr s1 5 (ints .u8 [if i = 0 then 0 else nibN x at_]) ∧ wr.cell? ⟨g, off, none⟩ = some (.int .u8 (x : Int)) ∧ Below w.heap.size w wr) (fun t wr => 1 - (intOf t).toNat)
  case atStart => exact ⟨0, by omega, rfl, B1, k3, hbel1⟩
  case round =>
    clear B1 k3 hbel1
    obtain ⟨i, hi, rfl, B1, k3, hbel1⟩ := hrel
    have hii : i = 0 ∨ i = 1 := by omega
    rcases hii with rfl | rfl
    · have c1 := B1.int (i := 0) (by simp)
      have z1 := B1.frozen 0
      have hgs : g ≠ s1 := by omega
      rcases hat with rfl | rfl
      · have B2 := B1.intSet 0 (x / 16)
        have k4 := (World.cell?_setCell_other wr ⟨s1, 0, none⟩ ⟨g, off, none⟩ (.int .u8 ((x / 16 : Nat) : Int)) (fun e => hgs (congrArg Addr.block e).symm)).trans k3
        have hbel2 := hbel1.setCell (p := ⟨s1, 0, none⟩) hls (.int .u8 ((x / 16 : Nat) : Int))
        go_wp2_with fail
        rw [show ((x : Int) / 16) % 16 = ((x / 16 : Nat) : Int) by omega]
        exact ⟨⟨1, by omega, rfl, B2, k4, hbel2⟩, by simp [intOf]⟩
      · have B2 := B1.intSet 0 (x % 16)
        have k4 := (World.cell?_setCell_other wr ⟨s1, 0, none⟩ ⟨g, off, none⟩ (.int .u8 ((x % 16 : Nat) : Int)) (fun e => hgs (congrArg Addr.block e).symm)).trans k3
        have hbel2 := hbel1.setCell (p := ⟨s1, 0, none⟩) hls (.int .u8 ((x % 16 : Nat) : Int))
        go_wp2_with fail
        rw [show (x : Int) % 16 = ((x % 16 : Nat) : Int) by omega]
        exact ⟨⟨1, by omega, rfl, B2, k4, hbel2⟩, by simp [intOf]⟩
    · have hd : decide (((1 : Nat) : Int) < 1) = false := by simp
      go_wp2_with fail
      refine bodyPost_ret (v := .tuple #[.slice (some ⟨s1, 0, none⟩) 1 1, .bool true]) ?_ rfl ⟨_, rfl, Own.made (xs := [nibN x at_]) B1 hl1 (by simp [maxLen]), hbel1⟩
      simp [results, Tryz.results187]
end Go.Proofs.YtaiffkajkbiidaaGreatDoor
