/- poly.New, Sum.Write. No condition but that bytes are below 256. -/
import Derived.Test.YtolfngmpoafaaaaW8b
import Derived.StillTailTactics
namespace Go.Proofs.Ytolfngmpoafaaaa
set_option linter.unusedSimpArgs false
set_option linter.unusedVariables false
set_option linter.unusedSectionVars false
set_option linter.unusedVariables false
open Go.RowKit
/-- Sum s (at block g) stands behind these bytes. -/
def IsSm (w : World) (g : Nat) (key bs : List Nat) : Prop := ∃ rest : List Nat, rest.length = 16 ∧ (∀ x ∈ rest, x < 256) ∧ rest.take (bs.length % 16) = bs.drop (16 * (bs.length / 16)) ∧
  Blk w g 87 (smC (numOf (byN key)) (numOf (polyV (byN key) 0 bs (bs.length / 16))) rest (bs.length % 16))
theorem IsSm.lt {w : World} {g : Nat} {key bs : List Nat} (h : IsSm w g key bs) : g < w.heap.size := let ⟨_, _, _, _, hb⟩ := h; hb.lt
theorem IsSm.below {w w' : World} {g : Nat} {key bs : List Nat} (h : IsSm w g key bs) (hb : Below w.heap.size w w') : IsSm w' g key bs := let ⟨r, h1, h2, h3, h4⟩ := h; ⟨r, h1, h2, h3, h4.below' hb⟩
theorem Ch.sm {g' : Nat} {w w' : World} (h : Ch g' w w') {g : Nat} {key bs : List Nat} (hs : IsSm w g key bs) (hne : g ≠ g') : IsSm w' g key bs := let ⟨r, h1, h2, h3, h4⟩ := hs; ⟨r, h1, h2, h3, h.blk h4 hne⟩
theorem ints5 (k : IntKind) (a b c d e : Nat) : ints k [a, b, c, d, e] = #[.int k a, .int k b, .int k c, .int k d, .int k e] := rfl
set_option maxRecDepth 100000 in
set_option maxHeartbeats 4000000 in
theorem new8_c (key : List Nat) (hl : key.length = 16) (hb : ∀ x ∈ key, x < 256) (w : World) :
    Calls Try.prog 28 #[.agg (ints .u8 key)] w fun e w' => ∃ g, e = .returned (.pointer (some ⟨g, 0, none⟩)) ∧ w.heap.size ≤ g ∧ IsSm w' g key [] ∧ Below w.heap.size w w' := by
  have B0 := Blk.new w 35 (ints .u8 key)
  have hbel := (Below.refl w.heap.size w).alloc (Nat.le_refl _) (.cells (ints .u8 key) 35)
  have hof := fun W => of_c (clampL key) (clampL_len key) (clampL_lt hb) 0 (by omega) W
  go_enter Try.func28, Try.ntmps28
  go_wp2_with (refine wpList_load_ints rfl 35 _ rfl w.heap.size rfl B0 Try.ar35 hl ?_; (try simp only [Act.put, List.setIfInBounds_toArray, List.set_cons_zero, List.set_cons_succ, World.size_alloc, setRow_size, Nat.add_assoc, Nat.reduceAdd]))
  generalize (w.alloc (.cells (ints .u8 key) 35)) = w0 at *
  refine (clamp_c key hl hb _).mono ?_
  rintro e w1 ⟨rfl, hb1⟩
  have hbel1 := bCall hbel hb1 hbel.size
  go_wp2_with fail
  refine (hof _).mono ?_
  rintro e w2 ⟨rfl, hb2⟩
  have hbel2 := bCall hbel1 hb2 hbel1.size
  obtain ⟨n0, n1, n2, n3, n4, hn⟩ := list5 (numOf_len (ofN (clampL key) 0))
  rw [hn, ints5]
  go_wp2_with fail
  have S := Blk.new w2 87 (smC [n0, n1, n2, n3, n4] (zeros 5) (zeros 16) 0)
  go_ret
  have hz : numOf (polyV (byN key) 0 [] (([] : List Nat).length / 16)) = zeros 5 := by
    show numOf (0 % pp) = zeros 5
    decide
  refine ⟨_, rfl, hbel2.size, ⟨zeros 16, zeros_len _, zeros_lt _ (by omega), rfl, ?_⟩, hbel2.alloc hbel2.size _⟩
  rw [hz, show byN key = ofN (clampL key) 0 from rfl, hn]
  exact S
end Go.Proofs.Ytolfngmpoafaaaa
