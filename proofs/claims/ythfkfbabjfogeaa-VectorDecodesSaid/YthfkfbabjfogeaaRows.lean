/-
  No cell of these rows narrows 'for every input' (looked for: loops, veiled, ifaces, maps, wideKeys, modest, calm, conditions, laid).
  DERIVED. THE GIVEN ROWS OF THIS SEAT. 7 by the template 'for every input the law returns true; each argument reads behind the call as it read before'; 0 by the template 'total and deterministic' (their statements: YthfkfbabjfogeaaTotals.lean).
  GIVEN WITH THE SEED: the statements are not yours to turn. If you find one false, say at which input.
  Laid BY PROGRAM, IN A SANDBOX (cutbox-rows.mjs): the forced cells as the released guide's own fill.sh prints them over the translation 9ffc812e9465a21b… (all of the seat's roots in one cut). By AI agents, Wed Nov 11 2026. No macro, syntax, notation, axiom, sorry.
-/
import Derived.Test.YthfkfbabjfogeaaChecked
import GoSem.Claim
import GoSem.ClaimJoined
import GoSem.ClaimMapViews
import Derived.JoinedTies
import Derived.KernelRfl
namespace Go.Proofs.Ythfkfbabjfogeaa
/- THE CELL 'sum', in the pinned program and in every row, IS THE sha256 OF THE DUMP (.gsa) THAT YthfkfbabjfogeaaProg.lean LOADS. Nothing in Lean hashes anything: it is a label: what it is worth is what the hold of that sum in a sandbox is worth. -/
noncomputable def Try.pinned : Pinned := { name := "ythfkfbabjfogeaa", sum := "9ffc812e9465a21b144ca7d738805e4710771691fcde133900d1c415323ec088", checked := Try.checked }
namespace Rows
def none {H : Type} : Left H := { results := [], args := [] }

/-- 'wringerlaw22.VectorApart': WHATEVER THE INPUT: true; the input reads as it did. -/
def vectorApartSpec : ChangeSpec := { name := "vectorApart", fn := fun _ => fun
  | [d1, d2] => { results := [.lit (.bool true)], args := [d1, d2] }
  | _ => none }
def vectorApartRow : OpenClaim := { program := "ythfkfbabjfogeaa", sum := "9ffc812e9465a21b144ca7d738805e4710771691fcde133900d1c415323ec088", func := "wringer/wringerlaw22.VectorApart", spec := "vectorApart", apart := false }
def VectorApartSaid : Prop := vectorApartRow.holds Try.pinned (OpenSpec.ofChange vectorApartSpec)

/-- ITS FALSE NEIGHBOUR: 'it returns false'. Refute it at one input. -/
def vectorApartWrong : ChangeSpec := { name := "vectorApart", fn := fun _ => fun
  | [d1, d2] => { results := [.lit (.bool false)], args := [d1, d2] }
  | _ => none }
def VectorApartWrongFalsely : Prop := vectorApartRow.holds Try.pinned (OpenSpec.ofChange vectorApartWrong)

/-- 'wringerlaw22.VectorEncodes': WHATEVER THE INPUT: true; the input reads as it did. -/
def vectorEncodesSpec : ChangeSpec := { name := "vectorEncodes", fn := fun _ => fun
  | [d] => { results := [.lit (.bool true)], args := [d] }
  | _ => none }
def vectorEncodesRow : OpenClaim := { program := "ythfkfbabjfogeaa", sum := "9ffc812e9465a21b144ca7d738805e4710771691fcde133900d1c415323ec088", func := "wringer/wringerlaw22.VectorEncodes", spec := "vectorEncodes", apart := false }
def VectorEncodesSaid : Prop := vectorEncodesRow.holds Try.pinned (OpenSpec.ofChange vectorEncodesSpec)

/-- ITS FALSE NEIGHBOUR: 'it returns false'. Refute it at one input. -/
def vectorEncodesWrong : ChangeSpec := { name := "vectorEncodes", fn := fun _ => fun
  | [d] => { results := [.lit (.bool false)], args := [d] }
  | _ => none }
def VectorEncodesWrongFalsely : Prop := vectorEncodesRow.holds Try.pinned (OpenSpec.ofChange vectorEncodesWrong)

/-- 'wringerlaw22.VectorStrings': WHATEVER THE INPUT: true; the input reads as it did. -/
def vectorStringsSpec : ChangeSpec := { name := "vectorStrings", fn := fun _ => fun
  | [d1, d2] => { results := [.lit (.bool true)], args := [d1, d2] }
  | _ => none }
def vectorStringsRow : OpenClaim := { program := "ythfkfbabjfogeaa", sum := "9ffc812e9465a21b144ca7d738805e4710771691fcde133900d1c415323ec088", func := "wringer/wringerlaw22.VectorStrings", spec := "vectorStrings", apart := false }
def VectorStringsSaid : Prop := vectorStringsRow.holds Try.pinned (OpenSpec.ofChange vectorStringsSpec)

/-- ITS FALSE NEIGHBOUR: 'it returns false'. Refute it at one input. -/
def vectorStringsWrong : ChangeSpec := { name := "vectorStrings", fn := fun _ => fun
  | [d1, d2] => { results := [.lit (.bool false)], args := [d1, d2] }
  | _ => none }
def VectorStringsWrongFalsely : Prop := vectorStringsRow.holds Try.pinned (OpenSpec.ofChange vectorStringsWrong)

/-- 'wringerlaw22.VectorDecodes': WHATEVER THE INPUT: true; the input reads as it did. -/
def vectorDecodesSpec : ChangeSpec := { name := "vectorDecodes", fn := fun _ => fun
  | [d] => { results := [.lit (.bool true)], args := [d] }
  | _ => none }
def vectorDecodesRow : OpenClaim := { program := "ythfkfbabjfogeaa", sum := "9ffc812e9465a21b144ca7d738805e4710771691fcde133900d1c415323ec088", func := "wringer/wringerlaw22.VectorDecodes", spec := "vectorDecodes", unfollowed := true, recurses := true, apart := false }
def VectorDecodesSaid : Prop := vectorDecodesRow.holds Try.pinned (OpenSpec.ofChange vectorDecodesSpec)

/-- ITS FALSE NEIGHBOUR: 'it returns false'. Refute it at one input. -/
def vectorDecodesWrong : ChangeSpec := { name := "vectorDecodes", fn := fun _ => fun
  | [d] => { results := [.lit (.bool false)], args := [d] }
  | _ => none }
def VectorDecodesWrongFalsely : Prop := vectorDecodesRow.holds Try.pinned (OpenSpec.ofChange vectorDecodesWrong)

/-- 'wringerlaw22.VectorBack': WHATEVER THE INPUT: true; the input reads as it did. -/
def vectorBackSpec : ChangeSpec := { name := "vectorBack", fn := fun _ => fun
  | [d] => { results := [.lit (.bool true)], args := [d] }
  | _ => none }
def vectorBackRow : OpenClaim := { program := "ythfkfbabjfogeaa", sum := "9ffc812e9465a21b144ca7d738805e4710771691fcde133900d1c415323ec088", func := "wringer/wringerlaw22.VectorBack", spec := "vectorBack", unfollowed := true, recurses := true, apart := false }
def VectorBackSaid : Prop := vectorBackRow.holds Try.pinned (OpenSpec.ofChange vectorBackSpec)

/-- ITS FALSE NEIGHBOUR: 'it returns false'. Refute it at one input. -/
def vectorBackWrong : ChangeSpec := { name := "vectorBack", fn := fun _ => fun
  | [d] => { results := [.lit (.bool false)], args := [d] }
  | _ => none }
def VectorBackWrongFalsely : Prop := vectorBackRow.holds Try.pinned (OpenSpec.ofChange vectorBackWrong)

/-- 'wringerlaw22.VectorOnly': WHATEVER THE INPUT: true; the input reads as it did. -/
def vectorOnlySpec : ChangeSpec := { name := "vectorOnly", fn := fun _ => fun
  | [d] => { results := [.lit (.bool true)], args := [d] }
  | _ => none }
def vectorOnlyRow : OpenClaim := { program := "ythfkfbabjfogeaa", sum := "9ffc812e9465a21b144ca7d738805e4710771691fcde133900d1c415323ec088", func := "wringer/wringerlaw22.VectorOnly", spec := "vectorOnly", unfollowed := true, recurses := true, apart := false }
def VectorOnlySaid : Prop := vectorOnlyRow.holds Try.pinned (OpenSpec.ofChange vectorOnlySpec)

/-- ITS FALSE NEIGHBOUR: 'it returns false'. Refute it at one input. -/
def vectorOnlyWrong : ChangeSpec := { name := "vectorOnly", fn := fun _ => fun
  | [d] => { results := [.lit (.bool false)], args := [d] }
  | _ => none }
def VectorOnlyWrongFalsely : Prop := vectorOnlyRow.holds Try.pinned (OpenSpec.ofChange vectorOnlyWrong)

/-- 'wringerlaw22.VectorCut': WHATEVER THE INPUT: true; the input reads as it did. -/
def vectorCutSpec : ChangeSpec := { name := "vectorCut", fn := fun _ => fun
  | [d1, d2] => { results := [.lit (.bool true)], args := [d1, d2] }
  | _ => none }
def vectorCutRow : OpenClaim := { program := "ythfkfbabjfogeaa", sum := "9ffc812e9465a21b144ca7d738805e4710771691fcde133900d1c415323ec088", func := "wringer/wringerlaw22.VectorCut", spec := "vectorCut", unfollowed := true, recurses := true, apart := false }
def VectorCutSaid : Prop := vectorCutRow.holds Try.pinned (OpenSpec.ofChange vectorCutSpec)

/-- ITS FALSE NEIGHBOUR: 'it returns false'. Refute it at one input. -/
def vectorCutWrong : ChangeSpec := { name := "vectorCut", fn := fun _ => fun
  | [d1, d2] => { results := [.lit (.bool false)], args := [d1, d2] }
  | _ => none }
def VectorCutWrongFalsely : Prop := vectorCutRow.holds Try.pinned (OpenSpec.ofChange vectorCutWrong)

/- THE SECOND FORM. 'bulk': how many values and letters a reading holds, each counted each time it is reached (what is shared counts as often as it is met; a slice's spare places count too). A statement '..UptoSaid' is the law's where the arguments, and the package variables that the reading takes, are together of bulk at most 1048576: NARROWER than '..Said'. Prove '..Said' where nothing that the law and all that it calls make is longer than what came in: it says more and counts as full. Else prove '..UptoSaid'. A law counts once. -/
mutual
def uptoBulk {H : Type} : DataW H → Nat
  | .lit (.string bytes) => bytes.length + 1
  | .lit _ => 1
  | .nil => 1
  | .ptr d => uptoBulk d + 1
  | .slice elems spare => uptoBulkAll elems + uptoBulkAll spare + 1
  | .agg parts => uptoBulkAll parts + 1
  | .iface _ d => uptoBulk d + 1
  | .map entries => uptoBulkEntries entries + 1
  | .held _ => 1
def uptoBulkAll {H : Type} : List (DataW H) → Nat
  | [] => 0
  | d :: r => uptoBulk d + uptoBulkAll r
def uptoBulkEntries {H : Type} : List (Lit × DataW H) → Nat
  | [] => 0
  | x :: r => uptoBulkEntry x + uptoBulkEntries r
def uptoBulkEntry {H : Type} : Lit × DataW H → Nat
  | (.string bytes, d) => bytes.length + uptoBulk d + 1
  | (_, d) => uptoBulk d + 1
 end
def uptoSmall : (H : Type) → List (DataW H) → Bool := fun _ ds => decide (uptoBulkAll ds ≤ 1048576)
def OpenSpec.upto (s : _root_.Go.ChangeSpec) : _root_.Go.OpenSpec := { _root_.Go.OpenSpec.ofChange s with cond := some uptoSmall }

/-- 'wringerlaw22.VectorApart', WHERE WHAT IT READS IS OF BULK AT MOST 1048576: true; the input reads as it did. -/
def vectorApartUptoRow : OpenClaim := { program := "ythfkfbabjfogeaa", sum := "9ffc812e9465a21b144ca7d738805e4710771691fcde133900d1c415323ec088", func := "wringer/wringerlaw22.VectorApart", spec := "vectorApart", apart := false, narrowed := true }
def VectorApartUptoSaid : Prop := vectorApartUptoRow.holds Try.pinned (OpenSpec.upto vectorApartSpec)

/-- 'wringerlaw22.VectorEncodes', WHERE WHAT IT READS IS OF BULK AT MOST 1048576: true; the input reads as it did. -/
def vectorEncodesUptoRow : OpenClaim := { program := "ythfkfbabjfogeaa", sum := "9ffc812e9465a21b144ca7d738805e4710771691fcde133900d1c415323ec088", func := "wringer/wringerlaw22.VectorEncodes", spec := "vectorEncodes", apart := false, narrowed := true }
def VectorEncodesUptoSaid : Prop := vectorEncodesUptoRow.holds Try.pinned (OpenSpec.upto vectorEncodesSpec)

/-- 'wringerlaw22.VectorStrings', WHERE WHAT IT READS IS OF BULK AT MOST 1048576: true; the input reads as it did. -/
def vectorStringsUptoRow : OpenClaim := { program := "ythfkfbabjfogeaa", sum := "9ffc812e9465a21b144ca7d738805e4710771691fcde133900d1c415323ec088", func := "wringer/wringerlaw22.VectorStrings", spec := "vectorStrings", apart := false, narrowed := true }
def VectorStringsUptoSaid : Prop := vectorStringsUptoRow.holds Try.pinned (OpenSpec.upto vectorStringsSpec)

/-- 'wringerlaw22.VectorDecodes', WHERE WHAT IT READS IS OF BULK AT MOST 1048576: true; the input reads as it did. -/
def vectorDecodesUptoRow : OpenClaim := { program := "ythfkfbabjfogeaa", sum := "9ffc812e9465a21b144ca7d738805e4710771691fcde133900d1c415323ec088", func := "wringer/wringerlaw22.VectorDecodes", spec := "vectorDecodes", unfollowed := true, recurses := true, apart := false, narrowed := true }
def VectorDecodesUptoSaid : Prop := vectorDecodesUptoRow.holds Try.pinned (OpenSpec.upto vectorDecodesSpec)

/-- 'wringerlaw22.VectorBack', WHERE WHAT IT READS IS OF BULK AT MOST 1048576: true; the input reads as it did. -/
def vectorBackUptoRow : OpenClaim := { program := "ythfkfbabjfogeaa", sum := "9ffc812e9465a21b144ca7d738805e4710771691fcde133900d1c415323ec088", func := "wringer/wringerlaw22.VectorBack", spec := "vectorBack", unfollowed := true, recurses := true, apart := false, narrowed := true }
def VectorBackUptoSaid : Prop := vectorBackUptoRow.holds Try.pinned (OpenSpec.upto vectorBackSpec)

/-- 'wringerlaw22.VectorOnly', WHERE WHAT IT READS IS OF BULK AT MOST 1048576: true; the input reads as it did. -/
def vectorOnlyUptoRow : OpenClaim := { program := "ythfkfbabjfogeaa", sum := "9ffc812e9465a21b144ca7d738805e4710771691fcde133900d1c415323ec088", func := "wringer/wringerlaw22.VectorOnly", spec := "vectorOnly", unfollowed := true, recurses := true, apart := false, narrowed := true }
def VectorOnlyUptoSaid : Prop := vectorOnlyUptoRow.holds Try.pinned (OpenSpec.upto vectorOnlySpec)

/-- 'wringerlaw22.VectorCut', WHERE WHAT IT READS IS OF BULK AT MOST 1048576: true; the input reads as it did. -/
def vectorCutUptoRow : OpenClaim := { program := "ythfkfbabjfogeaa", sum := "9ffc812e9465a21b144ca7d738805e4710771691fcde133900d1c415323ec088", func := "wringer/wringerlaw22.VectorCut", spec := "vectorCut", unfollowed := true, recurses := true, apart := false, narrowed := true }
def VectorCutUptoSaid : Prop := vectorCutUptoRow.holds Try.pinned (OpenSpec.upto vectorCutSpec)

end Rows
end Go.Proofs.Ythfkfbabjfogeaa
