/-
  No cell of these rows narrows 'for every input' (looked for: loops, veiled, ifaces, maps, wideKeys, modest, calm, conditions, laid).
  DERIVED. THE GIVEN ROWS OF THIS SEAT. 7 by the template 'for every input the law returns true; each argument reads behind the call as it read before'; 0 by the template 'total and deterministic' (their statements: YtppideomehdhjaaTotals.lean).
  GIVEN WITH THE SEED: the statements are not yours to turn. If you find one false, say at which input.
  Laid BY PROGRAM, IN A SANDBOX (cutbox-rows.mjs): the forced cells as the released guide's own fill.sh prints them over the translation 7debfbcdd2855d05… (all of the seat's roots in one cut). By AI agents, Wed Nov 11 2026. No macro, syntax, notation, axiom, sorry.
-/
import Derived.Test.YtppideomehdhjaaChecked
import GoSem.Claim
import GoSem.ClaimJoined
import GoSem.ClaimMapViews
import Derived.JoinedTies
import Derived.KernelRfl
namespace Go.Proofs.Ytppideomehdhjaa
/- THE CELL 'sum', in the pinned program and in every row, IS THE sha256 OF THE DUMP (.gsa) THAT YtppideomehdhjaaProg.lean LOADS. Nothing in Lean hashes anything: it is a label: what it is worth is what the hold of that sum in a sandbox is worth. -/
noncomputable def Try.pinned : Pinned := { name := "ytppideomehdhjaa", sum := "7debfbcdd2855d0531c6769905d06e3f4a07980ba9d2974d1eff2a8f5d7423e6", checked := Try.checked }
namespace Rows
def none {H : Type} : Left H := { results := [], args := [] }

/-- 'wringerlaw09.NhSwaps': WHATEVER THE INPUT: true; the input reads as it did. -/
def nhSwapsSpec : ChangeSpec := { name := "nhSwaps", fn := fun _ => fun
  | [d1, d2] => { results := [.lit (.bool true)], args := [d1, d2] }
  | _ => none }
def nhSwapsRow : OpenClaim := { program := "ytppideomehdhjaa", sum := "7debfbcdd2855d0531c6769905d06e3f4a07980ba9d2974d1eff2a8f5d7423e6", func := "wringer/wringerlaw09.NhSwaps", spec := "nhSwaps", unfollowed := true, recurses := true, apart := false }
def NhSwapsSaid : Prop := nhSwapsRow.holds Try.pinned (OpenSpec.ofChange nhSwapsSpec)

/-- ITS FALSE NEIGHBOUR: 'it returns false'. Refute it at one input. -/
def nhSwapsWrong : ChangeSpec := { name := "nhSwaps", fn := fun _ => fun
  | [d1, d2] => { results := [.lit (.bool false)], args := [d1, d2] }
  | _ => none }
def NhSwapsWrongFalsely : Prop := nhSwapsRow.holds Try.pinned (OpenSpec.ofChange nhSwapsWrong)

/-- 'wringerlaw08.PolyHashes': WHATEVER THE INPUT: true; the input reads as it did. -/
def polyHashesSpec : ChangeSpec := { name := "polyHashes", fn := fun _ => fun
  | [d1, d2] => { results := [.lit (.bool true)], args := [d1, d2] }
  | _ => none }
def polyHashesRow : OpenClaim := { program := "ytppideomehdhjaa", sum := "7debfbcdd2855d0531c6769905d06e3f4a07980ba9d2974d1eff2a8f5d7423e6", func := "wringer/wringerlaw08.PolyHashes", spec := "polyHashes", unfollowed := true, recurses := true, apart := false }
def PolyHashesSaid : Prop := polyHashesRow.holds Try.pinned (OpenSpec.ofChange polyHashesSpec)

/-- ITS FALSE NEIGHBOUR: 'it returns false'. Refute it at one input. -/
def polyHashesWrong : ChangeSpec := { name := "polyHashes", fn := fun _ => fun
  | [d1, d2] => { results := [.lit (.bool false)], args := [d1, d2] }
  | _ => none }
def PolyHashesWrongFalsely : Prop := polyHashesRow.holds Try.pinned (OpenSpec.ofChange polyHashesWrong)

/-- 'wringerlaw08.PolyParts': WHATEVER THE INPUT: true; the input reads as it did. -/
def polyPartsSpec : ChangeSpec := { name := "polyParts", fn := fun _ => fun
  | [d1, d2] => { results := [.lit (.bool true)], args := [d1, d2] }
  | _ => none }
def polyPartsRow : OpenClaim := { program := "ytppideomehdhjaa", sum := "7debfbcdd2855d0531c6769905d06e3f4a07980ba9d2974d1eff2a8f5d7423e6", func := "wringer/wringerlaw08.PolyParts", spec := "polyParts", unfollowed := true, recurses := true, apart := false }
def PolyPartsSaid : Prop := polyPartsRow.holds Try.pinned (OpenSpec.ofChange polyPartsSpec)

/-- ITS FALSE NEIGHBOUR: 'it returns false'. Refute it at one input. -/
def polyPartsWrong : ChangeSpec := { name := "polyParts", fn := fun _ => fun
  | [d1, d2] => { results := [.lit (.bool false)], args := [d1, d2] }
  | _ => none }
def PolyPartsWrongFalsely : Prop := polyPartsRow.holds Try.pinned (OpenSpec.ofChange polyPartsWrong)

/-- 'wringerlaw08.PolyOn': WHATEVER THE INPUT: true; the input reads as it did. -/
def polyOnSpec : ChangeSpec := { name := "polyOn", fn := fun _ => fun
  | [d1, d2, d3] => { results := [.lit (.bool true)], args := [d1, d2, d3] }
  | _ => none }
def polyOnRow : OpenClaim := { program := "ytppideomehdhjaa", sum := "7debfbcdd2855d0531c6769905d06e3f4a07980ba9d2974d1eff2a8f5d7423e6", func := "wringer/wringerlaw08.PolyOn", spec := "polyOn", unfollowed := true, recurses := true, apart := false }
def PolyOnSaid : Prop := polyOnRow.holds Try.pinned (OpenSpec.ofChange polyOnSpec)

/-- ITS FALSE NEIGHBOUR: 'it returns false'. Refute it at one input. -/
def polyOnWrong : ChangeSpec := { name := "polyOn", fn := fun _ => fun
  | [d1, d2, d3] => { results := [.lit (.bool false)], args := [d1, d2, d3] }
  | _ => none }
def PolyOnWrongFalsely : Prop := polyOnRow.holds Try.pinned (OpenSpec.ofChange polyOnWrong)

/-- 'wringerlaw08.PolyOne': WHATEVER THE INPUT: true; the input reads as it did. -/
def polyOneSpec : ChangeSpec := { name := "polyOne", fn := fun _ => fun
  | [d1, d2, d3] => { results := [.lit (.bool true)], args := [d1, d2, d3] }
  | _ => none }
def polyOneRow : OpenClaim := { program := "ytppideomehdhjaa", sum := "7debfbcdd2855d0531c6769905d06e3f4a07980ba9d2974d1eff2a8f5d7423e6", func := "wringer/wringerlaw08.PolyOne", spec := "polyOne", unfollowed := true, recurses := true, apart := false }
def PolyOneSaid : Prop := polyOneRow.holds Try.pinned (OpenSpec.ofChange polyOneSpec)

/-- ITS FALSE NEIGHBOUR: 'it returns false'. Refute it at one input. -/
def polyOneWrong : ChangeSpec := { name := "polyOne", fn := fun _ => fun
  | [d1, d2, d3] => { results := [.lit (.bool false)], args := [d1, d2, d3] }
  | _ => none }
def PolyOneWrongFalsely : Prop := polyOneRow.holds Try.pinned (OpenSpec.ofChange polyOneWrong)

/-- 'wringerlaw08.PolyClamped': WHATEVER THE INPUT: true; the input reads as it did. -/
def polyClampedSpec : ChangeSpec := { name := "polyClamped", fn := fun _ => fun
  | [d1, d2] => { results := [.lit (.bool true)], args := [d1, d2] }
  | _ => none }
def polyClampedRow : OpenClaim := { program := "ytppideomehdhjaa", sum := "7debfbcdd2855d0531c6769905d06e3f4a07980ba9d2974d1eff2a8f5d7423e6", func := "wringer/wringerlaw08.PolyClamped", spec := "polyClamped", unfollowed := true, recurses := true, apart := false }
def PolyClampedSaid : Prop := polyClampedRow.holds Try.pinned (OpenSpec.ofChange polyClampedSpec)

/-- ITS FALSE NEIGHBOUR: 'it returns false'. Refute it at one input. -/
def polyClampedWrong : ChangeSpec := { name := "polyClamped", fn := fun _ => fun
  | [d1, d2] => { results := [.lit (.bool false)], args := [d1, d2] }
  | _ => none }
def PolyClampedWrongFalsely : Prop := polyClampedRow.holds Try.pinned (OpenSpec.ofChange polyClampedWrong)

/-- 'wringerlaw08.PolyLinear': WHATEVER THE INPUT: true; the input reads as it did. -/
def polyLinearSpec : ChangeSpec := { name := "polyLinear", fn := fun _ => fun
  | [d1, d2] => { results := [.lit (.bool true)], args := [d1, d2] }
  | _ => none }
def polyLinearRow : OpenClaim := { program := "ytppideomehdhjaa", sum := "7debfbcdd2855d0531c6769905d06e3f4a07980ba9d2974d1eff2a8f5d7423e6", func := "wringer/wringerlaw08.PolyLinear", spec := "polyLinear", unfollowed := true, recurses := true, apart := false }
def PolyLinearSaid : Prop := polyLinearRow.holds Try.pinned (OpenSpec.ofChange polyLinearSpec)

/-- ITS FALSE NEIGHBOUR: 'it returns false'. Refute it at one input. -/
def polyLinearWrong : ChangeSpec := { name := "polyLinear", fn := fun _ => fun
  | [d1, d2] => { results := [.lit (.bool false)], args := [d1, d2] }
  | _ => none }
def PolyLinearWrongFalsely : Prop := polyLinearRow.holds Try.pinned (OpenSpec.ofChange polyLinearWrong)

/- THE SECOND FORM. 'bulk': how many values and letters a reading holds, each counted each time it is reached (what is shared counts as often as it is met; a slice's spare places count too). A statement '..UptoSaid' is the law's where the arguments, and the package variables that the reading takes, are together of bulk at most 1048576: NARROWER than '..Said'. Prove '..Said' where nothing that the law and all that it calls make is longer than what came in: it says more and counts as full. Else prove '..UptoSaid'. A law counts once. -/
mutual
def uptoBulk {H : Type} : DataW H → Nat
  | .lit (.string bytes) => bytes.length + 1
  | .lit _ => 1
  | .nil => 1
  | .ptr d => uptoBulk d + 1
  | .slice elems spare => uptoBulkAll elems + uptoBulkAll spare + 1
  | .agg parts => uptoBulkAll parts + 1
  | .iface _ d => uptoBulk d + 1
  | .map entries => uptoBulkEntries entries + 1
  | .held _ => 1
def uptoBulkAll {H : Type} : List (DataW H) → Nat
  | [] => 0
  | d :: r => uptoBulk d + uptoBulkAll r
def uptoBulkEntries {H : Type} : List (Lit × DataW H) → Nat
  | [] => 0
  | x :: r => uptoBulkEntry x + uptoBulkEntries r
def uptoBulkEntry {H : Type} : Lit × DataW H → Nat
  | (.string bytes, d) => bytes.length + uptoBulk d + 1
  | (_, d) => uptoBulk d + 1
 end
def uptoSmall : (H : Type) → List (DataW H) → Bool := fun _ ds => decide (uptoBulkAll ds ≤ 1048576)
def OpenSpec.upto (s : _root_.Go.ChangeSpec) : _root_.Go.OpenSpec := { _root_.Go.OpenSpec.ofChange s with cond := some uptoSmall }

/-- 'wringerlaw09.NhSwaps', WHERE WHAT IT READS IS OF BULK AT MOST 1048576: true; the input reads as it did. -/
def nhSwapsUptoRow : OpenClaim := { program := "ytppideomehdhjaa", sum := "7debfbcdd2855d0531c6769905d06e3f4a07980ba9d2974d1eff2a8f5d7423e6", func := "wringer/wringerlaw09.NhSwaps", spec := "nhSwaps", unfollowed := true, recurses := true, apart := false, narrowed := true }
def NhSwapsUptoSaid : Prop := nhSwapsUptoRow.holds Try.pinned (OpenSpec.upto nhSwapsSpec)

/-- 'wringerlaw08.PolyHashes', WHERE WHAT IT READS IS OF BULK AT MOST 1048576: true; the input reads as it did. -/
def polyHashesUptoRow : OpenClaim := { program := "ytppideomehdhjaa", sum := "7debfbcdd2855d0531c6769905d06e3f4a07980ba9d2974d1eff2a8f5d7423e6", func := "wringer/wringerlaw08.PolyHashes", spec := "polyHashes", unfollowed := true, recurses := true, apart := false, narrowed := true }
def PolyHashesUptoSaid : Prop := polyHashesUptoRow.holds Try.pinned (OpenSpec.upto polyHashesSpec)

/-- 'wringerlaw08.PolyParts', WHERE WHAT IT READS IS OF BULK AT MOST 1048576: true; the input reads as it did. -/
def polyPartsUptoRow : OpenClaim := { program := "ytppideomehdhjaa", sum := "7debfbcdd2855d0531c6769905d06e3f4a07980ba9d2974d1eff2a8f5d7423e6", func := "wringer/wringerlaw08.PolyParts", spec := "polyParts", unfollowed := true, recurses := true, apart := false, narrowed := true }
def PolyPartsUptoSaid : Prop := polyPartsUptoRow.holds Try.pinned (OpenSpec.upto polyPartsSpec)

/-- 'wringerlaw08.PolyOn', WHERE WHAT IT READS IS OF BULK AT MOST 1048576: true; the input reads as it did. -/
def polyOnUptoRow : OpenClaim := { program := "ytppideomehdhjaa", sum := "7debfbcdd2855d0531c6769905d06e3f4a07980ba9d2974d1eff2a8f5d7423e6", func := "wringer/wringerlaw08.PolyOn", spec := "polyOn", unfollowed := true, recurses := true, apart := false, narrowed := true }
def PolyOnUptoSaid : Prop := polyOnUptoRow.holds Try.pinned (OpenSpec.upto polyOnSpec)

/-- 'wringerlaw08.PolyOne', WHERE WHAT IT READS IS OF BULK AT MOST 1048576: true; the input reads as it did. -/
def polyOneUptoRow : OpenClaim := { program := "ytppideomehdhjaa", sum := "7debfbcdd2855d0531c6769905d06e3f4a07980ba9d2974d1eff2a8f5d7423e6", func := "wringer/wringerlaw08.PolyOne", spec := "polyOne", unfollowed := true, recurses := true, apart := false, narrowed := true }
def PolyOneUptoSaid : Prop := polyOneUptoRow.holds Try.pinned (OpenSpec.upto polyOneSpec)

/-- 'wringerlaw08.PolyClamped', WHERE WHAT IT READS IS OF BULK AT MOST 1048576: true; the input reads as it did. -/
def polyClampedUptoRow : OpenClaim := { program := "ytppideomehdhjaa", sum := "7debfbcdd2855d0531c6769905d06e3f4a07980ba9d2974d1eff2a8f5d7423e6", func := "wringer/wringerlaw08.PolyClamped", spec := "polyClamped", unfollowed := true, recurses := true, apart := false, narrowed := true }
def PolyClampedUptoSaid : Prop := polyClampedUptoRow.holds Try.pinned (OpenSpec.upto polyClampedSpec)

/-- 'wringerlaw08.PolyLinear', WHERE WHAT IT READS IS OF BULK AT MOST 1048576: true; the input reads as it did. -/
def polyLinearUptoRow : OpenClaim := { program := "ytppideomehdhjaa", sum := "7debfbcdd2855d0531c6769905d06e3f4a07980ba9d2974d1eff2a8f5d7423e6", func := "wringer/wringerlaw08.PolyLinear", spec := "polyLinear", unfollowed := true, recurses := true, apart := false, narrowed := true }
def PolyLinearUptoSaid : Prop := polyLinearUptoRow.holds Try.pinned (OpenSpec.upto polyLinearSpec)

end Rows
end Go.Proofs.Ytppideomehdhjaa
