/-
  No cell of these rows narrows 'for every input' (looked for: loops, veiled, ifaces, maps, wideKeys, modest, calm, conditions, laid).
  DERIVED. THE GIVEN ROWS OF THIS SEAT. 6 by the template 'for every input the law returns true; each argument reads behind the call as it read before'; 0 by the template 'total and deterministic' (their statements: YtolfngmpoafaaaaTotals.lean).
  GIVEN WITH THE SEED: the statements are not yours to turn. If you find one false, say at which input.
  Laid BY PROGRAM, IN A SANDBOX (cutbox-rows.mjs): the forced cells as the released guide's own fill.sh prints them over the translation ccb02fb88620dd59… (all of the seat's roots in one cut). By AI agents, Wed Nov 11 2026. No macro, syntax, notation, axiom, sorry.
-/
import Derived.Test.YtolfngmpoafaaaaChecked
import GoSem.Claim
import GoSem.ClaimJoined
import GoSem.ClaimMapViews
import Derived.JoinedTies
import Derived.KernelRfl
namespace Go.Proofs.Ytolfngmpoafaaaa
/- THE CELL 'sum', in the pinned program and in every row, IS THE sha256 OF THE DUMP (.gsa) THAT YtolfngmpoafaaaaProg.lean LOADS. Nothing in Lean hashes anything: it is a label: what it is worth is what the hold of that sum in a sandbox is worth. -/
noncomputable def Try.pinned : Pinned := { name := "ytolfngmpoafaaaa", sum := "ccb02fb88620dd59bd1a84a5b0b74c21cc488fa57eb155db3f81bbf2bb6f110e", checked := Try.checked }
namespace Rows
def none {H : Type} : Left H := { results := [], args := [] }

/-- 'wringerlaw12.AdhashKeys': WHATEVER THE INPUT: true; the input reads as it did. -/
def adhashKeysSpec : ChangeSpec := { name := "adhashKeys", fn := fun _ => fun
  | [d] => { results := [.lit (.bool true)], args := [d] }
  | _ => none }
def adhashKeysRow : OpenClaim := { program := "ytolfngmpoafaaaa", sum := "ccb02fb88620dd59bd1a84a5b0b74c21cc488fa57eb155db3f81bbf2bb6f110e", func := "wringer/wringerlaw12.AdhashKeys", spec := "adhashKeys", inPlace := ["math/bits.Add64"], unfollowed := true, recurses := true, apart := false }
def AdhashKeysSaid : Prop := adhashKeysRow.holds Try.pinned (OpenSpec.ofChange adhashKeysSpec)

/-- ITS FALSE NEIGHBOUR: 'it returns false'. Refute it at one input. -/
def adhashKeysWrong : ChangeSpec := { name := "adhashKeys", fn := fun _ => fun
  | [d] => { results := [.lit (.bool false)], args := [d] }
  | _ => none }
def AdhashKeysWrongFalsely : Prop := adhashKeysRow.holds Try.pinned (OpenSpec.ofChange adhashKeysWrong)

/-- 'wringerlaw12.AdhashHeads': WHATEVER THE INPUT: true; the input reads as it did. -/
def adhashHeadsSpec : ChangeSpec := { name := "adhashHeads", fn := fun _ => fun
  | [d1, d2, d3] => { results := [.lit (.bool true)], args := [d1, d2, d3] }
  | _ => none }
def adhashHeadsRow : OpenClaim := { program := "ytolfngmpoafaaaa", sum := "ccb02fb88620dd59bd1a84a5b0b74c21cc488fa57eb155db3f81bbf2bb6f110e", func := "wringer/wringerlaw12.AdhashHeads", spec := "adhashHeads", inPlace := ["math/bits.Add64"], unfollowed := true, recurses := true, apart := false }
def AdhashHeadsSaid : Prop := adhashHeadsRow.holds Try.pinned (OpenSpec.ofChange adhashHeadsSpec)

/-- ITS FALSE NEIGHBOUR: 'it returns false'. Refute it at one input. -/
def adhashHeadsWrong : ChangeSpec := { name := "adhashHeads", fn := fun _ => fun
  | [d1, d2, d3] => { results := [.lit (.bool false)], args := [d1, d2, d3] }
  | _ => none }
def AdhashHeadsWrongFalsely : Prop := adhashHeadsRow.holds Try.pinned (OpenSpec.ofChange adhashHeadsWrong)

/-- 'wringerlaw12.AdhashSums': WHATEVER THE INPUT: true; the input reads as it did. -/
def adhashSumsSpec : ChangeSpec := { name := "adhashSums", fn := fun _ => fun
  | [d1, d2, d3] => { results := [.lit (.bool true)], args := [d1, d2, d3] }
  | _ => none }
def adhashSumsRow : OpenClaim := { program := "ytolfngmpoafaaaa", sum := "ccb02fb88620dd59bd1a84a5b0b74c21cc488fa57eb155db3f81bbf2bb6f110e", func := "wringer/wringerlaw12.AdhashSums", spec := "adhashSums", inPlace := ["math/bits.Add64"], unfollowed := true, recurses := true, apart := false }
def AdhashSumsSaid : Prop := adhashSumsRow.holds Try.pinned (OpenSpec.ofChange adhashSumsSpec)

/-- ITS FALSE NEIGHBOUR: 'it returns false'. Refute it at one input. -/
def adhashSumsWrong : ChangeSpec := { name := "adhashSums", fn := fun _ => fun
  | [d1, d2, d3] => { results := [.lit (.bool false)], args := [d1, d2, d3] }
  | _ => none }
def AdhashSumsWrongFalsely : Prop := adhashSumsRow.holds Try.pinned (OpenSpec.ofChange adhashSumsWrong)

/-- 'wringerlaw12.AdhashPads': WHATEVER THE INPUT: true; the input reads as it did. -/
def adhashPadsSpec : ChangeSpec := { name := "adhashPads", fn := fun _ => fun
  | [d1, d2] => { results := [.lit (.bool true)], args := [d1, d2] }
  | _ => none }
def adhashPadsRow : OpenClaim := { program := "ytolfngmpoafaaaa", sum := "ccb02fb88620dd59bd1a84a5b0b74c21cc488fa57eb155db3f81bbf2bb6f110e", func := "wringer/wringerlaw12.AdhashPads", spec := "adhashPads", inPlace := ["math/bits.Add64"], unfollowed := true, recurses := true, apart := false }
def AdhashPadsSaid : Prop := adhashPadsRow.holds Try.pinned (OpenSpec.ofChange adhashPadsSpec)

/-- ITS FALSE NEIGHBOUR: 'it returns false'. Refute it at one input. -/
def adhashPadsWrong : ChangeSpec := { name := "adhashPads", fn := fun _ => fun
  | [d1, d2] => { results := [.lit (.bool false)], args := [d1, d2] }
  | _ => none }
def AdhashPadsWrongFalsely : Prop := adhashPadsRow.holds Try.pinned (OpenSpec.ofChange adhashPadsWrong)

/-- 'wringerlaw12.AdhashPieces': WHATEVER THE INPUT: true; the input reads as it did. -/
def adhashPiecesSpec : ChangeSpec := { name := "adhashPieces", fn := fun _ => fun
  | [d1, d2] => { results := [.lit (.bool true)], args := [d1, d2] }
  | _ => none }
def adhashPiecesRow : OpenClaim := { program := "ytolfngmpoafaaaa", sum := "ccb02fb88620dd59bd1a84a5b0b74c21cc488fa57eb155db3f81bbf2bb6f110e", func := "wringer/wringerlaw12.AdhashPieces", spec := "adhashPieces", inPlace := ["math/bits.Add64"], unfollowed := true, recurses := true, apart := false }
def AdhashPiecesSaid : Prop := adhashPiecesRow.holds Try.pinned (OpenSpec.ofChange adhashPiecesSpec)

/-- ITS FALSE NEIGHBOUR: 'it returns false'. Refute it at one input. -/
def adhashPiecesWrong : ChangeSpec := { name := "adhashPieces", fn := fun _ => fun
  | [d1, d2] => { results := [.lit (.bool false)], args := [d1, d2] }
  | _ => none }
def AdhashPiecesWrongFalsely : Prop := adhashPiecesRow.holds Try.pinned (OpenSpec.ofChange adhashPiecesWrong)

/-- 'wringerlaw12.AdhashBoth': WHATEVER THE INPUT: true; the input reads as it did. -/
def adhashBothSpec : ChangeSpec := { name := "adhashBoth", fn := fun _ => fun
  | [d] => { results := [.lit (.bool true)], args := [d] }
  | _ => none }
def adhashBothRow : OpenClaim := { program := "ytolfngmpoafaaaa", sum := "ccb02fb88620dd59bd1a84a5b0b74c21cc488fa57eb155db3f81bbf2bb6f110e", func := "wringer/wringerlaw12.AdhashBoth", spec := "adhashBoth", inPlace := ["math/bits.Add64", "math/bits.Sub64"], unfollowed := true, recurses := true, apart := false }
def AdhashBothSaid : Prop := adhashBothRow.holds Try.pinned (OpenSpec.ofChange adhashBothSpec)

/-- ITS FALSE NEIGHBOUR: 'it returns false'. Refute it at one input. -/
def adhashBothWrong : ChangeSpec := { name := "adhashBoth", fn := fun _ => fun
  | [d] => { results := [.lit (.bool false)], args := [d] }
  | _ => none }
def AdhashBothWrongFalsely : Prop := adhashBothRow.holds Try.pinned (OpenSpec.ofChange adhashBothWrong)

/- THE SECOND FORM. 'bulk': how many values and letters a reading holds, each counted each time it is reached (what is shared counts as often as it is met; a slice's spare places count too). A statement '..UptoSaid' is the law's where the arguments, and the package variables that the reading takes, are together of bulk at most 1048576: NARROWER than '..Said'. Prove '..Said' where nothing that the law and all that it calls make is longer than what came in: it says more and counts as full. Else prove '..UptoSaid'. A law counts once. -/
mutual
def uptoBulk {H : Type} : DataW H → Nat
  | .lit (.string bytes) => bytes.length + 1
  | .lit _ => 1
  | .nil => 1
  | .ptr d => uptoBulk d + 1
  | .slice elems spare => uptoBulkAll elems + uptoBulkAll spare + 1
  | .agg parts => uptoBulkAll parts + 1
  | .iface _ d => uptoBulk d + 1
  | .map entries => uptoBulkEntries entries + 1
  | .held _ => 1
def uptoBulkAll {H : Type} : List (DataW H) → Nat
  | [] => 0
  | d :: r => uptoBulk d + uptoBulkAll r
def uptoBulkEntries {H : Type} : List (Lit × DataW H) → Nat
  | [] => 0
  | x :: r => uptoBulkEntry x + uptoBulkEntries r
def uptoBulkEntry {H : Type} : Lit × DataW H → Nat
  | (.string bytes, d) => bytes.length + uptoBulk d + 1
  | (_, d) => uptoBulk d + 1
 end
def uptoSmall : (H : Type) → List (DataW H) → Bool := fun _ ds => decide (uptoBulkAll ds ≤ 1048576)
def OpenSpec.upto (s : _root_.Go.ChangeSpec) : _root_.Go.OpenSpec := { _root_.Go.OpenSpec.ofChange s with cond := some uptoSmall }

/-- 'wringerlaw12.AdhashKeys', WHERE WHAT IT READS IS OF BULK AT MOST 1048576: true; the input reads as it did. -/
def adhashKeysUptoRow : OpenClaim := { program := "ytolfngmpoafaaaa", sum := "ccb02fb88620dd59bd1a84a5b0b74c21cc488fa57eb155db3f81bbf2bb6f110e", func := "wringer/wringerlaw12.AdhashKeys", spec := "adhashKeys", inPlace := ["math/bits.Add64"], unfollowed := true, recurses := true, apart := false, narrowed := true }
def AdhashKeysUptoSaid : Prop := adhashKeysUptoRow.holds Try.pinned (OpenSpec.upto adhashKeysSpec)

/-- 'wringerlaw12.AdhashHeads', WHERE WHAT IT READS IS OF BULK AT MOST 1048576: true; the input reads as it did. -/
def adhashHeadsUptoRow : OpenClaim := { program := "ytolfngmpoafaaaa", sum := "ccb02fb88620dd59bd1a84a5b0b74c21cc488fa57eb155db3f81bbf2bb6f110e", func := "wringer/wringerlaw12.AdhashHeads", spec := "adhashHeads", inPlace := ["math/bits.Add64"], unfollowed := true, recurses := true, apart := false, narrowed := true }
def AdhashHeadsUptoSaid : Prop := adhashHeadsUptoRow.holds Try.pinned (OpenSpec.upto adhashHeadsSpec)

/-- 'wringerlaw12.AdhashSums', WHERE WHAT IT READS IS OF BULK AT MOST 1048576: true; the input reads as it did. -/
def adhashSumsUptoRow : OpenClaim := { program := "ytolfngmpoafaaaa", sum := "ccb02fb88620dd59bd1a84a5b0b74c21cc488fa57eb155db3f81bbf2bb6f110e", func := "wringer/wringerlaw12.AdhashSums", spec := "adhashSums", inPlace := ["math/bits.Add64"], unfollowed := true, recurses := true, apart := false, narrowed := true }
def AdhashSumsUptoSaid : Prop := adhashSumsUptoRow.holds Try.pinned (OpenSpec.upto adhashSumsSpec)

/-- 'wringerlaw12.AdhashPads', WHERE WHAT IT READS IS OF BULK AT MOST 1048576: true; the input reads as it did. -/
def adhashPadsUptoRow : OpenClaim := { program := "ytolfngmpoafaaaa", sum := "ccb02fb88620dd59bd1a84a5b0b74c21cc488fa57eb155db3f81bbf2bb6f110e", func := "wringer/wringerlaw12.AdhashPads", spec := "adhashPads", inPlace := ["math/bits.Add64"], unfollowed := true, recurses := true, apart := false, narrowed := true }
def AdhashPadsUptoSaid : Prop := adhashPadsUptoRow.holds Try.pinned (OpenSpec.upto adhashPadsSpec)

/-- 'wringerlaw12.AdhashPieces', WHERE WHAT IT READS IS OF BULK AT MOST 1048576: true; the input reads as it did. -/
def adhashPiecesUptoRow : OpenClaim := { program := "ytolfngmpoafaaaa", sum := "ccb02fb88620dd59bd1a84a5b0b74c21cc488fa57eb155db3f81bbf2bb6f110e", func := "wringer/wringerlaw12.AdhashPieces", spec := "adhashPieces", inPlace := ["math/bits.Add64"], unfollowed := true, recurses := true, apart := false, narrowed := true }
def AdhashPiecesUptoSaid : Prop := adhashPiecesUptoRow.holds Try.pinned (OpenSpec.upto adhashPiecesSpec)

/-- 'wringerlaw12.AdhashBoth', WHERE WHAT IT READS IS OF BULK AT MOST 1048576: true; the input reads as it did. -/
def adhashBothUptoRow : OpenClaim := { program := "ytolfngmpoafaaaa", sum := "ccb02fb88620dd59bd1a84a5b0b74c21cc488fa57eb155db3f81bbf2bb6f110e", func := "wringer/wringerlaw12.AdhashBoth", spec := "adhashBoth", inPlace := ["math/bits.Add64", "math/bits.Sub64"], unfollowed := true, recurses := true, apart := false, narrowed := true }
def AdhashBothUptoSaid : Prop := adhashBothUptoRow.holds Try.pinned (OpenSpec.upto adhashBothSpec)

end Rows
end Go.Proofs.Ytolfngmpoafaaaa
