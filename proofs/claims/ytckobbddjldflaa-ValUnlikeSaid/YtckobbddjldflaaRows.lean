/-
  No cell of these rows narrows 'for every input' (looked for: loops, veiled, ifaces, maps, wideKeys, modest, calm, conditions, laid).
  DERIVED. THE GIVEN ROWS OF THIS SEAT. 8 by the template 'for every input the law returns true; each argument reads behind the call as it read before'; 0 by the template 'total and deterministic' (their statements: YtckobbddjldflaaTotals.lean).
  GIVEN WITH THE SEED: the statements are not yours to turn. If you find one false, say at which input.
  Laid BY PROGRAM, IN A SANDBOX (cutbox-rows.mjs): the forced cells as the released guide's own fill.sh prints them over the translation a7a3ad035e8dd18a… (all of the seat's roots in one cut). By AI agents, Wed Nov 11 2026. No macro, syntax, notation, axiom, sorry.
-/
import Derived.Test.YtckobbddjldflaaChecked
import GoSem.Claim
import GoSem.ClaimJoined
import GoSem.ClaimMapViews
import Derived.JoinedTies
import Derived.KernelRfl
namespace Go.Proofs.Ytckobbddjldflaa
/- THE CELL 'sum', in the pinned program and in every row, IS THE sha256 OF THE DUMP (.gsa) THAT YtckobbddjldflaaProg.lean LOADS. Nothing in Lean hashes anything: it is a label: what it is worth is what the hold of that sum in a sandbox is worth. -/
noncomputable def Try.pinned : Pinned := { name := "ytckobbddjldflaa", sum := "a7a3ad035e8dd18a5795d8be298c56f4ba0966a631f91d07956d4c64cde897a0", checked := Try.checked }
namespace Rows
def none {H : Type} : Left H := { results := [], args := [] }

/-- 'wringerlaw11.ValSums': WHATEVER THE INPUT: true; the input reads as it did. -/
def valSumsSpec : ChangeSpec := { name := "valSums", fn := fun _ => fun
  | [d1, d2] => { results := [.lit (.bool true)], args := [d1, d2] }
  | _ => none }
def valSumsRow : OpenClaim := { program := "ytckobbddjldflaa", sum := "a7a3ad035e8dd18a5795d8be298c56f4ba0966a631f91d07956d4c64cde897a0", func := "wringer/wringerlaw11.ValSums", spec := "valSums", unfollowed := true, recurses := true, apart := false }
def ValSumsSaid : Prop := valSumsRow.holds Try.pinned (OpenSpec.ofChange valSumsSpec)

/-- ITS FALSE NEIGHBOUR: 'it returns false'. Refute it at one input. -/
def valSumsWrong : ChangeSpec := { name := "valSums", fn := fun _ => fun
  | [d1, d2] => { results := [.lit (.bool false)], args := [d1, d2] }
  | _ => none }
def ValSumsWrongFalsely : Prop := valSumsRow.holds Try.pinned (OpenSpec.ofChange valSumsWrong)

/-- 'wringerlaw11.ValLengths': WHATEVER THE INPUT: true; the input reads as it did. -/
def valLengthsSpec : ChangeSpec := { name := "valLengths", fn := fun _ => fun
  | [d1, d2] => { results := [.lit (.bool true)], args := [d1, d2] }
  | _ => none }
def valLengthsRow : OpenClaim := { program := "ytckobbddjldflaa", sum := "a7a3ad035e8dd18a5795d8be298c56f4ba0966a631f91d07956d4c64cde897a0", func := "wringer/wringerlaw11.ValLengths", spec := "valLengths", unfollowed := true, recurses := true, apart := false }
def ValLengthsSaid : Prop := valLengthsRow.holds Try.pinned (OpenSpec.ofChange valLengthsSpec)

/-- ITS FALSE NEIGHBOUR: 'it returns false'. Refute it at one input. -/
def valLengthsWrong : ChangeSpec := { name := "valLengths", fn := fun _ => fun
  | [d1, d2] => { results := [.lit (.bool false)], args := [d1, d2] }
  | _ => none }
def ValLengthsWrongFalsely : Prop := valLengthsRow.holds Try.pinned (OpenSpec.ofChange valLengthsWrong)

/-- 'wringerlaw11.ValUnlike': WHATEVER THE INPUT: true; the input reads as it did. -/
def valUnlikeSpec : ChangeSpec := { name := "valUnlike", fn := fun _ => fun
  | [d1, d2] => { results := [.lit (.bool true)], args := [d1, d2] }
  | _ => none }
def valUnlikeRow : OpenClaim := { program := "ytckobbddjldflaa", sum := "a7a3ad035e8dd18a5795d8be298c56f4ba0966a631f91d07956d4c64cde897a0", func := "wringer/wringerlaw11.ValUnlike", spec := "valUnlike", unfollowed := true, recurses := true, apart := false }
def ValUnlikeSaid : Prop := valUnlikeRow.holds Try.pinned (OpenSpec.ofChange valUnlikeSpec)

/-- ITS FALSE NEIGHBOUR: 'it returns false'. Refute it at one input. -/
def valUnlikeWrong : ChangeSpec := { name := "valUnlike", fn := fun _ => fun
  | [d1, d2] => { results := [.lit (.bool false)], args := [d1, d2] }
  | _ => none }
def ValUnlikeWrongFalsely : Prop := valUnlikeRow.holds Try.pinned (OpenSpec.ofChange valUnlikeWrong)

/-- 'wringerlaw11.ValLinear': WHATEVER THE INPUT: true; the input reads as it did. -/
def valLinearSpec : ChangeSpec := { name := "valLinear", fn := fun _ => fun
  | [d1, d2] => { results := [.lit (.bool true)], args := [d1, d2] }
  | _ => none }
def valLinearRow : OpenClaim := { program := "ytckobbddjldflaa", sum := "a7a3ad035e8dd18a5795d8be298c56f4ba0966a631f91d07956d4c64cde897a0", func := "wringer/wringerlaw11.ValLinear", spec := "valLinear", unfollowed := true, recurses := true, apart := false }
def ValLinearSaid : Prop := valLinearRow.holds Try.pinned (OpenSpec.ofChange valLinearSpec)

/-- ITS FALSE NEIGHBOUR: 'it returns false'. Refute it at one input. -/
def valLinearWrong : ChangeSpec := { name := "valLinear", fn := fun _ => fun
  | [d1, d2] => { results := [.lit (.bool false)], args := [d1, d2] }
  | _ => none }
def ValLinearWrongFalsely : Prop := valLinearRow.holds Try.pinned (OpenSpec.ofChange valLinearWrong)

/-- 'wringerlaw11.ValOn': WHATEVER THE INPUT: true; the input reads as it did. -/
def valOnSpec : ChangeSpec := { name := "valOn", fn := fun _ => fun
  | [d1, d2] => { results := [.lit (.bool true)], args := [d1, d2] }
  | _ => none }
def valOnRow : OpenClaim := { program := "ytckobbddjldflaa", sum := "a7a3ad035e8dd18a5795d8be298c56f4ba0966a631f91d07956d4c64cde897a0", func := "wringer/wringerlaw11.ValOn", spec := "valOn", unfollowed := true, recurses := true, apart := false }
def ValOnSaid : Prop := valOnRow.holds Try.pinned (OpenSpec.ofChange valOnSpec)

/-- ITS FALSE NEIGHBOUR: 'it returns false'. Refute it at one input. -/
def valOnWrong : ChangeSpec := { name := "valOn", fn := fun _ => fun
  | [d1, d2] => { results := [.lit (.bool false)], args := [d1, d2] }
  | _ => none }
def ValOnWrongFalsely : Prop := valOnRow.holds Try.pinned (OpenSpec.ofChange valOnWrong)

/-- 'wringerlaw11.ValKinds': WHATEVER THE INPUT: true; the input reads as it did. -/
def valKindsSpec : ChangeSpec := { name := "valKinds", fn := fun _ => fun
  | [d1, d2] => { results := [.lit (.bool true)], args := [d1, d2] }
  | _ => none }
def valKindsRow : OpenClaim := { program := "ytckobbddjldflaa", sum := "a7a3ad035e8dd18a5795d8be298c56f4ba0966a631f91d07956d4c64cde897a0", func := "wringer/wringerlaw11.ValKinds", spec := "valKinds", unfollowed := true, recurses := true, apart := false }
def ValKindsSaid : Prop := valKindsRow.holds Try.pinned (OpenSpec.ofChange valKindsSpec)

/-- ITS FALSE NEIGHBOUR: 'it returns false'. Refute it at one input. -/
def valKindsWrong : ChangeSpec := { name := "valKinds", fn := fun _ => fun
  | [d1, d2] => { results := [.lit (.bool false)], args := [d1, d2] }
  | _ => none }
def ValKindsWrongFalsely : Prop := valKindsRow.holds Try.pinned (OpenSpec.ofChange valKindsWrong)

/-- 'wringerlaw11.ValHashes': WHATEVER THE INPUT: true; the input reads as it did. -/
def valHashesSpec : ChangeSpec := { name := "valHashes", fn := fun _ => fun
  | [d1, d2, d3] => { results := [.lit (.bool true)], args := [d1, d2, d3] }
  | _ => none }
def valHashesRow : OpenClaim := { program := "ytckobbddjldflaa", sum := "a7a3ad035e8dd18a5795d8be298c56f4ba0966a631f91d07956d4c64cde897a0", func := "wringer/wringerlaw11.ValHashes", spec := "valHashes", unfollowed := true, recurses := true, apart := false }
def ValHashesSaid : Prop := valHashesRow.holds Try.pinned (OpenSpec.ofChange valHashesSpec)

/-- ITS FALSE NEIGHBOUR: 'it returns false'. Refute it at one input. -/
def valHashesWrong : ChangeSpec := { name := "valHashes", fn := fun _ => fun
  | [d1, d2, d3] => { results := [.lit (.bool false)], args := [d1, d2, d3] }
  | _ => none }
def ValHashesWrongFalsely : Prop := valHashesRow.holds Try.pinned (OpenSpec.ofChange valHashesWrong)

/-- 'wringerlaw11.ValPowers': WHATEVER THE INPUT: true; the input reads as it did. -/
def valPowersSpec : ChangeSpec := { name := "valPowers", fn := fun _ => fun
  | [d1, d2] => { results := [.lit (.bool true)], args := [d1, d2] }
  | _ => none }
def valPowersRow : OpenClaim := { program := "ytckobbddjldflaa", sum := "a7a3ad035e8dd18a5795d8be298c56f4ba0966a631f91d07956d4c64cde897a0", func := "wringer/wringerlaw11.ValPowers", spec := "valPowers", unfollowed := true, recurses := true, apart := false }
def ValPowersSaid : Prop := valPowersRow.holds Try.pinned (OpenSpec.ofChange valPowersSpec)

/-- ITS FALSE NEIGHBOUR: 'it returns false'. Refute it at one input. -/
def valPowersWrong : ChangeSpec := { name := "valPowers", fn := fun _ => fun
  | [d1, d2] => { results := [.lit (.bool false)], args := [d1, d2] }
  | _ => none }
def ValPowersWrongFalsely : Prop := valPowersRow.holds Try.pinned (OpenSpec.ofChange valPowersWrong)

/- THE SECOND FORM. 'bulk': how many values and letters a reading holds, each counted each time it is reached (what is shared counts as often as it is met; a slice's spare places count too). A statement '..UptoSaid' is the law's where the arguments, and the package variables that the reading takes, are together of bulk at most 1048576: NARROWER than '..Said'. Prove '..Said' where nothing that the law and all that it calls make is longer than what came in: it says more and counts as full. Else prove '..UptoSaid'. A law counts once. -/
mutual
def uptoBulk {H : Type} : DataW H → Nat
  | .lit (.string bytes) => bytes.length + 1
  | .lit _ => 1
  | .nil => 1
  | .ptr d => uptoBulk d + 1
  | .slice elems spare => uptoBulkAll elems + uptoBulkAll spare + 1
  | .agg parts => uptoBulkAll parts + 1
  | .iface _ d => uptoBulk d + 1
  | .map entries => uptoBulkEntries entries + 1
  | .held _ => 1
def uptoBulkAll {H : Type} : List (DataW H) → Nat
  | [] => 0
  | d :: r => uptoBulk d + uptoBulkAll r
def uptoBulkEntries {H : Type} : List (Lit × DataW H) → Nat
  | [] => 0
  | x :: r => uptoBulkEntry x + uptoBulkEntries r
def uptoBulkEntry {H : Type} : Lit × DataW H → Nat
  | (.string bytes, d) => bytes.length + uptoBulk d + 1
  | (_, d) => uptoBulk d + 1
 end
def uptoSmall : (H : Type) → List (DataW H) → Bool := fun _ ds => decide (uptoBulkAll ds ≤ 1048576)
def OpenSpec.upto (s : _root_.Go.ChangeSpec) : _root_.Go.OpenSpec := { _root_.Go.OpenSpec.ofChange s with cond := some uptoSmall }

/-- 'wringerlaw11.ValSums', WHERE WHAT IT READS IS OF BULK AT MOST 1048576: true; the input reads as it did. -/
def valSumsUptoRow : OpenClaim := { program := "ytckobbddjldflaa", sum := "a7a3ad035e8dd18a5795d8be298c56f4ba0966a631f91d07956d4c64cde897a0", func := "wringer/wringerlaw11.ValSums", spec := "valSums", unfollowed := true, recurses := true, apart := false, narrowed := true }
def ValSumsUptoSaid : Prop := valSumsUptoRow.holds Try.pinned (OpenSpec.upto valSumsSpec)

/-- 'wringerlaw11.ValLengths', WHERE WHAT IT READS IS OF BULK AT MOST 1048576: true; the input reads as it did. -/
def valLengthsUptoRow : OpenClaim := { program := "ytckobbddjldflaa", sum := "a7a3ad035e8dd18a5795d8be298c56f4ba0966a631f91d07956d4c64cde897a0", func := "wringer/wringerlaw11.ValLengths", spec := "valLengths", unfollowed := true, recurses := true, apart := false, narrowed := true }
def ValLengthsUptoSaid : Prop := valLengthsUptoRow.holds Try.pinned (OpenSpec.upto valLengthsSpec)

/-- 'wringerlaw11.ValUnlike', WHERE WHAT IT READS IS OF BULK AT MOST 1048576: true; the input reads as it did. -/
def valUnlikeUptoRow : OpenClaim := { program := "ytckobbddjldflaa", sum := "a7a3ad035e8dd18a5795d8be298c56f4ba0966a631f91d07956d4c64cde897a0", func := "wringer/wringerlaw11.ValUnlike", spec := "valUnlike", unfollowed := true, recurses := true, apart := false, narrowed := true }
def ValUnlikeUptoSaid : Prop := valUnlikeUptoRow.holds Try.pinned (OpenSpec.upto valUnlikeSpec)

/-- 'wringerlaw11.ValLinear', WHERE WHAT IT READS IS OF BULK AT MOST 1048576: true; the input reads as it did. -/
def valLinearUptoRow : OpenClaim := { program := "ytckobbddjldflaa", sum := "a7a3ad035e8dd18a5795d8be298c56f4ba0966a631f91d07956d4c64cde897a0", func := "wringer/wringerlaw11.ValLinear", spec := "valLinear", unfollowed := true, recurses := true, apart := false, narrowed := true }
def ValLinearUptoSaid : Prop := valLinearUptoRow.holds Try.pinned (OpenSpec.upto valLinearSpec)

/-- 'wringerlaw11.ValOn', WHERE WHAT IT READS IS OF BULK AT MOST 1048576: true; the input reads as it did. -/
def valOnUptoRow : OpenClaim := { program := "ytckobbddjldflaa", sum := "a7a3ad035e8dd18a5795d8be298c56f4ba0966a631f91d07956d4c64cde897a0", func := "wringer/wringerlaw11.ValOn", spec := "valOn", unfollowed := true, recurses := true, apart := false, narrowed := true }
def ValOnUptoSaid : Prop := valOnUptoRow.holds Try.pinned (OpenSpec.upto valOnSpec)

/-- 'wringerlaw11.ValKinds', WHERE WHAT IT READS IS OF BULK AT MOST 1048576: true; the input reads as it did. -/
def valKindsUptoRow : OpenClaim := { program := "ytckobbddjldflaa", sum := "a7a3ad035e8dd18a5795d8be298c56f4ba0966a631f91d07956d4c64cde897a0", func := "wringer/wringerlaw11.ValKinds", spec := "valKinds", unfollowed := true, recurses := true, apart := false, narrowed := true }
def ValKindsUptoSaid : Prop := valKindsUptoRow.holds Try.pinned (OpenSpec.upto valKindsSpec)

/-- 'wringerlaw11.ValHashes', WHERE WHAT IT READS IS OF BULK AT MOST 1048576: true; the input reads as it did. -/
def valHashesUptoRow : OpenClaim := { program := "ytckobbddjldflaa", sum := "a7a3ad035e8dd18a5795d8be298c56f4ba0966a631f91d07956d4c64cde897a0", func := "wringer/wringerlaw11.ValHashes", spec := "valHashes", unfollowed := true, recurses := true, apart := false, narrowed := true }
def ValHashesUptoSaid : Prop := valHashesUptoRow.holds Try.pinned (OpenSpec.upto valHashesSpec)

/-- 'wringerlaw11.ValPowers', WHERE WHAT IT READS IS OF BULK AT MOST 1048576: true; the input reads as it did. -/
def valPowersUptoRow : OpenClaim := { program := "ytckobbddjldflaa", sum := "a7a3ad035e8dd18a5795d8be298c56f4ba0966a631f91d07956d4c64cde897a0", func := "wringer/wringerlaw11.ValPowers", spec := "valPowers", unfollowed := true, recurses := true, apart := false, narrowed := true }
def ValPowersUptoSaid : Prop := valPowersUptoRow.holds Try.pinned (OpenSpec.upto valPowersSpec)

end Rows
end Go.Proofs.Ytckobbddjldflaa
