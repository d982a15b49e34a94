/-
  No cell of these rows narrows 'for every input' (looked for: loops, veiled, ifaces, maps, wideKeys, modest, calm, conditions, laid).
  DERIVED. THE GIVEN ROWS OF THIS SEAT. 9 by the template 'for every input the law returns true; each argument reads behind the call as it read before'; 0 by the template 'total and deterministic' (their statements: YtehhipanbjhffaaTotals.lean).
  GIVEN WITH THE SEED: the statements are not yours to turn. If you find one false, say at which input.
  Laid BY PROGRAM, IN A SANDBOX (cutbox-rows.mjs): the forced cells as the released guide's own fill.sh prints them over the translation af6cf5a71b7f8e55… (all of the seat's roots in one cut). By AI agents, Wed Nov 11 2026. No macro, syntax, notation, axiom, sorry.
-/
import Derived.Test.YtehhipanbjhffaaChecked
import GoSem.Claim
import GoSem.ClaimJoined
import GoSem.ClaimMapViews
import Derived.JoinedTies
import Derived.KernelRfl
namespace Go.Proofs.Ytehhipanbjhffaa
/- THE CELL 'sum', in the pinned program and in every row, IS THE sha256 OF THE DUMP (.gsa) THAT YtehhipanbjhffaaProg.lean LOADS. Nothing in Lean hashes anything: it is a label: what it is worth is what the hold of that sum in a sandbox is worth. -/
noncomputable def Try.pinned : Pinned := { name := "ytehhipanbjhffaa", sum := "af6cf5a71b7f8e552abe64688d5da90bf660a12cca2b086ace161b55aff32192", checked := Try.checked }
namespace Rows
def none {H : Type} : Left H := { results := [], args := [] }

/-- 'wringerlaw10.RingProducts': WHATEVER THE INPUT: true; the input reads as it did. -/
def ringProductsSpec : ChangeSpec := { name := "ringProducts", fn := fun _ => fun
  | [d1, d2] => { results := [.lit (.bool true)], args := [d1, d2] }
  | _ => none }
def ringProductsRow : OpenClaim := { program := "ytehhipanbjhffaa", sum := "af6cf5a71b7f8e552abe64688d5da90bf660a12cca2b086ace161b55aff32192", func := "wringer/wringerlaw10.RingProducts", spec := "ringProducts", unfollowed := true, recurses := true, apart := false }
def RingProductsSaid : Prop := ringProductsRow.holds Try.pinned (OpenSpec.ofChange ringProductsSpec)

/-- ITS FALSE NEIGHBOUR: 'it returns false'. Refute it at one input. -/
def ringProductsWrong : ChangeSpec := { name := "ringProducts", fn := fun _ => fun
  | [d1, d2] => { results := [.lit (.bool false)], args := [d1, d2] }
  | _ => none }
def RingProductsWrongFalsely : Prop := ringProductsRow.holds Try.pinned (OpenSpec.ofChange ringProductsWrong)

/-- 'wringerlaw10.RingLaws': WHATEVER THE INPUT: true; the input reads as it did. -/
def ringLawsSpec : ChangeSpec := { name := "ringLaws", fn := fun _ => fun
  | [d1, d2, d3] => { results := [.lit (.bool true)], args := [d1, d2, d3] }
  | _ => none }
def ringLawsRow : OpenClaim := { program := "ytehhipanbjhffaa", sum := "af6cf5a71b7f8e552abe64688d5da90bf660a12cca2b086ace161b55aff32192", func := "wringer/wringerlaw10.RingLaws", spec := "ringLaws", unfollowed := true, recurses := true, apart := false }
def RingLawsSaid : Prop := ringLawsRow.holds Try.pinned (OpenSpec.ofChange ringLawsSpec)

/-- ITS FALSE NEIGHBOUR: 'it returns false'. Refute it at one input. -/
def ringLawsWrong : ChangeSpec := { name := "ringLaws", fn := fun _ => fun
  | [d1, d2, d3] => { results := [.lit (.bool false)], args := [d1, d2, d3] }
  | _ => none }
def RingLawsWrongFalsely : Prop := ringLawsRow.holds Try.pinned (OpenSpec.ofChange ringLawsWrong)

/-- 'wringerlaw10.RingDots': WHATEVER THE INPUT: true; the input reads as it did. -/
def ringDotsSpec : ChangeSpec := { name := "ringDots", fn := fun _ => fun
  | [d1, d2, d3] => { results := [.lit (.bool true)], args := [d1, d2, d3] }
  | _ => none }
def ringDotsRow : OpenClaim := { program := "ytehhipanbjhffaa", sum := "af6cf5a71b7f8e552abe64688d5da90bf660a12cca2b086ace161b55aff32192", func := "wringer/wringerlaw10.RingDots", spec := "ringDots", unfollowed := true, recurses := true, apart := false }
def RingDotsSaid : Prop := ringDotsRow.holds Try.pinned (OpenSpec.ofChange ringDotsSpec)

/-- ITS FALSE NEIGHBOUR: 'it returns false'. Refute it at one input. -/
def ringDotsWrong : ChangeSpec := { name := "ringDots", fn := fun _ => fun
  | [d1, d2, d3] => { results := [.lit (.bool false)], args := [d1, d2, d3] }
  | _ => none }
def RingDotsWrongFalsely : Prop := ringDotsRow.holds Try.pinned (OpenSpec.ofChange ringDotsWrong)

/-- 'wringerlaw10.RingApart': WHATEVER THE INPUT: true; the input reads as it did. -/
def ringApartSpec : ChangeSpec := { name := "ringApart", fn := fun _ => fun
  | [d1, d2, d3] => { results := [.lit (.bool true)], args := [d1, d2, d3] }
  | _ => none }
def ringApartRow : OpenClaim := { program := "ytehhipanbjhffaa", sum := "af6cf5a71b7f8e552abe64688d5da90bf660a12cca2b086ace161b55aff32192", func := "wringer/wringerlaw10.RingApart", spec := "ringApart", unfollowed := true, recurses := true, apart := false }
def RingApartSaid : Prop := ringApartRow.holds Try.pinned (OpenSpec.ofChange ringApartSpec)

/-- ITS FALSE NEIGHBOUR: 'it returns false'. Refute it at one input. -/
def ringApartWrong : ChangeSpec := { name := "ringApart", fn := fun _ => fun
  | [d1, d2, d3] => { results := [.lit (.bool false)], args := [d1, d2, d3] }
  | _ => none }
def RingApartWrongFalsely : Prop := ringApartRow.holds Try.pinned (OpenSpec.ofChange ringApartWrong)

/-- 'wringerlaw10.RingMultiples': WHATEVER THE INPUT: true; the input reads as it did. -/
def ringMultiplesSpec : ChangeSpec := { name := "ringMultiples", fn := fun _ => fun
  | [d1, d2, d3] => { results := [.lit (.bool true)], args := [d1, d2, d3] }
  | _ => none }
def ringMultiplesRow : OpenClaim := { program := "ytehhipanbjhffaa", sum := "af6cf5a71b7f8e552abe64688d5da90bf660a12cca2b086ace161b55aff32192", func := "wringer/wringerlaw10.RingMultiples", spec := "ringMultiples", unfollowed := true, recurses := true, apart := false }
def RingMultiplesSaid : Prop := ringMultiplesRow.holds Try.pinned (OpenSpec.ofChange ringMultiplesSpec)

/-- ITS FALSE NEIGHBOUR: 'it returns false'. Refute it at one input. -/
def ringMultiplesWrong : ChangeSpec := { name := "ringMultiples", fn := fun _ => fun
  | [d1, d2, d3] => { results := [.lit (.bool false)], args := [d1, d2, d3] }
  | _ => none }
def RingMultiplesWrongFalsely : Prop := ringMultiplesRow.holds Try.pinned (OpenSpec.ofChange ringMultiplesWrong)

/-- 'wringerlaw10.RingTables': WHATEVER THE INPUT: true; the input reads as it did. -/
def ringTablesSpec : ChangeSpec := { name := "ringTables", fn := fun _ => fun
  | [d1, d2] => { results := [.lit (.bool true)], args := [d1, d2] }
  | _ => none }
def ringTablesRow : OpenClaim := { program := "ytehhipanbjhffaa", sum := "af6cf5a71b7f8e552abe64688d5da90bf660a12cca2b086ace161b55aff32192", func := "wringer/wringerlaw10.RingTables", spec := "ringTables", unfollowed := true, recurses := true, apart := false }
def RingTablesSaid : Prop := ringTablesRow.holds Try.pinned (OpenSpec.ofChange ringTablesSpec)

/-- ITS FALSE NEIGHBOUR: 'it returns false'. Refute it at one input. -/
def ringTablesWrong : ChangeSpec := { name := "ringTables", fn := fun _ => fun
  | [d1, d2] => { results := [.lit (.bool false)], args := [d1, d2] }
  | _ => none }
def RingTablesWrongFalsely : Prop := ringTablesRow.holds Try.pinned (OpenSpec.ofChange ringTablesWrong)

/-- 'wringerlaw10.RingSteps': WHATEVER THE INPUT: true; the input reads as it did. -/
def ringStepsSpec : ChangeSpec := { name := "ringSteps", fn := fun _ => fun
  | [d1, d2, d3] => { results := [.lit (.bool true)], args := [d1, d2, d3] }
  | _ => none }
def ringStepsRow : OpenClaim := { program := "ytehhipanbjhffaa", sum := "af6cf5a71b7f8e552abe64688d5da90bf660a12cca2b086ace161b55aff32192", func := "wringer/wringerlaw10.RingSteps", spec := "ringSteps", unfollowed := true, recurses := true, apart := false }
def RingStepsSaid : Prop := ringStepsRow.holds Try.pinned (OpenSpec.ofChange ringStepsSpec)

/-- ITS FALSE NEIGHBOUR: 'it returns false'. Refute it at one input. -/
def ringStepsWrong : ChangeSpec := { name := "ringSteps", fn := fun _ => fun
  | [d1, d2, d3] => { results := [.lit (.bool false)], args := [d1, d2, d3] }
  | _ => none }
def RingStepsWrongFalsely : Prop := ringStepsRow.holds Try.pinned (OpenSpec.ofChange ringStepsWrong)

/-- 'wringerlaw10.RingRaised': WHATEVER THE INPUT: true; the input reads as it did. -/
def ringRaisedSpec : ChangeSpec := { name := "ringRaised", fn := fun _ => fun
  | [d1, d2, d3] => { results := [.lit (.bool true)], args := [d1, d2, d3] }
  | _ => none }
def ringRaisedRow : OpenClaim := { program := "ytehhipanbjhffaa", sum := "af6cf5a71b7f8e552abe64688d5da90bf660a12cca2b086ace161b55aff32192", func := "wringer/wringerlaw10.RingRaised", spec := "ringRaised", unfollowed := true, recurses := true, apart := false }
def RingRaisedSaid : Prop := ringRaisedRow.holds Try.pinned (OpenSpec.ofChange ringRaisedSpec)

/-- ITS FALSE NEIGHBOUR: 'it returns false'. Refute it at one input. -/
def ringRaisedWrong : ChangeSpec := { name := "ringRaised", fn := fun _ => fun
  | [d1, d2, d3] => { results := [.lit (.bool false)], args := [d1, d2, d3] }
  | _ => none }
def RingRaisedWrongFalsely : Prop := ringRaisedRow.holds Try.pinned (OpenSpec.ofChange ringRaisedWrong)

/-- 'wringerlaw10.RingDoubles': WHATEVER THE INPUT: true; the input reads as it did. -/
def ringDoublesSpec : ChangeSpec := { name := "ringDoubles", fn := fun _ => fun
  | [d1, d2, d3] => { results := [.lit (.bool true)], args := [d1, d2, d3] }
  | _ => none }
def ringDoublesRow : OpenClaim := { program := "ytehhipanbjhffaa", sum := "af6cf5a71b7f8e552abe64688d5da90bf660a12cca2b086ace161b55aff32192", func := "wringer/wringerlaw10.RingDoubles", spec := "ringDoubles", unfollowed := true, recurses := true, apart := false }
def RingDoublesSaid : Prop := ringDoublesRow.holds Try.pinned (OpenSpec.ofChange ringDoublesSpec)

/-- ITS FALSE NEIGHBOUR: 'it returns false'. Refute it at one input. -/
def ringDoublesWrong : ChangeSpec := { name := "ringDoubles", fn := fun _ => fun
  | [d1, d2, d3] => { results := [.lit (.bool false)], args := [d1, d2, d3] }
  | _ => none }
def RingDoublesWrongFalsely : Prop := ringDoublesRow.holds Try.pinned (OpenSpec.ofChange ringDoublesWrong)

/- THE SECOND FORM. 'bulk': how many values and letters a reading holds, each counted each time it is reached (what is shared counts as often as it is met; a slice's spare places count too). A statement '..UptoSaid' is the law's where the arguments, and the package variables that the reading takes, are together of bulk at most 1048576: NARROWER than '..Said'. Prove '..Said' where nothing that the law and all that it calls make is longer than what came in: it says more and counts as full. Else prove '..UptoSaid'. A law counts once. -/
mutual
def uptoBulk {H : Type} : DataW H → Nat
  | .lit (.string bytes) => bytes.length + 1
  | .lit _ => 1
  | .nil => 1
  | .ptr d => uptoBulk d + 1
  | .slice elems spare => uptoBulkAll elems + uptoBulkAll spare + 1
  | .agg parts => uptoBulkAll parts + 1
  | .iface _ d => uptoBulk d + 1
  | .map entries => uptoBulkEntries entries + 1
  | .held _ => 1
def uptoBulkAll {H : Type} : List (DataW H) → Nat
  | [] => 0
  | d :: r => uptoBulk d + uptoBulkAll r
def uptoBulkEntries {H : Type} : List (Lit × DataW H) → Nat
  | [] => 0
  | x :: r => uptoBulkEntry x + uptoBulkEntries r
def uptoBulkEntry {H : Type} : Lit × DataW H → Nat
  | (.string bytes, d) => bytes.length + uptoBulk d + 1
  | (_, d) => uptoBulk d + 1
 end
def uptoSmall : (H : Type) → List (DataW H) → Bool := fun _ ds => decide (uptoBulkAll ds ≤ 1048576)
def OpenSpec.upto (s : _root_.Go.ChangeSpec) : _root_.Go.OpenSpec := { _root_.Go.OpenSpec.ofChange s with cond := some uptoSmall }

/-- 'wringerlaw10.RingProducts', WHERE WHAT IT READS IS OF BULK AT MOST 1048576: true; the input reads as it did. -/
def ringProductsUptoRow : OpenClaim := { program := "ytehhipanbjhffaa", sum := "af6cf5a71b7f8e552abe64688d5da90bf660a12cca2b086ace161b55aff32192", func := "wringer/wringerlaw10.RingProducts", spec := "ringProducts", unfollowed := true, recurses := true, apart := false, narrowed := true }
def RingProductsUptoSaid : Prop := ringProductsUptoRow.holds Try.pinned (OpenSpec.upto ringProductsSpec)

/-- 'wringerlaw10.RingLaws', WHERE WHAT IT READS IS OF BULK AT MOST 1048576: true; the input reads as it did. -/
def ringLawsUptoRow : OpenClaim := { program := "ytehhipanbjhffaa", sum := "af6cf5a71b7f8e552abe64688d5da90bf660a12cca2b086ace161b55aff32192", func := "wringer/wringerlaw10.RingLaws", spec := "ringLaws", unfollowed := true, recurses := true, apart := false, narrowed := true }
def RingLawsUptoSaid : Prop := ringLawsUptoRow.holds Try.pinned (OpenSpec.upto ringLawsSpec)

/-- 'wringerlaw10.RingDots', WHERE WHAT IT READS IS OF BULK AT MOST 1048576: true; the input reads as it did. -/
def ringDotsUptoRow : OpenClaim := { program := "ytehhipanbjhffaa", sum := "af6cf5a71b7f8e552abe64688d5da90bf660a12cca2b086ace161b55aff32192", func := "wringer/wringerlaw10.RingDots", spec := "ringDots", unfollowed := true, recurses := true, apart := false, narrowed := true }
def RingDotsUptoSaid : Prop := ringDotsUptoRow.holds Try.pinned (OpenSpec.upto ringDotsSpec)

/-- 'wringerlaw10.RingApart', WHERE WHAT IT READS IS OF BULK AT MOST 1048576: true; the input reads as it did. -/
def ringApartUptoRow : OpenClaim := { program := "ytehhipanbjhffaa", sum := "af6cf5a71b7f8e552abe64688d5da90bf660a12cca2b086ace161b55aff32192", func := "wringer/wringerlaw10.RingApart", spec := "ringApart", unfollowed := true, recurses := true, apart := false, narrowed := true }
def RingApartUptoSaid : Prop := ringApartUptoRow.holds Try.pinned (OpenSpec.upto ringApartSpec)

/-- 'wringerlaw10.RingMultiples', WHERE WHAT IT READS IS OF BULK AT MOST 1048576: true; the input reads as it did. -/
def ringMultiplesUptoRow : OpenClaim := { program := "ytehhipanbjhffaa", sum := "af6cf5a71b7f8e552abe64688d5da90bf660a12cca2b086ace161b55aff32192", func := "wringer/wringerlaw10.RingMultiples", spec := "ringMultiples", unfollowed := true, recurses := true, apart := false, narrowed := true }
def RingMultiplesUptoSaid : Prop := ringMultiplesUptoRow.holds Try.pinned (OpenSpec.upto ringMultiplesSpec)

/-- 'wringerlaw10.RingTables', WHERE WHAT IT READS IS OF BULK AT MOST 1048576: true; the input reads as it did. -/
def ringTablesUptoRow : OpenClaim := { program := "ytehhipanbjhffaa", sum := "af6cf5a71b7f8e552abe64688d5da90bf660a12cca2b086ace161b55aff32192", func := "wringer/wringerlaw10.RingTables", spec := "ringTables", unfollowed := true, recurses := true, apart := false, narrowed := true }
def RingTablesUptoSaid : Prop := ringTablesUptoRow.holds Try.pinned (OpenSpec.upto ringTablesSpec)

/-- 'wringerlaw10.RingSteps', WHERE WHAT IT READS IS OF BULK AT MOST 1048576: true; the input reads as it did. -/
def ringStepsUptoRow : OpenClaim := { program := "ytehhipanbjhffaa", sum := "af6cf5a71b7f8e552abe64688d5da90bf660a12cca2b086ace161b55aff32192", func := "wringer/wringerlaw10.RingSteps", spec := "ringSteps", unfollowed := true, recurses := true, apart := false, narrowed := true }
def RingStepsUptoSaid : Prop := ringStepsUptoRow.holds Try.pinned (OpenSpec.upto ringStepsSpec)

/-- 'wringerlaw10.RingRaised', WHERE WHAT IT READS IS OF BULK AT MOST 1048576: true; the input reads as it did. -/
def ringRaisedUptoRow : OpenClaim := { program := "ytehhipanbjhffaa", sum := "af6cf5a71b7f8e552abe64688d5da90bf660a12cca2b086ace161b55aff32192", func := "wringer/wringerlaw10.RingRaised", spec := "ringRaised", unfollowed := true, recurses := true, apart := false, narrowed := true }
def RingRaisedUptoSaid : Prop := ringRaisedUptoRow.holds Try.pinned (OpenSpec.upto ringRaisedSpec)

/-- 'wringerlaw10.RingDoubles', WHERE WHAT IT READS IS OF BULK AT MOST 1048576: true; the input reads as it did. -/
def ringDoublesUptoRow : OpenClaim := { program := "ytehhipanbjhffaa", sum := "af6cf5a71b7f8e552abe64688d5da90bf660a12cca2b086ace161b55aff32192", func := "wringer/wringerlaw10.RingDoubles", spec := "ringDoubles", unfollowed := true, recurses := true, apart := false, narrowed := true }
def RingDoublesUptoSaid : Prop := ringDoublesUptoRow.holds Try.pinned (OpenSpec.upto ringDoublesSpec)

end Rows
end Go.Proofs.Ytehhipanbjhffaa
