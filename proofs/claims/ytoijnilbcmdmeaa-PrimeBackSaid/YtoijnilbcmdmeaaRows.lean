/-
  No cell of these rows narrows 'for every input' (looked for: loops, veiled, ifaces, maps, wideKeys, modest, calm, conditions, laid).
  DERIVED. THE GIVEN ROWS OF THIS SEAT. 27 by the template 'for every input the law returns true; each argument reads behind the call as it read before'; 0 by the template 'total and deterministic' (their statements: YtoijnilbcmdmeaaTotals.lean).
  GIVEN WITH THE SEED: the statements are not yours to turn. If you find one false, say at which input.
  Laid BY PROGRAM, IN A SANDBOX (cutbox-rows.mjs): the forced cells as the released guide's own fill.sh prints them over the translation 78b079e8a0106c71… (all of the seat's roots in one cut). By AI agents, Wed Nov 11 2026. No macro, syntax, notation, axiom, sorry.
-/
import Derived.Test.YtoijnilbcmdmeaaChecked
import GoSem.Claim
import GoSem.ClaimJoined
import GoSem.ClaimMapViews
import Derived.JoinedTies
import Derived.KernelRfl
namespace Go.Proofs.Ytoijnilbcmdmeaa
/- THE CELL 'sum', in the pinned program and in every row, IS THE sha256 OF THE DUMP (.gsa) THAT YtoijnilbcmdmeaaProg.lean LOADS. Nothing in Lean hashes anything: it is a label: what it is worth is what the hold of that sum in a sandbox is worth. -/
noncomputable def Try.pinned : Pinned := { name := "ytoijnilbcmdmeaa", sum := "78b079e8a0106c71f93527d9a00f3e84dc113ad29db5ff2e1563c81f39e52a92", checked := Try.checked }
namespace Rows
def none {H : Type} : Left H := { results := [], args := [] }

/-- 'wringerlaw07.PrimeSums': WHATEVER THE INPUT: true; the input reads as it did. -/
def primeSumsSpec : ChangeSpec := { name := "primeSums", fn := fun _ => fun
  | [d1, d2] => { results := [.lit (.bool true)], args := [d1, d2] }
  | _ => none }
def primeSumsRow : OpenClaim := { program := "ytoijnilbcmdmeaa", sum := "78b079e8a0106c71f93527d9a00f3e84dc113ad29db5ff2e1563c81f39e52a92", func := "wringer/wringerlaw07.PrimeSums", spec := "primeSums", apart := false }
def PrimeSumsSaid : Prop := primeSumsRow.holds Try.pinned (OpenSpec.ofChange primeSumsSpec)

/-- ITS FALSE NEIGHBOUR: 'it returns false'. Refute it at one input. -/
def primeSumsWrong : ChangeSpec := { name := "primeSums", fn := fun _ => fun
  | [d1, d2] => { results := [.lit (.bool false)], args := [d1, d2] }
  | _ => none }
def PrimeSumsWrongFalsely : Prop := primeSumsRow.holds Try.pinned (OpenSpec.ofChange primeSumsWrong)

/-- 'wringerlaw07.PrimeCancel': WHATEVER THE INPUT: true; the input reads as it did. -/
def primeCancelSpec : ChangeSpec := { name := "primeCancel", fn := fun _ => fun
  | [d1, d2, d3] => { results := [.lit (.bool true)], args := [d1, d2, d3] }
  | _ => none }
def primeCancelRow : OpenClaim := { program := "ytoijnilbcmdmeaa", sum := "78b079e8a0106c71f93527d9a00f3e84dc113ad29db5ff2e1563c81f39e52a92", func := "wringer/wringerlaw07.PrimeCancel", spec := "primeCancel", apart := false }
def PrimeCancelSaid : Prop := primeCancelRow.holds Try.pinned (OpenSpec.ofChange primeCancelSpec)

/-- ITS FALSE NEIGHBOUR: 'it returns false'. Refute it at one input. -/
def primeCancelWrong : ChangeSpec := { name := "primeCancel", fn := fun _ => fun
  | [d1, d2, d3] => { results := [.lit (.bool false)], args := [d1, d2, d3] }
  | _ => none }
def PrimeCancelWrongFalsely : Prop := primeCancelRow.holds Try.pinned (OpenSpec.ofChange primeCancelWrong)

/-- 'wringerlaw07.PrimeProducts': WHATEVER THE INPUT: true; the input reads as it did. -/
def primeProductsSpec : ChangeSpec := { name := "primeProducts", fn := fun _ => fun
  | [d1, d2] => { results := [.lit (.bool true)], args := [d1, d2] }
  | _ => none }
def primeProductsRow : OpenClaim := { program := "ytoijnilbcmdmeaa", sum := "78b079e8a0106c71f93527d9a00f3e84dc113ad29db5ff2e1563c81f39e52a92", func := "wringer/wringerlaw07.PrimeProducts", spec := "primeProducts", apart := false }
def PrimeProductsSaid : Prop := primeProductsRow.holds Try.pinned (OpenSpec.ofChange primeProductsSpec)

/-- ITS FALSE NEIGHBOUR: 'it returns false'. Refute it at one input. -/
def primeProductsWrong : ChangeSpec := { name := "primeProducts", fn := fun _ => fun
  | [d1, d2] => { results := [.lit (.bool false)], args := [d1, d2] }
  | _ => none }
def PrimeProductsWrongFalsely : Prop := primeProductsRow.holds Try.pinned (OpenSpec.ofChange primeProductsWrong)

/-- 'wringerlaw07.PrimeField': WHATEVER THE INPUT: true; the input reads as it did. -/
def primeFieldSpec : ChangeSpec := { name := "primeField", fn := fun _ => fun
  | [d1, d2, d3] => { results := [.lit (.bool true)], args := [d1, d2, d3] }
  | _ => none }
def primeFieldRow : OpenClaim := { program := "ytoijnilbcmdmeaa", sum := "78b079e8a0106c71f93527d9a00f3e84dc113ad29db5ff2e1563c81f39e52a92", func := "wringer/wringerlaw07.PrimeField", spec := "primeField", apart := false }
def PrimeFieldSaid : Prop := primeFieldRow.holds Try.pinned (OpenSpec.ofChange primeFieldSpec)

/-- ITS FALSE NEIGHBOUR: 'it returns false'. Refute it at one input. -/
def primeFieldWrong : ChangeSpec := { name := "primeField", fn := fun _ => fun
  | [d1, d2, d3] => { results := [.lit (.bool false)], args := [d1, d2, d3] }
  | _ => none }
def PrimeFieldWrongFalsely : Prop := primeFieldRow.holds Try.pinned (OpenSpec.ofChange primeFieldWrong)

/-- 'wringerlaw07.PrimeFold': WHATEVER THE INPUT: true; the input reads as it did. -/
def primeFoldSpec : ChangeSpec := { name := "primeFold", fn := fun _ => fun
  | [d] => { results := [.lit (.bool true)], args := [d] }
  | _ => none }
def primeFoldRow : OpenClaim := { program := "ytoijnilbcmdmeaa", sum := "78b079e8a0106c71f93527d9a00f3e84dc113ad29db5ff2e1563c81f39e52a92", func := "wringer/wringerlaw07.PrimeFold", spec := "primeFold", apart := false }
def PrimeFoldSaid : Prop := primeFoldRow.holds Try.pinned (OpenSpec.ofChange primeFoldSpec)

/-- ITS FALSE NEIGHBOUR: 'it returns false'. Refute it at one input. -/
def primeFoldWrong : ChangeSpec := { name := "primeFold", fn := fun _ => fun
  | [d] => { results := [.lit (.bool false)], args := [d] }
  | _ => none }
def PrimeFoldWrongFalsely : Prop := primeFoldRow.holds Try.pinned (OpenSpec.ofChange primeFoldWrong)

/-- 'wringerlaw09.NhHashes': WHATEVER THE INPUT: true; the input reads as it did. -/
def nhHashesSpec : ChangeSpec := { name := "nhHashes", fn := fun _ => fun
  | [d1, d2] => { results := [.lit (.bool true)], args := [d1, d2] }
  | _ => none }
def nhHashesRow : OpenClaim := { program := "ytoijnilbcmdmeaa", sum := "78b079e8a0106c71f93527d9a00f3e84dc113ad29db5ff2e1563c81f39e52a92", func := "wringer/wringerlaw09.NhHashes", spec := "nhHashes", unfollowed := true, recurses := true, apart := false }
def NhHashesSaid : Prop := nhHashesRow.holds Try.pinned (OpenSpec.ofChange nhHashesSpec)

/-- ITS FALSE NEIGHBOUR: 'it returns false'. Refute it at one input. -/
def nhHashesWrong : ChangeSpec := { name := "nhHashes", fn := fun _ => fun
  | [d1, d2] => { results := [.lit (.bool false)], args := [d1, d2] }
  | _ => none }
def NhHashesWrongFalsely : Prop := nhHashesRow.holds Try.pinned (OpenSpec.ofChange nhHashesWrong)

/-- 'wringerlaw09.NhPasses': WHATEVER THE INPUT: true; the input reads as it did. -/
def nhPassesSpec : ChangeSpec := { name := "nhPasses", fn := fun _ => fun
  | [d1, d2] => { results := [.lit (.bool true)], args := [d1, d2] }
  | _ => none }
def nhPassesRow : OpenClaim := { program := "ytoijnilbcmdmeaa", sum := "78b079e8a0106c71f93527d9a00f3e84dc113ad29db5ff2e1563c81f39e52a92", func := "wringer/wringerlaw09.NhPasses", spec := "nhPasses", unfollowed := true, recurses := true, apart := false }
def NhPassesSaid : Prop := nhPassesRow.holds Try.pinned (OpenSpec.ofChange nhPassesSpec)

/-- ITS FALSE NEIGHBOUR: 'it returns false'. Refute it at one input. -/
def nhPassesWrong : ChangeSpec := { name := "nhPasses", fn := fun _ => fun
  | [d1, d2] => { results := [.lit (.bool false)], args := [d1, d2] }
  | _ => none }
def NhPassesWrongFalsely : Prop := nhPassesRow.holds Try.pinned (OpenSpec.ofChange nhPassesWrong)

/-- 'wringerlaw09.NhMore': WHATEVER THE INPUT: true; the input reads as it did. -/
def nhMoreSpec : ChangeSpec := { name := "nhMore", fn := fun _ => fun
  | [d1, d2, d3] => { results := [.lit (.bool true)], args := [d1, d2, d3] }
  | _ => none }
def nhMoreRow : OpenClaim := { program := "ytoijnilbcmdmeaa", sum := "78b079e8a0106c71f93527d9a00f3e84dc113ad29db5ff2e1563c81f39e52a92", func := "wringer/wringerlaw09.NhMore", spec := "nhMore", unfollowed := true, recurses := true, apart := false }
def NhMoreSaid : Prop := nhMoreRow.holds Try.pinned (OpenSpec.ofChange nhMoreSpec)

/-- ITS FALSE NEIGHBOUR: 'it returns false'. Refute it at one input. -/
def nhMoreWrong : ChangeSpec := { name := "nhMore", fn := fun _ => fun
  | [d1, d2, d3] => { results := [.lit (.bool false)], args := [d1, d2, d3] }
  | _ => none }
def NhMoreWrongFalsely : Prop := nhMoreRow.holds Try.pinned (OpenSpec.ofChange nhMoreWrong)

/-- 'wringerlaw09.NhJoins': WHATEVER THE INPUT: true; the input reads as it did. -/
def nhJoinsSpec : ChangeSpec := { name := "nhJoins", fn := fun _ => fun
  | [d1, d2, d3] => { results := [.lit (.bool true)], args := [d1, d2, d3] }
  | _ => none }
def nhJoinsRow : OpenClaim := { program := "ytoijnilbcmdmeaa", sum := "78b079e8a0106c71f93527d9a00f3e84dc113ad29db5ff2e1563c81f39e52a92", func := "wringer/wringerlaw09.NhJoins", spec := "nhJoins", unfollowed := true, recurses := true, apart := false }
def NhJoinsSaid : Prop := nhJoinsRow.holds Try.pinned (OpenSpec.ofChange nhJoinsSpec)

/-- ITS FALSE NEIGHBOUR: 'it returns false'. Refute it at one input. -/
def nhJoinsWrong : ChangeSpec := { name := "nhJoins", fn := fun _ => fun
  | [d1, d2, d3] => { results := [.lit (.bool false)], args := [d1, d2, d3] }
  | _ => none }
def NhJoinsWrongFalsely : Prop := nhJoinsRow.holds Try.pinned (OpenSpec.ofChange nhJoinsWrong)

/-- 'wringerlaw09.NhSwaps': WHATEVER THE INPUT: true; the input reads as it did. -/
def nhSwapsSpec : ChangeSpec := { name := "nhSwaps", fn := fun _ => fun
  | [d1, d2] => { results := [.lit (.bool true)], args := [d1, d2] }
  | _ => none }
def nhSwapsRow : OpenClaim := { program := "ytoijnilbcmdmeaa", sum := "78b079e8a0106c71f93527d9a00f3e84dc113ad29db5ff2e1563c81f39e52a92", func := "wringer/wringerlaw09.NhSwaps", spec := "nhSwaps", unfollowed := true, recurses := true, apart := false }
def NhSwapsSaid : Prop := nhSwapsRow.holds Try.pinned (OpenSpec.ofChange nhSwapsSpec)

/-- ITS FALSE NEIGHBOUR: 'it returns false'. Refute it at one input. -/
def nhSwapsWrong : ChangeSpec := { name := "nhSwaps", fn := fun _ => fun
  | [d1, d2] => { results := [.lit (.bool false)], args := [d1, d2] }
  | _ => none }
def NhSwapsWrongFalsely : Prop := nhSwapsRow.holds Try.pinned (OpenSpec.ofChange nhSwapsWrong)

/-- 'wringerlaw07.PrimeForms': WHATEVER THE INPUT: true; the input reads as it did. -/
def primeFormsSpec : ChangeSpec := { name := "primeForms", fn := fun _ => fun
  | [d] => { results := [.lit (.bool true)], args := [d] }
  | _ => none }
def primeFormsRow : OpenClaim := { program := "ytoijnilbcmdmeaa", sum := "78b079e8a0106c71f93527d9a00f3e84dc113ad29db5ff2e1563c81f39e52a92", func := "wringer/wringerlaw07.PrimeForms", spec := "primeForms", apart := false }
def PrimeFormsSaid : Prop := primeFormsRow.holds Try.pinned (OpenSpec.ofChange primeFormsSpec)

/-- ITS FALSE NEIGHBOUR: 'it returns false'. Refute it at one input. -/
def primeFormsWrong : ChangeSpec := { name := "primeForms", fn := fun _ => fun
  | [d] => { results := [.lit (.bool false)], args := [d] }
  | _ => none }
def PrimeFormsWrongFalsely : Prop := primeFormsRow.holds Try.pinned (OpenSpec.ofChange primeFormsWrong)

/-- 'wringerlaw07.PrimeRing': WHATEVER THE INPUT: true; the input reads as it did. -/
def primeRingSpec : ChangeSpec := { name := "primeRing", fn := fun _ => fun
  | [d1, d2, d3] => { results := [.lit (.bool true)], args := [d1, d2, d3] }
  | _ => none }
def primeRingRow : OpenClaim := { program := "ytoijnilbcmdmeaa", sum := "78b079e8a0106c71f93527d9a00f3e84dc113ad29db5ff2e1563c81f39e52a92", func := "wringer/wringerlaw07.PrimeRing", spec := "primeRing", apart := false }
def PrimeRingSaid : Prop := primeRingRow.holds Try.pinned (OpenSpec.ofChange primeRingSpec)

/-- ITS FALSE NEIGHBOUR: 'it returns false'. Refute it at one input. -/
def primeRingWrong : ChangeSpec := { name := "primeRing", fn := fun _ => fun
  | [d1, d2, d3] => { results := [.lit (.bool false)], args := [d1, d2, d3] }
  | _ => none }
def PrimeRingWrongFalsely : Prop := primeRingRow.holds Try.pinned (OpenSpec.ofChange primeRingWrong)

/-- 'wringerlaw07.PrimeMakes': WHATEVER THE INPUT: true; the input reads as it did. -/
def primeMakesSpec : ChangeSpec := { name := "primeMakes", fn := fun _ => fun
  | [d1, d2] => { results := [.lit (.bool true)], args := [d1, d2] }
  | _ => none }
def primeMakesRow : OpenClaim := { program := "ytoijnilbcmdmeaa", sum := "78b079e8a0106c71f93527d9a00f3e84dc113ad29db5ff2e1563c81f39e52a92", func := "wringer/wringerlaw07.PrimeMakes", spec := "primeMakes", unfollowed := true, recurses := true, apart := false }
def PrimeMakesSaid : Prop := primeMakesRow.holds Try.pinned (OpenSpec.ofChange primeMakesSpec)

/-- ITS FALSE NEIGHBOUR: 'it returns false'. Refute it at one input. -/
def primeMakesWrong : ChangeSpec := { name := "primeMakes", fn := fun _ => fun
  | [d1, d2] => { results := [.lit (.bool false)], args := [d1, d2] }
  | _ => none }
def PrimeMakesWrongFalsely : Prop := primeMakesRow.holds Try.pinned (OpenSpec.ofChange primeMakesWrong)

/-- 'wringerlaw09.NhWords': WHATEVER THE INPUT: true; the input reads as it did. -/
def nhWordsSpec : ChangeSpec := { name := "nhWords", fn := fun _ => fun
  | [d] => { results := [.lit (.bool true)], args := [d] }
  | _ => none }
def nhWordsRow : OpenClaim := { program := "ytoijnilbcmdmeaa", sum := "78b079e8a0106c71f93527d9a00f3e84dc113ad29db5ff2e1563c81f39e52a92", func := "wringer/wringerlaw09.NhWords", spec := "nhWords", unfollowed := true, recurses := true, apart := false }
def NhWordsSaid : Prop := nhWordsRow.holds Try.pinned (OpenSpec.ofChange nhWordsSpec)

/-- ITS FALSE NEIGHBOUR: 'it returns false'. Refute it at one input. -/
def nhWordsWrong : ChangeSpec := { name := "nhWords", fn := fun _ => fun
  | [d] => { results := [.lit (.bool false)], args := [d] }
  | _ => none }
def NhWordsWrongFalsely : Prop := nhWordsRow.holds Try.pinned (OpenSpec.ofChange nhWordsWrong)

/-- 'wringerlaw07.PrimeBack': WHATEVER THE INPUT: true; the input reads as it did. -/
def primeBackSpec : ChangeSpec := { name := "primeBack", fn := fun _ => fun
  | [d1, d2] => { results := [.lit (.bool true)], args := [d1, d2] }
  | _ => none }
def primeBackRow : OpenClaim := { program := "ytoijnilbcmdmeaa", sum := "78b079e8a0106c71f93527d9a00f3e84dc113ad29db5ff2e1563c81f39e52a92", func := "wringer/wringerlaw07.PrimeBack", spec := "primeBack", unfollowed := true, recurses := true, apart := false }
def PrimeBackSaid : Prop := primeBackRow.holds Try.pinned (OpenSpec.ofChange primeBackSpec)

/-- ITS FALSE NEIGHBOUR: 'it returns false'. Refute it at one input. -/
def primeBackWrong : ChangeSpec := { name := "primeBack", fn := fun _ => fun
  | [d1, d2] => { results := [.lit (.bool false)], args := [d1, d2] }
  | _ => none }
def PrimeBackWrongFalsely : Prop := primeBackRow.holds Try.pinned (OpenSpec.ofChange primeBackWrong)

/-- 'wringerlaw08.PolyHashes': WHATEVER THE INPUT: true; the input reads as it did. -/
def polyHashesSpec : ChangeSpec := { name := "polyHashes", fn := fun _ => fun
  | [d1, d2] => { results := [.lit (.bool true)], args := [d1, d2] }
  | _ => none }
def polyHashesRow : OpenClaim := { program := "ytoijnilbcmdmeaa", sum := "78b079e8a0106c71f93527d9a00f3e84dc113ad29db5ff2e1563c81f39e52a92", func := "wringer/wringerlaw08.PolyHashes", spec := "polyHashes", unfollowed := true, recurses := true, apart := false }
def PolyHashesSaid : Prop := polyHashesRow.holds Try.pinned (OpenSpec.ofChange polyHashesSpec)

/-- ITS FALSE NEIGHBOUR: 'it returns false'. Refute it at one input. -/
def polyHashesWrong : ChangeSpec := { name := "polyHashes", fn := fun _ => fun
  | [d1, d2] => { results := [.lit (.bool false)], args := [d1, d2] }
  | _ => none }
def PolyHashesWrongFalsely : Prop := polyHashesRow.holds Try.pinned (OpenSpec.ofChange polyHashesWrong)

/-- 'wringerlaw08.PolyParts': WHATEVER THE INPUT: true; the input reads as it did. -/
def polyPartsSpec : ChangeSpec := { name := "polyParts", fn := fun _ => fun
  | [d1, d2] => { results := [.lit (.bool true)], args := [d1, d2] }
  | _ => none }
def polyPartsRow : OpenClaim := { program := "ytoijnilbcmdmeaa", sum := "78b079e8a0106c71f93527d9a00f3e84dc113ad29db5ff2e1563c81f39e52a92", func := "wringer/wringerlaw08.PolyParts", spec := "polyParts", unfollowed := true, recurses := true, apart := false }
def PolyPartsSaid : Prop := polyPartsRow.holds Try.pinned (OpenSpec.ofChange polyPartsSpec)

/-- ITS FALSE NEIGHBOUR: 'it returns false'. Refute it at one input. -/
def polyPartsWrong : ChangeSpec := { name := "polyParts", fn := fun _ => fun
  | [d1, d2] => { results := [.lit (.bool false)], args := [d1, d2] }
  | _ => none }
def PolyPartsWrongFalsely : Prop := polyPartsRow.holds Try.pinned (OpenSpec.ofChange polyPartsWrong)

/-- 'wringerlaw08.PolyOn': WHATEVER THE INPUT: true; the input reads as it did. -/
def polyOnSpec : ChangeSpec := { name := "polyOn", fn := fun _ => fun
  | [d1, d2, d3] => { results := [.lit (.bool true)], args := [d1, d2, d3] }
  | _ => none }
def polyOnRow : OpenClaim := { program := "ytoijnilbcmdmeaa", sum := "78b079e8a0106c71f93527d9a00f3e84dc113ad29db5ff2e1563c81f39e52a92", func := "wringer/wringerlaw08.PolyOn", spec := "polyOn", unfollowed := true, recurses := true, apart := false }
def PolyOnSaid : Prop := polyOnRow.holds Try.pinned (OpenSpec.ofChange polyOnSpec)

/-- ITS FALSE NEIGHBOUR: 'it returns false'. Refute it at one input. -/
def polyOnWrong : ChangeSpec := { name := "polyOn", fn := fun _ => fun
  | [d1, d2, d3] => { results := [.lit (.bool false)], args := [d1, d2, d3] }
  | _ => none }
def PolyOnWrongFalsely : Prop := polyOnRow.holds Try.pinned (OpenSpec.ofChange polyOnWrong)

/-- 'wringerlaw08.PolyOne': WHATEVER THE INPUT: true; the input reads as it did. -/
def polyOneSpec : ChangeSpec := { name := "polyOne", fn := fun _ => fun
  | [d1, d2, d3] => { results := [.lit (.bool true)], args := [d1, d2, d3] }
  | _ => none }
def polyOneRow : OpenClaim := { program := "ytoijnilbcmdmeaa", sum := "78b079e8a0106c71f93527d9a00f3e84dc113ad29db5ff2e1563c81f39e52a92", func := "wringer/wringerlaw08.PolyOne", spec := "polyOne", unfollowed := true, recurses := true, apart := false }
def PolyOneSaid : Prop := polyOneRow.holds Try.pinned (OpenSpec.ofChange polyOneSpec)

/-- ITS FALSE NEIGHBOUR: 'it returns false'. Refute it at one input. -/
def polyOneWrong : ChangeSpec := { name := "polyOne", fn := fun _ => fun
  | [d1, d2, d3] => { results := [.lit (.bool false)], args := [d1, d2, d3] }
  | _ => none }
def PolyOneWrongFalsely : Prop := polyOneRow.holds Try.pinned (OpenSpec.ofChange polyOneWrong)

/-- 'wringerlaw08.PolyClamped': WHATEVER THE INPUT: true; the input reads as it did. -/
def polyClampedSpec : ChangeSpec := { name := "polyClamped", fn := fun _ => fun
  | [d1, d2] => { results := [.lit (.bool true)], args := [d1, d2] }
  | _ => none }
def polyClampedRow : OpenClaim := { program := "ytoijnilbcmdmeaa", sum := "78b079e8a0106c71f93527d9a00f3e84dc113ad29db5ff2e1563c81f39e52a92", func := "wringer/wringerlaw08.PolyClamped", spec := "polyClamped", unfollowed := true, recurses := true, apart := false }
def PolyClampedSaid : Prop := polyClampedRow.holds Try.pinned (OpenSpec.ofChange polyClampedSpec)

/-- ITS FALSE NEIGHBOUR: 'it returns false'. Refute it at one input. -/
def polyClampedWrong : ChangeSpec := { name := "polyClamped", fn := fun _ => fun
  | [d1, d2] => { results := [.lit (.bool false)], args := [d1, d2] }
  | _ => none }
def PolyClampedWrongFalsely : Prop := polyClampedRow.holds Try.pinned (OpenSpec.ofChange polyClampedWrong)

/-- 'wringerlaw08.PolyLinear': WHATEVER THE INPUT: true; the input reads as it did. -/
def polyLinearSpec : ChangeSpec := { name := "polyLinear", fn := fun _ => fun
  | [d1, d2] => { results := [.lit (.bool true)], args := [d1, d2] }
  | _ => none }
def polyLinearRow : OpenClaim := { program := "ytoijnilbcmdmeaa", sum := "78b079e8a0106c71f93527d9a00f3e84dc113ad29db5ff2e1563c81f39e52a92", func := "wringer/wringerlaw08.PolyLinear", spec := "polyLinear", unfollowed := true, recurses := true, apart := false }
def PolyLinearSaid : Prop := polyLinearRow.holds Try.pinned (OpenSpec.ofChange polyLinearSpec)

/-- ITS FALSE NEIGHBOUR: 'it returns false'. Refute it at one input. -/
def polyLinearWrong : ChangeSpec := { name := "polyLinear", fn := fun _ => fun
  | [d1, d2] => { results := [.lit (.bool false)], args := [d1, d2] }
  | _ => none }
def PolyLinearWrongFalsely : Prop := polyLinearRow.holds Try.pinned (OpenSpec.ofChange polyLinearWrong)

/-- 'wringerlaw12.AdhashKeys': WHATEVER THE INPUT: true; the input reads as it did. -/
def adhashKeysSpec : ChangeSpec := { name := "adhashKeys", fn := fun _ => fun
  | [d] => { results := [.lit (.bool true)], args := [d] }
  | _ => none }
def adhashKeysRow : OpenClaim := { program := "ytoijnilbcmdmeaa", sum := "78b079e8a0106c71f93527d9a00f3e84dc113ad29db5ff2e1563c81f39e52a92", func := "wringer/wringerlaw12.AdhashKeys", spec := "adhashKeys", inPlace := ["math/bits.Add64"], unfollowed := true, recurses := true, apart := false }
def AdhashKeysSaid : Prop := adhashKeysRow.holds Try.pinned (OpenSpec.ofChange adhashKeysSpec)

/-- ITS FALSE NEIGHBOUR: 'it returns false'. Refute it at one input. -/
def adhashKeysWrong : ChangeSpec := { name := "adhashKeys", fn := fun _ => fun
  | [d] => { results := [.lit (.bool false)], args := [d] }
  | _ => none }
def AdhashKeysWrongFalsely : Prop := adhashKeysRow.holds Try.pinned (OpenSpec.ofChange adhashKeysWrong)

/-- 'wringerlaw12.AdhashHeads': WHATEVER THE INPUT: true; the input reads as it did. -/
def adhashHeadsSpec : ChangeSpec := { name := "adhashHeads", fn := fun _ => fun
  | [d1, d2, d3] => { results := [.lit (.bool true)], args := [d1, d2, d3] }
  | _ => none }
def adhashHeadsRow : OpenClaim := { program := "ytoijnilbcmdmeaa", sum := "78b079e8a0106c71f93527d9a00f3e84dc113ad29db5ff2e1563c81f39e52a92", func := "wringer/wringerlaw12.AdhashHeads", spec := "adhashHeads", inPlace := ["math/bits.Add64"], unfollowed := true, recurses := true, apart := false }
def AdhashHeadsSaid : Prop := adhashHeadsRow.holds Try.pinned (OpenSpec.ofChange adhashHeadsSpec)

/-- ITS FALSE NEIGHBOUR: 'it returns false'. Refute it at one input. -/
def adhashHeadsWrong : ChangeSpec := { name := "adhashHeads", fn := fun _ => fun
  | [d1, d2, d3] => { results := [.lit (.bool false)], args := [d1, d2, d3] }
  | _ => none }
def AdhashHeadsWrongFalsely : Prop := adhashHeadsRow.holds Try.pinned (OpenSpec.ofChange adhashHeadsWrong)

/-- 'wringerlaw12.AdhashSums': WHATEVER THE INPUT: true; the input reads as it did. -/
def adhashSumsSpec : ChangeSpec := { name := "adhashSums", fn := fun _ => fun
  | [d1, d2, d3] => { results := [.lit (.bool true)], args := [d1, d2, d3] }
  | _ => none }
def adhashSumsRow : OpenClaim := { program := "ytoijnilbcmdmeaa", sum := "78b079e8a0106c71f93527d9a00f3e84dc113ad29db5ff2e1563c81f39e52a92", func := "wringer/wringerlaw12.AdhashSums", spec := "adhashSums", inPlace := ["math/bits.Add64"], unfollowed := true, recurses := true, apart := false }
def AdhashSumsSaid : Prop := adhashSumsRow.holds Try.pinned (OpenSpec.ofChange adhashSumsSpec)

/-- ITS FALSE NEIGHBOUR: 'it returns false'. Refute it at one input. -/
def adhashSumsWrong : ChangeSpec := { name := "adhashSums", fn := fun _ => fun
  | [d1, d2, d3] => { results := [.lit (.bool false)], args := [d1, d2, d3] }
  | _ => none }
def AdhashSumsWrongFalsely : Prop := adhashSumsRow.holds Try.pinned (OpenSpec.ofChange adhashSumsWrong)

/-- 'wringerlaw12.AdhashPads': WHATEVER THE INPUT: true; the input reads as it did. -/
def adhashPadsSpec : ChangeSpec := { name := "adhashPads", fn := fun _ => fun
  | [d1, d2] => { results := [.lit (.bool true)], args := [d1, d2] }
  | _ => none }
def adhashPadsRow : OpenClaim := { program := "ytoijnilbcmdmeaa", sum := "78b079e8a0106c71f93527d9a00f3e84dc113ad29db5ff2e1563c81f39e52a92", func := "wringer/wringerlaw12.AdhashPads", spec := "adhashPads", inPlace := ["math/bits.Add64"], unfollowed := true, recurses := true, apart := false }
def AdhashPadsSaid : Prop := adhashPadsRow.holds Try.pinned (OpenSpec.ofChange adhashPadsSpec)

/-- ITS FALSE NEIGHBOUR: 'it returns false'. Refute it at one input. -/
def adhashPadsWrong : ChangeSpec := { name := "adhashPads", fn := fun _ => fun
  | [d1, d2] => { results := [.lit (.bool false)], args := [d1, d2] }
  | _ => none }
def AdhashPadsWrongFalsely : Prop := adhashPadsRow.holds Try.pinned (OpenSpec.ofChange adhashPadsWrong)

/-- 'wringerlaw12.AdhashPieces': WHATEVER THE INPUT: true; the input reads as it did. -/
def adhashPiecesSpec : ChangeSpec := { name := "adhashPieces", fn := fun _ => fun
  | [d1, d2] => { results := [.lit (.bool true)], args := [d1, d2] }
  | _ => none }
def adhashPiecesRow : OpenClaim := { program := "ytoijnilbcmdmeaa", sum := "78b079e8a0106c71f93527d9a00f3e84dc113ad29db5ff2e1563c81f39e52a92", func := "wringer/wringerlaw12.AdhashPieces", spec := "adhashPieces", inPlace := ["math/bits.Add64"], unfollowed := true, recurses := true, apart := false }
def AdhashPiecesSaid : Prop := adhashPiecesRow.holds Try.pinned (OpenSpec.ofChange adhashPiecesSpec)

/-- ITS FALSE NEIGHBOUR: 'it returns false'. Refute it at one input. -/
def adhashPiecesWrong : ChangeSpec := { name := "adhashPieces", fn := fun _ => fun
  | [d1, d2] => { results := [.lit (.bool false)], args := [d1, d2] }
  | _ => none }
def AdhashPiecesWrongFalsely : Prop := adhashPiecesRow.holds Try.pinned (OpenSpec.ofChange adhashPiecesWrong)

/-- 'wringerlaw12.AdhashBoth': WHATEVER THE INPUT: true; the input reads as it did. -/
def adhashBothSpec : ChangeSpec := { name := "adhashBoth", fn := fun _ => fun
  | [d] => { results := [.lit (.bool true)], args := [d] }
  | _ => none }
def adhashBothRow : OpenClaim := { program := "ytoijnilbcmdmeaa", sum := "78b079e8a0106c71f93527d9a00f3e84dc113ad29db5ff2e1563c81f39e52a92", func := "wringer/wringerlaw12.AdhashBoth", spec := "adhashBoth", inPlace := ["math/bits.Add64", "math/bits.Sub64"], unfollowed := true, recurses := true, apart := false }
def AdhashBothSaid : Prop := adhashBothRow.holds Try.pinned (OpenSpec.ofChange adhashBothSpec)

/-- ITS FALSE NEIGHBOUR: 'it returns false'. Refute it at one input. -/
def adhashBothWrong : ChangeSpec := { name := "adhashBoth", fn := fun _ => fun
  | [d] => { results := [.lit (.bool false)], args := [d] }
  | _ => none }
def AdhashBothWrongFalsely : Prop := adhashBothRow.holds Try.pinned (OpenSpec.ofChange adhashBothWrong)

/- THE SECOND FORM. 'bulk': how many values and letters a reading holds, each counted each time it is reached (what is shared counts as often as it is met; a slice's spare places count too). A statement '..UptoSaid' is the law's where the arguments, and the package variables that the reading takes, are together of bulk at most 1048576: NARROWER than '..Said'. Prove '..Said' where nothing that the law and all that it calls make is longer than what came in: it says more and counts as full. Else prove '..UptoSaid'. A law counts once. -/
mutual
def uptoBulk {H : Type} : DataW H → Nat
  | .lit (.string bytes) => bytes.length + 1
  | .lit _ => 1
  | .nil => 1
  | .ptr d => uptoBulk d + 1
  | .slice elems spare => uptoBulkAll elems + uptoBulkAll spare + 1
  | .agg parts => uptoBulkAll parts + 1
  | .iface _ d => uptoBulk d + 1
  | .map entries => uptoBulkEntries entries + 1
  | .held _ => 1
def uptoBulkAll {H : Type} : List (DataW H) → Nat
  | [] => 0
  | d :: r => uptoBulk d + uptoBulkAll r
def uptoBulkEntries {H : Type} : List (Lit × DataW H) → Nat
  | [] => 0
  | x :: r => uptoBulkEntry x + uptoBulkEntries r
def uptoBulkEntry {H : Type} : Lit × DataW H → Nat
  | (.string bytes, d) => bytes.length + uptoBulk d + 1
  | (_, d) => uptoBulk d + 1
 end
def uptoSmall : (H : Type) → List (DataW H) → Bool := fun _ ds => decide (uptoBulkAll ds ≤ 1048576)
def OpenSpec.upto (s : _root_.Go.ChangeSpec) : _root_.Go.OpenSpec := { _root_.Go.OpenSpec.ofChange s with cond := some uptoSmall }

/-- 'wringerlaw07.PrimeSums', WHERE WHAT IT READS IS OF BULK AT MOST 1048576: true; the input reads as it did. -/
def primeSumsUptoRow : OpenClaim := { program := "ytoijnilbcmdmeaa", sum := "78b079e8a0106c71f93527d9a00f3e84dc113ad29db5ff2e1563c81f39e52a92", func := "wringer/wringerlaw07.PrimeSums", spec := "primeSums", apart := false, narrowed := true }
def PrimeSumsUptoSaid : Prop := primeSumsUptoRow.holds Try.pinned (OpenSpec.upto primeSumsSpec)

/-- 'wringerlaw07.PrimeCancel', WHERE WHAT IT READS IS OF BULK AT MOST 1048576: true; the input reads as it did. -/
def primeCancelUptoRow : OpenClaim := { program := "ytoijnilbcmdmeaa", sum := "78b079e8a0106c71f93527d9a00f3e84dc113ad29db5ff2e1563c81f39e52a92", func := "wringer/wringerlaw07.PrimeCancel", spec := "primeCancel", apart := false, narrowed := true }
def PrimeCancelUptoSaid : Prop := primeCancelUptoRow.holds Try.pinned (OpenSpec.upto primeCancelSpec)

/-- 'wringerlaw07.PrimeProducts', WHERE WHAT IT READS IS OF BULK AT MOST 1048576: true; the input reads as it did. -/
def primeProductsUptoRow : OpenClaim := { program := "ytoijnilbcmdmeaa", sum := "78b079e8a0106c71f93527d9a00f3e84dc113ad29db5ff2e1563c81f39e52a92", func := "wringer/wringerlaw07.PrimeProducts", spec := "primeProducts", apart := false, narrowed := true }
def PrimeProductsUptoSaid : Prop := primeProductsUptoRow.holds Try.pinned (OpenSpec.upto primeProductsSpec)

/-- 'wringerlaw07.PrimeField', WHERE WHAT IT READS IS OF BULK AT MOST 1048576: true; the input reads as it did. -/
def primeFieldUptoRow : OpenClaim := { program := "ytoijnilbcmdmeaa", sum := "78b079e8a0106c71f93527d9a00f3e84dc113ad29db5ff2e1563c81f39e52a92", func := "wringer/wringerlaw07.PrimeField", spec := "primeField", apart := false, narrowed := true }
def PrimeFieldUptoSaid : Prop := primeFieldUptoRow.holds Try.pinned (OpenSpec.upto primeFieldSpec)

/-- 'wringerlaw07.PrimeFold', WHERE WHAT IT READS IS OF BULK AT MOST 1048576: true; the input reads as it did. -/
def primeFoldUptoRow : OpenClaim := { program := "ytoijnilbcmdmeaa", sum := "78b079e8a0106c71f93527d9a00f3e84dc113ad29db5ff2e1563c81f39e52a92", func := "wringer/wringerlaw07.PrimeFold", spec := "primeFold", apart := false, narrowed := true }
def PrimeFoldUptoSaid : Prop := primeFoldUptoRow.holds Try.pinned (OpenSpec.upto primeFoldSpec)

/-- 'wringerlaw09.NhHashes', WHERE WHAT IT READS IS OF BULK AT MOST 1048576: true; the input reads as it did. -/
def nhHashesUptoRow : OpenClaim := { program := "ytoijnilbcmdmeaa", sum := "78b079e8a0106c71f93527d9a00f3e84dc113ad29db5ff2e1563c81f39e52a92", func := "wringer/wringerlaw09.NhHashes", spec := "nhHashes", unfollowed := true, recurses := true, apart := false, narrowed := true }
def NhHashesUptoSaid : Prop := nhHashesUptoRow.holds Try.pinned (OpenSpec.upto nhHashesSpec)

/-- 'wringerlaw09.NhPasses', WHERE WHAT IT READS IS OF BULK AT MOST 1048576: true; the input reads as it did. -/
def nhPassesUptoRow : OpenClaim := { program := "ytoijnilbcmdmeaa", sum := "78b079e8a0106c71f93527d9a00f3e84dc113ad29db5ff2e1563c81f39e52a92", func := "wringer/wringerlaw09.NhPasses", spec := "nhPasses", unfollowed := true, recurses := true, apart := false, narrowed := true }
def NhPassesUptoSaid : Prop := nhPassesUptoRow.holds Try.pinned (OpenSpec.upto nhPassesSpec)

/-- 'wringerlaw09.NhMore', WHERE WHAT IT READS IS OF BULK AT MOST 1048576: true; the input reads as it did. -/
def nhMoreUptoRow : OpenClaim := { program := "ytoijnilbcmdmeaa", sum := "78b079e8a0106c71f93527d9a00f3e84dc113ad29db5ff2e1563c81f39e52a92", func := "wringer/wringerlaw09.NhMore", spec := "nhMore", unfollowed := true, recurses := true, apart := false, narrowed := true }
def NhMoreUptoSaid : Prop := nhMoreUptoRow.holds Try.pinned (OpenSpec.upto nhMoreSpec)

/-- 'wringerlaw09.NhJoins', WHERE WHAT IT READS IS OF BULK AT MOST 1048576: true; the input reads as it did. -/
def nhJoinsUptoRow : OpenClaim := { program := "ytoijnilbcmdmeaa", sum := "78b079e8a0106c71f93527d9a00f3e84dc113ad29db5ff2e1563c81f39e52a92", func := "wringer/wringerlaw09.NhJoins", spec := "nhJoins", unfollowed := true, recurses := true, apart := false, narrowed := true }
def NhJoinsUptoSaid : Prop := nhJoinsUptoRow.holds Try.pinned (OpenSpec.upto nhJoinsSpec)

/-- 'wringerlaw09.NhSwaps', WHERE WHAT IT READS IS OF BULK AT MOST 1048576: true; the input reads as it did. -/
def nhSwapsUptoRow : OpenClaim := { program := "ytoijnilbcmdmeaa", sum := "78b079e8a0106c71f93527d9a00f3e84dc113ad29db5ff2e1563c81f39e52a92", func := "wringer/wringerlaw09.NhSwaps", spec := "nhSwaps", unfollowed := true, recurses := true, apart := false, narrowed := true }
def NhSwapsUptoSaid : Prop := nhSwapsUptoRow.holds Try.pinned (OpenSpec.upto nhSwapsSpec)

/-- 'wringerlaw07.PrimeForms', WHERE WHAT IT READS IS OF BULK AT MOST 1048576: true; the input reads as it did. -/
def primeFormsUptoRow : OpenClaim := { program := "ytoijnilbcmdmeaa", sum := "78b079e8a0106c71f93527d9a00f3e84dc113ad29db5ff2e1563c81f39e52a92", func := "wringer/wringerlaw07.PrimeForms", spec := "primeForms", apart := false, narrowed := true }
def PrimeFormsUptoSaid : Prop := primeFormsUptoRow.holds Try.pinned (OpenSpec.upto primeFormsSpec)

/-- 'wringerlaw07.PrimeRing', WHERE WHAT IT READS IS OF BULK AT MOST 1048576: true; the input reads as it did. -/
def primeRingUptoRow : OpenClaim := { program := "ytoijnilbcmdmeaa", sum := "78b079e8a0106c71f93527d9a00f3e84dc113ad29db5ff2e1563c81f39e52a92", func := "wringer/wringerlaw07.PrimeRing", spec := "primeRing", apart := false, narrowed := true }
def PrimeRingUptoSaid : Prop := primeRingUptoRow.holds Try.pinned (OpenSpec.upto primeRingSpec)

/-- 'wringerlaw07.PrimeMakes', WHERE WHAT IT READS IS OF BULK AT MOST 1048576: true; the input reads as it did. -/
def primeMakesUptoRow : OpenClaim := { program := "ytoijnilbcmdmeaa", sum := "78b079e8a0106c71f93527d9a00f3e84dc113ad29db5ff2e1563c81f39e52a92", func := "wringer/wringerlaw07.PrimeMakes", spec := "primeMakes", unfollowed := true, recurses := true, apart := false, narrowed := true }
def PrimeMakesUptoSaid : Prop := primeMakesUptoRow.holds Try.pinned (OpenSpec.upto primeMakesSpec)

/-- 'wringerlaw09.NhWords', WHERE WHAT IT READS IS OF BULK AT MOST 1048576: true; the input reads as it did. -/
def nhWordsUptoRow : OpenClaim := { program := "ytoijnilbcmdmeaa", sum := "78b079e8a0106c71f93527d9a00f3e84dc113ad29db5ff2e1563c81f39e52a92", func := "wringer/wringerlaw09.NhWords", spec := "nhWords", unfollowed := true, recurses := true, apart := false, narrowed := true }
def NhWordsUptoSaid : Prop := nhWordsUptoRow.holds Try.pinned (OpenSpec.upto nhWordsSpec)

/-- 'wringerlaw07.PrimeBack', WHERE WHAT IT READS IS OF BULK AT MOST 1048576: true; the input reads as it did. -/
def primeBackUptoRow : OpenClaim := { program := "ytoijnilbcmdmeaa", sum := "78b079e8a0106c71f93527d9a00f3e84dc113ad29db5ff2e1563c81f39e52a92", func := "wringer/wringerlaw07.PrimeBack", spec := "primeBack", unfollowed := true, recurses := true, apart := false, narrowed := true }
def PrimeBackUptoSaid : Prop := primeBackUptoRow.holds Try.pinned (OpenSpec.upto primeBackSpec)

/-- 'wringerlaw08.PolyHashes', WHERE WHAT IT READS IS OF BULK AT MOST 1048576: true; the input reads as it did. -/
def polyHashesUptoRow : OpenClaim := { program := "ytoijnilbcmdmeaa", sum := "78b079e8a0106c71f93527d9a00f3e84dc113ad29db5ff2e1563c81f39e52a92", func := "wringer/wringerlaw08.PolyHashes", spec := "polyHashes", unfollowed := true, recurses := true, apart := false, narrowed := true }
def PolyHashesUptoSaid : Prop := polyHashesUptoRow.holds Try.pinned (OpenSpec.upto polyHashesSpec)

/-- 'wringerlaw08.PolyParts', WHERE WHAT IT READS IS OF BULK AT MOST 1048576: true; the input reads as it did. -/
def polyPartsUptoRow : OpenClaim := { program := "ytoijnilbcmdmeaa", sum := "78b079e8a0106c71f93527d9a00f3e84dc113ad29db5ff2e1563c81f39e52a92", func := "wringer/wringerlaw08.PolyParts", spec := "polyParts", unfollowed := true, recurses := true, apart := false, narrowed := true }
def PolyPartsUptoSaid : Prop := polyPartsUptoRow.holds Try.pinned (OpenSpec.upto polyPartsSpec)

/-- 'wringerlaw08.PolyOn', WHERE WHAT IT READS IS OF BULK AT MOST 1048576: true; the input reads as it did. -/
def polyOnUptoRow : OpenClaim := { program := "ytoijnilbcmdmeaa", sum := "78b079e8a0106c71f93527d9a00f3e84dc113ad29db5ff2e1563c81f39e52a92", func := "wringer/wringerlaw08.PolyOn", spec := "polyOn", unfollowed := true, recurses := true, apart := false, narrowed := true }
def PolyOnUptoSaid : Prop := polyOnUptoRow.holds Try.pinned (OpenSpec.upto polyOnSpec)

/-- 'wringerlaw08.PolyOne', WHERE WHAT IT READS IS OF BULK AT MOST 1048576: true; the input reads as it did. -/
def polyOneUptoRow : OpenClaim := { program := "ytoijnilbcmdmeaa", sum := "78b079e8a0106c71f93527d9a00f3e84dc113ad29db5ff2e1563c81f39e52a92", func := "wringer/wringerlaw08.PolyOne", spec := "polyOne", unfollowed := true, recurses := true, apart := false, narrowed := true }
def PolyOneUptoSaid : Prop := polyOneUptoRow.holds Try.pinned (OpenSpec.upto polyOneSpec)

/-- 'wringerlaw08.PolyClamped', WHERE WHAT IT READS IS OF BULK AT MOST 1048576: true; the input reads as it did. -/
def polyClampedUptoRow : OpenClaim := { program := "ytoijnilbcmdmeaa", sum := "78b079e8a0106c71f93527d9a00f3e84dc113ad29db5ff2e1563c81f39e52a92", func := "wringer/wringerlaw08.PolyClamped", spec := "polyClamped", unfollowed := true, recurses := true, apart := false, narrowed := true }
def PolyClampedUptoSaid : Prop := polyClampedUptoRow.holds Try.pinned (OpenSpec.upto polyClampedSpec)

/-- 'wringerlaw08.PolyLinear', WHERE WHAT IT READS IS OF BULK AT MOST 1048576: true; the input reads as it did. -/
def polyLinearUptoRow : OpenClaim := { program := "ytoijnilbcmdmeaa", sum := "78b079e8a0106c71f93527d9a00f3e84dc113ad29db5ff2e1563c81f39e52a92", func := "wringer/wringerlaw08.PolyLinear", spec := "polyLinear", unfollowed := true, recurses := true, apart := false, narrowed := true }
def PolyLinearUptoSaid : Prop := polyLinearUptoRow.holds Try.pinned (OpenSpec.upto polyLinearSpec)

/-- 'wringerlaw12.AdhashKeys', WHERE WHAT IT READS IS OF BULK AT MOST 1048576: true; the input reads as it did. -/
def adhashKeysUptoRow : OpenClaim := { program := "ytoijnilbcmdmeaa", sum := "78b079e8a0106c71f93527d9a00f3e84dc113ad29db5ff2e1563c81f39e52a92", func := "wringer/wringerlaw12.AdhashKeys", spec := "adhashKeys", inPlace := ["math/bits.Add64"], unfollowed := true, recurses := true, apart := false, narrowed := true }
def AdhashKeysUptoSaid : Prop := adhashKeysUptoRow.holds Try.pinned (OpenSpec.upto adhashKeysSpec)

/-- 'wringerlaw12.AdhashHeads', WHERE WHAT IT READS IS OF BULK AT MOST 1048576: true; the input reads as it did. -/
def adhashHeadsUptoRow : OpenClaim := { program := "ytoijnilbcmdmeaa", sum := "78b079e8a0106c71f93527d9a00f3e84dc113ad29db5ff2e1563c81f39e52a92", func := "wringer/wringerlaw12.AdhashHeads", spec := "adhashHeads", inPlace := ["math/bits.Add64"], unfollowed := true, recurses := true, apart := false, narrowed := true }
def AdhashHeadsUptoSaid : Prop := adhashHeadsUptoRow.holds Try.pinned (OpenSpec.upto adhashHeadsSpec)

/-- 'wringerlaw12.AdhashSums', WHERE WHAT IT READS IS OF BULK AT MOST 1048576: true; the input reads as it did. -/
def adhashSumsUptoRow : OpenClaim := { program := "ytoijnilbcmdmeaa", sum := "78b079e8a0106c71f93527d9a00f3e84dc113ad29db5ff2e1563c81f39e52a92", func := "wringer/wringerlaw12.AdhashSums", spec := "adhashSums", inPlace := ["math/bits.Add64"], unfollowed := true, recurses := true, apart := false, narrowed := true }
def AdhashSumsUptoSaid : Prop := adhashSumsUptoRow.holds Try.pinned (OpenSpec.upto adhashSumsSpec)

/-- 'wringerlaw12.AdhashPads', WHERE WHAT IT READS IS OF BULK AT MOST 1048576: true; the input reads as it did. -/
def adhashPadsUptoRow : OpenClaim := { program := "ytoijnilbcmdmeaa", sum := "78b079e8a0106c71f93527d9a00f3e84dc113ad29db5ff2e1563c81f39e52a92", func := "wringer/wringerlaw12.AdhashPads", spec := "adhashPads", inPlace := ["math/bits.Add64"], unfollowed := true, recurses := true, apart := false, narrowed := true }
def AdhashPadsUptoSaid : Prop := adhashPadsUptoRow.holds Try.pinned (OpenSpec.upto adhashPadsSpec)

/-- 'wringerlaw12.AdhashPieces', WHERE WHAT IT READS IS OF BULK AT MOST 1048576: true; the input reads as it did. -/
def adhashPiecesUptoRow : OpenClaim := { program := "ytoijnilbcmdmeaa", sum := "78b079e8a0106c71f93527d9a00f3e84dc113ad29db5ff2e1563c81f39e52a92", func := "wringer/wringerlaw12.AdhashPieces", spec := "adhashPieces", inPlace := ["math/bits.Add64"], unfollowed := true, recurses := true, apart := false, narrowed := true }
def AdhashPiecesUptoSaid : Prop := adhashPiecesUptoRow.holds Try.pinned (OpenSpec.upto adhashPiecesSpec)

/-- 'wringerlaw12.AdhashBoth', WHERE WHAT IT READS IS OF BULK AT MOST 1048576: true; the input reads as it did. -/
def adhashBothUptoRow : OpenClaim := { program := "ytoijnilbcmdmeaa", sum := "78b079e8a0106c71f93527d9a00f3e84dc113ad29db5ff2e1563c81f39e52a92", func := "wringer/wringerlaw12.AdhashBoth", spec := "adhashBoth", inPlace := ["math/bits.Add64", "math/bits.Sub64"], unfollowed := true, recurses := true, apart := false, narrowed := true }
def AdhashBothUptoSaid : Prop := adhashBothUptoRow.holds Try.pinned (OpenSpec.upto adhashBothSpec)

end Rows
end Go.Proofs.Ytoijnilbcmdmeaa
