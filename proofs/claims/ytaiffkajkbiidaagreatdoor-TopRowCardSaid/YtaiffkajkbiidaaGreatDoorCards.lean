/-
  DERIVED. GIVEN WITH THE SEED: THE CARDS: each row of YtaiffkajkbiidaaGreatDoorRows.lean that lists a variable, with what it lists TIED to the program's text (the seventh form; the later family's looks); each row that meets fmt, with fmt's text TOLD by the authors' own Lean function (tested against real Go, not proved from fmt's source: count such statements apart). THE CARD IS WHAT COUNTS. Prove the row's statement (the work); the ties are given (YtaiffkajkbiidaaGreatDoorTie.lean); close each card by the builder's one call (the guide's Derived/Test/ToyasCard.lean, 'card_holds'). Laid BY PROGRAM, IN A SANDBOX (cutbox-door.mjs). By AI agents, Wed Nov 11 2026. No macro, syntax, notation, axiom, sorry.
-/
import Derived.Test.YtaiffkajkbiidaaGreatDoorRows
import GoSem.ClaimSeven
namespace Go.Proofs.YtaiffkajkbiidaaGreatDoor
namespace Rows

/-- THE TIED CARD OF 'wringertop.TopRow'. -/
def topRowCard : Claim7 := { stood := { row := topRowRow, standIns := [], harness := (true, "51fa718bcf2215a35f4d6bebb284feddc9599147b60949b8dd14bb93e2470c35"), looks := false }, kinds := [], alts := [], laidByText := true, laidKinds := [.data, .data, .data, .data], laidTests := true, laidLooks := .later }
def TopRowCardSaid : Prop := Claim7.holds Tryz.pinned (.plain (OpenSpec.ofChange topRowSpec)) topRowCard

/-- THE TIED CARD OF 'wringertop.TopByte'. -/
def topByteCard : Claim7 := { stood := { row := topByteRow, standIns := [], harness := (true, "51fa718bcf2215a35f4d6bebb284feddc9599147b60949b8dd14bb93e2470c35"), looks := false }, kinds := [], alts := [], laidByText := true, laidKinds := [.data, .data, .data, .data], laidTests := true, laidLooks := .later }
def TopByteCardSaid : Prop := Claim7.holds Tryz.pinned (.plain (OpenSpec.ofChange topByteSpec)) topByteCard

/-- THE TIED CARD OF 'wringertop.TopCycle'. -/
def topCycleCard : Claim7 := { stood := { row := topCycleRow, standIns := [], harness := (true, "51fa718bcf2215a35f4d6bebb284feddc9599147b60949b8dd14bb93e2470c35"), looks := false }, kinds := [], alts := [], laidByText := true, laidKinds := [.data, .data, .data, .data], laidTests := true, laidLooks := .later }
def TopCycleCardSaid : Prop := Claim7.holds Tryz.pinned (.plain (OpenSpec.ofChange topCycleSpec)) topCycleCard

/-- THE SECOND FORM's CARD OF 'wringertop.TopRow'. -/
def topRowUptoCard : Claim7 := { stood := { row := topRowUptoRow, standIns := [], harness := (true, "51fa718bcf2215a35f4d6bebb284feddc9599147b60949b8dd14bb93e2470c35"), looks := false }, kinds := [], alts := [], laidByText := true, laidKinds := [.data, .data, .data, .data], laidTests := true, laidLooks := .later }
def TopRowUptoCardSaid : Prop := Claim7.holds Tryz.pinned (.plain (OpenSpec.upto topRowSpec)) topRowUptoCard

/-- THE SECOND FORM's CARD OF 'wringertop.TopByte'. -/
def topByteUptoCard : Claim7 := { stood := { row := topByteUptoRow, standIns := [], harness := (true, "51fa718bcf2215a35f4d6bebb284feddc9599147b60949b8dd14bb93e2470c35"), looks := false }, kinds := [], alts := [], laidByText := true, laidKinds := [.data, .data, .data, .data], laidTests := true, laidLooks := .later }
def TopByteUptoCardSaid : Prop := Claim7.holds Tryz.pinned (.plain (OpenSpec.upto topByteSpec)) topByteUptoCard

/-- THE SECOND FORM's CARD OF 'wringertop.TopCycle'. -/
def topCycleUptoCard : Claim7 := { stood := { row := topCycleUptoRow, standIns := [], harness := (true, "51fa718bcf2215a35f4d6bebb284feddc9599147b60949b8dd14bb93e2470c35"), looks := false }, kinds := [], alts := [], laidByText := true, laidKinds := [.data, .data, .data, .data], laidTests := true, laidLooks := .later }
def TopCycleUptoCardSaid : Prop := Claim7.holds Tryz.pinned (.plain (OpenSpec.upto topCycleSpec)) topCycleUptoCard
end Rows
end Go.Proofs.YtaiffkajkbiidaaGreatDoor
