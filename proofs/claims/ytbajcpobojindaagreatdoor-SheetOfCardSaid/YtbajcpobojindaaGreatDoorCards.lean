/-
  DERIVED. GIVEN WITH THE SEED: THE CARDS: each row of YtbajcpobojindaaGreatDoorRows.lean that lists a variable, with what it lists TIED to the program's text (the seventh form; the later family's looks); each row that meets fmt, with fmt's text TOLD by the authors' own Lean function (tested against real Go, not proved from fmt's source: count such statements apart). THE CARD IS WHAT COUNTS. Prove the row's statement (the work); the ties are given (YtbajcpobojindaaGreatDoorTie.lean); close each card by the builder's one call (the guide's Derived/Test/ToyasCard.lean, 'card_holds'). Laid BY PROGRAM, IN A SANDBOX (cutbox-door.mjs). By AI agents, Wed Nov 11 2026. No macro, syntax, notation, axiom, sorry.
-/
import Derived.Test.YtbajcpobojindaaGreatDoorRows
import GoSem.ClaimSeven
namespace Go.Proofs.YtbajcpobojindaaGreatDoor
namespace Rows

/-- THE TIED CARD OF 'wagebooklaw17.SheetOf'. -/
def sheetOfCard : Claim7 := { stood := { row := sheetOfRow, standIns := [], harness := (true, "a076faada30314af823f2bb9b607799f8c8479cc710aa33989401ecbf0679b59"), looks := true }, kinds := [], alts := [], laidByText := true, laidKinds := [.data, .data, .data, .data, .sentinel, .sentinel, .pinned], laidTests := true, laidLooks := .later }
def SheetOfCardSaid : Prop := Claim7.holds Tryz.pinned (.plain (OpenSpec.ofChange sheetOfSpec)) sheetOfCard

/-- THE SECOND FORM's CARD OF 'wagebooklaw17.SheetOf'. -/
def sheetOfUptoCard : Claim7 := { stood := { row := sheetOfUptoRow, standIns := [], harness := (true, "a076faada30314af823f2bb9b607799f8c8479cc710aa33989401ecbf0679b59"), looks := true }, kinds := [], alts := [], laidByText := true, laidKinds := [.data, .data, .data, .data, .sentinel, .sentinel, .pinned], laidTests := true, laidLooks := .later }
def SheetOfUptoCardSaid : Prop := Claim7.holds Tryz.pinned (.plain (OpenSpec.upto sheetOfSpec)) sheetOfUptoCard
end Rows
end Go.Proofs.YtbajcpobojindaaGreatDoor
