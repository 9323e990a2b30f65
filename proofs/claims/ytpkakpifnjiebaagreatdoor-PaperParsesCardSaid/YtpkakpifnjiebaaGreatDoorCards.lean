/-
  DERIVED. GIVEN WITH THE SEED: THE CARDS: each row of YtpkakpifnjiebaaGreatDoorRows.lean that lists a variable, with what it lists TIED to the program's text (the seventh form; the later family's looks); each row that meets fmt, with fmt's text TOLD by the authors' own Lean function (tested against real Go, not proved from fmt's source: count such statements apart). THE CARD IS WHAT COUNTS. Prove the row's statement (the work); the ties are given (YtpkakpifnjiebaaGreatDoorTie.lean); close each card by the builder's one call (the guide's Derived/Test/ToyasCard.lean, 'card_holds'). Laid BY PROGRAM, IN A SANDBOX (cutbox-door.mjs). By AI agents, Wed Nov 11 2026. No macro, syntax, notation, axiom, sorry.
-/
import Derived.Test.YtpkakpifnjiebaaGreatDoorRows
import GoSem.ClaimSeven
namespace Go.Proofs.YtpkakpifnjiebaaGreatDoor
namespace Rows

/-- THE TIED CARD OF 'wagebooklaw37.PaperTexts'. -/
def paperTextsCard : Claim7 := { stood := { row := paperTextsRow, standIns := [], harness := (true, "14bdf94811a18e1fa7ade5a4305b9d9e500794cf67c6ed704e2f3c18316d16e0"), looks := true }, kinds := [], alts := [], laidByText := true, laidKinds := [.data, .data, .data, .data, .sentinel, .sentinel, .widerDeep, .pinned], laidTests := true, laidLooks := .later }
def PaperTextsCardSaid : Prop := Claim7.holds Tryz.pinned (.plain (OpenSpec.ofChange paperTextsSpec)) paperTextsCard

/-- THE TIED CARD OF 'wagebooklaw37.PaperParses'. -/
def paperParsesCard : Claim7 := { stood := { row := paperParsesRow, standIns := [], harness := (true, "14bdf94811a18e1fa7ade5a4305b9d9e500794cf67c6ed704e2f3c18316d16e0"), looks := true }, kinds := [], alts := [], laidByText := true, laidKinds := [.data, .data, .data, .data, .sentinel, .sentinel, .widerDeep, .pinned], laidTests := true, laidLooks := .later }
def PaperParsesCardSaid : Prop := Claim7.holds Tryz.pinned (.plain (OpenSpec.ofChange paperParsesSpec)) paperParsesCard

/-- THE SECOND FORM's CARD OF 'wagebooklaw37.PaperTexts'. -/
def paperTextsUptoCard : Claim7 := { stood := { row := paperTextsUptoRow, standIns := [], harness := (true, "14bdf94811a18e1fa7ade5a4305b9d9e500794cf67c6ed704e2f3c18316d16e0"), looks := true }, kinds := [], alts := [], laidByText := true, laidKinds := [.data, .data, .data, .data, .sentinel, .sentinel, .widerDeep, .pinned], laidTests := true, laidLooks := .later }
def PaperTextsUptoCardSaid : Prop := Claim7.holds Tryz.pinned (.plain (OpenSpec.upto paperTextsSpec)) paperTextsUptoCard

/-- THE SECOND FORM's CARD OF 'wagebooklaw37.PaperParses'. -/
def paperParsesUptoCard : Claim7 := { stood := { row := paperParsesUptoRow, standIns := [], harness := (true, "14bdf94811a18e1fa7ade5a4305b9d9e500794cf67c6ed704e2f3c18316d16e0"), looks := true }, kinds := [], alts := [], laidByText := true, laidKinds := [.data, .data, .data, .data, .sentinel, .sentinel, .widerDeep, .pinned], laidTests := true, laidLooks := .later }
def PaperParsesUptoCardSaid : Prop := Claim7.holds Tryz.pinned (.plain (OpenSpec.upto paperParsesSpec)) paperParsesUptoCard
end Rows
end Go.Proofs.YtpkakpifnjiebaaGreatDoor
