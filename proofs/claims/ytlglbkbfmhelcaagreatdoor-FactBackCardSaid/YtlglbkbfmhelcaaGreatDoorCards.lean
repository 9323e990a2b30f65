/-
  DERIVED. GIVEN WITH THE SEED: THE CARDS: each row of YtlglbkbfmhelcaaGreatDoorRows.lean that lists a variable, with what it lists TIED to the program's text (the seventh form; the later family's looks); each row that meets fmt, with fmt's text TOLD by the authors' own Lean function (tested against real Go, not proved from fmt's source: count such statements apart). THE CARD IS WHAT COUNTS. Prove the row's statement (the work); the ties are given (YtlglbkbfmhelcaaGreatDoorTie.lean); close each card by the builder's one call (the guide's Derived/Test/ToyasCard.lean, 'card_holds'). Laid BY PROGRAM, IN A SANDBOX (cutbox-door.mjs). By AI agents, Wed Nov 11 2026. No macro, syntax, notation, axiom, sorry.
-/
import Derived.Test.YtlglbkbfmhelcaaGreatDoorRows
import GoSem.ClaimSeven
namespace Go.Proofs.YtlglbkbfmhelcaaGreatDoor
namespace Rows

/-- THE TIED CARD OF 'wagebooklaw08.FactCheck'. -/
def factCheckCard : Claim7 := { stood := { row := factCheckRow, standIns := [], harness := (true, "9cd5a6728a83753e68fd326bcad63a7fab20aebe7c9258e67d876a6f2651098c"), looks := true }, kinds := [], alts := [], laidByText := true, laidKinds := [.data, .data, .data, .data, .data, .sentinel, .sentinel, .pinned], laidTests := true, laidLooks := .later }
def FactCheckCardSaid : Prop := Claim7.holds Tryz.pinned (.plain (OpenSpec.ofChange factCheckSpec)) factCheckCard

/-- THE TIED CARD OF 'wagebooklaw08.FactLine'. -/
def factLineCard : Claim7 := { stood := { row := factLineRow, standIns := [], harness := (true, "9cd5a6728a83753e68fd326bcad63a7fab20aebe7c9258e67d876a6f2651098c"), looks := true }, kinds := [], alts := [], laidByText := true, laidKinds := [.data, .data, .data, .data, .data, .sentinel, .sentinel, .pinned], laidTests := true, laidLooks := .later }
def FactLineCardSaid : Prop := Claim7.holds Tryz.pinned (.plain (OpenSpec.ofChange factLineSpec)) factLineCard

/-- THE TIED CARD OF 'wagebooklaw08.FactBack'. -/
def factBackCard : Claim7 := { stood := { row := factBackRow, standIns := [], harness := (true, "9cd5a6728a83753e68fd326bcad63a7fab20aebe7c9258e67d876a6f2651098c"), looks := true }, kinds := [], alts := [], laidByText := true, laidKinds := [.data, .data, .data, .data, .data, .sentinel, .sentinel, .pinned], laidTests := true, laidLooks := .later }
def FactBackCardSaid : Prop := Claim7.holds Tryz.pinned (.plain (OpenSpec.ofChange factBackSpec)) factBackCard

/-- THE TIED CARD OF 'wagebooklaw08.FactCovers'. -/
def factCoversCard : Claim7 := { stood := { row := factCoversRow, standIns := [], harness := (true, "9cd5a6728a83753e68fd326bcad63a7fab20aebe7c9258e67d876a6f2651098c"), looks := true }, kinds := [], alts := [], laidByText := true, laidKinds := [.data, .data, .data, .data, .data, .sentinel, .sentinel, .pinned], laidTests := true, laidLooks := .later }
def FactCoversCardSaid : Prop := Claim7.holds Tryz.pinned (.plain (OpenSpec.ofChange factCoversSpec)) factCoversCard

/-- THE TIED CARD OF 'wagebooklaw08.FactKinds'. -/
def factKindsCard : Claim7 := { stood := { row := factKindsRow, standIns := [], harness := (true, "9cd5a6728a83753e68fd326bcad63a7fab20aebe7c9258e67d876a6f2651098c"), looks := true }, kinds := [], alts := [], laidByText := true, laidKinds := [.data, .data, .data, .data, .data, .sentinel, .sentinel, .pinned], laidTests := true, laidLooks := .later }
def FactKindsCardSaid : Prop := Claim7.holds Tryz.pinned (.plain (OpenSpec.ofChange factKindsSpec)) factKindsCard

/-- THE TIED CARD OF 'wagebooklaw08.FactLater'. -/
def factLaterCard : Claim7 := { stood := { row := factLaterRow, standIns := [], harness := (true, "9cd5a6728a83753e68fd326bcad63a7fab20aebe7c9258e67d876a6f2651098c"), looks := true }, kinds := [], alts := [], laidByText := true, laidKinds := [.data, .data, .data, .data, .data, .sentinel, .sentinel, .pinned], laidTests := true, laidLooks := .later }
def FactLaterCardSaid : Prop := Claim7.holds Tryz.pinned (.plain (OpenSpec.ofChange factLaterSpec)) factLaterCard

/-- THE TIED CARD OF 'wagebooklaw08.FactSame'. -/
def factSameCard : Claim7 := { stood := { row := factSameRow, standIns := [], harness := (true, "9cd5a6728a83753e68fd326bcad63a7fab20aebe7c9258e67d876a6f2651098c"), looks := true }, kinds := [], alts := [], laidByText := true, laidKinds := [.data, .data, .data, .data, .data, .sentinel, .sentinel, .pinned], laidTests := true, laidLooks := .later }
def FactSameCardSaid : Prop := Claim7.holds Tryz.pinned (.plain (OpenSpec.ofChange factSameSpec)) factSameCard

/-- THE TIED CARD OF 'wagebooklaw08.FactIDs'. -/
def factIDsCard : Claim7 := { stood := { row := factIDsRow, standIns := [], harness := (true, "9cd5a6728a83753e68fd326bcad63a7fab20aebe7c9258e67d876a6f2651098c"), looks := true }, kinds := [], alts := [], laidByText := true, laidKinds := [.data, .data, .data, .data, .data, .sentinel, .sentinel, .pinned], laidTests := true, laidLooks := .later }
def FactIDsCardSaid : Prop := Claim7.holds Tryz.pinned (.plain (OpenSpec.ofChange factIDsSpec)) factIDsCard

/-- THE SECOND FORM's CARD OF 'wagebooklaw08.FactCheck'. -/
def factCheckUptoCard : Claim7 := { stood := { row := factCheckUptoRow, standIns := [], harness := (true, "9cd5a6728a83753e68fd326bcad63a7fab20aebe7c9258e67d876a6f2651098c"), looks := true }, kinds := [], alts := [], laidByText := true, laidKinds := [.data, .data, .data, .data, .data, .sentinel, .sentinel, .pinned], laidTests := true, laidLooks := .later }
def FactCheckUptoCardSaid : Prop := Claim7.holds Tryz.pinned (.plain (OpenSpec.upto factCheckSpec)) factCheckUptoCard

/-- THE SECOND FORM's CARD OF 'wagebooklaw08.FactLine'. -/
def factLineUptoCard : Claim7 := { stood := { row := factLineUptoRow, standIns := [], harness := (true, "9cd5a6728a83753e68fd326bcad63a7fab20aebe7c9258e67d876a6f2651098c"), looks := true }, kinds := [], alts := [], laidByText := true, laidKinds := [.data, .data, .data, .data, .data, .sentinel, .sentinel, .pinned], laidTests := true, laidLooks := .later }
def FactLineUptoCardSaid : Prop := Claim7.holds Tryz.pinned (.plain (OpenSpec.upto factLineSpec)) factLineUptoCard

/-- THE SECOND FORM's CARD OF 'wagebooklaw08.FactBack'. -/
def factBackUptoCard : Claim7 := { stood := { row := factBackUptoRow, standIns := [], harness := (true, "9cd5a6728a83753e68fd326bcad63a7fab20aebe7c9258e67d876a6f2651098c"), looks := true }, kinds := [], alts := [], laidByText := true, laidKinds := [.data, .data, .data, .data, .data, .sentinel, .sentinel, .pinned], laidTests := true, laidLooks := .later }
def FactBackUptoCardSaid : Prop := Claim7.holds Tryz.pinned (.plain (OpenSpec.upto factBackSpec)) factBackUptoCard

/-- THE SECOND FORM's CARD OF 'wagebooklaw08.FactCovers'. -/
def factCoversUptoCard : Claim7 := { stood := { row := factCoversUptoRow, standIns := [], harness := (true, "9cd5a6728a83753e68fd326bcad63a7fab20aebe7c9258e67d876a6f2651098c"), looks := true }, kinds := [], alts := [], laidByText := true, laidKinds := [.data, .data, .data, .data, .data, .sentinel, .sentinel, .pinned], laidTests := true, laidLooks := .later }
def FactCoversUptoCardSaid : Prop := Claim7.holds Tryz.pinned (.plain (OpenSpec.upto factCoversSpec)) factCoversUptoCard

/-- THE SECOND FORM's CARD OF 'wagebooklaw08.FactKinds'. -/
def factKindsUptoCard : Claim7 := { stood := { row := factKindsUptoRow, standIns := [], harness := (true, "9cd5a6728a83753e68fd326bcad63a7fab20aebe7c9258e67d876a6f2651098c"), looks := true }, kinds := [], alts := [], laidByText := true, laidKinds := [.data, .data, .data, .data, .data, .sentinel, .sentinel, .pinned], laidTests := true, laidLooks := .later }
def FactKindsUptoCardSaid : Prop := Claim7.holds Tryz.pinned (.plain (OpenSpec.upto factKindsSpec)) factKindsUptoCard

/-- THE SECOND FORM's CARD OF 'wagebooklaw08.FactLater'. -/
def factLaterUptoCard : Claim7 := { stood := { row := factLaterUptoRow, standIns := [], harness := (true, "9cd5a6728a83753e68fd326bcad63a7fab20aebe7c9258e67d876a6f2651098c"), looks := true }, kinds := [], alts := [], laidByText := true, laidKinds := [.data, .data, .data, .data, .data, .sentinel, .sentinel, .pinned], laidTests := true, laidLooks := .later }
def FactLaterUptoCardSaid : Prop := Claim7.holds Tryz.pinned (.plain (OpenSpec.upto factLaterSpec)) factLaterUptoCard

/-- THE SECOND FORM's CARD OF 'wagebooklaw08.FactSame'. -/
def factSameUptoCard : Claim7 := { stood := { row := factSameUptoRow, standIns := [], harness := (true, "9cd5a6728a83753e68fd326bcad63a7fab20aebe7c9258e67d876a6f2651098c"), looks := true }, kinds := [], alts := [], laidByText := true, laidKinds := [.data, .data, .data, .data, .data, .sentinel, .sentinel, .pinned], laidTests := true, laidLooks := .later }
def FactSameUptoCardSaid : Prop := Claim7.holds Tryz.pinned (.plain (OpenSpec.upto factSameSpec)) factSameUptoCard

/-- THE SECOND FORM's CARD OF 'wagebooklaw08.FactIDs'. -/
def factIDsUptoCard : Claim7 := { stood := { row := factIDsUptoRow, standIns := [], harness := (true, "9cd5a6728a83753e68fd326bcad63a7fab20aebe7c9258e67d876a6f2651098c"), looks := true }, kinds := [], alts := [], laidByText := true, laidKinds := [.data, .data, .data, .data, .data, .sentinel, .sentinel, .pinned], laidTests := true, laidLooks := .later }
def FactIDsUptoCardSaid : Prop := Claim7.holds Tryz.pinned (.plain (OpenSpec.upto factIDsSpec)) factIDsUptoCard
end Rows
end Go.Proofs.YtlglbkbfmhelcaaGreatDoor
