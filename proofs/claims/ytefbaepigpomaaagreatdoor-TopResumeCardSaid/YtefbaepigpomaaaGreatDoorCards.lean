/-
  DERIVED. GIVEN WITH THE SEED: THE CARDS: each row of YtefbaepigpomaaaGreatDoorRows.lean that lists a variable, with what it lists TIED to the program's text (the seventh form; the later family's looks); each row that meets fmt, with fmt's text TOLD by the authors' own Lean function (tested against real Go, not proved from fmt's source: count such statements apart). THE CARD IS WHAT COUNTS. Prove the row's statement (the work); the ties are given (YtefbaepigpomaaaGreatDoorTie.lean); close each card by the builder's one call (the guide's Derived/Test/ToyasCard.lean, 'card_holds'). Laid BY PROGRAM, IN A SANDBOX (cutbox-door.mjs). By AI agents, Wed Nov 11 2026. No macro, syntax, notation, axiom, sorry.
-/
import Derived.Test.YtefbaepigpomaaaGreatDoorRows
import GoSem.ClaimSeven
namespace Go.Proofs.YtefbaepigpomaaaGreatDoor
namespace Rows

/-- THE TIED CARD OF 'wagebooktop.TopHeld'. -/
def topHeldCard : Claim7 := { stood := { row := topHeldRow, standIns := [], harness := (true, "359c587dd0705cfe3828789239250650e35e47415c8f47390e32f1cb046df36d"), looks := true }, kinds := [], alts := [], laidByText := true, laidKinds := [.data, .data, .data, .data, .sentinel, .sentinel, .pinned], laidTests := true, laidLooks := .later }
def TopHeldCardSaid : Prop := Claim7.holds Tryz.pinned (.plain (OpenSpec.ofChange topHeldSpec)) topHeldCard

/-- THE TIED CARD OF 'wagebooktop.TopLedger'. -/
def topLedgerCard : Claim7 := { stood := { row := topLedgerRow, standIns := [], harness := (true, "359c587dd0705cfe3828789239250650e35e47415c8f47390e32f1cb046df36d"), looks := true }, kinds := [], alts := [], laidByText := true, laidKinds := [.data, .data, .data, .data, .sentinel, .sentinel, .pinned], laidTests := true, laidLooks := .later }
def TopLedgerCardSaid : Prop := Claim7.holds Tryz.pinned (.plain (OpenSpec.ofChange topLedgerSpec)) topLedgerCard

/-- THE TIED CARD OF 'wagebooktop.TopPapers'. -/
def topPapersCard : Claim7 := { stood := { row := topPapersRow, standIns := [], harness := (true, "359c587dd0705cfe3828789239250650e35e47415c8f47390e32f1cb046df36d"), looks := true }, kinds := [], alts := [], laidByText := true, laidKinds := [.data, .data, .data, .data, .sentinel, .sentinel, .widerDeep, .pinned], laidTests := true, laidLooks := .later }
def TopPapersCardSaid : Prop := Claim7.holds Tryz.pinned (.plain (OpenSpec.ofChange topPapersSpec)) topPapersCard

/-- THE TIED CARD OF 'wagebooktop.TopOffices'. -/
def topOfficesCard : Claim7 := { stood := { row := topOfficesRow, standIns := [], harness := (true, "359c587dd0705cfe3828789239250650e35e47415c8f47390e32f1cb046df36d"), looks := true }, kinds := [], alts := [], laidByText := true, laidKinds := [.data, .data, .data, .data, .sentinel, .sentinel, .pinned], laidTests := true, laidLooks := .later }
def TopOfficesCardSaid : Prop := Claim7.holds Tryz.pinned (.plain (OpenSpec.ofChange topOfficesSpec)) topOfficesCard

/-- THE TIED CARD OF 'wagebooktop.TopResume'. -/
def topResumeCard : Claim7 := { stood := { row := topResumeRow, standIns := [], harness := (true, "359c587dd0705cfe3828789239250650e35e47415c8f47390e32f1cb046df36d"), looks := true }, kinds := [], alts := [], laidByText := true, laidKinds := [.data, .data, .data, .data, .sentinel, .sentinel, .pinned], laidTests := true, laidLooks := .later }
def TopResumeCardSaid : Prop := Claim7.holds Tryz.pinned (.plain (OpenSpec.ofChange topResumeSpec)) topResumeCard

/-- THE SECOND FORM's CARD OF 'wagebooktop.TopHeld'. -/
def topHeldUptoCard : Claim7 := { stood := { row := topHeldUptoRow, standIns := [], harness := (true, "359c587dd0705cfe3828789239250650e35e47415c8f47390e32f1cb046df36d"), looks := true }, kinds := [], alts := [], laidByText := true, laidKinds := [.data, .data, .data, .data, .sentinel, .sentinel, .pinned], laidTests := true, laidLooks := .later }
def TopHeldUptoCardSaid : Prop := Claim7.holds Tryz.pinned (.plain (OpenSpec.upto topHeldSpec)) topHeldUptoCard

/-- THE SECOND FORM's CARD OF 'wagebooktop.TopLedger'. -/
def topLedgerUptoCard : Claim7 := { stood := { row := topLedgerUptoRow, standIns := [], harness := (true, "359c587dd0705cfe3828789239250650e35e47415c8f47390e32f1cb046df36d"), looks := true }, kinds := [], alts := [], laidByText := true, laidKinds := [.data, .data, .data, .data, .sentinel, .sentinel, .pinned], laidTests := true, laidLooks := .later }
def TopLedgerUptoCardSaid : Prop := Claim7.holds Tryz.pinned (.plain (OpenSpec.upto topLedgerSpec)) topLedgerUptoCard

/-- THE SECOND FORM's CARD OF 'wagebooktop.TopPapers'. -/
def topPapersUptoCard : Claim7 := { stood := { row := topPapersUptoRow, standIns := [], harness := (true, "359c587dd0705cfe3828789239250650e35e47415c8f47390e32f1cb046df36d"), looks := true }, kinds := [], alts := [], laidByText := true, laidKinds := [.data, .data, .data, .data, .sentinel, .sentinel, .widerDeep, .pinned], laidTests := true, laidLooks := .later }
def TopPapersUptoCardSaid : Prop := Claim7.holds Tryz.pinned (.plain (OpenSpec.upto topPapersSpec)) topPapersUptoCard

/-- THE SECOND FORM's CARD OF 'wagebooktop.TopOffices'. -/
def topOfficesUptoCard : Claim7 := { stood := { row := topOfficesUptoRow, standIns := [], harness := (true, "359c587dd0705cfe3828789239250650e35e47415c8f47390e32f1cb046df36d"), looks := true }, kinds := [], alts := [], laidByText := true, laidKinds := [.data, .data, .data, .data, .sentinel, .sentinel, .pinned], laidTests := true, laidLooks := .later }
def TopOfficesUptoCardSaid : Prop := Claim7.holds Tryz.pinned (.plain (OpenSpec.upto topOfficesSpec)) topOfficesUptoCard

/-- THE SECOND FORM's CARD OF 'wagebooktop.TopResume'. -/
def topResumeUptoCard : Claim7 := { stood := { row := topResumeUptoRow, standIns := [], harness := (true, "359c587dd0705cfe3828789239250650e35e47415c8f47390e32f1cb046df36d"), looks := true }, kinds := [], alts := [], laidByText := true, laidKinds := [.data, .data, .data, .data, .sentinel, .sentinel, .pinned], laidTests := true, laidLooks := .later }
def TopResumeUptoCardSaid : Prop := Claim7.holds Tryz.pinned (.plain (OpenSpec.upto topResumeSpec)) topResumeUptoCard
end Rows
end Go.Proofs.YtefbaepigpomaaaGreatDoor
