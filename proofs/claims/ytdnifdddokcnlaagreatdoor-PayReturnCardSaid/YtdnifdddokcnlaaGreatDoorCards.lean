/-
  DERIVED. GIVEN WITH THE SEED: THE CARDS: each row of YtdnifdddokcnlaaGreatDoorRows.lean that lists a variable, with what it lists TIED to the program's text (the seventh form; the later family's looks); each row that meets fmt, with fmt's text TOLD by the authors' own Lean function (tested against real Go, not proved from fmt's source: count such statements apart). THE CARD IS WHAT COUNTS. Prove the row's statement (the work); the ties are given (YtdnifdddokcnlaaGreatDoorTie.lean); close each card by the builder's one call (the guide's Derived/Test/ToyasCard.lean, 'card_holds'). Laid BY PROGRAM, IN A SANDBOX (cutbox-door.mjs). By AI agents, Wed Nov 11 2026. No macro, syntax, notation, axiom, sorry.
-/
import Derived.Test.YtdnifdddokcnlaaGreatDoorRows
import GoSem.ClaimSeven
namespace Go.Proofs.YtdnifdddokcnlaaGreatDoor
namespace Rows

/-- THE TIED CARD OF 'wagebooklaw35.PayOf'. -/
def payOfCard : Claim7 := { stood := { row := payOfRow, standIns := [], harness := (true, "62fcd204294cf4b211950998b86cd9c6e0e2658077b5e23a34ae822448c46f31"), looks := true }, kinds := [], alts := [], laidByText := true, laidKinds := [.data, .data, .data, .data, .sentinel, .sentinel, .pinned], laidTests := true, laidLooks := .later }
def PayOfCardSaid : Prop := Claim7.holds Tryz.pinned (.plain (OpenSpec.ofChange payOfSpec)) payOfCard

/-- THE TIED CARD OF 'wagebooklaw35.PayReturn'. -/
def payReturnCard : Claim7 := { stood := { row := payReturnRow, standIns := [], harness := (true, "62fcd204294cf4b211950998b86cd9c6e0e2658077b5e23a34ae822448c46f31"), looks := true }, kinds := [], alts := [], laidByText := true, laidKinds := [.data, .data, .data, .data, .sentinel, .sentinel, .pinned], laidTests := true, laidLooks := .later }
def PayReturnCardSaid : Prop := Claim7.holds Tryz.pinned (.plain (OpenSpec.ofChange payReturnSpec)) payReturnCard

/-- THE SECOND FORM's CARD OF 'wagebooklaw35.PayOf'. -/
def payOfUptoCard : Claim7 := { stood := { row := payOfUptoRow, standIns := [], harness := (true, "62fcd204294cf4b211950998b86cd9c6e0e2658077b5e23a34ae822448c46f31"), looks := true }, kinds := [], alts := [], laidByText := true, laidKinds := [.data, .data, .data, .data, .sentinel, .sentinel, .pinned], laidTests := true, laidLooks := .later }
def PayOfUptoCardSaid : Prop := Claim7.holds Tryz.pinned (.plain (OpenSpec.upto payOfSpec)) payOfUptoCard

/-- THE SECOND FORM's CARD OF 'wagebooklaw35.PayReturn'. -/
def payReturnUptoCard : Claim7 := { stood := { row := payReturnUptoRow, standIns := [], harness := (true, "62fcd204294cf4b211950998b86cd9c6e0e2658077b5e23a34ae822448c46f31"), looks := true }, kinds := [], alts := [], laidByText := true, laidKinds := [.data, .data, .data, .data, .sentinel, .sentinel, .pinned], laidTests := true, laidLooks := .later }
def PayReturnUptoCardSaid : Prop := Claim7.holds Tryz.pinned (.plain (OpenSpec.upto payReturnSpec)) payReturnUptoCard
end Rows
end Go.Proofs.YtdnifdddokcnlaaGreatDoor
