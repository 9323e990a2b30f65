/-
  DERIVED. GIVEN WITH THE SEED: THE CARDS: each row of YtdnifdddokcnlaaDoorRows.lean that lists a variable, with what it lists TIED to the program's text (the seventh form; the later family's looks); each row that meets fmt, with fmt's text TOLD by the authors' own Lean function (tested against real Go, not proved from fmt's source: count such statements apart). THE CARD IS WHAT COUNTS. Prove the row's statement (the work); the ties are given (YtdnifdddokcnlaaDoorTie.lean); close each card by the builder's one call (the guide's Derived/Test/ToyasCard.lean, 'card_holds'). Laid BY PROGRAM, IN A SANDBOX (cutbox-door.mjs). By AI agents, Wed Nov 11 2026. No macro, syntax, notation, axiom, sorry.
-/
import Derived.Test.YtdnifdddokcnlaaDoorRows
import GoSem.ClaimSeven
namespace Go.Proofs.YtdnifdddokcnlaaDoor
namespace Rows

/-- THE TIED CARD OF 'wagebooklaw35.PayBack'. -/
def payBackCard : Claim7 := { stood := { row := payBackRow, standIns := [], harness := (true, "4056669f3c4a41f3aefb44f35e3ac6d586c38d63c47bc08077634aae41b514bc"), looks := true }, kinds := [], alts := [], laidByText := true, laidKinds := [.data, .data, .data, .data, .sentinel, .sentinel, .pinned], laidTests := true, laidLooks := .later }
def PayBackCardSaid : Prop := Claim7.holds Tryd.pinned (.plain (OpenSpec.ofChange payBackSpec)) payBackCard

/-- THE TIED CARD OF 'wagebooklaw35.PayCut'. -/
def payCutCard : Claim7 := { stood := { row := payCutRow, standIns := [], harness := (true, "4056669f3c4a41f3aefb44f35e3ac6d586c38d63c47bc08077634aae41b514bc"), looks := true }, kinds := [], alts := [], laidByText := true, laidKinds := [.data, .data, .data, .data, .sentinel, .sentinel, .pinned], laidTests := true, laidLooks := .later }
def PayCutCardSaid : Prop := Claim7.holds Tryd.pinned (.plain (OpenSpec.ofChange payCutSpec)) payCutCard

/-- THE TIED CARD OF 'wagebooklaw35.PaySum'. -/
def paySumCard : Claim7 := { stood := { row := paySumRow, standIns := [], harness := (true, "4056669f3c4a41f3aefb44f35e3ac6d586c38d63c47bc08077634aae41b514bc"), looks := true }, kinds := [], alts := [], laidByText := true, laidKinds := [.data, .data, .data, .data, .sentinel, .sentinel, .pinned], laidTests := true, laidLooks := .later }
def PaySumCardSaid : Prop := Claim7.holds Tryd.pinned (.plain (OpenSpec.ofChange paySumSpec)) paySumCard

/-- THE SECOND FORM's CARD OF 'wagebooklaw35.PayBack'. -/
def payBackUptoCard : Claim7 := { stood := { row := payBackUptoRow, standIns := [], harness := (true, "4056669f3c4a41f3aefb44f35e3ac6d586c38d63c47bc08077634aae41b514bc"), looks := true }, kinds := [], alts := [], laidByText := true, laidKinds := [.data, .data, .data, .data, .sentinel, .sentinel, .pinned], laidTests := true, laidLooks := .later }
def PayBackUptoCardSaid : Prop := Claim7.holds Tryd.pinned (.plain (OpenSpec.upto payBackSpec)) payBackUptoCard

/-- THE SECOND FORM's CARD OF 'wagebooklaw35.PayCut'. -/
def payCutUptoCard : Claim7 := { stood := { row := payCutUptoRow, standIns := [], harness := (true, "4056669f3c4a41f3aefb44f35e3ac6d586c38d63c47bc08077634aae41b514bc"), looks := true }, kinds := [], alts := [], laidByText := true, laidKinds := [.data, .data, .data, .data, .sentinel, .sentinel, .pinned], laidTests := true, laidLooks := .later }
def PayCutUptoCardSaid : Prop := Claim7.holds Tryd.pinned (.plain (OpenSpec.upto payCutSpec)) payCutUptoCard

/-- THE SECOND FORM's CARD OF 'wagebooklaw35.PaySum'. -/
def paySumUptoCard : Claim7 := { stood := { row := paySumUptoRow, standIns := [], harness := (true, "4056669f3c4a41f3aefb44f35e3ac6d586c38d63c47bc08077634aae41b514bc"), looks := true }, kinds := [], alts := [], laidByText := true, laidKinds := [.data, .data, .data, .data, .sentinel, .sentinel, .pinned], laidTests := true, laidLooks := .later }
def PaySumUptoCardSaid : Prop := Claim7.holds Tryd.pinned (.plain (OpenSpec.upto paySumSpec)) paySumUptoCard
end Rows
end Go.Proofs.YtdnifdddokcnlaaDoor
