/-
  DERIVED. GIVEN WITH THE SEED: THE CARDS: each row of YtimkfmkhmfcjeaaGreatDoorRows.lean that lists a variable, with what it lists TIED to the program's text (the seventh form; the later family's looks); each row that meets fmt, with fmt's text TOLD by the authors' own Lean function (tested against real Go, not proved from fmt's source: count such statements apart). THE CARD IS WHAT COUNTS. Prove the row's statement (the work); the ties are given (YtimkfmkhmfcjeaaGreatDoorTie.lean); close each card by the builder's one call (the guide's Derived/Test/ToyasCard.lean, 'card_holds'). Laid BY PROGRAM, IN A SANDBOX (cutbox-door.mjs). By AI agents, Wed Nov 11 2026. No macro, syntax, notation, axiom, sorry.
-/
import Derived.Test.YtimkfmkhmfcjeaaGreatDoorRows
import GoSem.ClaimSeven
namespace Go.Proofs.YtimkfmkhmfcjeaaGreatDoor
namespace Rows

/-- THE TIED CARD OF 'wagebooklaw34.PostOf'. -/
def postOfCard : Claim7 := { stood := { row := postOfRow, standIns := [], harness := (true, "a15726a6a89f1f9ab5068551e2ba5e98e20b20f0811b2f3c772c0c025db12aa9"), looks := true }, kinds := [], alts := [], laidByText := true, laidKinds := [.data, .data, .data, .data, .sentinel, .sentinel, .pinned], laidTests := true, laidLooks := .later }
def PostOfCardSaid : Prop := Claim7.holds Tryz.pinned (.plain (OpenSpec.ofChange postOfSpec)) postOfCard

/-- THE TIED CARD OF 'wagebooklaw34.PostTurns'. -/
def postTurnsCard : Claim7 := { stood := { row := postTurnsRow, standIns := [], harness := (true, "a15726a6a89f1f9ab5068551e2ba5e98e20b20f0811b2f3c772c0c025db12aa9"), looks := true }, kinds := [], alts := [], laidByText := true, laidKinds := [.data, .data, .data, .data, .sentinel, .sentinel, .pinned], laidTests := true, laidLooks := .later }
def PostTurnsCardSaid : Prop := Claim7.holds Tryz.pinned (.plain (OpenSpec.ofChange postTurnsSpec)) postTurnsCard

/-- THE TIED CARD OF 'wagebooklaw34.PostNets'. -/
def postNetsCard : Claim7 := { stood := { row := postNetsRow, standIns := [], harness := (true, "a15726a6a89f1f9ab5068551e2ba5e98e20b20f0811b2f3c772c0c025db12aa9"), looks := true }, kinds := [], alts := [], laidByText := true, laidKinds := [.data, .data, .data, .data, .sentinel, .sentinel, .pinned], laidTests := true, laidLooks := .later }
def PostNetsCardSaid : Prop := Claim7.holds Tryz.pinned (.plain (OpenSpec.ofChange postNetsSpec)) postNetsCard

/-- THE TIED CARD OF 'wagebooklaw34.PostRuns'. -/
def postRunsCard : Claim7 := { stood := { row := postRunsRow, standIns := [], harness := (true, "a15726a6a89f1f9ab5068551e2ba5e98e20b20f0811b2f3c772c0c025db12aa9"), looks := true }, kinds := [], alts := [], laidByText := true, laidKinds := [.data, .data, .data, .data, .sentinel, .sentinel, .pinned], laidTests := true, laidLooks := .later }
def PostRunsCardSaid : Prop := Claim7.holds Tryz.pinned (.plain (OpenSpec.ofChange postRunsSpec)) postRunsCard

/-- THE TIED CARD OF 'wagebooklaw34.PostSums'. -/
def postSumsCard : Claim7 := { stood := { row := postSumsRow, standIns := [], harness := (true, "a15726a6a89f1f9ab5068551e2ba5e98e20b20f0811b2f3c772c0c025db12aa9"), looks := true }, kinds := [], alts := [], laidByText := true, laidKinds := [.data, .data, .data, .data, .sentinel, .sentinel, .pinned], laidTests := true, laidLooks := .later }
def PostSumsCardSaid : Prop := Claim7.holds Tryz.pinned (.plain (OpenSpec.ofChange postSumsSpec)) postSumsCard

/-- THE TIED CARD OF 'wagebooklaw34.PostPays'. -/
def postPaysCard : Claim7 := { stood := { row := postPaysRow, standIns := [], harness := (true, "a15726a6a89f1f9ab5068551e2ba5e98e20b20f0811b2f3c772c0c025db12aa9"), looks := true }, kinds := [], alts := [], laidByText := true, laidKinds := [.data, .data, .data, .data, .sentinel, .sentinel, .pinned], laidTests := true, laidLooks := .later }
def PostPaysCardSaid : Prop := Claim7.holds Tryz.pinned (.plain (OpenSpec.ofChange postPaysSpec)) postPaysCard

/-- THE TIED CARD OF 'wagebooklaw34.PostPosts'. -/
def postPostsCard : Claim7 := { stood := { row := postPostsRow, standIns := [], harness := (true, "a15726a6a89f1f9ab5068551e2ba5e98e20b20f0811b2f3c772c0c025db12aa9"), looks := true }, kinds := [], alts := [], laidByText := true, laidKinds := [.data, .data, .data, .data, .sentinel, .sentinel, .pinned], laidTests := true, laidLooks := .later }
def PostPostsCardSaid : Prop := Claim7.holds Tryz.pinned (.plain (OpenSpec.ofChange postPostsSpec)) postPostsCard

/-- THE SECOND FORM's CARD OF 'wagebooklaw34.PostOf'. -/
def postOfUptoCard : Claim7 := { stood := { row := postOfUptoRow, standIns := [], harness := (true, "a15726a6a89f1f9ab5068551e2ba5e98e20b20f0811b2f3c772c0c025db12aa9"), looks := true }, kinds := [], alts := [], laidByText := true, laidKinds := [.data, .data, .data, .data, .sentinel, .sentinel, .pinned], laidTests := true, laidLooks := .later }
def PostOfUptoCardSaid : Prop := Claim7.holds Tryz.pinned (.plain (OpenSpec.upto postOfSpec)) postOfUptoCard

/-- THE SECOND FORM's CARD OF 'wagebooklaw34.PostTurns'. -/
def postTurnsUptoCard : Claim7 := { stood := { row := postTurnsUptoRow, standIns := [], harness := (true, "a15726a6a89f1f9ab5068551e2ba5e98e20b20f0811b2f3c772c0c025db12aa9"), looks := true }, kinds := [], alts := [], laidByText := true, laidKinds := [.data, .data, .data, .data, .sentinel, .sentinel, .pinned], laidTests := true, laidLooks := .later }
def PostTurnsUptoCardSaid : Prop := Claim7.holds Tryz.pinned (.plain (OpenSpec.upto postTurnsSpec)) postTurnsUptoCard

/-- THE SECOND FORM's CARD OF 'wagebooklaw34.PostNets'. -/
def postNetsUptoCard : Claim7 := { stood := { row := postNetsUptoRow, standIns := [], harness := (true, "a15726a6a89f1f9ab5068551e2ba5e98e20b20f0811b2f3c772c0c025db12aa9"), looks := true }, kinds := [], alts := [], laidByText := true, laidKinds := [.data, .data, .data, .data, .sentinel, .sentinel, .pinned], laidTests := true, laidLooks := .later }
def PostNetsUptoCardSaid : Prop := Claim7.holds Tryz.pinned (.plain (OpenSpec.upto postNetsSpec)) postNetsUptoCard

/-- THE SECOND FORM's CARD OF 'wagebooklaw34.PostRuns'. -/
def postRunsUptoCard : Claim7 := { stood := { row := postRunsUptoRow, standIns := [], harness := (true, "a15726a6a89f1f9ab5068551e2ba5e98e20b20f0811b2f3c772c0c025db12aa9"), looks := true }, kinds := [], alts := [], laidByText := true, laidKinds := [.data, .data, .data, .data, .sentinel, .sentinel, .pinned], laidTests := true, laidLooks := .later }
def PostRunsUptoCardSaid : Prop := Claim7.holds Tryz.pinned (.plain (OpenSpec.upto postRunsSpec)) postRunsUptoCard

/-- THE SECOND FORM's CARD OF 'wagebooklaw34.PostSums'. -/
def postSumsUptoCard : Claim7 := { stood := { row := postSumsUptoRow, standIns := [], harness := (true, "a15726a6a89f1f9ab5068551e2ba5e98e20b20f0811b2f3c772c0c025db12aa9"), looks := true }, kinds := [], alts := [], laidByText := true, laidKinds := [.data, .data, .data, .data, .sentinel, .sentinel, .pinned], laidTests := true, laidLooks := .later }
def PostSumsUptoCardSaid : Prop := Claim7.holds Tryz.pinned (.plain (OpenSpec.upto postSumsSpec)) postSumsUptoCard

/-- THE SECOND FORM's CARD OF 'wagebooklaw34.PostPays'. -/
def postPaysUptoCard : Claim7 := { stood := { row := postPaysUptoRow, standIns := [], harness := (true, "a15726a6a89f1f9ab5068551e2ba5e98e20b20f0811b2f3c772c0c025db12aa9"), looks := true }, kinds := [], alts := [], laidByText := true, laidKinds := [.data, .data, .data, .data, .sentinel, .sentinel, .pinned], laidTests := true, laidLooks := .later }
def PostPaysUptoCardSaid : Prop := Claim7.holds Tryz.pinned (.plain (OpenSpec.upto postPaysSpec)) postPaysUptoCard

/-- THE SECOND FORM's CARD OF 'wagebooklaw34.PostPosts'. -/
def postPostsUptoCard : Claim7 := { stood := { row := postPostsUptoRow, standIns := [], harness := (true, "a15726a6a89f1f9ab5068551e2ba5e98e20b20f0811b2f3c772c0c025db12aa9"), looks := true }, kinds := [], alts := [], laidByText := true, laidKinds := [.data, .data, .data, .data, .sentinel, .sentinel, .pinned], laidTests := true, laidLooks := .later }
def PostPostsUptoCardSaid : Prop := Claim7.holds Tryz.pinned (.plain (OpenSpec.upto postPostsSpec)) postPostsUptoCard
end Rows
end Go.Proofs.YtimkfmkhmfcjeaaGreatDoor
