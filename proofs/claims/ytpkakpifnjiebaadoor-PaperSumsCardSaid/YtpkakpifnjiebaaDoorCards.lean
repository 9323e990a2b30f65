/-
  DERIVED. GIVEN WITH THE SEED: THE CARDS: each row of YtpkakpifnjiebaaDoorRows.lean that lists a variable, with what it lists TIED to the program's text (the seventh form; the later family's looks); each row that meets fmt, with fmt's text TOLD by the authors' own Lean function (tested against real Go, not proved from fmt's source: count such statements apart). THE CARD IS WHAT COUNTS. Prove the row's statement (the work); the ties are given (YtpkakpifnjiebaaDoorTie.lean); close each card by the builder's one call (the guide's Derived/Test/ToyasCard.lean, 'card_holds'). Laid BY PROGRAM, IN A SANDBOX (cutbox-door.mjs). By AI agents, Wed Nov 11 2026. No macro, syntax, notation, axiom, sorry.
-/
import Derived.Test.YtpkakpifnjiebaaDoorRows
import GoSem.ClaimSeven
namespace Go.Proofs.YtpkakpifnjiebaaDoor
namespace Rows

/-- THE TIED CARD OF 'wagebooklaw37.PaperOf'. -/
def paperOfCard : Claim7 := { stood := { row := paperOfRow, standIns := [], harness := (true, "c6784ca4ab7dcfffe3bbef7d1e97c47cc91a7261afad3cfc41df8ae125e7f370"), looks := false }, kinds := [], alts := [], laidByText := true, laidKinds := [.data, .data, .data, .widerDeep], laidTests := true, laidLooks := .later }
def PaperOfCardSaid : Prop := Claim7.holds Tryd.pinned (.plain (OpenSpec.ofChange paperOfSpec)) paperOfCard

/-- THE TIED CARD OF 'wagebooklaw37.PaperTotals'. -/
def paperTotalsCard : Claim7 := { stood := { row := paperTotalsRow, standIns := [], harness := (true, "c6784ca4ab7dcfffe3bbef7d1e97c47cc91a7261afad3cfc41df8ae125e7f370"), looks := false }, kinds := [], alts := [], laidByText := true, laidKinds := [.data, .data, .data, .widerDeep], laidTests := true, laidLooks := .later }
def PaperTotalsCardSaid : Prop := Claim7.holds Tryd.pinned (.plain (OpenSpec.ofChange paperTotalsSpec)) paperTotalsCard

/-- THE TIED CARD OF 'wagebooklaw37.PaperSplits'. -/
def paperSplitsCard : Claim7 := { stood := { row := paperSplitsRow, standIns := [], harness := (true, "c6784ca4ab7dcfffe3bbef7d1e97c47cc91a7261afad3cfc41df8ae125e7f370"), looks := false }, kinds := [], alts := [], laidByText := true, laidKinds := [.data, .data, .data, .widerDeep], laidTests := true, laidLooks := .later }
def PaperSplitsCardSaid : Prop := Claim7.holds Tryd.pinned (.plain (OpenSpec.ofChange paperSplitsSpec)) paperSplitsCard

/-- THE TIED CARD OF 'wagebooklaw37.PaperSums'. -/
def paperSumsCard : Claim7 := { stood := { row := paperSumsRow, standIns := [], harness := (true, "c6784ca4ab7dcfffe3bbef7d1e97c47cc91a7261afad3cfc41df8ae125e7f370"), looks := false }, kinds := [], alts := [], laidByText := true, laidKinds := [.data, .data, .data, .widerDeep], laidTests := true, laidLooks := .later }
def PaperSumsCardSaid : Prop := Claim7.holds Tryd.pinned (.plain (OpenSpec.ofChange paperSumsSpec)) paperSumsCard

/-- THE TIED CARD OF 'wagebooklaw37.PaperAmends'. -/
def paperAmendsCard : Claim7 := { stood := { row := paperAmendsRow, standIns := [], harness := (true, "c6784ca4ab7dcfffe3bbef7d1e97c47cc91a7261afad3cfc41df8ae125e7f370"), looks := false }, kinds := [], alts := [], laidByText := true, laidKinds := [.data, .data, .data, .widerDeep], laidTests := true, laidLooks := .later }
def PaperAmendsCardSaid : Prop := Claim7.holds Tryd.pinned (.plain (OpenSpec.ofChange paperAmendsSpec)) paperAmendsCard

/-- THE TIED CARD OF 'wagebooklaw37.PaperBack'. -/
def paperBackCard : Claim7 := { stood := { row := paperBackRow, standIns := [], harness := (true, "c6784ca4ab7dcfffe3bbef7d1e97c47cc91a7261afad3cfc41df8ae125e7f370"), looks := false }, kinds := [], alts := [], laidByText := true, laidKinds := [.data, .data, .data, .widerDeep], laidTests := true, laidLooks := .later }
def PaperBackCardSaid : Prop := Claim7.holds Tryd.pinned (.plain (OpenSpec.ofChange paperBackSpec)) paperBackCard

/-- THE SECOND FORM's CARD OF 'wagebooklaw37.PaperOf'. -/
def paperOfUptoCard : Claim7 := { stood := { row := paperOfUptoRow, standIns := [], harness := (true, "c6784ca4ab7dcfffe3bbef7d1e97c47cc91a7261afad3cfc41df8ae125e7f370"), looks := false }, kinds := [], alts := [], laidByText := true, laidKinds := [.data, .data, .data, .widerDeep], laidTests := true, laidLooks := .later }
def PaperOfUptoCardSaid : Prop := Claim7.holds Tryd.pinned (.plain (OpenSpec.upto paperOfSpec)) paperOfUptoCard

/-- THE SECOND FORM's CARD OF 'wagebooklaw37.PaperTotals'. -/
def paperTotalsUptoCard : Claim7 := { stood := { row := paperTotalsUptoRow, standIns := [], harness := (true, "c6784ca4ab7dcfffe3bbef7d1e97c47cc91a7261afad3cfc41df8ae125e7f370"), looks := false }, kinds := [], alts := [], laidByText := true, laidKinds := [.data, .data, .data, .widerDeep], laidTests := true, laidLooks := .later }
def PaperTotalsUptoCardSaid : Prop := Claim7.holds Tryd.pinned (.plain (OpenSpec.upto paperTotalsSpec)) paperTotalsUptoCard

/-- THE SECOND FORM's CARD OF 'wagebooklaw37.PaperSplits'. -/
def paperSplitsUptoCard : Claim7 := { stood := { row := paperSplitsUptoRow, standIns := [], harness := (true, "c6784ca4ab7dcfffe3bbef7d1e97c47cc91a7261afad3cfc41df8ae125e7f370"), looks := false }, kinds := [], alts := [], laidByText := true, laidKinds := [.data, .data, .data, .widerDeep], laidTests := true, laidLooks := .later }
def PaperSplitsUptoCardSaid : Prop := Claim7.holds Tryd.pinned (.plain (OpenSpec.upto paperSplitsSpec)) paperSplitsUptoCard

/-- THE SECOND FORM's CARD OF 'wagebooklaw37.PaperSums'. -/
def paperSumsUptoCard : Claim7 := { stood := { row := paperSumsUptoRow, standIns := [], harness := (true, "c6784ca4ab7dcfffe3bbef7d1e97c47cc91a7261afad3cfc41df8ae125e7f370"), looks := false }, kinds := [], alts := [], laidByText := true, laidKinds := [.data, .data, .data, .widerDeep], laidTests := true, laidLooks := .later }
def PaperSumsUptoCardSaid : Prop := Claim7.holds Tryd.pinned (.plain (OpenSpec.upto paperSumsSpec)) paperSumsUptoCard

/-- THE SECOND FORM's CARD OF 'wagebooklaw37.PaperAmends'. -/
def paperAmendsUptoCard : Claim7 := { stood := { row := paperAmendsUptoRow, standIns := [], harness := (true, "c6784ca4ab7dcfffe3bbef7d1e97c47cc91a7261afad3cfc41df8ae125e7f370"), looks := false }, kinds := [], alts := [], laidByText := true, laidKinds := [.data, .data, .data, .widerDeep], laidTests := true, laidLooks := .later }
def PaperAmendsUptoCardSaid : Prop := Claim7.holds Tryd.pinned (.plain (OpenSpec.upto paperAmendsSpec)) paperAmendsUptoCard

/-- THE SECOND FORM's CARD OF 'wagebooklaw37.PaperBack'. -/
def paperBackUptoCard : Claim7 := { stood := { row := paperBackUptoRow, standIns := [], harness := (true, "c6784ca4ab7dcfffe3bbef7d1e97c47cc91a7261afad3cfc41df8ae125e7f370"), looks := false }, kinds := [], alts := [], laidByText := true, laidKinds := [.data, .data, .data, .widerDeep], laidTests := true, laidLooks := .later }
def PaperBackUptoCardSaid : Prop := Claim7.holds Tryd.pinned (.plain (OpenSpec.upto paperBackSpec)) paperBackUptoCard
end Rows
end Go.Proofs.YtpkakpifnjiebaaDoor
