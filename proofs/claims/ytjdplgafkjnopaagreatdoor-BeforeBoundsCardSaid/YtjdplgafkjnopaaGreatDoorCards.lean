/-
  DERIVED. GIVEN WITH THE SEED: THE CARDS: each row of YtjdplgafkjnopaaGreatDoorRows.lean that lists a variable, with what it lists TIED to the program's text (the seventh form; the later family's looks); each row that meets fmt, with fmt's text TOLD by the authors' own Lean function (tested against real Go, not proved from fmt's source: count such statements apart). THE CARD IS WHAT COUNTS. Prove the row's statement (the work); the ties are given (YtjdplgafkjnopaaGreatDoorTie.lean); close each card by the builder's one call (the guide's Derived/Test/ToyasCard.lean, 'card_holds'). Laid BY PROGRAM, IN A SANDBOX (cutbox-door.mjs). By AI agents, Wed Nov 11 2026. No macro, syntax, notation, axiom, sorry.
-/
import Derived.Test.YtjdplgafkjnopaaGreatDoorRows
import GoSem.ClaimSeven
namespace Go.Proofs.YtjdplgafkjnopaaGreatDoor
namespace Rows

/-- THE TIED CARD OF 'wagebooklaw25.BeforeTakes'. -/
def beforeTakesCard : Claim7 := { stood := { row := beforeTakesRow, standIns := [], harness := (true, "f5eeffc2ec03fbfbcbf465e228b8f61818c49f41fe078785db1d04c6877febe2"), looks := true }, kinds := [], alts := [], laidByText := true, laidKinds := [.data, .data, .data, .data, .sentinel, .sentinel, .pinned], laidTests := true, laidLooks := .later }
def BeforeTakesCardSaid : Prop := Claim7.holds Tryz.pinned (.plain (OpenSpec.ofChange beforeTakesSpec)) beforeTakesCard

/-- THE TIED CARD OF 'wagebooklaw25.BeforeYears'. -/
def beforeYearsCard : Claim7 := { stood := { row := beforeYearsRow, standIns := [], harness := (true, "f5eeffc2ec03fbfbcbf465e228b8f61818c49f41fe078785db1d04c6877febe2"), looks := true }, kinds := [], alts := [], laidByText := true, laidKinds := [.data, .data, .data, .data, .sentinel, .sentinel, .pinned], laidTests := true, laidLooks := .later }
def BeforeYearsCardSaid : Prop := Claim7.holds Tryz.pinned (.plain (OpenSpec.ofChange beforeYearsSpec)) beforeYearsCard

/-- THE TIED CARD OF 'wagebooklaw25.BeforeAfter'. -/
def beforeAfterCard : Claim7 := { stood := { row := beforeAfterRow, standIns := [], harness := (true, "f5eeffc2ec03fbfbcbf465e228b8f61818c49f41fe078785db1d04c6877febe2"), looks := true }, kinds := [], alts := [], laidByText := true, laidKinds := [.data, .data, .data, .data, .sentinel, .sentinel, .pinned], laidTests := true, laidLooks := .later }
def BeforeAfterCardSaid : Prop := Claim7.holds Tryz.pinned (.plain (OpenSpec.ofChange beforeAfterSpec)) beforeAfterCard

/-- THE TIED CARD OF 'wagebooklaw25.BeforeBounds'. -/
def beforeBoundsCard : Claim7 := { stood := { row := beforeBoundsRow, standIns := [], harness := (true, "f5eeffc2ec03fbfbcbf465e228b8f61818c49f41fe078785db1d04c6877febe2"), looks := true }, kinds := [], alts := [], laidByText := true, laidKinds := [.data, .data, .data, .data, .sentinel, .sentinel, .pinned], laidTests := true, laidLooks := .later }
def BeforeBoundsCardSaid : Prop := Claim7.holds Tryz.pinned (.plain (OpenSpec.ofChange beforeBoundsSpec)) beforeBoundsCard

/-- THE TIED CARD OF 'wagebooklaw25.BeforeLess'. -/
def beforeLessCard : Claim7 := { stood := { row := beforeLessRow, standIns := [], harness := (true, "f5eeffc2ec03fbfbcbf465e228b8f61818c49f41fe078785db1d04c6877febe2"), looks := true }, kinds := [], alts := [], laidByText := true, laidKinds := [.data, .data, .data, .data, .sentinel, .sentinel, .pinned], laidTests := true, laidLooks := .later }
def BeforeLessCardSaid : Prop := Claim7.holds Tryz.pinned (.plain (OpenSpec.ofChange beforeLessSpec)) beforeLessCard

/-- THE TIED CARD OF 'wagebooklaw25.BeforeSums'. -/
def beforeSumsCard : Claim7 := { stood := { row := beforeSumsRow, standIns := [], harness := (true, "f5eeffc2ec03fbfbcbf465e228b8f61818c49f41fe078785db1d04c6877febe2"), looks := true }, kinds := [], alts := [], laidByText := true, laidKinds := [.data, .data, .data, .data, .sentinel, .sentinel, .pinned], laidTests := true, laidLooks := .later }
def BeforeSumsCardSaid : Prop := Claim7.holds Tryz.pinned (.plain (OpenSpec.ofChange beforeSumsSpec)) beforeSumsCard

/-- THE TIED CARD OF 'wagebooklaw25.BeforeAll'. -/
def beforeAllCard : Claim7 := { stood := { row := beforeAllRow, standIns := [], harness := (true, "f5eeffc2ec03fbfbcbf465e228b8f61818c49f41fe078785db1d04c6877febe2"), looks := true }, kinds := [], alts := [], laidByText := true, laidKinds := [.data, .data, .data, .data, .sentinel, .sentinel, .pinned], laidTests := true, laidLooks := .later }
def BeforeAllCardSaid : Prop := Claim7.holds Tryz.pinned (.plain (OpenSpec.ofChange beforeAllSpec)) beforeAllCard

/-- THE SECOND FORM's CARD OF 'wagebooklaw25.BeforeTakes'. -/
def beforeTakesUptoCard : Claim7 := { stood := { row := beforeTakesUptoRow, standIns := [], harness := (true, "f5eeffc2ec03fbfbcbf465e228b8f61818c49f41fe078785db1d04c6877febe2"), looks := true }, kinds := [], alts := [], laidByText := true, laidKinds := [.data, .data, .data, .data, .sentinel, .sentinel, .pinned], laidTests := true, laidLooks := .later }
def BeforeTakesUptoCardSaid : Prop := Claim7.holds Tryz.pinned (.plain (OpenSpec.upto beforeTakesSpec)) beforeTakesUptoCard

/-- THE SECOND FORM's CARD OF 'wagebooklaw25.BeforeYears'. -/
def beforeYearsUptoCard : Claim7 := { stood := { row := beforeYearsUptoRow, standIns := [], harness := (true, "f5eeffc2ec03fbfbcbf465e228b8f61818c49f41fe078785db1d04c6877febe2"), looks := true }, kinds := [], alts := [], laidByText := true, laidKinds := [.data, .data, .data, .data, .sentinel, .sentinel, .pinned], laidTests := true, laidLooks := .later }
def BeforeYearsUptoCardSaid : Prop := Claim7.holds Tryz.pinned (.plain (OpenSpec.upto beforeYearsSpec)) beforeYearsUptoCard

/-- THE SECOND FORM's CARD OF 'wagebooklaw25.BeforeAfter'. -/
def beforeAfterUptoCard : Claim7 := { stood := { row := beforeAfterUptoRow, standIns := [], harness := (true, "f5eeffc2ec03fbfbcbf465e228b8f61818c49f41fe078785db1d04c6877febe2"), looks := true }, kinds := [], alts := [], laidByText := true, laidKinds := [.data, .data, .data, .data, .sentinel, .sentinel, .pinned], laidTests := true, laidLooks := .later }
def BeforeAfterUptoCardSaid : Prop := Claim7.holds Tryz.pinned (.plain (OpenSpec.upto beforeAfterSpec)) beforeAfterUptoCard

/-- THE SECOND FORM's CARD OF 'wagebooklaw25.BeforeBounds'. -/
def beforeBoundsUptoCard : Claim7 := { stood := { row := beforeBoundsUptoRow, standIns := [], harness := (true, "f5eeffc2ec03fbfbcbf465e228b8f61818c49f41fe078785db1d04c6877febe2"), looks := true }, kinds := [], alts := [], laidByText := true, laidKinds := [.data, .data, .data, .data, .sentinel, .sentinel, .pinned], laidTests := true, laidLooks := .later }
def BeforeBoundsUptoCardSaid : Prop := Claim7.holds Tryz.pinned (.plain (OpenSpec.upto beforeBoundsSpec)) beforeBoundsUptoCard

/-- THE SECOND FORM's CARD OF 'wagebooklaw25.BeforeLess'. -/
def beforeLessUptoCard : Claim7 := { stood := { row := beforeLessUptoRow, standIns := [], harness := (true, "f5eeffc2ec03fbfbcbf465e228b8f61818c49f41fe078785db1d04c6877febe2"), looks := true }, kinds := [], alts := [], laidByText := true, laidKinds := [.data, .data, .data, .data, .sentinel, .sentinel, .pinned], laidTests := true, laidLooks := .later }
def BeforeLessUptoCardSaid : Prop := Claim7.holds Tryz.pinned (.plain (OpenSpec.upto beforeLessSpec)) beforeLessUptoCard

/-- THE SECOND FORM's CARD OF 'wagebooklaw25.BeforeSums'. -/
def beforeSumsUptoCard : Claim7 := { stood := { row := beforeSumsUptoRow, standIns := [], harness := (true, "f5eeffc2ec03fbfbcbf465e228b8f61818c49f41fe078785db1d04c6877febe2"), looks := true }, kinds := [], alts := [], laidByText := true, laidKinds := [.data, .data, .data, .data, .sentinel, .sentinel, .pinned], laidTests := true, laidLooks := .later }
def BeforeSumsUptoCardSaid : Prop := Claim7.holds Tryz.pinned (.plain (OpenSpec.upto beforeSumsSpec)) beforeSumsUptoCard

/-- THE SECOND FORM's CARD OF 'wagebooklaw25.BeforeAll'. -/
def beforeAllUptoCard : Claim7 := { stood := { row := beforeAllUptoRow, standIns := [], harness := (true, "f5eeffc2ec03fbfbcbf465e228b8f61818c49f41fe078785db1d04c6877febe2"), looks := true }, kinds := [], alts := [], laidByText := true, laidKinds := [.data, .data, .data, .data, .sentinel, .sentinel, .pinned], laidTests := true, laidLooks := .later }
def BeforeAllUptoCardSaid : Prop := Claim7.holds Tryz.pinned (.plain (OpenSpec.upto beforeAllSpec)) beforeAllUptoCard
end Rows
end Go.Proofs.YtjdplgafkjnopaaGreatDoor
