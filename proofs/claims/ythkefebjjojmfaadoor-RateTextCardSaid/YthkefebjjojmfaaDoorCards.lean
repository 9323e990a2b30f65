/-
  DERIVED. GIVEN WITH THE SEED: THE CARDS: each row of YthkefebjjojmfaaDoorRows.lean that lists a variable, with what it lists TIED to the program's text (the seventh form; the later family's looks); each row that meets fmt, with fmt's text TOLD by the authors' own Lean function (tested against real Go, not proved from fmt's source: count such statements apart). THE CARD IS WHAT COUNTS. Prove the row's statement (the work); the ties are given (YthkefebjjojmfaaDoorTie.lean); close each card by the builder's one call (the guide's Derived/Test/ToyasCard.lean, 'card_holds'). Laid BY PROGRAM, IN A SANDBOX (cutbox-door.mjs). By AI agents, Wed Nov 11 2026. No macro, syntax, notation, axiom, sorry.
-/
import Derived.Test.YthkefebjjojmfaaDoorRows
import GoSem.ClaimSeven
namespace Go.Proofs.YthkefebjjojmfaaDoor
namespace Rows

/-- THE TIED CARD OF 'wagebooklaw02.RatePart'. -/
def ratePartCard : Claim7 := { stood := { row := ratePartRow, standIns := [], harness := (true, "b4def1135ef26dc286438f7155e83694f24af2b07abc63e578da2510acba8445"), looks := false }, kinds := [], alts := [], laidByText := true, laidKinds := [.data, .data, .data, .data, .pinned], laidTests := true, laidLooks := .later }
def RatePartCardSaid : Prop := Claim7.holds Tryd.pinned (.plain (OpenSpec.ofChange ratePartSpec)) ratePartCard

/-- THE TIED CARD OF 'wagebooklaw02.RateModes'. -/
def rateModesCard : Claim7 := { stood := { row := rateModesRow, standIns := [], harness := (true, "b4def1135ef26dc286438f7155e83694f24af2b07abc63e578da2510acba8445"), looks := false }, kinds := [], alts := [], laidByText := true, laidKinds := [.data, .data, .data, .data, .pinned], laidTests := true, laidLooks := .later }
def RateModesCardSaid : Prop := Claim7.holds Tryd.pinned (.plain (OpenSpec.ofChange rateModesSpec)) rateModesCard

/-- THE TIED CARD OF 'wagebooklaw02.RateSums'. -/
def rateSumsCard : Claim7 := { stood := { row := rateSumsRow, standIns := [], harness := (true, "b4def1135ef26dc286438f7155e83694f24af2b07abc63e578da2510acba8445"), looks := false }, kinds := [], alts := [], laidByText := true, laidKinds := [.data, .data, .data, .data, .pinned], laidTests := true, laidLooks := .later }
def RateSumsCardSaid : Prop := Claim7.holds Tryd.pinned (.plain (OpenSpec.ofChange rateSumsSpec)) rateSumsCard

/-- THE TIED CARD OF 'wagebooklaw02.RateExact'. -/
def rateExactCard : Claim7 := { stood := { row := rateExactRow, standIns := [], harness := (true, "b4def1135ef26dc286438f7155e83694f24af2b07abc63e578da2510acba8445"), looks := false }, kinds := [], alts := [], laidByText := true, laidKinds := [.data, .data, .data, .data, .pinned], laidTests := true, laidLooks := .later }
def RateExactCardSaid : Prop := Claim7.holds Tryd.pinned (.plain (OpenSpec.ofChange rateExactSpec)) rateExactCard

/-- THE TIED CARD OF 'wagebooklaw02.RateText'. -/
def rateTextCard : Claim7 := { stood := { row := rateTextRow, standIns := [], harness := (true, "b4def1135ef26dc286438f7155e83694f24af2b07abc63e578da2510acba8445"), looks := false }, kinds := [], alts := [], laidByText := true, laidKinds := [.data, .data, .data, .data, .pinned], laidTests := true, laidLooks := .later }
def RateTextCardSaid : Prop := Claim7.holds Tryd.pinned (.plain (OpenSpec.ofChange rateTextSpec)) rateTextCard

/-- THE TIED CARD OF 'wagebooklaw02.RateRises'. -/
def rateRisesCard : Claim7 := { stood := { row := rateRisesRow, standIns := [], harness := (true, "b4def1135ef26dc286438f7155e83694f24af2b07abc63e578da2510acba8445"), looks := false }, kinds := [], alts := [], laidByText := true, laidKinds := [.data, .data, .data, .data, .pinned], laidTests := true, laidLooks := .later }
def RateRisesCardSaid : Prop := Claim7.holds Tryd.pinned (.plain (OpenSpec.ofChange rateRisesSpec)) rateRisesCard

/-- THE TIED CARD OF 'wagebooklaw02.RateNear'. -/
def rateNearCard : Claim7 := { stood := { row := rateNearRow, standIns := [], harness := (true, "b4def1135ef26dc286438f7155e83694f24af2b07abc63e578da2510acba8445"), looks := false }, kinds := [], alts := [], laidByText := true, laidKinds := [.data, .data, .data, .data, .pinned], laidTests := true, laidLooks := .later }
def RateNearCardSaid : Prop := Claim7.holds Tryd.pinned (.plain (OpenSpec.ofChange rateNearSpec)) rateNearCard

/-- THE TIED CARD OF 'wagebooklaw02.RateOf'. -/
def rateOfCard : Claim7 := { stood := { row := rateOfRow, standIns := [], harness := (true, "b4def1135ef26dc286438f7155e83694f24af2b07abc63e578da2510acba8445"), looks := false }, kinds := [], alts := [], laidByText := true, laidKinds := [.data, .data, .data, .data, .pinned], laidTests := true, laidLooks := .later }
def RateOfCardSaid : Prop := Claim7.holds Tryd.pinned (.plain (OpenSpec.ofChange rateOfSpec)) rateOfCard

/-- THE TIED CARD OF 'wagebooklaw02.RateTimes'. -/
def rateTimesCard : Claim7 := { stood := { row := rateTimesRow, standIns := [], harness := (true, "b4def1135ef26dc286438f7155e83694f24af2b07abc63e578da2510acba8445"), looks := false }, kinds := [], alts := [], laidByText := true, laidKinds := [.data, .data, .data, .data, .pinned], laidTests := true, laidLooks := .later }
def RateTimesCardSaid : Prop := Claim7.holds Tryd.pinned (.plain (OpenSpec.ofChange rateTimesSpec)) rateTimesCard

/-- THE SECOND FORM's CARD OF 'wagebooklaw02.RatePart'. -/
def ratePartUptoCard : Claim7 := { stood := { row := ratePartUptoRow, standIns := [], harness := (true, "b4def1135ef26dc286438f7155e83694f24af2b07abc63e578da2510acba8445"), looks := false }, kinds := [], alts := [], laidByText := true, laidKinds := [.data, .data, .data, .data, .pinned], laidTests := true, laidLooks := .later }
def RatePartUptoCardSaid : Prop := Claim7.holds Tryd.pinned (.plain (OpenSpec.upto ratePartSpec)) ratePartUptoCard

/-- THE SECOND FORM's CARD OF 'wagebooklaw02.RateModes'. -/
def rateModesUptoCard : Claim7 := { stood := { row := rateModesUptoRow, standIns := [], harness := (true, "b4def1135ef26dc286438f7155e83694f24af2b07abc63e578da2510acba8445"), looks := false }, kinds := [], alts := [], laidByText := true, laidKinds := [.data, .data, .data, .data, .pinned], laidTests := true, laidLooks := .later }
def RateModesUptoCardSaid : Prop := Claim7.holds Tryd.pinned (.plain (OpenSpec.upto rateModesSpec)) rateModesUptoCard

/-- THE SECOND FORM's CARD OF 'wagebooklaw02.RateSums'. -/
def rateSumsUptoCard : Claim7 := { stood := { row := rateSumsUptoRow, standIns := [], harness := (true, "b4def1135ef26dc286438f7155e83694f24af2b07abc63e578da2510acba8445"), looks := false }, kinds := [], alts := [], laidByText := true, laidKinds := [.data, .data, .data, .data, .pinned], laidTests := true, laidLooks := .later }
def RateSumsUptoCardSaid : Prop := Claim7.holds Tryd.pinned (.plain (OpenSpec.upto rateSumsSpec)) rateSumsUptoCard

/-- THE SECOND FORM's CARD OF 'wagebooklaw02.RateExact'. -/
def rateExactUptoCard : Claim7 := { stood := { row := rateExactUptoRow, standIns := [], harness := (true, "b4def1135ef26dc286438f7155e83694f24af2b07abc63e578da2510acba8445"), looks := false }, kinds := [], alts := [], laidByText := true, laidKinds := [.data, .data, .data, .data, .pinned], laidTests := true, laidLooks := .later }
def RateExactUptoCardSaid : Prop := Claim7.holds Tryd.pinned (.plain (OpenSpec.upto rateExactSpec)) rateExactUptoCard

/-- THE SECOND FORM's CARD OF 'wagebooklaw02.RateText'. -/
def rateTextUptoCard : Claim7 := { stood := { row := rateTextUptoRow, standIns := [], harness := (true, "b4def1135ef26dc286438f7155e83694f24af2b07abc63e578da2510acba8445"), looks := false }, kinds := [], alts := [], laidByText := true, laidKinds := [.data, .data, .data, .data, .pinned], laidTests := true, laidLooks := .later }
def RateTextUptoCardSaid : Prop := Claim7.holds Tryd.pinned (.plain (OpenSpec.upto rateTextSpec)) rateTextUptoCard

/-- THE SECOND FORM's CARD OF 'wagebooklaw02.RateRises'. -/
def rateRisesUptoCard : Claim7 := { stood := { row := rateRisesUptoRow, standIns := [], harness := (true, "b4def1135ef26dc286438f7155e83694f24af2b07abc63e578da2510acba8445"), looks := false }, kinds := [], alts := [], laidByText := true, laidKinds := [.data, .data, .data, .data, .pinned], laidTests := true, laidLooks := .later }
def RateRisesUptoCardSaid : Prop := Claim7.holds Tryd.pinned (.plain (OpenSpec.upto rateRisesSpec)) rateRisesUptoCard

/-- THE SECOND FORM's CARD OF 'wagebooklaw02.RateNear'. -/
def rateNearUptoCard : Claim7 := { stood := { row := rateNearUptoRow, standIns := [], harness := (true, "b4def1135ef26dc286438f7155e83694f24af2b07abc63e578da2510acba8445"), looks := false }, kinds := [], alts := [], laidByText := true, laidKinds := [.data, .data, .data, .data, .pinned], laidTests := true, laidLooks := .later }
def RateNearUptoCardSaid : Prop := Claim7.holds Tryd.pinned (.plain (OpenSpec.upto rateNearSpec)) rateNearUptoCard

/-- THE SECOND FORM's CARD OF 'wagebooklaw02.RateOf'. -/
def rateOfUptoCard : Claim7 := { stood := { row := rateOfUptoRow, standIns := [], harness := (true, "b4def1135ef26dc286438f7155e83694f24af2b07abc63e578da2510acba8445"), looks := false }, kinds := [], alts := [], laidByText := true, laidKinds := [.data, .data, .data, .data, .pinned], laidTests := true, laidLooks := .later }
def RateOfUptoCardSaid : Prop := Claim7.holds Tryd.pinned (.plain (OpenSpec.upto rateOfSpec)) rateOfUptoCard

/-- THE SECOND FORM's CARD OF 'wagebooklaw02.RateTimes'. -/
def rateTimesUptoCard : Claim7 := { stood := { row := rateTimesUptoRow, standIns := [], harness := (true, "b4def1135ef26dc286438f7155e83694f24af2b07abc63e578da2510acba8445"), looks := false }, kinds := [], alts := [], laidByText := true, laidKinds := [.data, .data, .data, .data, .pinned], laidTests := true, laidLooks := .later }
def RateTimesUptoCardSaid : Prop := Claim7.holds Tryd.pinned (.plain (OpenSpec.upto rateTimesSpec)) rateTimesUptoCard
end Rows
end Go.Proofs.YthkefebjjojmfaaDoor
