/-
  DERIVED. GIVEN WITH THE SEED: THE CARDS: each row of YtcakkedgkahhfaaGreatDoorRows.lean that lists a variable, with what it lists TIED to the program's text (the seventh form; the later family's looks); each row that meets fmt, with fmt's text TOLD by the authors' own Lean function (tested against real Go, not proved from fmt's source: count such statements apart). THE CARD IS WHAT COUNTS. Prove the row's statement (the work); the ties are given (YtcakkedgkahhfaaGreatDoorTie.lean); close each card by the builder's one call (the guide's Derived/Test/ToyasCard.lean, 'card_holds'). Laid BY PROGRAM, IN A SANDBOX (cutbox-door.mjs). By AI agents, Wed Nov 11 2026. No macro, syntax, notation, axiom, sorry.
-/
import Derived.Test.YtcakkedgkahhfaaGreatDoorRows
import GoSem.ClaimSeven
namespace Go.Proofs.YtcakkedgkahhfaaGreatDoor
namespace Rows

/-- THE TIED CARD OF 'wagebooklaw40.ScriptBounds'. -/
def scriptBoundsCard : Claim7 := { stood := { row := scriptBoundsRow, standIns := [], harness := (true, "52b32a6b3eb53d45e74b05620a93a447366e887bd5ef0e9120e5d178a7da45fb"), looks := true }, kinds := [], alts := [], laidByText := true, laidKinds := [.data, .data, .data, .data, .data, .sentinel, .sentinel, .pinned], laidTests := true, laidLooks := .later }
def ScriptBoundsCardSaid : Prop := Claim7.holds Tryz.pinned (.plain (OpenSpec.ofChange scriptBoundsSpec)) scriptBoundsCard

/-- THE TIED CARD OF 'wagebooklaw40.ScriptBack'. -/
def scriptBackCard : Claim7 := { stood := { row := scriptBackRow, standIns := [], harness := (true, "52b32a6b3eb53d45e74b05620a93a447366e887bd5ef0e9120e5d178a7da45fb"), looks := true }, kinds := [], alts := [], laidByText := true, laidKinds := [.data, .data, .data, .data, .data, .sentinel, .sentinel, .pinned], laidTests := true, laidLooks := .later }
def ScriptBackCardSaid : Prop := Claim7.holds Tryz.pinned (.plain (OpenSpec.ofChange scriptBackSpec)) scriptBackCard

/-- THE SECOND FORM's CARD OF 'wagebooklaw40.ScriptBounds'. -/
def scriptBoundsUptoCard : Claim7 := { stood := { row := scriptBoundsUptoRow, standIns := [], harness := (true, "52b32a6b3eb53d45e74b05620a93a447366e887bd5ef0e9120e5d178a7da45fb"), looks := true }, kinds := [], alts := [], laidByText := true, laidKinds := [.data, .data, .data, .data, .data, .sentinel, .sentinel, .pinned], laidTests := true, laidLooks := .later }
def ScriptBoundsUptoCardSaid : Prop := Claim7.holds Tryz.pinned (.plain (OpenSpec.upto scriptBoundsSpec)) scriptBoundsUptoCard

/-- THE SECOND FORM's CARD OF 'wagebooklaw40.ScriptBack'. -/
def scriptBackUptoCard : Claim7 := { stood := { row := scriptBackUptoRow, standIns := [], harness := (true, "52b32a6b3eb53d45e74b05620a93a447366e887bd5ef0e9120e5d178a7da45fb"), looks := true }, kinds := [], alts := [], laidByText := true, laidKinds := [.data, .data, .data, .data, .data, .sentinel, .sentinel, .pinned], laidTests := true, laidLooks := .later }
def ScriptBackUptoCardSaid : Prop := Claim7.holds Tryz.pinned (.plain (OpenSpec.upto scriptBackSpec)) scriptBackUptoCard
end Rows
end Go.Proofs.YtcakkedgkahhfaaGreatDoor
