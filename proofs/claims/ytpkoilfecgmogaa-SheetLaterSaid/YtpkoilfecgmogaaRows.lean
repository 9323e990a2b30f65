/-
  No cell of these rows narrows 'for every input' (looked for: loops, veiled, ifaces, maps, wideKeys, modest, calm, conditions, laid).
  DERIVED. THE GIVEN ROWS OF THIS SEAT. 6 by the template 'for every input the law returns true; each argument reads behind the call as it read before'; 0 by the template 'total and deterministic' (their statements: YtpkoilfecgmogaaTotals.lean).
  GIVEN WITH THE SEED: the statements are not yours to turn. If you find one false, say at which input.
  Laid BY PROGRAM, IN A SANDBOX (cutbox-rows.mjs): the forced cells as the released guide's own fill.sh prints them over the translation e9ab98ebf23737c2… (all of the seat's roots in one cut). By AI agents, Wed Nov 11 2026. No macro, syntax, notation, axiom, sorry.
-/
import Derived.Test.YtpkoilfecgmogaaChecked
import GoSem.Claim
import GoSem.ClaimJoined
import GoSem.ClaimMapViews
import Derived.JoinedTies
import Derived.KernelRfl
namespace Go.Proofs.Ytpkoilfecgmogaa
/- THE CELL 'sum', in the pinned program and in every row, IS THE sha256 OF THE DUMP (.gsa) THAT YtpkoilfecgmogaaProg.lean LOADS. Nothing in Lean hashes anything: it is a label: what it is worth is what the hold of that sum in a sandbox is worth. -/
noncomputable def Try.pinned : Pinned := { name := "ytpkoilfecgmogaa", sum := "e9ab98ebf23737c24578a79533663c7326cc4dd62d2c489b3b32f9743bce52ff", checked := Try.checked }
namespace Rows
def none {H : Type} : Left H := { results := [], args := [] }

/-- 'wagebooklaw17.SheetSum': WHATEVER THE INPUT: true; the input reads as it did. -/
def sheetSumSpec : ChangeSpec := { name := "sheetSum", fn := fun _ => fun
  | [d1, d2, d3] => { results := [.lit (.bool true)], args := [d1, d2, d3] }
  | _ => none }
def sheetSumRow : OpenClaim := { program := "ytpkoilfecgmogaa", sum := "e9ab98ebf23737c24578a79533663c7326cc4dd62d2c489b3b32f9743bce52ff", func := "wagebook/wagebooklaw17.SheetSum", spec := "sheetSum", plainKeys := false, apart := false }
def SheetSumSaid : Prop := sheetSumRow.holds Try.pinned (OpenSpec.ofChange sheetSumSpec)

/-- ITS FALSE NEIGHBOUR: 'it returns false'. Refute it at one input. -/
def sheetSumWrong : ChangeSpec := { name := "sheetSum", fn := fun _ => fun
  | [d1, d2, d3] => { results := [.lit (.bool false)], args := [d1, d2, d3] }
  | _ => none }
def SheetSumWrongFalsely : Prop := sheetSumRow.holds Try.pinned (OpenSpec.ofChange sheetSumWrong)

/-- 'wagebooklaw17.SheetWorked': WHATEVER THE INPUT: true; the input reads as it did. -/
def sheetWorkedSpec : ChangeSpec := { name := "sheetWorked", fn := fun _ => fun
  | [d1, d2, d3] => { results := [.lit (.bool true)], args := [d1, d2, d3] }
  | _ => none }
def sheetWorkedRow : OpenClaim := { program := "ytpkoilfecgmogaa", sum := "e9ab98ebf23737c24578a79533663c7326cc4dd62d2c489b3b32f9743bce52ff", func := "wagebook/wagebooklaw17.SheetWorked", spec := "sheetWorked", plainKeys := false, apart := false }
def SheetWorkedSaid : Prop := sheetWorkedRow.holds Try.pinned (OpenSpec.ofChange sheetWorkedSpec)

/-- ITS FALSE NEIGHBOUR: 'it returns false'. Refute it at one input. -/
def sheetWorkedWrong : ChangeSpec := { name := "sheetWorked", fn := fun _ => fun
  | [d1, d2, d3] => { results := [.lit (.bool false)], args := [d1, d2, d3] }
  | _ => none }
def SheetWorkedWrongFalsely : Prop := sheetWorkedRow.holds Try.pinned (OpenSpec.ofChange sheetWorkedWrong)

/-- 'wagebooklaw17.SheetCut': WHATEVER THE INPUT: true; the input reads as it did. -/
def sheetCutSpec : ChangeSpec := { name := "sheetCut", fn := fun _ => fun
  | [d1, d2, d3, d4] => { results := [.lit (.bool true)], args := [d1, d2, d3, d4] }
  | _ => none }
def sheetCutRow : OpenClaim := { program := "ytpkoilfecgmogaa", sum := "e9ab98ebf23737c24578a79533663c7326cc4dd62d2c489b3b32f9743bce52ff", func := "wagebook/wagebooklaw17.SheetCut", spec := "sheetCut", plainKeys := false, apart := false }
def SheetCutSaid : Prop := sheetCutRow.holds Try.pinned (OpenSpec.ofChange sheetCutSpec)

/-- ITS FALSE NEIGHBOUR: 'it returns false'. Refute it at one input. -/
def sheetCutWrong : ChangeSpec := { name := "sheetCut", fn := fun _ => fun
  | [d1, d2, d3, d4] => { results := [.lit (.bool false)], args := [d1, d2, d3, d4] }
  | _ => none }
def SheetCutWrongFalsely : Prop := sheetCutRow.holds Try.pinned (OpenSpec.ofChange sheetCutWrong)

/-- 'wagebooklaw17.SheetLater': WHATEVER THE INPUT: true; the input reads as it did. -/
def sheetLaterSpec : ChangeSpec := { name := "sheetLater", fn := fun _ => fun
  | [d1, d2, d3, d4] => { results := [.lit (.bool true)], args := [d1, d2, d3, d4] }
  | _ => none }
def sheetLaterRow : OpenClaim := { program := "ytpkoilfecgmogaa", sum := "e9ab98ebf23737c24578a79533663c7326cc4dd62d2c489b3b32f9743bce52ff", func := "wagebook/wagebooklaw17.SheetLater", spec := "sheetLater", plainKeys := false, apart := false }
def SheetLaterSaid : Prop := sheetLaterRow.holds Try.pinned (OpenSpec.ofChange sheetLaterSpec)

/-- ITS FALSE NEIGHBOUR: 'it returns false'. Refute it at one input. -/
def sheetLaterWrong : ChangeSpec := { name := "sheetLater", fn := fun _ => fun
  | [d1, d2, d3, d4] => { results := [.lit (.bool false)], args := [d1, d2, d3, d4] }
  | _ => none }
def SheetLaterWrongFalsely : Prop := sheetLaterRow.holds Try.pinned (OpenSpec.ofChange sheetLaterWrong)

/-- 'wagebooklaw17.SheetLimits': WHATEVER THE INPUT: true; the input reads as it did. -/
def sheetLimitsSpec : ChangeSpec := { name := "sheetLimits", fn := fun _ => fun
  | [d1, d2, d3, d4, d5] => { results := [.lit (.bool true)], args := [d1, d2, d3, d4, d5] }
  | _ => none }
def sheetLimitsRow : OpenClaim := { program := "ytpkoilfecgmogaa", sum := "e9ab98ebf23737c24578a79533663c7326cc4dd62d2c489b3b32f9743bce52ff", func := "wagebook/wagebooklaw17.SheetLimits", spec := "sheetLimits", plainKeys := false, apart := false }
def SheetLimitsSaid : Prop := sheetLimitsRow.holds Try.pinned (OpenSpec.ofChange sheetLimitsSpec)

/-- ITS FALSE NEIGHBOUR: 'it returns false'. Refute it at one input. -/
def sheetLimitsWrong : ChangeSpec := { name := "sheetLimits", fn := fun _ => fun
  | [d1, d2, d3, d4, d5] => { results := [.lit (.bool false)], args := [d1, d2, d3, d4, d5] }
  | _ => none }
def SheetLimitsWrongFalsely : Prop := sheetLimitsRow.holds Try.pinned (OpenSpec.ofChange sheetLimitsWrong)

/-- 'wagebooklaw17.SheetAlone': WHATEVER THE INPUT: true; the input reads as it did. -/
def sheetAloneSpec : ChangeSpec := { name := "sheetAlone", fn := fun _ => fun
  | [d1, d2, d3] => { results := [.lit (.bool true)], args := [d1, d2, d3] }
  | _ => none }
def sheetAloneRow : OpenClaim := { program := "ytpkoilfecgmogaa", sum := "e9ab98ebf23737c24578a79533663c7326cc4dd62d2c489b3b32f9743bce52ff", func := "wagebook/wagebooklaw17.SheetAlone", spec := "sheetAlone", plainKeys := false, apart := false }
def SheetAloneSaid : Prop := sheetAloneRow.holds Try.pinned (OpenSpec.ofChange sheetAloneSpec)

/-- ITS FALSE NEIGHBOUR: 'it returns false'. Refute it at one input. -/
def sheetAloneWrong : ChangeSpec := { name := "sheetAlone", fn := fun _ => fun
  | [d1, d2, d3] => { results := [.lit (.bool false)], args := [d1, d2, d3] }
  | _ => none }
def SheetAloneWrongFalsely : Prop := sheetAloneRow.holds Try.pinned (OpenSpec.ofChange sheetAloneWrong)

/- THE SECOND FORM. 'bulk': how many values and letters a reading holds, each counted each time it is reached (what is shared counts as often as it is met; a slice's spare places count too). A statement '..UptoSaid' is the law's where the arguments, and the package variables that the reading takes, are together of bulk at most 1048576: NARROWER than '..Said'. Prove '..Said' where nothing that the law and all that it calls make is longer than what came in: it says more and counts as full. Else prove '..UptoSaid'. A law counts once. -/
mutual
def uptoBulk {H : Type} : DataW H → Nat
  | .lit (.string bytes) => bytes.length + 1
  | .lit _ => 1
  | .nil => 1
  | .ptr d => uptoBulk d + 1
  | .slice elems spare => uptoBulkAll elems + uptoBulkAll spare + 1
  | .agg parts => uptoBulkAll parts + 1
  | .iface _ d => uptoBulk d + 1
  | .map entries => uptoBulkEntries entries + 1
  | .held _ => 1
def uptoBulkAll {H : Type} : List (DataW H) → Nat
  | [] => 0
  | d :: r => uptoBulk d + uptoBulkAll r
def uptoBulkEntries {H : Type} : List (Lit × DataW H) → Nat
  | [] => 0
  | x :: r => uptoBulkEntry x + uptoBulkEntries r
def uptoBulkEntry {H : Type} : Lit × DataW H → Nat
  | (.string bytes, d) => bytes.length + uptoBulk d + 1
  | (_, d) => uptoBulk d + 1
 end
def uptoSmall : (H : Type) → List (DataW H) → Bool := fun _ ds => decide (uptoBulkAll ds ≤ 1048576)
def OpenSpec.upto (s : _root_.Go.ChangeSpec) : _root_.Go.OpenSpec := { _root_.Go.OpenSpec.ofChange s with cond := some uptoSmall }

/-- 'wagebooklaw17.SheetSum', WHERE WHAT IT READS IS OF BULK AT MOST 1048576: true; the input reads as it did. -/
def sheetSumUptoRow : OpenClaim := { program := "ytpkoilfecgmogaa", sum := "e9ab98ebf23737c24578a79533663c7326cc4dd62d2c489b3b32f9743bce52ff", func := "wagebook/wagebooklaw17.SheetSum", spec := "sheetSum", plainKeys := false, apart := false, narrowed := true }
def SheetSumUptoSaid : Prop := sheetSumUptoRow.holds Try.pinned (OpenSpec.upto sheetSumSpec)

/-- 'wagebooklaw17.SheetWorked', WHERE WHAT IT READS IS OF BULK AT MOST 1048576: true; the input reads as it did. -/
def sheetWorkedUptoRow : OpenClaim := { program := "ytpkoilfecgmogaa", sum := "e9ab98ebf23737c24578a79533663c7326cc4dd62d2c489b3b32f9743bce52ff", func := "wagebook/wagebooklaw17.SheetWorked", spec := "sheetWorked", plainKeys := false, apart := false, narrowed := true }
def SheetWorkedUptoSaid : Prop := sheetWorkedUptoRow.holds Try.pinned (OpenSpec.upto sheetWorkedSpec)

/-- 'wagebooklaw17.SheetCut', WHERE WHAT IT READS IS OF BULK AT MOST 1048576: true; the input reads as it did. -/
def sheetCutUptoRow : OpenClaim := { program := "ytpkoilfecgmogaa", sum := "e9ab98ebf23737c24578a79533663c7326cc4dd62d2c489b3b32f9743bce52ff", func := "wagebook/wagebooklaw17.SheetCut", spec := "sheetCut", plainKeys := false, apart := false, narrowed := true }
def SheetCutUptoSaid : Prop := sheetCutUptoRow.holds Try.pinned (OpenSpec.upto sheetCutSpec)

/-- 'wagebooklaw17.SheetLater', WHERE WHAT IT READS IS OF BULK AT MOST 1048576: true; the input reads as it did. -/
def sheetLaterUptoRow : OpenClaim := { program := "ytpkoilfecgmogaa", sum := "e9ab98ebf23737c24578a79533663c7326cc4dd62d2c489b3b32f9743bce52ff", func := "wagebook/wagebooklaw17.SheetLater", spec := "sheetLater", plainKeys := false, apart := false, narrowed := true }
def SheetLaterUptoSaid : Prop := sheetLaterUptoRow.holds Try.pinned (OpenSpec.upto sheetLaterSpec)

/-- 'wagebooklaw17.SheetLimits', WHERE WHAT IT READS IS OF BULK AT MOST 1048576: true; the input reads as it did. -/
def sheetLimitsUptoRow : OpenClaim := { program := "ytpkoilfecgmogaa", sum := "e9ab98ebf23737c24578a79533663c7326cc4dd62d2c489b3b32f9743bce52ff", func := "wagebook/wagebooklaw17.SheetLimits", spec := "sheetLimits", plainKeys := false, apart := false, narrowed := true }
def SheetLimitsUptoSaid : Prop := sheetLimitsUptoRow.holds Try.pinned (OpenSpec.upto sheetLimitsSpec)

/-- 'wagebooklaw17.SheetAlone', WHERE WHAT IT READS IS OF BULK AT MOST 1048576: true; the input reads as it did. -/
def sheetAloneUptoRow : OpenClaim := { program := "ytpkoilfecgmogaa", sum := "e9ab98ebf23737c24578a79533663c7326cc4dd62d2c489b3b32f9743bce52ff", func := "wagebook/wagebooklaw17.SheetAlone", spec := "sheetAlone", plainKeys := false, apart := false, narrowed := true }
def SheetAloneUptoSaid : Prop := sheetAloneUptoRow.holds Try.pinned (OpenSpec.upto sheetAloneSpec)

end Rows
end Go.Proofs.Ytpkoilfecgmogaa
