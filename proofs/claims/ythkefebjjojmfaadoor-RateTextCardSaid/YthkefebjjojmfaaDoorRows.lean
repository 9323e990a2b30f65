/-
  NARROWER THAN 'FOR EVERY INPUT', by the rows' own cells (each row's printed sentence says how): RatePart: laid · RateModes: laid · RateSums: laid · RateExact: laid · RateText: laid · RateRises: laid · RateNear: laid · RateOf: laid · RateTimes: laid.
  DERIVED. THE GIVEN ROWS OF THIS SEAT. 9 by the template 'for every input the law returns true; each argument reads behind the call as it read before'; 0 by the template 'total and deterministic' (their statements: YthkefebjjojmfaaDoorTotals.lean).
  GIVEN WITH THE SEED: the statements are not yours to turn. If you find one false, say at which input.
  Laid BY PROGRAM, IN A SANDBOX (cutbox-rows.mjs): the forced cells as the released guide's own fill.sh prints them over the translation fd11b6016eb453f5… (all of the seat's roots in one cut). By AI agents, Wed Nov 11 2026. No macro, syntax, notation, axiom, sorry.
-/
import Derived.Test.YthkefebjjojmfaaDoorChecked
import GoSem.PinnedTables
import GoSem.Claim
import GoSem.ClaimJoined
import GoSem.ClaimMapViews
import Derived.JoinedTies
import Derived.KernelRfl
namespace Go.Proofs.YthkefebjjojmfaaDoor
/- THE CELL 'sum', in the pinned program and in every row, IS THE sha256 OF THE DUMP (.gsa) THAT YthkefebjjojmfaaDoorProg.lean LOADS. Nothing in Lean hashes anything: it is a label: what it is worth is what the hold of that sum in a sandbox is worth. -/
noncomputable def Tryd.pinned : Pinned := { name := "ythkefebjjojmfaadoor", sum := "fd11b6016eb453f5eebe2ba6e189ee0656b15376a80314d621334659cf08fff3", checked := Tryd.checked }
namespace Rows
def none {H : Type} : Left H := { results := [], args := [] }

/- WHAT THE LISTED PACKAGE-LEVEL VARIABLES READ AS WHEN THE CALL BEGINS. Each datum BY PROGRAM (the guide's laid-datum.mjs) off the statement by which the dump's own 'gosem.cut.vars' lays the variable. In a bare row this is a premise. The card (YthkefebjjojmfaaDoorCards.lean) ties it to the program's text. -/
def laid_math_bits_deBruijn32tab {H : Type} : DataW H := .agg [.lit (.int .u8 0), .lit (.int .u8 1), .lit (.int .u8 28), .lit (.int .u8 2), .lit (.int .u8 29), .lit (.int .u8 14), .lit (.int .u8 24), .lit (.int .u8 3), .lit (.int .u8 30), .lit (.int .u8 22), .lit (.int .u8 20), .lit (.int .u8 15), .lit (.int .u8 25), .lit (.int .u8 17), .lit (.int .u8 4), .lit (.int .u8 8), .lit (.int .u8 31), .lit (.int .u8 27), .lit (.int .u8 13), .lit (.int .u8 23), .lit (.int .u8 21), .lit (.int .u8 19), .lit (.int .u8 16), .lit (.int .u8 7), .lit (.int .u8 26), .lit (.int .u8 12), .lit (.int .u8 18), .lit (.int .u8 6), .lit (.int .u8 11), .lit (.int .u8 5), .lit (.int .u8 10), .lit (.int .u8 9)]
def laid_math_bits_deBruijn64tab {H : Type} : DataW H := .agg [.lit (.int .u8 0), .lit (.int .u8 1), .lit (.int .u8 56), .lit (.int .u8 2), .lit (.int .u8 57), .lit (.int .u8 49), .lit (.int .u8 28), .lit (.int .u8 3), .lit (.int .u8 61), .lit (.int .u8 58), .lit (.int .u8 42), .lit (.int .u8 50), .lit (.int .u8 38), .lit (.int .u8 29), .lit (.int .u8 17), .lit (.int .u8 4), .lit (.int .u8 62), .lit (.int .u8 47), .lit (.int .u8 59), .lit (.int .u8 36), .lit (.int .u8 45), .lit (.int .u8 43), .lit (.int .u8 51), .lit (.int .u8 22), .lit (.int .u8 53), .lit (.int .u8 39), .lit (.int .u8 33), .lit (.int .u8 30), .lit (.int .u8 24), .lit (.int .u8 18), .lit (.int .u8 12), .lit (.int .u8 5), .lit (.int .u8 63), .lit (.int .u8 55), .lit (.int .u8 48), .lit (.int .u8 27), .lit (.int .u8 60), .lit (.int .u8 41), .lit (.int .u8 37), .lit (.int .u8 16), .lit (.int .u8 46), .lit (.int .u8 35), .lit (.int .u8 44), .lit (.int .u8 21), .lit (.int .u8 52), .lit (.int .u8 32), .lit (.int .u8 23), .lit (.int .u8 11), .lit (.int .u8 54), .lit (.int .u8 26), .lit (.int .u8 40), .lit (.int .u8 15), .lit (.int .u8 34), .lit (.int .u8 20), .lit (.int .u8 31), .lit (.int .u8 10), .lit (.int .u8 25), .lit (.int .u8 14), .lit (.int .u8 19), .lit (.int .u8 9), .lit (.int .u8 13), .lit (.int .u8 8), .lit (.int .u8 7), .lit (.int .u8 6)]
def laid_internal_strconv_uint64pow10 {H : Type} : DataW H := .agg [.lit (.int .u64 1), .lit (.int .u64 10), .lit (.int .u64 100), .lit (.int .u64 1000), .lit (.int .u64 10000), .lit (.int .u64 100000), .lit (.int .u64 1000000), .lit (.int .u64 10000000), .lit (.int .u64 100000000), .lit (.int .u64 1000000000), .lit (.int .u64 10000000000), .lit (.int .u64 100000000000), .lit (.int .u64 1000000000000), .lit (.int .u64 10000000000000), .lit (.int .u64 100000000000000), .lit (.int .u64 1000000000000000), .lit (.int .u64 10000000000000000), .lit (.int .u64 100000000000000000), .lit (.int .u64 1000000000000000000), .lit (.int .u64 10000000000000000000)]
def laid_unicode_utf8_acceptRanges {H : Type} : DataW H := .agg [.agg [.lit (.int .u8 128), .lit (.int .u8 191)], .agg [.lit (.int .u8 160), .lit (.int .u8 191)], .agg [.lit (.int .u8 128), .lit (.int .u8 159)], .agg [.lit (.int .u8 144), .lit (.int .u8 191)], .agg [.lit (.int .u8 128), .lit (.int .u8 143)], .agg [.lit (.int .u8 0), .lit (.int .u8 0)], .agg [.lit (.int .u8 0), .lit (.int .u8 0)], .agg [.lit (.int .u8 0), .lit (.int .u8 0)], .agg [.lit (.int .u8 0), .lit (.int .u8 0)], .agg [.lit (.int .u8 0), .lit (.int .u8 0)], .agg [.lit (.int .u8 0), .lit (.int .u8 0)], .agg [.lit (.int .u8 0), .lit (.int .u8 0)], .agg [.lit (.int .u8 0), .lit (.int .u8 0)], .agg [.lit (.int .u8 0), .lit (.int .u8 0)], .agg [.lit (.int .u8 0), .lit (.int .u8 0)], .agg [.lit (.int .u8 0), .lit (.int .u8 0)]]
/-- One of Go's own tables, pinned by name: the form's constant. -/
def laid_unicode_utf8_first : DataW Unit := Go.Pinned.utf8First

/-- 'wagebooklaw02.RatePart': WHATEVER THE INPUT: true; the input reads as it did. -/
def ratePartSpec : ChangeSpec := { name := "ratePart", fn := fun _ => fun
  | [d1, d2, d3, d4] => { results := [.lit (.bool true)], args := [d1, d2, d3, d4] }
  | _ => none }
def ratePartRow : OpenClaim := { program := "ythkefebjjojmfaadoor", sum := "fd11b6016eb453f5eebe2ba6e189ee0656b15376a80314d621334659cf08fff3", func := "wagebook/wagebooklaw02.RatePart", spec := "ratePart", inPlace := ["internal/bytealg.IndexByteString", "internal/bytealg.IndexString"], named := ["math/bits.divideError", "math/bits.overflowError", "internal/bytealg.MaxLen", "internal/strconv.uint64pow10", "math/bits.deBruijn32tab", "math/bits.deBruijn64tab", "unicode/utf8.first", "unicode/utf8.acceptRanges"], apart := false, laid := [("math/bits.deBruijn32tab", laid_math_bits_deBruijn32tab), ("math/bits.deBruijn64tab", laid_math_bits_deBruijn64tab), ("internal/strconv.uint64pow10", laid_internal_strconv_uint64pow10), ("unicode/utf8.acceptRanges", laid_unicode_utf8_acceptRanges), ("unicode/utf8.first", laid_unicode_utf8_first)] }
def RatePartSaid : Prop := ratePartRow.holds Tryd.pinned (OpenSpec.ofChange ratePartSpec)

/-- ITS FALSE NEIGHBOUR: 'it returns false'. Refute it at one input. -/
def ratePartWrong : ChangeSpec := { name := "ratePart", fn := fun _ => fun
  | [d1, d2, d3, d4] => { results := [.lit (.bool false)], args := [d1, d2, d3, d4] }
  | _ => none }
def RatePartWrongFalsely : Prop := ratePartRow.holds Tryd.pinned (OpenSpec.ofChange ratePartWrong)

/-- 'wagebooklaw02.RateModes': WHATEVER THE INPUT: true; the input reads as it did. -/
def rateModesSpec : ChangeSpec := { name := "rateModes", fn := fun _ => fun
  | [d1, d2, d3] => { results := [.lit (.bool true)], args := [d1, d2, d3] }
  | _ => none }
def rateModesRow : OpenClaim := { program := "ythkefebjjojmfaadoor", sum := "fd11b6016eb453f5eebe2ba6e189ee0656b15376a80314d621334659cf08fff3", func := "wagebook/wagebooklaw02.RateModes", spec := "rateModes", inPlace := ["internal/bytealg.IndexByteString", "internal/bytealg.IndexString"], named := ["math/bits.divideError", "math/bits.overflowError", "internal/bytealg.MaxLen", "internal/strconv.uint64pow10", "math/bits.deBruijn32tab", "math/bits.deBruijn64tab", "unicode/utf8.first", "unicode/utf8.acceptRanges"], apart := false, laid := [("math/bits.deBruijn32tab", laid_math_bits_deBruijn32tab), ("math/bits.deBruijn64tab", laid_math_bits_deBruijn64tab), ("internal/strconv.uint64pow10", laid_internal_strconv_uint64pow10), ("unicode/utf8.acceptRanges", laid_unicode_utf8_acceptRanges), ("unicode/utf8.first", laid_unicode_utf8_first)] }
def RateModesSaid : Prop := rateModesRow.holds Tryd.pinned (OpenSpec.ofChange rateModesSpec)

/-- ITS FALSE NEIGHBOUR: 'it returns false'. Refute it at one input. -/
def rateModesWrong : ChangeSpec := { name := "rateModes", fn := fun _ => fun
  | [d1, d2, d3] => { results := [.lit (.bool false)], args := [d1, d2, d3] }
  | _ => none }
def RateModesWrongFalsely : Prop := rateModesRow.holds Tryd.pinned (OpenSpec.ofChange rateModesWrong)

/-- 'wagebooklaw02.RateSums': WHATEVER THE INPUT: true; the input reads as it did. -/
def rateSumsSpec : ChangeSpec := { name := "rateSums", fn := fun _ => fun
  | [d1, d2, d3, d4] => { results := [.lit (.bool true)], args := [d1, d2, d3, d4] }
  | _ => none }
def rateSumsRow : OpenClaim := { program := "ythkefebjjojmfaadoor", sum := "fd11b6016eb453f5eebe2ba6e189ee0656b15376a80314d621334659cf08fff3", func := "wagebook/wagebooklaw02.RateSums", spec := "rateSums", inPlace := ["internal/bytealg.IndexByteString", "internal/bytealg.IndexString"], named := ["math/bits.divideError", "math/bits.overflowError", "internal/bytealg.MaxLen", "internal/strconv.uint64pow10", "math/bits.deBruijn32tab", "math/bits.deBruijn64tab", "unicode/utf8.first", "unicode/utf8.acceptRanges"], apart := false, laid := [("math/bits.deBruijn32tab", laid_math_bits_deBruijn32tab), ("math/bits.deBruijn64tab", laid_math_bits_deBruijn64tab), ("internal/strconv.uint64pow10", laid_internal_strconv_uint64pow10), ("unicode/utf8.acceptRanges", laid_unicode_utf8_acceptRanges), ("unicode/utf8.first", laid_unicode_utf8_first)] }
def RateSumsSaid : Prop := rateSumsRow.holds Tryd.pinned (OpenSpec.ofChange rateSumsSpec)

/-- ITS FALSE NEIGHBOUR: 'it returns false'. Refute it at one input. -/
def rateSumsWrong : ChangeSpec := { name := "rateSums", fn := fun _ => fun
  | [d1, d2, d3, d4] => { results := [.lit (.bool false)], args := [d1, d2, d3, d4] }
  | _ => none }
def RateSumsWrongFalsely : Prop := rateSumsRow.holds Tryd.pinned (OpenSpec.ofChange rateSumsWrong)

/-- 'wagebooklaw02.RateExact': WHATEVER THE INPUT: true; the input reads as it did. -/
def rateExactSpec : ChangeSpec := { name := "rateExact", fn := fun _ => fun
  | [d1, d2, d3, d4, d5] => { results := [.lit (.bool true)], args := [d1, d2, d3, d4, d5] }
  | _ => none }
def rateExactRow : OpenClaim := { program := "ythkefebjjojmfaadoor", sum := "fd11b6016eb453f5eebe2ba6e189ee0656b15376a80314d621334659cf08fff3", func := "wagebook/wagebooklaw02.RateExact", spec := "rateExact", inPlace := ["internal/bytealg.IndexByteString", "internal/bytealg.IndexString"], named := ["math/bits.divideError", "math/bits.overflowError", "internal/bytealg.MaxLen", "internal/strconv.uint64pow10", "math/bits.deBruijn32tab", "math/bits.deBruijn64tab", "unicode/utf8.first", "unicode/utf8.acceptRanges"], apart := false, laid := [("math/bits.deBruijn32tab", laid_math_bits_deBruijn32tab), ("math/bits.deBruijn64tab", laid_math_bits_deBruijn64tab), ("internal/strconv.uint64pow10", laid_internal_strconv_uint64pow10), ("unicode/utf8.acceptRanges", laid_unicode_utf8_acceptRanges), ("unicode/utf8.first", laid_unicode_utf8_first)] }
def RateExactSaid : Prop := rateExactRow.holds Tryd.pinned (OpenSpec.ofChange rateExactSpec)

/-- ITS FALSE NEIGHBOUR: 'it returns false'. Refute it at one input. -/
def rateExactWrong : ChangeSpec := { name := "rateExact", fn := fun _ => fun
  | [d1, d2, d3, d4, d5] => { results := [.lit (.bool false)], args := [d1, d2, d3, d4, d5] }
  | _ => none }
def RateExactWrongFalsely : Prop := rateExactRow.holds Tryd.pinned (OpenSpec.ofChange rateExactWrong)

/-- 'wagebooklaw02.RateText': WHATEVER THE INPUT: true; the input reads as it did. -/
def rateTextSpec : ChangeSpec := { name := "rateText", fn := fun _ => fun
  | [d1, d2] => { results := [.lit (.bool true)], args := [d1, d2] }
  | _ => none }
def rateTextRow : OpenClaim := { program := "ythkefebjjojmfaadoor", sum := "fd11b6016eb453f5eebe2ba6e189ee0656b15376a80314d621334659cf08fff3", func := "wagebook/wagebooklaw02.RateText", spec := "rateText", inPlace := ["internal/bytealg.IndexByteString", "internal/bytealg.IndexString"], named := ["math/bits.divideError", "math/bits.overflowError", "internal/bytealg.MaxLen", "internal/strconv.uint64pow10", "math/bits.deBruijn32tab", "math/bits.deBruijn64tab", "unicode/utf8.first", "unicode/utf8.acceptRanges"], apart := false, laid := [("math/bits.deBruijn32tab", laid_math_bits_deBruijn32tab), ("math/bits.deBruijn64tab", laid_math_bits_deBruijn64tab), ("internal/strconv.uint64pow10", laid_internal_strconv_uint64pow10), ("unicode/utf8.acceptRanges", laid_unicode_utf8_acceptRanges), ("unicode/utf8.first", laid_unicode_utf8_first)] }
def RateTextSaid : Prop := rateTextRow.holds Tryd.pinned (OpenSpec.ofChange rateTextSpec)

/-- ITS FALSE NEIGHBOUR: 'it returns false'. Refute it at one input. -/
def rateTextWrong : ChangeSpec := { name := "rateText", fn := fun _ => fun
  | [d1, d2] => { results := [.lit (.bool false)], args := [d1, d2] }
  | _ => none }
def RateTextWrongFalsely : Prop := rateTextRow.holds Tryd.pinned (OpenSpec.ofChange rateTextWrong)

/-- 'wagebooklaw02.RateRises': WHATEVER THE INPUT: true; the input reads as it did. -/
def rateRisesSpec : ChangeSpec := { name := "rateRises", fn := fun _ => fun
  | [d1, d2, d3, d4, d5, d6] => { results := [.lit (.bool true)], args := [d1, d2, d3, d4, d5, d6] }
  | _ => none }
def rateRisesRow : OpenClaim := { program := "ythkefebjjojmfaadoor", sum := "fd11b6016eb453f5eebe2ba6e189ee0656b15376a80314d621334659cf08fff3", func := "wagebook/wagebooklaw02.RateRises", spec := "rateRises", inPlace := ["internal/bytealg.IndexByteString", "internal/bytealg.IndexString"], named := ["math/bits.divideError", "math/bits.overflowError", "internal/bytealg.MaxLen", "internal/strconv.uint64pow10", "math/bits.deBruijn32tab", "math/bits.deBruijn64tab", "unicode/utf8.first", "unicode/utf8.acceptRanges"], apart := false, laid := [("math/bits.deBruijn32tab", laid_math_bits_deBruijn32tab), ("math/bits.deBruijn64tab", laid_math_bits_deBruijn64tab), ("internal/strconv.uint64pow10", laid_internal_strconv_uint64pow10), ("unicode/utf8.acceptRanges", laid_unicode_utf8_acceptRanges), ("unicode/utf8.first", laid_unicode_utf8_first)] }
def RateRisesSaid : Prop := rateRisesRow.holds Tryd.pinned (OpenSpec.ofChange rateRisesSpec)

/-- ITS FALSE NEIGHBOUR: 'it returns false'. Refute it at one input. -/
def rateRisesWrong : ChangeSpec := { name := "rateRises", fn := fun _ => fun
  | [d1, d2, d3, d4, d5, d6] => { results := [.lit (.bool false)], args := [d1, d2, d3, d4, d5, d6] }
  | _ => none }
def RateRisesWrongFalsely : Prop := rateRisesRow.holds Tryd.pinned (OpenSpec.ofChange rateRisesWrong)

/-- 'wagebooklaw02.RateNear': WHATEVER THE INPUT: true; the input reads as it did. -/
def rateNearSpec : ChangeSpec := { name := "rateNear", fn := fun _ => fun
  | [d1, d2, d3] => { results := [.lit (.bool true)], args := [d1, d2, d3] }
  | _ => none }
def rateNearRow : OpenClaim := { program := "ythkefebjjojmfaadoor", sum := "fd11b6016eb453f5eebe2ba6e189ee0656b15376a80314d621334659cf08fff3", func := "wagebook/wagebooklaw02.RateNear", spec := "rateNear", inPlace := ["internal/bytealg.IndexByteString", "internal/bytealg.IndexString"], named := ["math/bits.divideError", "math/bits.overflowError", "internal/bytealg.MaxLen", "internal/strconv.uint64pow10", "math/bits.deBruijn32tab", "math/bits.deBruijn64tab", "unicode/utf8.first", "unicode/utf8.acceptRanges"], apart := false, laid := [("math/bits.deBruijn32tab", laid_math_bits_deBruijn32tab), ("math/bits.deBruijn64tab", laid_math_bits_deBruijn64tab), ("internal/strconv.uint64pow10", laid_internal_strconv_uint64pow10), ("unicode/utf8.acceptRanges", laid_unicode_utf8_acceptRanges), ("unicode/utf8.first", laid_unicode_utf8_first)] }
def RateNearSaid : Prop := rateNearRow.holds Tryd.pinned (OpenSpec.ofChange rateNearSpec)

/-- ITS FALSE NEIGHBOUR: 'it returns false'. Refute it at one input. -/
def rateNearWrong : ChangeSpec := { name := "rateNear", fn := fun _ => fun
  | [d1, d2, d3] => { results := [.lit (.bool false)], args := [d1, d2, d3] }
  | _ => none }
def RateNearWrongFalsely : Prop := rateNearRow.holds Tryd.pinned (OpenSpec.ofChange rateNearWrong)

/-- 'wagebooklaw02.RateOf': WHATEVER THE INPUT: true; the input reads as it did. -/
def rateOfSpec : ChangeSpec := { name := "rateOf", fn := fun _ => fun
  | [d1, d2, d3, d4] => { results := [.lit (.bool true)], args := [d1, d2, d3, d4] }
  | _ => none }
def rateOfRow : OpenClaim := { program := "ythkefebjjojmfaadoor", sum := "fd11b6016eb453f5eebe2ba6e189ee0656b15376a80314d621334659cf08fff3", func := "wagebook/wagebooklaw02.RateOf", spec := "rateOf", inPlace := ["internal/bytealg.IndexByteString", "internal/bytealg.IndexString"], named := ["math/bits.divideError", "math/bits.overflowError", "internal/bytealg.MaxLen", "internal/strconv.uint64pow10", "math/bits.deBruijn32tab", "math/bits.deBruijn64tab", "unicode/utf8.first", "unicode/utf8.acceptRanges"], apart := false, laid := [("math/bits.deBruijn32tab", laid_math_bits_deBruijn32tab), ("math/bits.deBruijn64tab", laid_math_bits_deBruijn64tab), ("internal/strconv.uint64pow10", laid_internal_strconv_uint64pow10), ("unicode/utf8.acceptRanges", laid_unicode_utf8_acceptRanges), ("unicode/utf8.first", laid_unicode_utf8_first)] }
def RateOfSaid : Prop := rateOfRow.holds Tryd.pinned (OpenSpec.ofChange rateOfSpec)

/-- ITS FALSE NEIGHBOUR: 'it returns false'. Refute it at one input. -/
def rateOfWrong : ChangeSpec := { name := "rateOf", fn := fun _ => fun
  | [d1, d2, d3, d4] => { results := [.lit (.bool false)], args := [d1, d2, d3, d4] }
  | _ => none }
def RateOfWrongFalsely : Prop := rateOfRow.holds Tryd.pinned (OpenSpec.ofChange rateOfWrong)

/-- 'wagebooklaw02.RateTimes': WHATEVER THE INPUT: true; the input reads as it did. -/
def rateTimesSpec : ChangeSpec := { name := "rateTimes", fn := fun _ => fun
  | [d1, d2] => { results := [.lit (.bool true)], args := [d1, d2] }
  | _ => none }
def rateTimesRow : OpenClaim := { program := "ythkefebjjojmfaadoor", sum := "fd11b6016eb453f5eebe2ba6e189ee0656b15376a80314d621334659cf08fff3", func := "wagebook/wagebooklaw02.RateTimes", spec := "rateTimes", inPlace := ["internal/bytealg.IndexByteString", "internal/bytealg.IndexString"], named := ["math/bits.divideError", "math/bits.overflowError", "internal/bytealg.MaxLen", "internal/strconv.uint64pow10", "math/bits.deBruijn32tab", "math/bits.deBruijn64tab", "unicode/utf8.first", "unicode/utf8.acceptRanges"], apart := false, laid := [("math/bits.deBruijn32tab", laid_math_bits_deBruijn32tab), ("math/bits.deBruijn64tab", laid_math_bits_deBruijn64tab), ("internal/strconv.uint64pow10", laid_internal_strconv_uint64pow10), ("unicode/utf8.acceptRanges", laid_unicode_utf8_acceptRanges), ("unicode/utf8.first", laid_unicode_utf8_first)] }
def RateTimesSaid : Prop := rateTimesRow.holds Tryd.pinned (OpenSpec.ofChange rateTimesSpec)

/-- ITS FALSE NEIGHBOUR: 'it returns false'. Refute it at one input. -/
def rateTimesWrong : ChangeSpec := { name := "rateTimes", fn := fun _ => fun
  | [d1, d2] => { results := [.lit (.bool false)], args := [d1, d2] }
  | _ => none }
def RateTimesWrongFalsely : Prop := rateTimesRow.holds Tryd.pinned (OpenSpec.ofChange rateTimesWrong)

/- THE SECOND FORM. 'bulk': how many values and letters a reading holds, each counted each time it is reached (what is shared counts as often as it is met; a slice's spare places count too). A statement '..UptoSaid' is the law's where the arguments, and the package variables that the reading takes, are together of bulk at most 1048576: NARROWER than '..Said'. Prove '..Said' where nothing that the law and all that it calls make is longer than what came in: it says more and counts as full. Else prove '..UptoSaid'. A law counts once. -/
mutual
def uptoBulk {H : Type} : DataW H → Nat
  | .lit (.string bytes) => bytes.length + 1
  | .lit _ => 1
  | .nil => 1
  | .ptr d => uptoBulk d + 1
  | .slice elems spare => uptoBulkAll elems + uptoBulkAll spare + 1
  | .agg parts => uptoBulkAll parts + 1
  | .iface _ d => uptoBulk d + 1
  | .map entries => uptoBulkEntries entries + 1
  | .held _ => 1
def uptoBulkAll {H : Type} : List (DataW H) → Nat
  | [] => 0
  | d :: r => uptoBulk d + uptoBulkAll r
def uptoBulkEntries {H : Type} : List (Lit × DataW H) → Nat
  | [] => 0
  | x :: r => uptoBulkEntry x + uptoBulkEntries r
def uptoBulkEntry {H : Type} : Lit × DataW H → Nat
  | (.string bytes, d) => bytes.length + uptoBulk d + 1
  | (_, d) => uptoBulk d + 1
 end
def uptoSmall : (H : Type) → List (DataW H) → Bool := fun _ ds => decide (uptoBulkAll ds ≤ 1048576)
def OpenSpec.upto (s : _root_.Go.ChangeSpec) : _root_.Go.OpenSpec := { _root_.Go.OpenSpec.ofChange s with cond := some uptoSmall }

/-- 'wagebooklaw02.RatePart', WHERE WHAT IT READS IS OF BULK AT MOST 1048576: true; the input reads as it did. -/
def ratePartUptoRow : OpenClaim := { program := "ythkefebjjojmfaadoor", sum := "fd11b6016eb453f5eebe2ba6e189ee0656b15376a80314d621334659cf08fff3", func := "wagebook/wagebooklaw02.RatePart", spec := "ratePart", inPlace := ["internal/bytealg.IndexByteString", "internal/bytealg.IndexString"], named := ["math/bits.divideError", "math/bits.overflowError", "internal/bytealg.MaxLen", "internal/strconv.uint64pow10", "math/bits.deBruijn32tab", "math/bits.deBruijn64tab", "unicode/utf8.first", "unicode/utf8.acceptRanges"], apart := false, laid := [("math/bits.deBruijn32tab", laid_math_bits_deBruijn32tab), ("math/bits.deBruijn64tab", laid_math_bits_deBruijn64tab), ("internal/strconv.uint64pow10", laid_internal_strconv_uint64pow10), ("unicode/utf8.acceptRanges", laid_unicode_utf8_acceptRanges), ("unicode/utf8.first", laid_unicode_utf8_first)], narrowed := true }
def RatePartUptoSaid : Prop := ratePartUptoRow.holds Tryd.pinned (OpenSpec.upto ratePartSpec)

/-- 'wagebooklaw02.RateModes', WHERE WHAT IT READS IS OF BULK AT MOST 1048576: true; the input reads as it did. -/
def rateModesUptoRow : OpenClaim := { program := "ythkefebjjojmfaadoor", sum := "fd11b6016eb453f5eebe2ba6e189ee0656b15376a80314d621334659cf08fff3", func := "wagebook/wagebooklaw02.RateModes", spec := "rateModes", inPlace := ["internal/bytealg.IndexByteString", "internal/bytealg.IndexString"], named := ["math/bits.divideError", "math/bits.overflowError", "internal/bytealg.MaxLen", "internal/strconv.uint64pow10", "math/bits.deBruijn32tab", "math/bits.deBruijn64tab", "unicode/utf8.first", "unicode/utf8.acceptRanges"], apart := false, laid := [("math/bits.deBruijn32tab", laid_math_bits_deBruijn32tab), ("math/bits.deBruijn64tab", laid_math_bits_deBruijn64tab), ("internal/strconv.uint64pow10", laid_internal_strconv_uint64pow10), ("unicode/utf8.acceptRanges", laid_unicode_utf8_acceptRanges), ("unicode/utf8.first", laid_unicode_utf8_first)], narrowed := true }
def RateModesUptoSaid : Prop := rateModesUptoRow.holds Tryd.pinned (OpenSpec.upto rateModesSpec)

/-- 'wagebooklaw02.RateSums', WHERE WHAT IT READS IS OF BULK AT MOST 1048576: true; the input reads as it did. -/
def rateSumsUptoRow : OpenClaim := { program := "ythkefebjjojmfaadoor", sum := "fd11b6016eb453f5eebe2ba6e189ee0656b15376a80314d621334659cf08fff3", func := "wagebook/wagebooklaw02.RateSums", spec := "rateSums", inPlace := ["internal/bytealg.IndexByteString", "internal/bytealg.IndexString"], named := ["math/bits.divideError", "math/bits.overflowError", "internal/bytealg.MaxLen", "internal/strconv.uint64pow10", "math/bits.deBruijn32tab", "math/bits.deBruijn64tab", "unicode/utf8.first", "unicode/utf8.acceptRanges"], apart := false, laid := [("math/bits.deBruijn32tab", laid_math_bits_deBruijn32tab), ("math/bits.deBruijn64tab", laid_math_bits_deBruijn64tab), ("internal/strconv.uint64pow10", laid_internal_strconv_uint64pow10), ("unicode/utf8.acceptRanges", laid_unicode_utf8_acceptRanges), ("unicode/utf8.first", laid_unicode_utf8_first)], narrowed := true }
def RateSumsUptoSaid : Prop := rateSumsUptoRow.holds Tryd.pinned (OpenSpec.upto rateSumsSpec)

/-- 'wagebooklaw02.RateExact', WHERE WHAT IT READS IS OF BULK AT MOST 1048576: true; the input reads as it did. -/
def rateExactUptoRow : OpenClaim := { program := "ythkefebjjojmfaadoor", sum := "fd11b6016eb453f5eebe2ba6e189ee0656b15376a80314d621334659cf08fff3", func := "wagebook/wagebooklaw02.RateExact", spec := "rateExact", inPlace := ["internal/bytealg.IndexByteString", "internal/bytealg.IndexString"], named := ["math/bits.divideError", "math/bits.overflowError", "internal/bytealg.MaxLen", "internal/strconv.uint64pow10", "math/bits.deBruijn32tab", "math/bits.deBruijn64tab", "unicode/utf8.first", "unicode/utf8.acceptRanges"], apart := false, laid := [("math/bits.deBruijn32tab", laid_math_bits_deBruijn32tab), ("math/bits.deBruijn64tab", laid_math_bits_deBruijn64tab), ("internal/strconv.uint64pow10", laid_internal_strconv_uint64pow10), ("unicode/utf8.acceptRanges", laid_unicode_utf8_acceptRanges), ("unicode/utf8.first", laid_unicode_utf8_first)], narrowed := true }
def RateExactUptoSaid : Prop := rateExactUptoRow.holds Tryd.pinned (OpenSpec.upto rateExactSpec)

/-- 'wagebooklaw02.RateText', WHERE WHAT IT READS IS OF BULK AT MOST 1048576: true; the input reads as it did. -/
def rateTextUptoRow : OpenClaim := { program := "ythkefebjjojmfaadoor", sum := "fd11b6016eb453f5eebe2ba6e189ee0656b15376a80314d621334659cf08fff3", func := "wagebook/wagebooklaw02.RateText", spec := "rateText", inPlace := ["internal/bytealg.IndexByteString", "internal/bytealg.IndexString"], named := ["math/bits.divideError", "math/bits.overflowError", "internal/bytealg.MaxLen", "internal/strconv.uint64pow10", "math/bits.deBruijn32tab", "math/bits.deBruijn64tab", "unicode/utf8.first", "unicode/utf8.acceptRanges"], apart := false, laid := [("math/bits.deBruijn32tab", laid_math_bits_deBruijn32tab), ("math/bits.deBruijn64tab", laid_math_bits_deBruijn64tab), ("internal/strconv.uint64pow10", laid_internal_strconv_uint64pow10), ("unicode/utf8.acceptRanges", laid_unicode_utf8_acceptRanges), ("unicode/utf8.first", laid_unicode_utf8_first)], narrowed := true }
def RateTextUptoSaid : Prop := rateTextUptoRow.holds Tryd.pinned (OpenSpec.upto rateTextSpec)

/-- 'wagebooklaw02.RateRises', WHERE WHAT IT READS IS OF BULK AT MOST 1048576: true; the input reads as it did. -/
def rateRisesUptoRow : OpenClaim := { program := "ythkefebjjojmfaadoor", sum := "fd11b6016eb453f5eebe2ba6e189ee0656b15376a80314d621334659cf08fff3", func := "wagebook/wagebooklaw02.RateRises", spec := "rateRises", inPlace := ["internal/bytealg.IndexByteString", "internal/bytealg.IndexString"], named := ["math/bits.divideError", "math/bits.overflowError", "internal/bytealg.MaxLen", "internal/strconv.uint64pow10", "math/bits.deBruijn32tab", "math/bits.deBruijn64tab", "unicode/utf8.first", "unicode/utf8.acceptRanges"], apart := false, laid := [("math/bits.deBruijn32tab", laid_math_bits_deBruijn32tab), ("math/bits.deBruijn64tab", laid_math_bits_deBruijn64tab), ("internal/strconv.uint64pow10", laid_internal_strconv_uint64pow10), ("unicode/utf8.acceptRanges", laid_unicode_utf8_acceptRanges), ("unicode/utf8.first", laid_unicode_utf8_first)], narrowed := true }
def RateRisesUptoSaid : Prop := rateRisesUptoRow.holds Tryd.pinned (OpenSpec.upto rateRisesSpec)

/-- 'wagebooklaw02.RateNear', WHERE WHAT IT READS IS OF BULK AT MOST 1048576: true; the input reads as it did. -/
def rateNearUptoRow : OpenClaim := { program := "ythkefebjjojmfaadoor", sum := "fd11b6016eb453f5eebe2ba6e189ee0656b15376a80314d621334659cf08fff3", func := "wagebook/wagebooklaw02.RateNear", spec := "rateNear", inPlace := ["internal/bytealg.IndexByteString", "internal/bytealg.IndexString"], named := ["math/bits.divideError", "math/bits.overflowError", "internal/bytealg.MaxLen", "internal/strconv.uint64pow10", "math/bits.deBruijn32tab", "math/bits.deBruijn64tab", "unicode/utf8.first", "unicode/utf8.acceptRanges"], apart := false, laid := [("math/bits.deBruijn32tab", laid_math_bits_deBruijn32tab), ("math/bits.deBruijn64tab", laid_math_bits_deBruijn64tab), ("internal/strconv.uint64pow10", laid_internal_strconv_uint64pow10), ("unicode/utf8.acceptRanges", laid_unicode_utf8_acceptRanges), ("unicode/utf8.first", laid_unicode_utf8_first)], narrowed := true }
def RateNearUptoSaid : Prop := rateNearUptoRow.holds Tryd.pinned (OpenSpec.upto rateNearSpec)

/-- 'wagebooklaw02.RateOf', WHERE WHAT IT READS IS OF BULK AT MOST 1048576: true; the input reads as it did. -/
def rateOfUptoRow : OpenClaim := { program := "ythkefebjjojmfaadoor", sum := "fd11b6016eb453f5eebe2ba6e189ee0656b15376a80314d621334659cf08fff3", func := "wagebook/wagebooklaw02.RateOf", spec := "rateOf", inPlace := ["internal/bytealg.IndexByteString", "internal/bytealg.IndexString"], named := ["math/bits.divideError", "math/bits.overflowError", "internal/bytealg.MaxLen", "internal/strconv.uint64pow10", "math/bits.deBruijn32tab", "math/bits.deBruijn64tab", "unicode/utf8.first", "unicode/utf8.acceptRanges"], apart := false, laid := [("math/bits.deBruijn32tab", laid_math_bits_deBruijn32tab), ("math/bits.deBruijn64tab", laid_math_bits_deBruijn64tab), ("internal/strconv.uint64pow10", laid_internal_strconv_uint64pow10), ("unicode/utf8.acceptRanges", laid_unicode_utf8_acceptRanges), ("unicode/utf8.first", laid_unicode_utf8_first)], narrowed := true }
def RateOfUptoSaid : Prop := rateOfUptoRow.holds Tryd.pinned (OpenSpec.upto rateOfSpec)

/-- 'wagebooklaw02.RateTimes', WHERE WHAT IT READS IS OF BULK AT MOST 1048576: true; the input reads as it did. -/
def rateTimesUptoRow : OpenClaim := { program := "ythkefebjjojmfaadoor", sum := "fd11b6016eb453f5eebe2ba6e189ee0656b15376a80314d621334659cf08fff3", func := "wagebook/wagebooklaw02.RateTimes", spec := "rateTimes", inPlace := ["internal/bytealg.IndexByteString", "internal/bytealg.IndexString"], named := ["math/bits.divideError", "math/bits.overflowError", "internal/bytealg.MaxLen", "internal/strconv.uint64pow10", "math/bits.deBruijn32tab", "math/bits.deBruijn64tab", "unicode/utf8.first", "unicode/utf8.acceptRanges"], apart := false, laid := [("math/bits.deBruijn32tab", laid_math_bits_deBruijn32tab), ("math/bits.deBruijn64tab", laid_math_bits_deBruijn64tab), ("internal/strconv.uint64pow10", laid_internal_strconv_uint64pow10), ("unicode/utf8.acceptRanges", laid_unicode_utf8_acceptRanges), ("unicode/utf8.first", laid_unicode_utf8_first)], narrowed := true }
def RateTimesUptoSaid : Prop := rateTimesUptoRow.holds Tryd.pinned (OpenSpec.upto rateTimesSpec)

end Rows
end Go.Proofs.YthkefebjjojmfaaDoor
