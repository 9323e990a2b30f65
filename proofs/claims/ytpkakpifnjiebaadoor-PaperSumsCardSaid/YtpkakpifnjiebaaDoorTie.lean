/-
  DERIVED. GIVEN WITH THE SEED: THE PROGRAM's TIES (one call each: nine closed facts by the kernel) AND EACH ROW's TIE, after the 31st guide's Derived/Test/Toyas{Tie, Card}.lean. No idea stands in it: it is a product of the set-up. Laid BY PROGRAM, IN A SANDBOX (cutbox-door.mjs). By AI agents, Wed Nov 11 2026. No macro, syntax, notation, axiom, sorry.
-/
import Derived.Test.YtpkakpifnjiebaaDoorRows
import Derived.LaidByTextLater
import Derived.SevenTiedAt
import Derived.LaidSub
import Derived.LaidOnce
namespace Go.Proofs.YtpkakpifnjiebaaDoor
open Go
set_option maxRecDepth 100000
theorem seatTie1 : Tryd.prog.laidByTextLater [("math/bits.deBruijn32tab", Rows.laid_math_bits_deBruijn32tab), ("math/bits.deBruijn64tab", Rows.laid_math_bits_deBruijn64tab), ("internal/strconv.uint64pow10", Rows.laid_internal_strconv_uint64pow10), ("wagebook/paper.words", Rows.laid_wagebook_paper_words)] [.data, .data, .data, .widerDeep] true :=
  Program.laidByTextLater_by_one 29 8 65 (by kernel_rfl) (by kernel_rfl) (by kernel_rfl) (by kernel_rfl) (by kernel_rfl) (by kernel_rfl) (fun _ _ => by kernel_rfl)
theorem noOwnUnsafe : Tryd.pinned.checked.prog.headLifts.contains "ownunsafe" = false := by kernel_rfl
theorem tie : Tryd.prog.laidByTextLater [("math/bits.deBruijn32tab", Rows.laid_math_bits_deBruijn32tab), ("math/bits.deBruijn64tab", Rows.laid_math_bits_deBruijn64tab), ("internal/strconv.uint64pow10", Rows.laid_internal_strconv_uint64pow10), ("wagebook/paper.words", Rows.laid_wagebook_paper_words)] [.data, .data, .data, .widerDeep] true :=
  Program.laidByTextLater.sub seatTie1 ["math/bits.deBruijn32tab", "math/bits.deBruijn64tab", "internal/strconv.uint64pow10", "wagebook/paper.words"] (by kernel_rfl) (by kernel_rfl)
theorem paperOf_row_tie : Rows.paperOfRow.laidByTextAt .later Tryd.pinned [.data, .data, .data, .widerDeep] true :=
  OpenClaim.laidByTextAt_later rfl rfl tie noOwnUnsafe
theorem paperTotals_row_tie : Rows.paperTotalsRow.laidByTextAt .later Tryd.pinned [.data, .data, .data, .widerDeep] true :=
  OpenClaim.laidByTextAt_later rfl rfl tie noOwnUnsafe
theorem paperSplits_row_tie : Rows.paperSplitsRow.laidByTextAt .later Tryd.pinned [.data, .data, .data, .widerDeep] true :=
  OpenClaim.laidByTextAt_later rfl rfl tie noOwnUnsafe
theorem paperSums_row_tie : Rows.paperSumsRow.laidByTextAt .later Tryd.pinned [.data, .data, .data, .widerDeep] true :=
  OpenClaim.laidByTextAt_later rfl rfl tie noOwnUnsafe
theorem paperAmends_row_tie : Rows.paperAmendsRow.laidByTextAt .later Tryd.pinned [.data, .data, .data, .widerDeep] true :=
  OpenClaim.laidByTextAt_later rfl rfl tie noOwnUnsafe
theorem paperBack_row_tie : Rows.paperBackRow.laidByTextAt .later Tryd.pinned [.data, .data, .data, .widerDeep] true :=
  OpenClaim.laidByTextAt_later rfl rfl tie noOwnUnsafe
theorem paperOfUpto_row_tie : Rows.paperOfUptoRow.laidByTextAt .later Tryd.pinned [.data, .data, .data, .widerDeep] true :=
  OpenClaim.laidByTextAt_later rfl rfl tie noOwnUnsafe
theorem paperTotalsUpto_row_tie : Rows.paperTotalsUptoRow.laidByTextAt .later Tryd.pinned [.data, .data, .data, .widerDeep] true :=
  OpenClaim.laidByTextAt_later rfl rfl tie noOwnUnsafe
theorem paperSplitsUpto_row_tie : Rows.paperSplitsUptoRow.laidByTextAt .later Tryd.pinned [.data, .data, .data, .widerDeep] true :=
  OpenClaim.laidByTextAt_later rfl rfl tie noOwnUnsafe
theorem paperSumsUpto_row_tie : Rows.paperSumsUptoRow.laidByTextAt .later Tryd.pinned [.data, .data, .data, .widerDeep] true :=
  OpenClaim.laidByTextAt_later rfl rfl tie noOwnUnsafe
theorem paperAmendsUpto_row_tie : Rows.paperAmendsUptoRow.laidByTextAt .later Tryd.pinned [.data, .data, .data, .widerDeep] true :=
  OpenClaim.laidByTextAt_later rfl rfl tie noOwnUnsafe
theorem paperBackUpto_row_tie : Rows.paperBackUptoRow.laidByTextAt .later Tryd.pinned [.data, .data, .data, .widerDeep] true :=
  OpenClaim.laidByTextAt_later rfl rfl tie noOwnUnsafe
end Go.Proofs.YtpkakpifnjiebaaDoor
