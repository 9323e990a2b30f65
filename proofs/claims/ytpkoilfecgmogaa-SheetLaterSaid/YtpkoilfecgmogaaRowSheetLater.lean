/-
  THE ROW 'SheetLater': an entry of a day behind all others changes nothing of the days ahead of it. Conditions: none but the row's own.
-/
import Derived.Test.YtpkoilfecgmogaaK6
import Derived.Test.YtpkoilfecgmogaaK5
import Derived.Test.YtpkoilfecgmogaaK4
import Derived.Test.YtpkoilfecgmogaaRows
import Derived.Deep.DeepHandedRow
set_option linter.unusedVariables false
set_option linter.unusedSimpArgs false
namespace Go.Proofs.Ytpkoilfecgmogaa.sheetLater
open Go.ChangeShapes Go.WideShapes Go.ChangeAt Go.RowKit WB

theorem own : ownKnob Try.prog.godebug = none := by kernel_rfl
theorem laidOut : laidOutB Try.prog = true := by kernel_rfl
theorem calls (x : D s6.a) (l : List CV) (hx : WB.Can s6.a x l) (hi : InR s6.a x) : CallsTo Try.prog B.G 6 l (.val (.bool true)) :=
  GoodT.call g6 (f := 6) (s := s6) rfl hx (y := true) (match x with | (l, x, lim, s) => law_SheetLater l x lim s)
theorem contract (H : Type) (enc : TypeId × Value → H) (W : World) (base : Nat) (args : Array Value) (ds gs : List (DataW H)) (before : List MemPlace)
    (hval : ∀ (j : Nat) t v, Try.f6.params[j]? = some t → args[j]? = some v → Value.okWide Try.prog W .any base t v)
    (hW : DataW.Whole enc Try.prog Try.f6.params.toList Rows.sheetLaterSpec.vars false W args.toList ds gs before) :
    Calls Try.prog 6 args W fun e W' => ∃ v, e = .returned v ∧ Rows.sheetLaterSpec.post enc Try.prog Try.f6 false true false false W args v W' :=
  row_contract (s := Rows.sheetLaterSpec) (fn := Try.f6) 40 laidOut (by kernel_rfl) (by kernel_rfl) rfl Try.underlying4 rfl
    (fun H ds h => match ds, h with | [d1, d2, d3, d4], _ => ⟨rfl, rfl, rfl⟩) calls H enc W base args ds gs before (by assumption) hW (fun i h => absurd rfl h)

set_option maxRecDepth 100000 in
theorem lifted (os : Os) (started : os.Started) (H : Type) (enc : TypeId × Value → H) :
    ReturnsInHanded {} Try.checked os 6 .any (Rows.sheetLaterSpec.pre6 enc Try.prog Try.f6 Rows.sheetLaterRow.domain false) (Rows.sheetLaterSpec.post enc Try.prog Try.f6 false true false false) := by
  refine returnsInHanded_of_change (C := Try.checked) own started (by kernel_rfl) Try.func6
    (ChangeSpec.witness6 (enc := enc) (C := Try.checked) false ⟨#[], #[.slice none 0 0, .agg #[.int .i64 0, .int .i64 0, .int .i64 0], .agg #[.int .i64 0, .int .i64 0], .agg #[.int .i64 0, .int .i64 0]], []⟩ 8 (by kernel_rfl) (by kernel_rfl) (by kernel_rfl) (by kernel_rfl)) ?_
  intro W base args ds gs before hval hW _ _
  exact contract H enc W base args ds gs before hval hW
theorem proved : Rows.SheetLaterSaid :=
  OpenClaim.holds_of_wide 6 Try.f6 rfl rfl rfl rfl rfl rfl rfl ⟨rfl, rfl, rfl, rfl, rfl⟩ rfl rfl rfl rfl rfl (by kernel_rfl) Try.func6 (by kernel_rfl)
    (of_decide_eq_true (by kernel_rfl)) (by unfold Func.isWrapper; first | (rw [if_pos (by decide +kernel)]; kernel_rfl) | (rw [if_neg (by decide +kernel)]; exact ⟨rfl, rfl⟩))
    (fun os started H enc _ => lifted os started H enc)
end Go.Proofs.Ytpkoilfecgmogaa.sheetLater
