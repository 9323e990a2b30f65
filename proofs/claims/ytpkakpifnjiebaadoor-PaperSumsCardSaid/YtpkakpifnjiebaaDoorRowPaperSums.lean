/-
 THE ROW 'PaperSums': a right paper's boxes come to the slips' sums: of gross, held, net and firm; the slips' order plays no part.
-/
import Derived.Test.YtpkakpifnjiebaaDoorK9
import Derived.Test.YtpkakpifnjiebaaDoorK13
import Derived.Test.YtpkakpifnjiebaaDoorK5
import Derived.Test.YtpkakpifnjiebaaDoorRows
import Derived.Test.YtpkakpifnjiebaaDoorCards
import Derived.Test.YtpkakpifnjiebaaDoorTie
import Derived.Deep.DeepHandedRow
set_option linter.unusedVariables false
set_option linter.unusedSimpArgs false
namespace Go.Proofs.YtpkakpifnjiebaaDoor.paperSums
open Go.ChangeShapes Go.WideShapes Go.ChangeAt Go.RowKit WB
theorem own : ownKnob Tryd.prog.godebug = none := by kernel_rfl
theorem laidOut : laidOutB Tryd.prog = true := by kernel_rfl
theorem calls (x : D s6.a) (l : List CV) (hx : WB.Can s6.a x l) (hi : InR s6.a x) : CallsTo Tryd.prog B.G 6 l (.val (.bool true)) :=
 GoodT.call g6 (f := 6) (s := s6) rfl hx (y := true) (law_PaperSums x.1 x.2.1 x.2.2)
theorem contract (H : Type) (enc : TypeId × Value → H) (W : World) (base : Nat) (args : Array Value) (ds gs : List (DataW H)) (before : List MemPlace)
  (hval : ∀ (j : Nat) t v, Tryd.f6.params[j]? = some t → args[j]? = some v → Value.okWide Tryd.prog W .any base t v)
  (hW : DataW.Whole enc Tryd.prog Tryd.f6.params.toList Rows.paperSumsSpec.vars false W args.toList ds gs before) (hL : laidMetH Tryd.prog Rows.paperSumsRow.laid W) :
  Calls Tryd.prog 6 args W fun e W' => ∃ v, e = .returned v ∧ Rows.paperSumsSpec.post enc Tryd.prog Tryd.f6 false true false false W args v W' :=
 row_contract (s := Rows.paperSumsSpec) (fn := Tryd.f6) 40 laidOut (by kernel_rfl) (by kernel_rfl) rfl Tryd.underlying4 rfl
  (fun H ds h => match ds, h with | [d1, d2, d3], _ => ⟨rfl, rfl, rfl⟩) calls H enc W base args ds gs before (by assumption) hW (gok hL)
theorem reads (os : Os) {H : Type} (enc : TypeId × Value → H) : ∃ places, DataW.whole enc Tryd.prog ((laidW os).forCall (fun _ _ => 0) ⟨#[], #[.int .u32 0, .int .i64 0, .slice none 0 0], []⟩).memory Tryd.f6.params.toList Rows.paperSumsSpec.vars false (#[.int .u32 0, .int .i64 0, .slice none 0 0] : Array Value).toList 8 = some ([.lit (.int .u32 0), .lit (.int .i64 0), .nil], [], places) :=
 ⟨[], by kernel_rfl⟩
set_option maxRecDepth 100000 in
theorem lifted (os : Os) (started : os.Started) (H : Type) (enc : TypeId × Value → H) (F : Stop.Interp) :
  ReturnsInHanded {} Tryd.checked os 6 .any ((OpenSpec.ofChange Rows.paperSumsSpec).preRow enc Tryd.prog Tryd.f6 Rows.paperSumsRow.domain false Rows.paperSumsRow.laid) (((OpenSpec.ofChange Rows.paperSumsSpec).at F).post enc Tryd.prog Tryd.f6 false true false false) := by
 obtain ⟨places, hx⟩ := reads os enc
 refine returnsInHanded_of_row (C := Tryd.checked) (s := OpenSpec.ofChange Rows.paperSumsSpec) own started (by kernel_rfl) Tryd.func6
  (witness_row_at (enc := enc) (C := Tryd.checked) false (laidW os) #[.int .u32 0, .int .i64 0, .slice none 0 0] rfl (by kernel_rfl) (by kernel_rfl) (by kernel_rfl)
   (OpenSpec.preRow_of_cond 8 hx (by kernel_rfl) (fun k hk => by cases hk) (by kernel_rfl) (laid_met os _))) ?_
 intro W base args ds gs before hval hW _ _ _ hL _ _
 exact contract H enc W base args ds gs before hval hW hL
theorem said : Rows.PaperSumsSaid :=
 OpenClaim.holds_of_cond 6 Tryd.f6 rfl rfl rfl rfl rfl rfl rfl ⟨rfl, rfl, rfl, rfl, rfl⟩ rfl rfl rfl rfl rfl (by kernel_rfl) Tryd.func6 (by kernel_rfl)
  (of_decide_eq_true (by kernel_rfl)) (by unfold Func.isWrapper; first | (rw [if_pos (by decide +kernel)]; kernel_rfl) | (rw [if_neg (by decide +kernel)]; exact ⟨rfl, rfl⟩))
  (fun os started H enc _ F => by rw [OpenClaim.pre_eq_preRow]; exact lifted os started H enc F)
theorem plain (f : FuncId) (fn : Func) (hf : Tryd.pinned.checked.prog.funcNamed Rows.paperSumsRow.func = some f) (hfn : Tryd.pinned.checked.prog.funcs[f]? = some fn) :
  false = Tryd.pinned.checked.prog.looks [] ∧ ∀ (j : Nat) t, fn.params[j]? = some t → Tryd.pinned.checked.prog.wantsStandIn t = false := by
 obtain rfl : f = 6 := Option.some.inj ((show Tryd.prog.funcNamed Rows.paperSumsRow.func = some 6 by kernel_rfl).symm.trans hf) |>.symm
 obtain rfl : fn = Tryd.f6 := (Option.some.inj (Tryd.func6.symm.trans hfn)).symm
 refine ⟨by kernel_rfl, fun j t ht => ?_⟩
 have h : (Tryd.f6.params.toList.all fun t => !Tryd.prog.wantsStandIn t) = true := by kernel_rfl
 have hm : t ∈ Tryd.f6.params.toList := by simpa using Array.mem_of_getElem? ht
 have := List.all_eq_true.1 h t hm
 exact (by simpa using this : Tryd.prog.wantsStandIn t = false)
theorem proved : Rows.PaperSumsCardSaid :=
 Claim7.holds_tied_plain_at .later [] _ _ _ _ said (fun _ h => by cases h) (by kernel_rfl) (fun _ h => by cases h) paperSums_row_tie rfl ⟨rfl, rfl⟩ (by kernel_rfl) rfl plain (by kernel_rfl)
end Go.Proofs.YtpkakpifnjiebaaDoor.paperSums

