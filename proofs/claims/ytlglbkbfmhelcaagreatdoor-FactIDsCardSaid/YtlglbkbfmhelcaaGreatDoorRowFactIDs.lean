/-
 THE ROW 'FactIDs': whether a fact is right hangs not on its ID; of a right one the lines of two IDs are each read as that ID's, and differ just if the IDs do.
-/
import Derived.Test.YtlglbkbfmhelcaaGreatDoorK11
import Derived.Test.YtlglbkbfmhelcaaGreatDoorK14
import Derived.Test.YtlglbkbfmhelcaaGreatDoorK5
import Derived.Test.YtlglbkbfmhelcaaGreatDoorRows
import Derived.Test.YtlglbkbfmhelcaaGreatDoorCards
import Derived.Test.YtlglbkbfmhelcaaGreatDoorTie
import Derived.Deep.DeepHandedRow
set_option linter.unusedVariables false
set_option linter.unusedSimpArgs false
namespace Go.Proofs.YtlglbkbfmhelcaaGreatDoor.factIDs
open Go.ChangeShapes Go.WideShapes Go.ChangeAt Go.RowKit WB
theorem own : ownKnob Tryz.prog.godebug = none := by kernel_rfl
theorem laidOut : laidOutB Tryz.prog = true := by kernel_rfl
theorem calls (x : D s10.a) (l : List CV) (hx : WB.Can s10.a x l) (hi : InR s10.a x) : CallsTo Tryz.prog B.G 10 l (.val (.bool true)) :=
 GoodT.call g10 (f := 10) (s := s10) rfl hx (y := true) (law_FactIDs awake_eq hi.2.1 hi.2.2 hi.1.2.1)
theorem contract (H : Type) (enc : TypeId × Value → H) (W : World) (base : Nat) (args : Array Value) (ds gs : List (DataW H)) (before : List MemPlace)
  (hval : ∀ (j : Nat) t v, Tryz.f10.params[j]? = some t → args[j]? = some v → Value.okWide Tryz.prog W .any base t v)
  (hW : DataW.Whole enc Tryz.prog Tryz.f10.params.toList Rows.factIDsSpec.vars false W args.toList ds gs before) (hL : laidMetH Tryz.prog Rows.factIDsRow.laid W) :
  Calls Tryz.prog 10 args W fun e W' => ∃ v, e = .returned v ∧ Rows.factIDsSpec.post enc Tryz.prog Tryz.f10 false true false false W args v W' :=
 row_contract (s := Rows.factIDsSpec) (fn := Tryz.f10) 40 laidOut (by kernel_rfl) (by kernel_rfl) rfl Tryz.underlying4 rfl
  (fun H ds h => match ds, h with | [d1, d2, d3], _ => ⟨rfl, rfl, rfl⟩) calls H enc W base args ds gs before (by assumption) hW (gok hL)
theorem reads (os : Os) {H : Type} (enc : TypeId × Value → H) : ∃ places, DataW.whole enc Tryz.prog ((laidW os).forCall (fun _ _ => 0) ⟨#[], #[.agg #[.int .u32 0, .int .u32 0, .int .i64 0, .int .i64 0, .int .i64 0, .string ⟨#[]⟩, .int .i64 0, .string ⟨#[]⟩], .int .u32 0, .int .u32 0], []⟩).memory Tryz.f10.params.toList Rows.factIDsSpec.vars false (#[.agg #[.int .u32 0, .int .u32 0, .int .i64 0, .int .i64 0, .int .i64 0, .string ⟨#[]⟩, .int .i64 0, .string ⟨#[]⟩], .int .u32 0, .int .u32 0] : Array Value).toList 8 = some ([.agg [.lit (.int .u32 0), .lit (.int .u32 0), .lit (.int .i64 0), .lit (.int .i64 0), .lit (.int .i64 0), .lit (.string []), .lit (.int .i64 0), .lit (.string [])], .lit (.int .u32 0), .lit (.int .u32 0)], [], places) :=
 ⟨[], by kernel_rfl⟩
set_option maxRecDepth 100000 in
theorem lifted (os : Os) (started : os.Started) (H : Type) (enc : TypeId × Value → H) (F : Stop.Interp) :
  ReturnsInHanded {} Tryz.checked os 10 .any ((OpenSpec.ofChange Rows.factIDsSpec).preRow enc Tryz.prog Tryz.f10 Rows.factIDsRow.domain false Rows.factIDsRow.laid) (((OpenSpec.ofChange Rows.factIDsSpec).at F).post enc Tryz.prog Tryz.f10 false true false false) := by
 obtain ⟨places, hx⟩ := reads os enc
 refine returnsInHanded_of_row (C := Tryz.checked) (s := OpenSpec.ofChange Rows.factIDsSpec) own started (by kernel_rfl) Tryz.func10
  (witness_row_at (enc := enc) (C := Tryz.checked) false (laidW os) #[.agg #[.int .u32 0, .int .u32 0, .int .i64 0, .int .i64 0, .int .i64 0, .string ⟨#[]⟩, .int .i64 0, .string ⟨#[]⟩], .int .u32 0, .int .u32 0] rfl (by kernel_rfl) (by kernel_rfl) (by kernel_rfl)
   (OpenSpec.preRow_of_cond 8 hx (by kernel_rfl) (fun k hk => by cases hk) (by kernel_rfl) (laid_met os _))) ?_
 intro W base args ds gs before hval hW _ _ _ hL _ _
 exact contract H enc W base args ds gs before hval hW hL
theorem said : Rows.FactIDsSaid :=
 OpenClaim.holds_of_cond 10 Tryz.f10 rfl rfl rfl rfl rfl rfl rfl ⟨rfl, rfl, rfl, rfl, rfl⟩ rfl rfl rfl rfl rfl (by kernel_rfl) Tryz.func10 (by kernel_rfl)
  (of_decide_eq_true (by kernel_rfl)) (by unfold Func.isWrapper; first | (rw [if_pos (by decide +kernel)]; kernel_rfl) | (rw [if_neg (by decide +kernel)]; exact ⟨rfl, rfl⟩))
  (fun os started H enc _ F => by rw [OpenClaim.pre_eq_preRow]; exact lifted os started H enc F)
theorem plain (f : FuncId) (fn : Func) (hf : Tryz.pinned.checked.prog.funcNamed Rows.factIDsRow.func = some f) (hfn : Tryz.pinned.checked.prog.funcs[f]? = some fn) :
  true = Tryz.pinned.checked.prog.looks [] ∧ ∀ (j : Nat) t, fn.params[j]? = some t → Tryz.pinned.checked.prog.wantsStandIn t = false := by
 obtain rfl : f = 10 := Option.some.inj ((show Tryz.prog.funcNamed Rows.factIDsRow.func = some 10 by kernel_rfl).symm.trans hf) |>.symm
 obtain rfl : fn = Tryz.f10 := (Option.some.inj (Tryz.func10.symm.trans hfn)).symm
 refine ⟨by kernel_rfl, fun j t ht => ?_⟩
 have h : (Tryz.f10.params.toList.all fun t => !Tryz.prog.wantsStandIn t) = true := by kernel_rfl
 have hm : t ∈ Tryz.f10.params.toList := by simpa using Array.mem_of_getElem? ht
 have := List.all_eq_true.1 h t hm
 exact (by simpa using this : Tryz.prog.wantsStandIn t = false)
theorem proved : Rows.FactIDsCardSaid :=
 Claim7.holds_tied_plain_at .later [] _ _ _ _ said (fun _ h => by cases h) (by kernel_rfl) (fun _ h => by cases h) factIDs_row_tie rfl ⟨rfl, rfl⟩ (by kernel_rfl) rfl plain (by kernel_rfl)
end Go.Proofs.YtlglbkbfmhelcaaGreatDoor.factIDs

