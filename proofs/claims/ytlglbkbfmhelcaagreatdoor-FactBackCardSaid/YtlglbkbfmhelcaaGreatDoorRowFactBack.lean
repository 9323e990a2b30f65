/-
  THE ROW 'FactBack': a right fact is read from its line as it was; unlike facts have unlike lines; what is parsed is right, and has just this line.
-/
import Derived.Test.YtlglbkbfmhelcaaGreatDoorK14
import Derived.Test.YtlglbkbfmhelcaaGreatDoorK17
import Derived.Test.YtlglbkbfmhelcaaGreatDoorK6
import Derived.Test.YtlglbkbfmhelcaaGreatDoorRows
import Derived.Test.YtlglbkbfmhelcaaGreatDoorCards
import Derived.Test.YtlglbkbfmhelcaaGreatDoorTie
import Derived.Deep.DeepHandedRow
set_option linter.unusedVariables false
set_option linter.unusedSimpArgs false
namespace Go.Proofs.YtlglbkbfmhelcaaGreatDoor.factBack
open Go.ChangeShapes Go.WideShapes Go.ChangeAt Go.RowKit WB
theorem own:ownKnob Tryz.prog.godebug=none:=by kernel_rfl
theorem laidOut:laidOutB Tryz.prog=true:=by kernel_rfl
theorem calls(x:D s5.a)(l:List CV)(hx:WB.Can s5.a x l)(hi:InR s5.a x):CallsTo Tryz.prog B.G 5 l (.val (.bool true)):=
 GoodT.call g5 (f:=5) (s:=s5) rfl hx (y:=true) (law_FactBack awake_eq hi.1.1 hi.1.2.1 hi.2.1.1 hi.2.1.2.1)
theorem contract(H:Type)(enc:TypeId×Value→H)(W:World)(base:Nat)(args:Array Value)(ds gs:List (DataW H))(before:List MemPlace)
  (hval:∀(j:Nat) t v,Tryz.f5.params[j]? =some t→args[j]? =some v→Value.okWide Tryz.prog W .any base t v)
  (hW:DataW.Whole enc Tryz.prog Tryz.f5.params.toList Rows.factBackSpec.vars false W args.toList ds gs before) (hL:laidMetH Tryz.prog Rows.factBackRow.laid W):
  Calls Tryz.prog 5 args W fun e W'=>∃v,e=.returned v∧Rows.factBackSpec.post enc Tryz.prog Tryz.f5 false true false false W args v W':=
 row_contract (s:=Rows.factBackSpec) (fn:=Tryz.f5) 40 laidOut (by kernel_rfl) (by kernel_rfl) rfl Tryz.underlying4 rfl
  (fun H ds h=>match ds,h with| [d1,d2,d3],_=>⟨rfl,rfl,rfl⟩) calls H enc W base args ds gs before (by assumption) hW (gok hL)
theorem reads(os:Os){H:Type}(enc:TypeId×Value→H):∃places,DataW.whole enc Tryz.prog ((laidW os).forCall (fun _ _=>0) ⟨#[], #[.agg #[.int .u32 0,.int .u32 0,.int .i64 0,.int .i64 0,.int .i64 0,.string ⟨#[]⟩,.int .i64 0,.string ⟨#[]⟩],.agg #[.int .u32 0,.int .u32 0,.int .i64 0,.int .i64 0,.int .i64 0,.string ⟨#[]⟩,.int .i64 0,.string ⟨#[]⟩],.string ⟨#[]⟩],[]⟩).memory Tryz.f5.params.toList Rows.factBackSpec.vars false (#[.agg #[.int .u32 0,.int .u32 0,.int .i64 0,.int .i64 0,.int .i64 0,.string ⟨#[]⟩,.int .i64 0,.string ⟨#[]⟩],.agg #[.int .u32 0,.int .u32 0,.int .i64 0,.int .i64 0,.int .i64 0,.string ⟨#[]⟩,.int .i64 0,.string ⟨#[]⟩],.string ⟨#[]⟩]:Array Value).toList 8=some ([.agg [.lit (.int .u32 0),.lit (.int .u32 0),.lit (.int .i64 0),.lit (.int .i64 0),.lit (.int .i64 0),.lit (.string []),.lit (.int .i64 0),.lit (.string [])],.agg [.lit (.int .u32 0),.lit (.int .u32 0),.lit (.int .i64 0),.lit (.int .i64 0),.lit (.int .i64 0),.lit (.string []),.lit (.int .i64 0),.lit (.string [])],.lit (.string [])],[],places):=
 ⟨[],by kernel_rfl⟩
set_option maxRecDepth 100000 in
theorem lifted(os:Os)(started:os.Started)(H:Type)(enc:TypeId×Value→H)(F:Stop.Interp):
  ReturnsInHanded {} Tryz.checked os 5 .any ((OpenSpec.ofChange Rows.factBackSpec).preRow enc Tryz.prog Tryz.f5 Rows.factBackRow.domain false Rows.factBackRow.laid) (((OpenSpec.ofChange Rows.factBackSpec).at F).post enc Tryz.prog Tryz.f5 false true false false):=by
 obtain⟨places,hx⟩:=reads os enc
 refine returnsInHanded_of_row (C:=Tryz.checked) (s:=OpenSpec.ofChange Rows.factBackSpec) own started (by kernel_rfl) Tryz.func5
  (witness_row_at (enc:=enc) (C:=Tryz.checked) false (laidW os) #[.agg #[.int .u32 0,.int .u32 0,.int .i64 0,.int .i64 0,.int .i64 0,.string ⟨#[]⟩,.int .i64 0,.string ⟨#[]⟩],.agg #[.int .u32 0,.int .u32 0,.int .i64 0,.int .i64 0,.int .i64 0,.string ⟨#[]⟩,.int .i64 0,.string ⟨#[]⟩],.string ⟨#[]⟩] rfl (by kernel_rfl) (by kernel_rfl) (by kernel_rfl)
   (OpenSpec.preRow_of_cond 8 hx (by kernel_rfl) (fun k hk=>by cases hk) (by kernel_rfl) (laid_met os _))) ?_
 intro W base args ds gs before hval hW _ _ _ hL _ _;exact contract H enc W base args ds gs before hval hW hL
theorem said:Rows.FactBackSaid:=
 OpenClaim.holds_of_cond 5 Tryz.f5 rfl rfl rfl rfl rfl rfl rfl ⟨rfl,rfl,rfl,rfl,rfl⟩ rfl rfl rfl rfl rfl (by kernel_rfl) Tryz.func5 (by kernel_rfl)
  (of_decide_eq_true (by kernel_rfl)) (by unfold Func.isWrapper;first|(rw[if_pos (by decide+kernel)];kernel_rfl)|(rw[if_neg (by decide+kernel)];exact⟨rfl,rfl⟩))
  (fun os started H enc _ F=>by rw[OpenClaim.pre_eq_preRow];exact lifted os started H enc F)
theorem plain(f:FuncId)(fn:Func)(hf:Tryz.pinned.checked.prog.funcNamed Rows.factBackRow.func=some f)(hfn:Tryz.pinned.checked.prog.funcs[f]? =some fn):
  true=Tryz.pinned.checked.prog.looks []∧∀(j:Nat) t,fn.params[j]? =some t→Tryz.pinned.checked.prog.wantsStandIn t=false:=by
 obtain rfl:f=5:=Option.some.inj ((show Tryz.prog.funcNamed Rows.factBackRow.func=some 5 by kernel_rfl).symm.trans hf)|>.symm;obtain rfl:fn=Tryz.f5:=(Option.some.inj (Tryz.func5.symm.trans hfn)).symm;refine⟨by kernel_rfl,fun j t ht=> ?_⟩;have h:(Tryz.f5.params.toList.all fun t=> !Tryz.prog.wantsStandIn t)=true:=by kernel_rfl
 have hm:t∈Tryz.f5.params.toList:=by simpa using Array.mem_of_getElem? ht
 have:=List.all_eq_true.1 h t hm;exact(by simpa using this:Tryz.prog.wantsStandIn t=false)
theorem proved:Rows.FactBackCardSaid:=
 Claim7.holds_tied_plain_at .later [] _ _ _ _ said (fun _ h=>by cases h) (by kernel_rfl) (fun _ h=>by cases h) factBack_row_tie rfl ⟨rfl,rfl⟩ (by kernel_rfl) rfl plain (by kernel_rfl)
end Go.Proofs.YtlglbkbfmhelcaaGreatDoor.factBack
