/-
  THE ROW 'PaySum': the sum of a run's orders is what it pays to those who have a bank.
-/
import Derived.Test.YtdnifdddokcnlaaDoorK10
import Derived.Test.YtdnifdddokcnlaaDoorK14
import Derived.Test.YtdnifdddokcnlaaDoorK6
import Derived.Test.YtdnifdddokcnlaaDoorRows
import Derived.Test.YtdnifdddokcnlaaDoorCards
import Derived.Test.YtdnifdddokcnlaaDoorTie
import Derived.Deep.DeepHandedRow
set_option linter.unusedVariables false
set_option linter.unusedSimpArgs false
namespace Go.Proofs.YtdnifdddokcnlaaDoor.paySum
open Go.ChangeShapes Go.WideShapes Go.ChangeAt Go.RowKit WB
theorem own:ownKnob Tryd.prog.godebug=none:=by kernel_rfl
theorem laidOut:laidOutB Tryd.prog=true:=by kernel_rfl
theorem calls{mx:Int}(x:D s5.a)(l:List CV)(hx:WB.Can s5.a x l)(hi:InR s5.a x):CallsTo Tryd.prog (B mx).G 5 l (.val (.bool true)):=
 GoodT.call g5 (f:=5) (s:=s5) rfl hx (y:=true) (PaySum_law awake_eq (fun y hy=>(hi.2.2 y hy).1))
theorem contract(H:Type)(enc:TypeId×Value→H)(W:World)(base:Nat)(args:Array Value)(ds gs:List (DataW H))(before:List MemPlace)
  (hval:∀(j:Nat) t v,Tryd.f5.params[j]? =some t→args[j]? =some v→Value.okWide Tryd.prog W .any base t v)
  (hW:DataW.Whole enc Tryd.prog Tryd.f5.params.toList Rows.paySumSpec.vars false W args.toList ds gs before) (hL:laidMetH Tryd.prog Rows.paySumRow.laid W) (hS:W.ShapedOpen Tryd.prog):
  Calls Tryd.prog 5 args W fun e W'=>∃v,e=.returned v∧Rows.paySumSpec.post enc Tryd.prog Tryd.f5 false true false false W args v W':=
 let⟨mx,hg⟩:=gok hL hS
 row_contract (s:=Rows.paySumSpec) (fn:=Tryd.f5) 40 laidOut (by kernel_rfl) (by kernel_rfl) rfl Tryd.underlying4 rfl
  (fun H ds h=>match ds,h with| [d1,d2],_=>⟨rfl,rfl,rfl⟩) (calls (mx:=mx)) H enc W base args ds gs before (by assumption) hW hg
theorem reads(os:Os){H:Type}(enc:TypeId×Value→H):∃places,DataW.whole enc Tryd.prog ((laidW os).forCall (fun _ _=>0) ⟨#[], #[.int .i64 0,.slice none 0 0],[]⟩).memory Tryd.f5.params.toList Rows.paySumSpec.vars false (#[.int .i64 0,.slice none 0 0]:Array Value).toList 8=some ([.lit (.int .i64 0),.nil],[],places):=
 ⟨[],by kernel_rfl⟩
set_option maxRecDepth 100000 in
theorem lifted(os:Os)(started:os.Started)(H:Type)(enc:TypeId×Value→H)(F:Stop.Interp):
  ReturnsInHanded {} Tryd.checked os 5 .any ((OpenSpec.ofChange Rows.paySumSpec).preRow enc Tryd.prog Tryd.f5 Rows.paySumRow.domain false Rows.paySumRow.laid) (((OpenSpec.ofChange Rows.paySumSpec).at F).post enc Tryd.prog Tryd.f5 false true false false):=by
 obtain⟨places,hx⟩:=reads os enc
 refine returnsInHanded_of_row (C:=Tryd.checked) (s:=OpenSpec.ofChange Rows.paySumSpec) own started (by kernel_rfl) Tryd.func5
  (witness_row_at (enc:=enc) (C:=Tryd.checked) false (laidW os) #[.int .i64 0,.slice none 0 0] rfl (by kernel_rfl) (by kernel_rfl) (by kernel_rfl)
   (OpenSpec.preRow_of_cond 8 hx (by kernel_rfl) (fun k hk=>by cases hk) (by kernel_rfl) (laid_met os _))) ?_
 intro W base args ds gs before hval hW _ _ _ hL hS _;exact contract H enc W base args ds gs before hval hW hL hS
theorem said:Rows.PaySumSaid:=
 OpenClaim.holds_of_cond 5 Tryd.f5 rfl rfl rfl rfl rfl rfl rfl ⟨rfl,rfl,rfl,rfl,rfl⟩ rfl rfl rfl rfl rfl (by kernel_rfl) Tryd.func5 (by kernel_rfl)
  (of_decide_eq_true (by kernel_rfl)) (by unfold Func.isWrapper;first|(rw[if_pos (by decide+kernel)];kernel_rfl)|(rw[if_neg (by decide+kernel)];exact⟨rfl,rfl⟩))
  (fun os started H enc _ F=>by rw[OpenClaim.pre_eq_preRow];exact lifted os started H enc F)
theorem plain(f:FuncId)(fn:Func)(hf:Tryd.pinned.checked.prog.funcNamed Rows.paySumRow.func=some f)(hfn:Tryd.pinned.checked.prog.funcs[f]? =some fn):
  true=Tryd.pinned.checked.prog.looks []∧∀(j:Nat) t,fn.params[j]? =some t→Tryd.pinned.checked.prog.wantsStandIn t=false:=by
 obtain rfl:f=5:=Option.some.inj ((show Tryd.prog.funcNamed Rows.paySumRow.func=some 5 by kernel_rfl).symm.trans hf)|>.symm;obtain rfl:fn=Tryd.f5:=(Option.some.inj (Tryd.func5.symm.trans hfn)).symm;refine⟨by kernel_rfl,fun j t ht=> ?_⟩;have h:(Tryd.f5.params.toList.all fun t=> !Tryd.prog.wantsStandIn t)=true:=by kernel_rfl
 have hm:t∈Tryd.f5.params.toList:=by simpa using Array.mem_of_getElem? ht
 have:=List.all_eq_true.1 h t hm;exact(by simpa using this:Tryd.prog.wantsStandIn t=false)
theorem proved:Rows.PaySumCardSaid:=
 Claim7.holds_tied_plain_at .later [] _ _ _ _ said (fun _ h=>by cases h) (by kernel_rfl) (fun _ h=>by cases h) paySum_row_tie rfl ⟨rfl,rfl⟩ (by kernel_rfl) rfl plain (by kernel_rfl)
end Go.Proofs.YtdnifdddokcnlaaDoor.paySum
