/-
  THE ROW 'PayOf': the orders of any run, and who has no bank, are what the document says.
-/
import Derived.Test.YtdnifdddokcnlaaGreatDoorK10
import Derived.Test.YtdnifdddokcnlaaGreatDoorK14
import Derived.Test.YtdnifdddokcnlaaGreatDoorK6
import Derived.Test.YtdnifdddokcnlaaGreatDoorRows
import Derived.Test.YtdnifdddokcnlaaGreatDoorCards
import Derived.Test.YtdnifdddokcnlaaGreatDoorTie
import Derived.Deep.DeepHandedRow
set_option linter.unusedVariables false
set_option linter.unusedSimpArgs false
namespace Go.Proofs.YtdnifdddokcnlaaGreatDoor.payOf
open Go.ChangeShapes Go.WideShapes Go.ChangeAt Go.RowKit WB
theorem own:ownKnob Tryz.prog.godebug=none:=by kernel_rfl
theorem laidOut:laidOutB Tryz.prog=true:=by kernel_rfl
theorem calls{mx:Int}(x:D s3.a)(l:List CV)(hx:WB.Can s3.a x l)(hi:InR s3.a x):CallsTo Tryz.prog (B mx).G 3 l (.val (.bool true)):=
 GoodT.call g3 (f:=3) (s:=s3) rfl hx (y:=true) (PayOf_law awake_eq (fun y hy=>(hi.2.2 y hy).1))
theorem contract(H:Type)(enc:TypeId×Value→H)(W:World)(base:Nat)(args:Array Value)(ds gs:List (DataW H))(before:List MemPlace)
  (hval:∀(j:Nat) t v,Tryz.f3.params[j]? =some t→args[j]? =some v→Value.okWide Tryz.prog W .any base t v)
  (hW:DataW.Whole enc Tryz.prog Tryz.f3.params.toList Rows.payOfSpec.vars false W args.toList ds gs before) (hL:laidMetH Tryz.prog Rows.payOfRow.laid W) (hS:W.ShapedOpen Tryz.prog):
  Calls Tryz.prog 3 args W fun e W'=>∃v,e=.returned v∧Rows.payOfSpec.post enc Tryz.prog Tryz.f3 false true false false W args v W':=
 let⟨mx,hg⟩:=gok hL hS
 row_contract (s:=Rows.payOfSpec) (fn:=Tryz.f3) 40 laidOut (by kernel_rfl) (by kernel_rfl) rfl Tryz.underlying4 rfl
  (fun H ds h=>match ds,h with| [d1,d2],_=>⟨rfl,rfl,rfl⟩) (calls (mx:=mx)) H enc W base args ds gs before (by assumption) hW hg
theorem reads(os:Os){H:Type}(enc:TypeId×Value→H):∃places,DataW.whole enc Tryz.prog ((laidW os).forCall (fun _ _=>0) ⟨#[], #[.int .i64 0,.slice none 0 0],[]⟩).memory Tryz.f3.params.toList Rows.payOfSpec.vars false (#[.int .i64 0,.slice none 0 0]:Array Value).toList 8=some ([.lit (.int .i64 0),.nil],[],places):=
 ⟨[],by kernel_rfl⟩
set_option maxRecDepth 100000 in
theorem lifted(os:Os)(started:os.Started)(H:Type)(enc:TypeId×Value→H)(F:Stop.Interp):
  ReturnsInHanded {} Tryz.checked os 3 .any ((OpenSpec.ofChange Rows.payOfSpec).preRow enc Tryz.prog Tryz.f3 Rows.payOfRow.domain false Rows.payOfRow.laid) (((OpenSpec.ofChange Rows.payOfSpec).at F).post enc Tryz.prog Tryz.f3 false true false false):=by
 obtain⟨places,hx⟩:=reads os enc
 refine returnsInHanded_of_row (C:=Tryz.checked) (s:=OpenSpec.ofChange Rows.payOfSpec) own started (by kernel_rfl) Tryz.func3
  (witness_row_at (enc:=enc) (C:=Tryz.checked) false (laidW os) #[.int .i64 0,.slice none 0 0] rfl (by kernel_rfl) (by kernel_rfl) (by kernel_rfl)
   (OpenSpec.preRow_of_cond 8 hx (by kernel_rfl) (fun k hk=>by cases hk) (by kernel_rfl) (laid_met os _))) ?_
 intro W base args ds gs before hval hW _ _ _ hL hS _;exact contract H enc W base args ds gs before hval hW hL hS
theorem said:Rows.PayOfSaid:=
 OpenClaim.holds_of_cond 3 Tryz.f3 rfl rfl rfl rfl rfl rfl rfl ⟨rfl,rfl,rfl,rfl,rfl⟩ rfl rfl rfl rfl rfl (by kernel_rfl) Tryz.func3 (by kernel_rfl)
  (of_decide_eq_true (by kernel_rfl)) (by unfold Func.isWrapper;first|(rw[if_pos (by decide+kernel)];kernel_rfl)|(rw[if_neg (by decide+kernel)];exact⟨rfl,rfl⟩))
  (fun os started H enc _ F=>by rw[OpenClaim.pre_eq_preRow];exact lifted os started H enc F)
theorem plain(f:FuncId)(fn:Func)(hf:Tryz.pinned.checked.prog.funcNamed Rows.payOfRow.func=some f)(hfn:Tryz.pinned.checked.prog.funcs[f]? =some fn):
  true=Tryz.pinned.checked.prog.looks []∧∀(j:Nat) t,fn.params[j]? =some t→Tryz.pinned.checked.prog.wantsStandIn t=false:=by
 obtain rfl:f=3:=Option.some.inj ((show Tryz.prog.funcNamed Rows.payOfRow.func=some 3 by kernel_rfl).symm.trans hf)|>.symm;obtain rfl:fn=Tryz.f3:=(Option.some.inj (Tryz.func3.symm.trans hfn)).symm;refine⟨by kernel_rfl,fun j t ht=> ?_⟩;have h:(Tryz.f3.params.toList.all fun t=> !Tryz.prog.wantsStandIn t)=true:=by kernel_rfl
 have hm:t∈Tryz.f3.params.toList:=by simpa using Array.mem_of_getElem? ht
 have:=List.all_eq_true.1 h t hm;exact(by simpa using this:Tryz.prog.wantsStandIn t=false)
theorem proved:Rows.PayOfCardSaid:=
 Claim7.holds_tied_plain_at .later [] _ _ _ _ said (fun _ h=>by cases h) (by kernel_rfl) (fun _ h=>by cases h) payOf_row_tie rfl ⟨rfl,rfl⟩ (by kernel_rfl) rfl plain (by kernel_rfl)
end Go.Proofs.YtdnifdddokcnlaaGreatDoor.payOf
