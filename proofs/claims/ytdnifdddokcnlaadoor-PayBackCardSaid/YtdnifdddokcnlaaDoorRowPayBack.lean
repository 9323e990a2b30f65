/-
  THE ROW 'PayBack': a file is read as it was; of which one byte is altered is not read.
-/
import Derived.Test.YtdnifdddokcnlaaDoorK10
import Derived.Test.YtdnifdddokcnlaaDoorK14
import Derived.Test.YtdnifdddokcnlaaDoorK6
import Derived.Test.YtdnifdddokcnlaaDoorRows
import Derived.Test.YtdnifdddokcnlaaDoorCards
import Derived.Test.YtdnifdddokcnlaaDoorTie
import Derived.Deep.DeepHandedRow
set_option linter.unusedVariables false
set_option linter.unusedSimpArgs false
namespace Go.Proofs.YtdnifdddokcnlaaDoor.payBack
open Go.ChangeShapes Go.WideShapes Go.ChangeAt Go.RowKit WB
theorem own:ownKnob Tryd.prog.godebug=none:=by kernel_rfl
theorem laidOut:laidOutB Tryd.prog=true:=by kernel_rfl
theorem szX(a:Int)(l:List Ordr)(t:List UInt8)(b c:Int)(h:szArgs Tryd.prog Tryd.f3.params.toList s3.a (a,l,t,b,c)):l.length*48≤140737488355328:=by
 have e:szArgs Tryd.prog Tryd.f3.params.toList s3.a (a,l,t,b,c)=(True∧l.length*48≤140737488351232∧True∧True∧True):=by kernel_rfl
 rw[e]at h;omega
theorem calls{mx:Int}(x:D s3.a)(l:List CV)(hx:WB.Can s3.a x l)(hi:InR s3.a x)(hz:szArgs Tryd.prog Tryd.f3.params.toList s3.a x):CallsTo Tryd.prog (B mx).G 3 l (.val (.bool true)):=
 GoodT.call g3 (f:=3) (s:=s3) rfl hx (y:=true) (PayBack_law awake_eq (fun y hy=>(hi.2.1.2 y hy).1) (szX _ _ _ _ _ hz) hi.2.2.2.1 hi.2.2.2.2)
theorem contract(H:Type)(enc:TypeId×Value→H)(W:World)(base:Nat)(args:Array Value)(ds gs:List (DataW H))(before:List MemPlace)
  (hval:∀(j:Nat) t v,Tryd.f3.params[j]? =some t→args[j]? =some v→Value.okWide Tryd.prog W .any base t v)
  (hW:DataW.Whole enc Tryd.prog Tryd.f3.params.toList Rows.payBackSpec.vars false W args.toList ds gs before) (hL:laidMetH Tryd.prog Rows.payBackRow.laid W) (hS:W.ShapedOpen Tryd.prog) {us:List TypeId} (hWt:(DataW.weightsEach Tryd.prog (Tryd.f3.params.toList++us) (ds++gs)).all (· ≤reachBytes)=true):
  Calls Tryd.prog 3 args W fun e W'=>∃v,e=.returned v∧Rows.payBackSpec.post enc Tryd.prog Tryd.f3 false true false false W args v W':=
 let⟨mx,hg⟩:=gok hL hS
 row_contract_sz (s:=Rows.payBackSpec) (fn:=Tryd.f3) 40 laidOut (by kernel_rfl) (by kernel_rfl) rfl Tryd.underlying4 rfl
  (fun H ds h=>match ds,h with| [d1,d2,d3,d4,d5],_=>⟨rfl,rfl,rfl⟩) (calls (mx:=mx)) H enc W base args ds gs before (by assumption) hW hWt hg
theorem reads(os:Os){H:Type}(enc:TypeId×Value→H):∃places,DataW.whole enc Tryd.prog ((laidW os).forCall (fun _ _=>0) ⟨#[], #[.int .i64 0,.slice none 0 0,.string ⟨#[]⟩,.int .u16 0,.int .u8 0],[]⟩).memory Tryd.f3.params.toList Rows.payBackSpec.vars false (#[.int .i64 0,.slice none 0 0,.string ⟨#[]⟩,.int .u16 0,.int .u8 0]:Array Value).toList 8=some ([.lit (.int .i64 0),.nil,.lit (.string []),.lit (.int .u16 0),.lit (.int .u8 0)],[],places):=
 ⟨[],by kernel_rfl⟩
set_option maxRecDepth 100000 in
theorem lifted(os:Os)(started:os.Started)(H:Type)(enc:TypeId×Value→H)(F:Stop.Interp):
  ReturnsInHanded {} Tryd.checked os 3 .any ((OpenSpec.ofChange Rows.payBackSpec).preRow enc Tryd.prog Tryd.f3 Rows.payBackRow.domain false Rows.payBackRow.laid) (((OpenSpec.ofChange Rows.payBackSpec).at F).post enc Tryd.prog Tryd.f3 false true false false):=by
 obtain⟨places,hx⟩:=reads os enc
 refine returnsInHanded_of_row (C:=Tryd.checked) (s:=OpenSpec.ofChange Rows.payBackSpec) own started (by kernel_rfl) Tryd.func3
  (witness_row_at (enc:=enc) (C:=Tryd.checked) false (laidW os) #[.int .i64 0,.slice none 0 0,.string ⟨#[]⟩,.int .u16 0,.int .u8 0] rfl (by kernel_rfl) (by kernel_rfl) (by kernel_rfl)
   (OpenSpec.preRow_of_cond 8 hx (by kernel_rfl) (fun k hk=>by cases hk) (by kernel_rfl) (laid_met os _))) ?_
 intro W base args ds gs before hval hW _ _ hWt hL hS _;exact contract H enc W base args ds gs before hval hW hL hS hWt
theorem said:Rows.PayBackSaid:=
 OpenClaim.holds_of_cond 3 Tryd.f3 rfl rfl rfl rfl rfl rfl rfl ⟨rfl,rfl,rfl,rfl,rfl⟩ rfl rfl rfl rfl rfl (by kernel_rfl) Tryd.func3 (by kernel_rfl)
  (of_decide_eq_true (by kernel_rfl)) (by unfold Func.isWrapper;first|(rw[if_pos (by decide+kernel)];kernel_rfl)|(rw[if_neg (by decide+kernel)];exact⟨rfl,rfl⟩))
  (fun os started H enc _ F=>by rw[OpenClaim.pre_eq_preRow];exact lifted os started H enc F)
theorem plain(f:FuncId)(fn:Func)(hf:Tryd.pinned.checked.prog.funcNamed Rows.payBackRow.func=some f)(hfn:Tryd.pinned.checked.prog.funcs[f]? =some fn):
  true=Tryd.pinned.checked.prog.looks []∧∀(j:Nat) t,fn.params[j]? =some t→Tryd.pinned.checked.prog.wantsStandIn t=false:=by
 obtain rfl:f=3:=Option.some.inj ((show Tryd.prog.funcNamed Rows.payBackRow.func=some 3 by kernel_rfl).symm.trans hf)|>.symm;obtain rfl:fn=Tryd.f3:=(Option.some.inj (Tryd.func3.symm.trans hfn)).symm;refine⟨by kernel_rfl,fun j t ht=> ?_⟩;have h:(Tryd.f3.params.toList.all fun t=> !Tryd.prog.wantsStandIn t)=true:=by kernel_rfl
 have hm:t∈Tryd.f3.params.toList:=by simpa using Array.mem_of_getElem? ht
 have:=List.all_eq_true.1 h t hm;exact(by simpa using this:Tryd.prog.wantsStandIn t=false)
theorem proved:Rows.PayBackCardSaid:=
 Claim7.holds_tied_plain_at .later [] _ _ _ _ said (fun _ h=>by cases h) (by kernel_rfl) (fun _ h=>by cases h) payBack_row_tie rfl ⟨rfl,rfl⟩ (by kernel_rfl) rfl plain (by kernel_rfl)
end Go.Proofs.YtdnifdddokcnlaaDoor.payBack
