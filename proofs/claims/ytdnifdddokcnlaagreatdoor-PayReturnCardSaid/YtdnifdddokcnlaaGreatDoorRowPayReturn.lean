/-
  THE ROW 'PayReturn': what comes back is the first order of its reference, the others stay.
-/
import Derived.Test.YtdnifdddokcnlaaGreatDoorK10
import Derived.Test.YtdnifdddokcnlaaGreatDoorK14
import Derived.Test.YtdnifdddokcnlaaGreatDoorK6
import Derived.Test.YtdnifdddokcnlaaGreatDoorRows
import Derived.Test.YtdnifdddokcnlaaGreatDoorCards
import Derived.Test.YtdnifdddokcnlaaGreatDoorTie
import Derived.Deep.DeepHandedRow
set_option linter.unusedVariables false
set_option linter.unusedSimpArgs false
namespace Go.Proofs.YtdnifdddokcnlaaGreatDoor.payReturn
open Go.ChangeShapes Go.WideShapes Go.ChangeAt Go.RowKit WB
theorem own:ownKnob Tryz.prog.godebug=none:=by kernel_rfl
theorem laidOut:laidOutB Tryz.prog=true:=by kernel_rfl
theorem szX(l:List Ordr)(t:List UInt8)(h:szArgs Tryz.prog Tryz.f4.params.toList s4.a (l,t)):l.length*48≤140737488355328:=by
 have e:szArgs Tryz.prog Tryz.f4.params.toList s4.a (l,t)=(l.length*48≤140737488351232∧True):=by kernel_rfl
 rw[e]at h;omega
theorem calls{mx:Int}(x:D s4.a)(l:List CV)(hx:WB.Can s4.a x l)(hi:InR s4.a x)(hz:szArgs Tryz.prog Tryz.f4.params.toList s4.a x):CallsTo Tryz.prog (B mx).G 4 l (.val (.bool true)):=
 GoodT.call g4 (f:=4) (s:=s4) rfl hx (y:=true) (PayReturn_law awake_eq (szX _ _ hz))
theorem contract(H:Type)(enc:TypeId×Value→H)(W:World)(base:Nat)(args:Array Value)(ds gs:List (DataW H))(before:List MemPlace)
  (hval:∀(j:Nat) t v,Tryz.f4.params[j]? =some t→args[j]? =some v→Value.okWide Tryz.prog W .any base t v)
  (hW:DataW.Whole enc Tryz.prog Tryz.f4.params.toList Rows.payReturnSpec.vars false W args.toList ds gs before) (hL:laidMetH Tryz.prog Rows.payReturnRow.laid W) (hS:W.ShapedOpen Tryz.prog) {us:List TypeId} (hWt:(DataW.weightsEach Tryz.prog (Tryz.f4.params.toList++us) (ds++gs)).all (· ≤reachBytes)=true):
  Calls Tryz.prog 4 args W fun e W'=>∃v,e=.returned v∧Rows.payReturnSpec.post enc Tryz.prog Tryz.f4 false true false false W args v W':=
 let⟨mx,hg⟩:=gok hL hS
 row_contract_sz (s:=Rows.payReturnSpec) (fn:=Tryz.f4) 40 laidOut (by kernel_rfl) (by kernel_rfl) rfl Tryz.underlying4 rfl
  (fun H ds h=>match ds,h with| [d1,d2],_=>⟨rfl,rfl,rfl⟩) (calls (mx:=mx)) H enc W base args ds gs before (by assumption) hW hWt hg
theorem reads(os:Os){H:Type}(enc:TypeId×Value→H):∃places,DataW.whole enc Tryz.prog ((laidW os).forCall (fun _ _=>0) ⟨#[], #[.slice none 0 0,.string ⟨#[]⟩],[]⟩).memory Tryz.f4.params.toList Rows.payReturnSpec.vars false (#[.slice none 0 0,.string ⟨#[]⟩]:Array Value).toList 8=some ([.nil,.lit (.string [])],[],places):=
 ⟨[],by kernel_rfl⟩
set_option maxRecDepth 100000 in
theorem lifted(os:Os)(started:os.Started)(H:Type)(enc:TypeId×Value→H)(F:Stop.Interp):
  ReturnsInHanded {} Tryz.checked os 4 .any ((OpenSpec.ofChange Rows.payReturnSpec).preRow enc Tryz.prog Tryz.f4 Rows.payReturnRow.domain false Rows.payReturnRow.laid) (((OpenSpec.ofChange Rows.payReturnSpec).at F).post enc Tryz.prog Tryz.f4 false true false false):=by
 obtain⟨places,hx⟩:=reads os enc
 refine returnsInHanded_of_row (C:=Tryz.checked) (s:=OpenSpec.ofChange Rows.payReturnSpec) own started (by kernel_rfl) Tryz.func4
  (witness_row_at (enc:=enc) (C:=Tryz.checked) false (laidW os) #[.slice none 0 0,.string ⟨#[]⟩] rfl (by kernel_rfl) (by kernel_rfl) (by kernel_rfl)
   (OpenSpec.preRow_of_cond 8 hx (by kernel_rfl) (fun k hk=>by cases hk) (by kernel_rfl) (laid_met os _))) ?_
 intro W base args ds gs before hval hW _ _ hWt hL hS _;exact contract H enc W base args ds gs before hval hW hL hS hWt
theorem said:Rows.PayReturnSaid:=
 OpenClaim.holds_of_cond 4 Tryz.f4 rfl rfl rfl rfl rfl rfl rfl ⟨rfl,rfl,rfl,rfl,rfl⟩ rfl rfl rfl rfl rfl (by kernel_rfl) Tryz.func4 (by kernel_rfl)
  (of_decide_eq_true (by kernel_rfl)) (by unfold Func.isWrapper;first|(rw[if_pos (by decide+kernel)];kernel_rfl)|(rw[if_neg (by decide+kernel)];exact⟨rfl,rfl⟩))
  (fun os started H enc _ F=>by rw[OpenClaim.pre_eq_preRow];exact lifted os started H enc F)
theorem plain(f:FuncId)(fn:Func)(hf:Tryz.pinned.checked.prog.funcNamed Rows.payReturnRow.func=some f)(hfn:Tryz.pinned.checked.prog.funcs[f]? =some fn):
  true=Tryz.pinned.checked.prog.looks []∧∀(j:Nat) t,fn.params[j]? =some t→Tryz.pinned.checked.prog.wantsStandIn t=false:=by
 obtain rfl:f=4:=Option.some.inj ((show Tryz.prog.funcNamed Rows.payReturnRow.func=some 4 by kernel_rfl).symm.trans hf)|>.symm;obtain rfl:fn=Tryz.f4:=(Option.some.inj (Tryz.func4.symm.trans hfn)).symm;refine⟨by kernel_rfl,fun j t ht=> ?_⟩;have h:(Tryz.f4.params.toList.all fun t=> !Tryz.prog.wantsStandIn t)=true:=by kernel_rfl
 have hm:t∈Tryz.f4.params.toList:=by simpa using Array.mem_of_getElem? ht
 have:=List.all_eq_true.1 h t hm;exact(by simpa using this:Tryz.prog.wantsStandIn t=false)
theorem proved:Rows.PayReturnCardSaid:=
 Claim7.holds_tied_plain_at .later [] _ _ _ _ said (fun _ h=>by cases h) (by kernel_rfl) (fun _ h=>by cases h) payReturn_row_tie rfl ⟨rfl,rfl⟩ (by kernel_rfl) rfl plain (by kernel_rfl)
end Go.Proofs.YtdnifdddokcnlaaGreatDoor.payReturn
