/-
  THE ROW 'PayCut': a file that is cut isn't read, nor two behind each other.
-/
import Derived.Test.YtdnifdddokcnlaaDoorK10
import Derived.Test.YtdnifdddokcnlaaDoorK14
import Derived.Test.YtdnifdddokcnlaaDoorK6
import Derived.Test.YtdnifdddokcnlaaDoorRows
import Derived.Test.YtdnifdddokcnlaaDoorCards
import Derived.Test.YtdnifdddokcnlaaDoorTie
import Derived.Deep.DeepHandedRow
set_option linter.unusedVariables false
set_option linter.unusedSimpArgs false
namespace Go.Proofs.YtdnifdddokcnlaaDoor.payCut
open Go.ChangeShapes Go.WideShapes Go.ChangeAt Go.RowKit WB
theorem own:ownKnob Tryd.prog.godebug=none:=by kernel_rfl
theorem laidOut:laidOutB Tryd.prog=true:=by kernel_rfl
theorem szX(a b:Int)(l m:List Ordr)(c:Int)(h:szArgs Tryd.prog Tryd.f4.params.toList s4.a (a,b,l,m,c)):l.length*48≤140737488355328∧m.length*48≤140737488355328:=by
 have e:szArgs Tryd.prog Tryd.f4.params.toList s4.a (a,b,l,m,c)=(True∧True∧l.length*48≤140737488351232∧m.length*48≤140737488351232∧True):=by kernel_rfl
 rw[e]at h;omega
theorem calls{mx:Int}(x:D s4.a)(l:List CV)(hx:WB.Can s4.a x l)(hi:InR s4.a x)(hz:szArgs Tryd.prog Tryd.f4.params.toList s4.a x):CallsTo Tryd.prog (B mx).G 4 l (.val (.bool true)):=
 GoodT.call g4 (f:=4) (s:=s4) rfl hx (y:=true) (PayCut_law awake_eq (fun y hy=>(hi.2.2.1.2 y hy).1) (fun y hy=>(hi.2.2.2.1.2 y hy).1) (szX _ _ _ _ _ hz).1 (szX _ _ _ _ _ hz).2 hi.2.2.2.2)
theorem contract(H:Type)(enc:TypeId×Value→H)(W:World)(base:Nat)(args:Array Value)(ds gs:List (DataW H))(before:List MemPlace)
  (hval:∀(j:Nat) t v,Tryd.f4.params[j]? =some t→args[j]? =some v→Value.okWide Tryd.prog W .any base t v)
  (hW:DataW.Whole enc Tryd.prog Tryd.f4.params.toList Rows.payCutSpec.vars false W args.toList ds gs before) (hL:laidMetH Tryd.prog Rows.payCutRow.laid W) (hS:W.ShapedOpen Tryd.prog) {us:List TypeId} (hWt:(DataW.weightsEach Tryd.prog (Tryd.f4.params.toList++us) (ds++gs)).all (· ≤reachBytes)=true):
  Calls Tryd.prog 4 args W fun e W'=>∃v,e=.returned v∧Rows.payCutSpec.post enc Tryd.prog Tryd.f4 false true false false W args v W':=
 let⟨mx,hg⟩:=gok hL hS
 row_contract_sz (s:=Rows.payCutSpec) (fn:=Tryd.f4) 40 laidOut (by kernel_rfl) (by kernel_rfl) rfl Tryd.underlying4 rfl
  (fun H ds h=>match ds,h with| [d1,d2,d3,d4,d5],_=>⟨rfl,rfl,rfl⟩) (calls (mx:=mx)) H enc W base args ds gs before (by assumption) hW hWt hg
theorem reads(os:Os){H:Type}(enc:TypeId×Value→H):∃places,DataW.whole enc Tryd.prog ((laidW os).forCall (fun _ _=>0) ⟨#[], #[.int .i64 0,.int .i64 0,.slice none 0 0,.slice none 0 0,.int .u16 0],[]⟩).memory Tryd.f4.params.toList Rows.payCutSpec.vars false (#[.int .i64 0,.int .i64 0,.slice none 0 0,.slice none 0 0,.int .u16 0]:Array Value).toList 8=some ([.lit (.int .i64 0),.lit (.int .i64 0),.nil,.nil,.lit (.int .u16 0)],[],places):=
 ⟨[],by kernel_rfl⟩
set_option maxRecDepth 100000 in
theorem lifted(os:Os)(started:os.Started)(H:Type)(enc:TypeId×Value→H)(F:Stop.Interp):
  ReturnsInHanded {} Tryd.checked os 4 .any ((OpenSpec.ofChange Rows.payCutSpec).preRow enc Tryd.prog Tryd.f4 Rows.payCutRow.domain false Rows.payCutRow.laid) (((OpenSpec.ofChange Rows.payCutSpec).at F).post enc Tryd.prog Tryd.f4 false true false false):=by
 obtain⟨places,hx⟩:=reads os enc
 refine returnsInHanded_of_row (C:=Tryd.checked) (s:=OpenSpec.ofChange Rows.payCutSpec) own started (by kernel_rfl) Tryd.func4
  (witness_row_at (enc:=enc) (C:=Tryd.checked) false (laidW os) #[.int .i64 0,.int .i64 0,.slice none 0 0,.slice none 0 0,.int .u16 0] rfl (by kernel_rfl) (by kernel_rfl) (by kernel_rfl)
   (OpenSpec.preRow_of_cond 8 hx (by kernel_rfl) (fun k hk=>by cases hk) (by kernel_rfl) (laid_met os _))) ?_
 intro W base args ds gs before hval hW _ _ hWt hL hS _;exact contract H enc W base args ds gs before hval hW hL hS hWt
theorem said:Rows.PayCutSaid:=
 OpenClaim.holds_of_cond 4 Tryd.f4 rfl rfl rfl rfl rfl rfl rfl ⟨rfl,rfl,rfl,rfl,rfl⟩ rfl rfl rfl rfl rfl (by kernel_rfl) Tryd.func4 (by kernel_rfl)
  (of_decide_eq_true (by kernel_rfl)) (by unfold Func.isWrapper;first|(rw[if_pos (by decide+kernel)];kernel_rfl)|(rw[if_neg (by decide+kernel)];exact⟨rfl,rfl⟩))
  (fun os started H enc _ F=>by rw[OpenClaim.pre_eq_preRow];exact lifted os started H enc F)
theorem plain(f:FuncId)(fn:Func)(hf:Tryd.pinned.checked.prog.funcNamed Rows.payCutRow.func=some f)(hfn:Tryd.pinned.checked.prog.funcs[f]? =some fn):
  true=Tryd.pinned.checked.prog.looks []∧∀(j:Nat) t,fn.params[j]? =some t→Tryd.pinned.checked.prog.wantsStandIn t=false:=by
 obtain rfl:f=4:=Option.some.inj ((show Tryd.prog.funcNamed Rows.payCutRow.func=some 4 by kernel_rfl).symm.trans hf)|>.symm;obtain rfl:fn=Tryd.f4:=(Option.some.inj (Tryd.func4.symm.trans hfn)).symm;refine⟨by kernel_rfl,fun j t ht=> ?_⟩;have h:(Tryd.f4.params.toList.all fun t=> !Tryd.prog.wantsStandIn t)=true:=by kernel_rfl
 have hm:t∈Tryd.f4.params.toList:=by simpa using Array.mem_of_getElem? ht
 have:=List.all_eq_true.1 h t hm;exact(by simpa using this:Tryd.prog.wantsStandIn t=false)
theorem proved:Rows.PayCutCardSaid:=
 Claim7.holds_tied_plain_at .later [] _ _ _ _ said (fun _ h=>by cases h) (by kernel_rfl) (fun _ h=>by cases h) payCut_row_tie rfl ⟨rfl,rfl⟩ (by kernel_rfl) rfl plain (by kernel_rfl)
end Go.Proofs.YtdnifdddokcnlaaDoor.payCut
