/-
  THE ROW 'SheetOf': a person's entries in any span, of any facts that are told, or why there are none, are what the document says (at most 60 facts, texts of at most 300 bytes)
-/
import Derived.Test.YtbajcpobojindaaGreatDoorK14
import Derived.Test.YtbajcpobojindaaGreatDoorK17
import Derived.Test.YtbajcpobojindaaGreatDoorK7
import Derived.Test.YtbajcpobojindaaGreatDoorRows
import Derived.Test.YtbajcpobojindaaGreatDoorCards
import Derived.Test.YtbajcpobojindaaGreatDoorTie
import Derived.Deep.DeepHandedRow
set_option linter.unusedVariables false
set_option linter.unusedSimpArgs false
namespace Go.Proofs.YtbajcpobojindaaGreatDoor.sheetOf
open Go.ChangeShapes Go.WideShapes Go.ChangeAt Go.RowKit WB
theorem own:ownKnob Tryz.prog.godebug=none:=by kernel_rfl
theorem laidOut:laidOutB Tryz.prog=true:=by kernel_rfl
theorem calls(x:D s3.a)(l:List CV)(hx:WB.Can s3.a x l)(hi:InR s3.a x):CallsTo Tryz.prog B.G 3 l (.val (.bool true)):=
 GoodT.call g3 (f:=3) (s:=s3) rfl hx (y:=true) (law_SheetOf _ _ _)
theorem contract(H:Type)(enc:TypeId×Value→H)(W:World)(base:Nat)(args:Array Value)(ds gs:List (DataW H))(before:List MemPlace)
  (hval:∀(j:Nat) t v,Tryz.f3.params[j]? =some t→args[j]? =some v→Value.okWide Tryz.prog W .any base t v)
  (hW:DataW.Whole enc Tryz.prog Tryz.f3.params.toList Rows.sheetOfSpec.vars false W args.toList ds gs before) (hL:laidMetH Tryz.prog Rows.sheetOfRow.laid W):
  Calls Tryz.prog 3 args W fun e W'=>∃v,e=.returned v∧Rows.sheetOfSpec.post enc Tryz.prog Tryz.f3 false true false false W args v W':=
 row_contract (s:=Rows.sheetOfSpec) (fn:=Tryz.f3) 40 laidOut (by kernel_rfl) (by kernel_rfl) rfl Tryz.underlying4 rfl
  (fun H ds h=>match ds,h with| [d1,d2,d3],_=>⟨rfl,rfl,rfl⟩) calls H enc W base args ds gs before (by assumption) hW (gok hL)
theorem reads(os:Os){H:Type}(enc:TypeId×Value→H):∃places,DataW.whole enc Tryz.prog ((laidW os).forCall (fun _ _=>0) ⟨#[], #[.slice none 0 0,.int .u32 0,.agg #[.int .i64 0,.int .i64 0]],[]⟩).memory Tryz.f3.params.toList Rows.sheetOfSpec.vars false (#[.slice none 0 0,.int .u32 0,.agg #[.int .i64 0,.int .i64 0]]:Array Value).toList 8=some ([.nil,.lit (.int .u32 0),.agg [.lit (.int .i64 0),.lit (.int .i64 0)]],[],places):=
 ⟨[],by kernel_rfl⟩
set_option maxRecDepth 100000 in
theorem lifted(os:Os)(started:os.Started)(H:Type)(enc:TypeId×Value→H)(F:Stop.Interp):
  ReturnsInHanded {} Tryz.checked os 3 .any ((OpenSpec.ofChange Rows.sheetOfSpec).preRow enc Tryz.prog Tryz.f3 Rows.sheetOfRow.domain false Rows.sheetOfRow.laid) (((OpenSpec.ofChange Rows.sheetOfSpec).at F).post enc Tryz.prog Tryz.f3 false true false false):=by
 obtain⟨places,hx⟩:=reads os enc
 refine returnsInHanded_of_row (C:=Tryz.checked) (s:=OpenSpec.ofChange Rows.sheetOfSpec) own started (by kernel_rfl) Tryz.func3
  (witness_row_at (enc:=enc) (C:=Tryz.checked) false (laidW os) #[.slice none 0 0,.int .u32 0,.agg #[.int .i64 0,.int .i64 0]] rfl (by kernel_rfl) (by kernel_rfl) (by kernel_rfl)
   (OpenSpec.preRow_of_cond 8 hx (by kernel_rfl) (fun k hk=>by cases hk) (by kernel_rfl) (laid_met os _))) ?_
 intro W base args ds gs before hval hW _ _ _ hL _ _;exact contract H enc W base args ds gs before hval hW hL
theorem said:Rows.SheetOfSaid:=
 OpenClaim.holds_of_cond 3 Tryz.f3 rfl rfl rfl rfl rfl rfl rfl ⟨rfl,rfl,rfl,rfl,rfl⟩ rfl rfl rfl rfl rfl (by kernel_rfl) Tryz.func3 (by kernel_rfl)
  (of_decide_eq_true (by kernel_rfl)) (by unfold Func.isWrapper;first|(rw[if_pos (by decide+kernel)];kernel_rfl)|(rw[if_neg (by decide+kernel)];exact⟨rfl,rfl⟩))
  (fun os started H enc _ F=>by rw[OpenClaim.pre_eq_preRow];exact lifted os started H enc F)
theorem plain(f:FuncId)(fn:Func)(hf:Tryz.pinned.checked.prog.funcNamed Rows.sheetOfRow.func=some f)(hfn:Tryz.pinned.checked.prog.funcs[f]? =some fn):
  true=Tryz.pinned.checked.prog.looks []∧∀(j:Nat) t,fn.params[j]? =some t→Tryz.pinned.checked.prog.wantsStandIn t=false:=by
 obtain rfl:f=3:=Option.some.inj ((show Tryz.prog.funcNamed Rows.sheetOfRow.func=some 3 by kernel_rfl).symm.trans hf)|>.symm;obtain rfl:fn=Tryz.f3:=(Option.some.inj (Tryz.func3.symm.trans hfn)).symm;refine⟨by kernel_rfl,fun j t ht=> ?_⟩;have h:(Tryz.f3.params.toList.all fun t=> !Tryz.prog.wantsStandIn t)=true:=by kernel_rfl
 have hm:t∈Tryz.f3.params.toList:=by simpa using Array.mem_of_getElem? ht
 have:=List.all_eq_true.1 h t hm;exact(by simpa using this:Tryz.prog.wantsStandIn t=false)
theorem proved:Rows.SheetOfCardSaid:=
 Claim7.holds_tied_plain_at .later [] _ _ _ _ said (fun _ h=>by cases h) (by kernel_rfl) (fun _ h=>by cases h) sheetOf_row_tie rfl ⟨rfl,rfl⟩ (by kernel_rfl) rfl plain (by kernel_rfl)
end Go.Proofs.YtbajcpobojindaaGreatDoor.sheetOf
