/-
  THE ROW 'TopResume': months, folded up to anywhere, and gone on from there, give the slips, and the state, of the fold from the start; each slip is one that may be (at most 30 months)
-/
import Derived.Test.YtefbaepigpomaaaGreatDoorK17
import Derived.Test.YtefbaepigpomaaaGreatDoorCards
import Derived.Test.YtefbaepigpomaaaGreatDoorTie
import Derived.Test.YtefbaepigpomaaaGreatDoorK18
set_option linter.unusedVariables false
set_option linter.unusedSimpArgs false
namespace Go.Proofs.YtefbaepigpomaaaGreatDoor.topResume
open Go.ChangeShapes Go.WideShapes Go.ChangeAt Go.RowKit WB
theorem own:ownKnob Tryz.prog.godebug=none:=by kernel_rfl
theorem laidOut:laidOutB Tryz.prog=true:=by kernel_rfl
theorem calls(x:D s7.a)(l:List CV)(hx:WB.Can s7.a x l)(hi:InR s7.a x):CallsTo Tryz.prog B.G 7 l (.val (.bool true)):=
 GoodT.call g7 (f:=7) (s:=s7) rfl hx (y:=true) (law_TopResume (l:=x.1) (first:=x.2.1) (of:=x.2.2.1) (cut:=x.2.2.2) (fun a ha=>rawOk_of (hi.1.2 a ha)) hi.2.1 hi.2.2.1 hi.2.2.2)
theorem contract(H:Type)(enc:TypeId×Value→H)(W:World)(base:Nat)(args:Array Value)(ds gs:List (DataW H))(before:List MemPlace)
  (hval:∀(j:Nat) t v,Tryz.f7.params[j]? =some t→args[j]? =some v→Value.okWide Tryz.prog W .any base t v)
  (hW:DataW.Whole enc Tryz.prog Tryz.f7.params.toList Rows.topResumeSpec.vars false W args.toList ds gs before) (hL:laidMetH Tryz.prog Rows.topResumeRow.laid W):
  Calls Tryz.prog 7 args W fun e W'=>∃v,e=.returned v∧Rows.topResumeSpec.post enc Tryz.prog Tryz.f7 false true false false W args v W':=
 row_contract (s:=Rows.topResumeSpec) (fn:=Tryz.f7) 40 laidOut (by kernel_rfl) (by kernel_rfl) rfl Tryz.underlying4 rfl
  (fun H ds h=>match ds,h with| [d1,d2,d3,d4],_=>⟨rfl,rfl,rfl⟩) calls H enc W base args ds gs before (by assumption) hW (gok hL)
theorem reads(os:Os){H:Type}(enc:TypeId×Value→H):∃places,DataW.whole enc Tryz.prog ((laidW os).forCall (fun _ _=>0) ⟨#[], #[.slice none 0 0,.int .u8 0,.int .u8 0,.int .u8 0],[]⟩).memory Tryz.f7.params.toList Rows.topResumeSpec.vars false (#[.slice none 0 0,.int .u8 0,.int .u8 0,.int .u8 0]:Array Value).toList 8=some ([.nil,.lit (.int .u8 0),.lit (.int .u8 0),.lit (.int .u8 0)],[],places):=
 ⟨[],by kernel_rfl⟩
theorem n1:Tryz.checked.prog.inits.idxOf? 7=none:=by kernel_rfl
set_option maxRecDepth 100000 in
theorem n2(os:Os):World.variablesB Tryz.checked.prog ((laidW os).forCall (fun _ _=>0) ⟨#[],(#[.slice none 0 0,.int .u8 0,.int .u8 0,.int .u8 0]:Array Value),[]⟩)=true:=by kernel_rfl
set_option maxRecDepth 100000 in
theorem n3(os:Os):(((laidW os).forCall (fun _ _=>0) ⟨#[],(#[.slice none 0 0,.int .u8 0,.int .u8 0,.int .u8 0]:Array Value),[]⟩).heap.toList.drop Tryz.checked.prog.globals.size).take ((begin Tryz.checked.prog (fun _ _=>0) default).world.heap.size-Tryz.checked.prog.globals.size)=(begin Tryz.checked.prog (fun _ _=>0) default).world.heap.toList.drop Tryz.checked.prog.globals.size:=by kernel_rfl
set_option maxRecDepth 100000 in
theorem n4(os:Os):Input.okWideB Tryz.checked.prog ((laidW os).forCall (fun _ _=>0) ⟨#[],(#[.slice none 0 0,.int .u8 0,.int .u8 0,.int .u8 0]:Array Value),[]⟩) 7 ⟨#[],(#[.slice none 0 0,.int .u8 0,.int .u8 0,.int .u8 0]:Array Value),[]⟩=true:=by kernel_rfl
set_option maxRecDepth 100000 in
theorem n5(os:Os)(H:Type)(enc:TypeId×Value→H):(OpenSpec.ofChange Rows.topResumeSpec).preRow enc Tryz.checked.prog Tryz.f7 Rows.topResumeRow.domain false Rows.topResumeRow.laid ((laidW os).forCall (fun _ _=>0) ⟨#[],(#[.slice none 0 0,.int .u8 0,.int .u8 0,.int .u8 0]:Array Value),[]⟩).memory (#[.slice none 0 0,.int .u8 0,.int .u8 0,.int .u8 0]:Array Value):=by
 obtain⟨places,hx⟩:=reads os enc;exact OpenSpec.preRow_of_cond 8 hx (by kernel_rfl) (fun k hk=>by cases hk) (by kernel_rfl) (laid_met os _)
set_option maxRecDepth 100000 in
theorem lifted(os:Os)(started:os.Started)(H:Type)(enc:TypeId×Value→H)(F:Stop.Interp):
  ReturnsInHanded {} Tryz.checked os 7 .any ((OpenSpec.ofChange Rows.topResumeSpec).preRow enc Tryz.prog Tryz.f7 Rows.topResumeRow.domain false Rows.topResumeRow.laid) (((OpenSpec.ofChange Rows.topResumeSpec).at F).post enc Tryz.prog Tryz.f7 false true false false):=by
 refine returnsInHanded_of_row (C:=Tryz.checked) (s:=OpenSpec.ofChange Rows.topResumeSpec) own started n1 Tryz.func7
  (witness_row_at (enc:=enc) (C:=Tryz.checked) false (laidW os) #[.slice none 0 0,.int .u8 0,.int .u8 0,.int .u8 0] rfl (n2 os) (n3 os) (n4 os) (n5 os H enc)) ?_
 intro W base args ds gs before hval hW _ _ _ hL _ _;exact contract H enc W base args ds gs before hval hW hL
theorem and_t{a b:Bool}(h:a=true)(k:b=true):(a&&b)=true:=by rw[h,k];rfl
set_option maxRecDepth 100000 in
theorem closed:joinedFacts Tryz.checked.prog 7 Tryz.f7 Rows.topResumeSpec Rows.topResumeRow=true:=by
 unfold joinedFacts;exact(and_t (and_t (and_t (and_t (and_t (and_t (and_t (and_t (and_t (and_t (and_t (and_t (and_t (and_t (and_t (and_t (and_t (and_t (and_t (and_t (and_t (and_t (and_t (and_t (and_t (and_t (and_t (and_t (and_t (and_t (and_t fa0 fa1) fa2) fa3) fa4) fa5) fa6) fa7) fa8) fa9) fa10) fa11) fa12) fa13) fa14) fa15) fa16) fa17) fa18) fa19) fa20) fa21) fa22) fa23) fa24) fa25) fa26) fa27) (by kernel_rfl)) fa29) fa30) fa31)
theorem closedE:joinedFacts Tryz.pinned.checked.prog 7 Tryz.f7 (OpenSpec.ofChange Rows.topResumeSpec).bare Rows.topResumeRow=joinedFacts Tryz.checked.prog 7 Tryz.f7 Rows.topResumeSpec Rows.topResumeRow:=by kernel_rfl
theorem closedP:joinedFacts Tryz.pinned.checked.prog 7 Tryz.f7 (OpenSpec.ofChange Rows.topResumeSpec).bare Rows.topResumeRow=true:=closedE.trans closed
set_option maxRecDepth 100000 in
theorem said:Rows.TopResumeSaid:=
 OpenClaim.holds_of_cond 7 Tryz.f7 rfl rfl rfl rfl rfl rfl rfl ⟨rfl,rfl,rfl,rfl,rfl⟩ rfl rfl rfl rfl rfl (by kernel_rfl) Tryz.func7 (by exact closedP)
  (of_decide_eq_true (by kernel_rfl)) (by unfold Func.isWrapper;first|(rw[if_pos (by decide+kernel)];kernel_rfl)|(rw[if_neg (by decide+kernel)];exact⟨rfl,rfl⟩))
  (fun os started H enc _ F=>by rw[OpenClaim.pre_eq_preRow];exact lifted os started H enc F)
theorem plain(f:FuncId)(fn:Func)(hf:Tryz.pinned.checked.prog.funcNamed Rows.topResumeRow.func=some f)(hfn:Tryz.pinned.checked.prog.funcs[f]? =some fn):
  true=Tryz.pinned.checked.prog.looks []∧∀(j:Nat) t,fn.params[j]? =some t→Tryz.pinned.checked.prog.wantsStandIn t=false:=by
 obtain rfl:f=7:=Option.some.inj ((show Tryz.prog.funcNamed Rows.topResumeRow.func=some 7 by kernel_rfl).symm.trans hf)|>.symm;obtain rfl:fn=Tryz.f7:=(Option.some.inj (Tryz.func7.symm.trans hfn)).symm;refine⟨by kernel_rfl,fun j t ht=> ?_⟩;have h:(Tryz.f7.params.toList.all fun t=> !Tryz.prog.wantsStandIn t)=true:=by kernel_rfl
 have hm:t∈Tryz.f7.params.toList:=by simpa using Array.mem_of_getElem? ht
 have:=List.all_eq_true.1 h t hm;exact(by simpa using this:Tryz.prog.wantsStandIn t=false)
theorem proved:Rows.TopResumeCardSaid:=
 Claim7.holds_tied_plain_at .later [] _ _ _ _ said (fun _ h=>by cases h) (by kernel_rfl) (fun _ h=>by cases h) topResume_row_tie rfl ⟨rfl,rfl⟩ (by kernel_rfl) rfl plain (by kernel_rfl)
end Go.Proofs.YtefbaepigpomaaaGreatDoor.topResume
