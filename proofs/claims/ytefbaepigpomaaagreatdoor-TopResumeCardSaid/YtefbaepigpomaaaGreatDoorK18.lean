/-
  THE ROW TopResume: its closed facts, one by one (the kernel looks at each by itself).
-/
import Derived.Test.YtefbaepigpomaaaGreatDoorRows
import Derived.Deep.DeepHandedRow
set_option linter.unusedVariables false
set_option linter.unusedSimpArgs false
namespace Go.Proofs.YtefbaepigpomaaaGreatDoor.topResume
noncomputable abbrev Qf(p:Program→FuncId→Func→ChangeSpec→OpenClaim→Bool):Bool:=p Tryz.checked.prog 7 Tryz.f7 Rows.topResumeSpec Rows.topResumeRow
theorem fa0:Qf (fun P f fn s c=>(c.wf (OpenSpec.ofChange s)))=true:=by kernel_rfl
theorem fa1:Qf (fun P f fn s c=>(laidOutB P))=true:=by kernel_rfl
theorem fa2:Qf (fun P f fn s c=>(mapsRowed P))=true:=by kernel_rfl
theorem fa3:Qf (fun P f fn s c=>(fn.params.all (P.readableRec ·)))=true:=by kernel_rfl
theorem fa4:Qf (fun P f fn s c=>(namedTie P c.named s.vars))=true:=by kernel_rfl
theorem fa5:Qf (fun P f fn s c=>((c.stops== [])))=true:=by kernel_rfl
theorem fa6:Qf (fun P f fn s c=>((P.stops== [])))=true:=by kernel_rfl
theorem fa7:Qf (fun P f fn s c=>((c.knobs== [])))=true:=by kernel_rfl
theorem fa8:Qf (fun P f fn s c=>((P.stopKnobs== [])))=true:=by kernel_rfl
theorem fa9:Qf (fun P f fn s c=>((c.inPlace==P.inPlace f)))=true:=by kernel_rfl
theorem fa10:Qf (fun P f fn s c=>((c.unfollowed==P.unfollowed f)))=true:=by kernel_rfl
theorem fa11:Qf (fun P f fn s c=>((c.recurses==P.recurses f)))=true:=by kernel_rfl
theorem fa12:Qf (fun P f fn s c=>((c.named==P.varsNamed f)))=true:=by kernel_rfl
theorem fa13:Qf (fun P f fn s c=>((c.maps==(fn.params.toList++s.plain.varTypes P).any (P.mapsRec ·))))=true:=by kernel_rfl
theorem fa14:Qf (fun P f fn s c=>((c.ifaces==(fn.params.toList++s.plain.varTypes P).any (P.ifacesRec ·))))=true:=by kernel_rfl
theorem fa15:Qf (fun P f fn s c=>((c.mapsOut==P.mapsAmong fn.resultTypes.toList)))=true:=by kernel_rfl
theorem fa16:Qf (fun P f fn s c=>((c.loops==(fn.params.toList++s.plain.varTypes P).any (P.loopsFrom ·))))=true:=by kernel_rfl
theorem fa17:Qf (fun P f fn s c=>((c.wideKeys==(fn.params.toList++s.plain.varTypes P++fn.resultTypes.toList).any (P.wideKeysFrom ·))))=true:=by kernel_rfl
theorem fa18:Qf (fun P f fn s c=>(s.vars.all (P.varReadable ·)))=true:=by kernel_rfl
theorem fa19:Qf (fun P f fn s c=>(fn.resultTypes.all (fun t=>P.readableRec t&&decide (t<P.types.size))))=true:=by kernel_rfl
theorem fa20:Qf (fun P f fn s c=>((c.ifacesOut==fn.resultTypes.toList.any (P.ifacesRec ·))))=true:=by kernel_rfl
theorem fa21:Qf (fun P f fn s c=>((c.loopsOut==fn.resultTypes.toList.any (P.loopsFrom ·))))=true:=by kernel_rfl
theorem fa22:Qf (fun P f fn s c=>((c.plainKeys==P.plainKeys)))=true:=by kernel_rfl
theorem fa23:Qf (fun P f fn s c=>(c.shortTexts.isNone))=true:=by kernel_rfl
theorem fa24:Qf (fun P f fn s c=>(P.stopsHeard))=true:=by kernel_rfl
theorem fa25:Qf (fun P f fn s c=>(P.mayEnter))=true:=by kernel_rfl
theorem fa26:Qf (fun P f fn s c=>((c.lifted==P.liftsFinal)))=true:=by kernel_rfl
theorem fa27:Qf (fun P f fn s c=>((P.make==some c.make)))=true:=by kernel_rfl
theorem fa29:Qf (fun P f fn s c=>((c.pinned==c.pinnedBy)))=true:=by kernel_rfl
theorem fa30:Qf (fun P f fn s c=>((c.veiled==(fn.params.toList++s.plain.varTypes P++fn.resultTypes.toList).any (P.veiledRec ·))))=true:=by kernel_rfl
theorem fa31:Qf (fun P f fn s c=>(c.veiledFits P fn.params.toList (fn.params.toList++s.plain.varTypes P++fn.resultTypes.toList)))=true:=by kernel_rfl
end Go.Proofs.YtefbaepigpomaaaGreatDoor.topResume
