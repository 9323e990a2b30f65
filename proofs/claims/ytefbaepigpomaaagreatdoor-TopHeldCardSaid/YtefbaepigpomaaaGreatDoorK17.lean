/-
  THE ROW TopHeld: its closed facts, one by one (the kernel looks at each by itself).
-/
import Derived.Test.YtefbaepigpomaaaGreatDoorRows
import Derived.Deep.DeepHandedRow
set_option linter.unusedVariables false
set_option linter.unusedSimpArgs false
namespace Go.Proofs.YtefbaepigpomaaaGreatDoor.topHeld
theorem fa0:((fun(P:Program) (f:FuncId) (fn:Func) (s:ChangeSpec) (c:OpenClaim)=>(c.wf (OpenSpec.ofChange s))) Tryz.checked.prog 3 Tryz.f3 Rows.topHeldSpec Rows.topHeldRow)=true:=by kernel_rfl
theorem fa1:((fun(P:Program) (f:FuncId) (fn:Func) (s:ChangeSpec) (c:OpenClaim)=>(laidOutB P)) Tryz.checked.prog 3 Tryz.f3 Rows.topHeldSpec Rows.topHeldRow)=true:=by kernel_rfl
theorem fa2:((fun(P:Program) (f:FuncId) (fn:Func) (s:ChangeSpec) (c:OpenClaim)=>(mapsRowed P)) Tryz.checked.prog 3 Tryz.f3 Rows.topHeldSpec Rows.topHeldRow)=true:=by kernel_rfl
theorem fa3:((fun(P:Program) (f:FuncId) (fn:Func) (s:ChangeSpec) (c:OpenClaim)=>(fn.params.all (P.readableRec ·))) Tryz.checked.prog 3 Tryz.f3 Rows.topHeldSpec Rows.topHeldRow)=true:=by kernel_rfl
theorem fa4:((fun(P:Program) (f:FuncId) (fn:Func) (s:ChangeSpec) (c:OpenClaim)=>(namedTie P c.named s.vars)) Tryz.checked.prog 3 Tryz.f3 Rows.topHeldSpec Rows.topHeldRow)=true:=by kernel_rfl
theorem fa5:((fun(P:Program) (f:FuncId) (fn:Func) (s:ChangeSpec) (c:OpenClaim)=>((c.stops== []))) Tryz.checked.prog 3 Tryz.f3 Rows.topHeldSpec Rows.topHeldRow)=true:=by kernel_rfl
theorem fa6:((fun(P:Program) (f:FuncId) (fn:Func) (s:ChangeSpec) (c:OpenClaim)=>((P.stops== []))) Tryz.checked.prog 3 Tryz.f3 Rows.topHeldSpec Rows.topHeldRow)=true:=by kernel_rfl
theorem fa7:((fun(P:Program) (f:FuncId) (fn:Func) (s:ChangeSpec) (c:OpenClaim)=>((c.knobs== []))) Tryz.checked.prog 3 Tryz.f3 Rows.topHeldSpec Rows.topHeldRow)=true:=by kernel_rfl
theorem fa8:((fun(P:Program) (f:FuncId) (fn:Func) (s:ChangeSpec) (c:OpenClaim)=>((P.stopKnobs== []))) Tryz.checked.prog 3 Tryz.f3 Rows.topHeldSpec Rows.topHeldRow)=true:=by kernel_rfl
theorem fa9:((fun(P:Program) (f:FuncId) (fn:Func) (s:ChangeSpec) (c:OpenClaim)=>((c.inPlace==P.inPlace f))) Tryz.checked.prog 3 Tryz.f3 Rows.topHeldSpec Rows.topHeldRow)=true:=by kernel_rfl
theorem fa10:((fun(P:Program) (f:FuncId) (fn:Func) (s:ChangeSpec) (c:OpenClaim)=>((c.unfollowed==P.unfollowed f))) Tryz.checked.prog 3 Tryz.f3 Rows.topHeldSpec Rows.topHeldRow)=true:=by kernel_rfl
theorem fa11:((fun(P:Program) (f:FuncId) (fn:Func) (s:ChangeSpec) (c:OpenClaim)=>((c.recurses==P.recurses f))) Tryz.checked.prog 3 Tryz.f3 Rows.topHeldSpec Rows.topHeldRow)=true:=by kernel_rfl
theorem fa12:((fun(P:Program) (f:FuncId) (fn:Func) (s:ChangeSpec) (c:OpenClaim)=>((c.named==P.varsNamed f))) Tryz.checked.prog 3 Tryz.f3 Rows.topHeldSpec Rows.topHeldRow)=true:=by kernel_rfl
theorem fa13:((fun(P:Program) (f:FuncId) (fn:Func) (s:ChangeSpec) (c:OpenClaim)=>((c.maps==(fn.params.toList++s.plain.varTypes P).any (P.mapsRec ·)))) Tryz.checked.prog 3 Tryz.f3 Rows.topHeldSpec Rows.topHeldRow)=true:=by kernel_rfl
theorem fa14:((fun(P:Program) (f:FuncId) (fn:Func) (s:ChangeSpec) (c:OpenClaim)=>((c.ifaces==(fn.params.toList++s.plain.varTypes P).any (P.ifacesRec ·)))) Tryz.checked.prog 3 Tryz.f3 Rows.topHeldSpec Rows.topHeldRow)=true:=by kernel_rfl
theorem fa15:((fun(P:Program) (f:FuncId) (fn:Func) (s:ChangeSpec) (c:OpenClaim)=>((c.mapsOut==P.mapsAmong fn.resultTypes.toList))) Tryz.checked.prog 3 Tryz.f3 Rows.topHeldSpec Rows.topHeldRow)=true:=by kernel_rfl
theorem fa16:((fun(P:Program) (f:FuncId) (fn:Func) (s:ChangeSpec) (c:OpenClaim)=>((c.loops==(fn.params.toList++s.plain.varTypes P).any (P.loopsFrom ·)))) Tryz.checked.prog 3 Tryz.f3 Rows.topHeldSpec Rows.topHeldRow)=true:=by kernel_rfl
theorem fa17:((fun(P:Program) (f:FuncId) (fn:Func) (s:ChangeSpec) (c:OpenClaim)=>((c.wideKeys==(fn.params.toList++s.plain.varTypes P++fn.resultTypes.toList).any (P.wideKeysFrom ·)))) Tryz.checked.prog 3 Tryz.f3 Rows.topHeldSpec Rows.topHeldRow)=true:=by kernel_rfl
theorem fa18:((fun(P:Program) (f:FuncId) (fn:Func) (s:ChangeSpec) (c:OpenClaim)=>(s.vars.all (P.varReadable ·))) Tryz.checked.prog 3 Tryz.f3 Rows.topHeldSpec Rows.topHeldRow)=true:=by kernel_rfl
theorem fa19:((fun(P:Program) (f:FuncId) (fn:Func) (s:ChangeSpec) (c:OpenClaim)=>(fn.resultTypes.all (fun t=>P.readableRec t&&decide (t<P.types.size)))) Tryz.checked.prog 3 Tryz.f3 Rows.topHeldSpec Rows.topHeldRow)=true:=by kernel_rfl
theorem fa20:((fun(P:Program) (f:FuncId) (fn:Func) (s:ChangeSpec) (c:OpenClaim)=>((c.ifacesOut==fn.resultTypes.toList.any (P.ifacesRec ·)))) Tryz.checked.prog 3 Tryz.f3 Rows.topHeldSpec Rows.topHeldRow)=true:=by kernel_rfl
theorem fa21:((fun(P:Program) (f:FuncId) (fn:Func) (s:ChangeSpec) (c:OpenClaim)=>((c.loopsOut==fn.resultTypes.toList.any (P.loopsFrom ·)))) Tryz.checked.prog 3 Tryz.f3 Rows.topHeldSpec Rows.topHeldRow)=true:=by kernel_rfl
theorem fa22:((fun(P:Program) (f:FuncId) (fn:Func) (s:ChangeSpec) (c:OpenClaim)=>((c.plainKeys==P.plainKeys))) Tryz.checked.prog 3 Tryz.f3 Rows.topHeldSpec Rows.topHeldRow)=true:=by kernel_rfl
theorem fa23:((fun(P:Program) (f:FuncId) (fn:Func) (s:ChangeSpec) (c:OpenClaim)=>(c.shortTexts.isNone)) Tryz.checked.prog 3 Tryz.f3 Rows.topHeldSpec Rows.topHeldRow)=true:=by kernel_rfl
theorem fa24:((fun(P:Program) (f:FuncId) (fn:Func) (s:ChangeSpec) (c:OpenClaim)=>(P.stopsHeard)) Tryz.checked.prog 3 Tryz.f3 Rows.topHeldSpec Rows.topHeldRow)=true:=by kernel_rfl
theorem fa25:((fun(P:Program) (f:FuncId) (fn:Func) (s:ChangeSpec) (c:OpenClaim)=>(P.mayEnter)) Tryz.checked.prog 3 Tryz.f3 Rows.topHeldSpec Rows.topHeldRow)=true:=by kernel_rfl
theorem fa26:((fun(P:Program) (f:FuncId) (fn:Func) (s:ChangeSpec) (c:OpenClaim)=>((c.lifted==P.liftsFinal))) Tryz.checked.prog 3 Tryz.f3 Rows.topHeldSpec Rows.topHeldRow)=true:=by kernel_rfl
theorem fa27:((fun(P:Program) (f:FuncId) (fn:Func) (s:ChangeSpec) (c:OpenClaim)=>((P.make==some c.make))) Tryz.checked.prog 3 Tryz.f3 Rows.topHeldSpec Rows.topHeldRow)=true:=by kernel_rfl
theorem fa29:((fun(P:Program) (f:FuncId) (fn:Func) (s:ChangeSpec) (c:OpenClaim)=>((c.pinned==c.pinnedBy))) Tryz.checked.prog 3 Tryz.f3 Rows.topHeldSpec Rows.topHeldRow)=true:=by kernel_rfl
theorem fa30:((fun(P:Program) (f:FuncId) (fn:Func) (s:ChangeSpec) (c:OpenClaim)=>((c.veiled==(fn.params.toList++s.plain.varTypes P++fn.resultTypes.toList).any (P.veiledRec ·)))) Tryz.checked.prog 3 Tryz.f3 Rows.topHeldSpec Rows.topHeldRow)=true:=by kernel_rfl
theorem fa31:((fun(P:Program) (f:FuncId) (fn:Func) (s:ChangeSpec) (c:OpenClaim)=>(c.veiledFits P fn.params.toList (fn.params.toList++s.plain.varTypes P++fn.resultTypes.toList))) Tryz.checked.prog 3 Tryz.f3 Rows.topHeldSpec Rows.topHeldRow)=true:=by kernel_rfl
end Go.Proofs.YtefbaepigpomaaaGreatDoor.topHeld
