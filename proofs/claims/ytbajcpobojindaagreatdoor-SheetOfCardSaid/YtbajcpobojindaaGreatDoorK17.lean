/-
  OWN TEXTS, MERGED (wip/merge.py): SheetWo, SheetVo. No condition of their own.
-/
import Derived.Test.YtbajcpobojindaaGreatDoorK16
import Derived.Test.YtbajcpobojindaaGreatDoorK7
import Derived.Test.YtbajcpobojindaaGreatDoorRows
import Derived.Lay
import Derived.Deep.DeepHandedRow
import Derived.LaidSub
import Derived.MakeChecks
import Derived.Test.YtbajcpobojindaaGreatDoorK15
set_option linter.unusedVariables false
set_option linter.unusedSimpArgs false
namespace WB
open Go Go.RowKit Go.Proofs
def tabsR:List (String×DataW Unit):=Go.Proofs.YtbajcpobojindaaGreatDoor.Rows.sheetOfRow.laid
noncomputable def laidW(os:Os):World:=World.laidAll Tryz.prog os tabsR
theorem laid_met(os:Os)(args:Array Value):laidMet Tryz.prog tabsR ((laidW os).forCall (fun _ _=>0) ⟨#[],args,[]⟩).memory:=
 laidMet_laidAll args (by kernel_rfl) (by kernel_rfl)
end WB
namespace WB
open Go Go.RowKit Go.Proofs
def plainLst:List (String×DataW Unit):=tabsR.filter fun x=>x.2.handleName?.isNone
set_option maxRecDepth 100000 in
theorem rngMem:plainLst[4]? =some ("strconv.ErrRange",Go.Proofs.YtbajcpobojindaaGreatDoor.Rows.laid_strconv_ErrRange):=by kernel_rfl
set_option maxRecDepth 100000 in
theorem synMem:plainLst[5]? =some ("strconv.ErrSyntax",Go.Proofs.YtbajcpobojindaaGreatDoor.Rows.laid_strconv_ErrSyntax):=by kernel_rfl
theorem gRng:Tryz.prog.globalNamed "strconv.ErrRange" =some 1 :=by kernel_rfl
theorem gRngT:(Tryz.prog.globals[1]?).map (·.type)=some 98 :=by kernel_rfl
theorem gSyn:Tryz.prog.globalNamed "strconv.ErrSyntax" =some 0 :=by kernel_rfl
theorem gSynT:(Tryz.prog.globals[0]?).map (·.type)=some 98 :=by kernel_rfl
theorem gok{W:World}(h:laidMetH Tryz.prog tabsR W):GOk B.G W noM:=by
 have h':laidMetH Tryz.prog plainLst W:=laidMetH.filter _ h;have hp:laidMet Tryz.prog plainLst W:=by rw[←Go.MakeChecks.laidMetH_plain Tryz.prog plainLst W (by kernel_rfl)];exact h'
 intro i hi;by_cases h3:i= 0
 ·subst h3;obtain⟨u,v,hv⟩:=laid_errv gSyn gSynT Tryz.underlying98 (List.mem_of_getElem? synMem) hp;exact GOk.errv gSyn hv
 ·by_cases h4:i= 1
  ·subst h4;obtain⟨u,v,hv⟩:=laid_errv gRng gRngT Tryz.underlying98 (List.mem_of_getElem? rngMem) hp;exact GOk.errv gRng hv
  ·exact absurd (show B.G i= []from(if_neg h3).trans (if_neg h4)) hi
end WB
