/-
  Own texts. No condition of their own.
-/
import Derived.Test.YtefbaepigpomaaaGreatDoorK16
import Derived.Test.YtefbaepigpomaaaGreatDoorRows
import Derived.Lay
import Derived.Deep.DeepHandedRow
import Derived.Test.YtefbaepigpomaaaGreatDoorK11
import Derived.LaidSub
import Derived.MakeChecks
set_option linter.unusedVariables false
set_option linter.unusedSimpArgs false
namespace WB
open Go Go.RowKit Go.Proofs
def tabsR:List (String×DataW Unit):=Go.Proofs.YtefbaepigpomaaaGreatDoor.Rows.topResumeRow.laid
noncomputable def laidW(os:Os):World:=World.laidAll Tryz.prog os tabsR
theorem laid_met(os:Os)(args:Array Value):laidMet Tryz.prog tabsR ((laidW os).forCall (fun _ _=>0) ⟨#[],args,[]⟩).memory:=
 laidMet_laidAll args (by kernel_rfl) (by kernel_rfl)
end WB
namespace WB
open Go Go.RowKit Go.Proofs
def plainLst:List (String×DataW Unit):=tabsR.filter fun x=>x.2.handleName?.isNone
set_option maxRecDepth 100000 in
theorem powMem:plainLst[2]? =some ("internal/strconv.uint64pow10",Lib.tabData .u64 Lib.pow10Tab):=by kernel_rfl
theorem gPow:Tryz.prog.globalNamed "internal/strconv.uint64pow10" =some 2 :=by kernel_rfl
theorem gPowT:(Tryz.prog.globals[2]?).map (·.type)=some 359 :=by kernel_rfl
theorem gok{W:World}(h:laidMetH Tryz.prog tabsR W):GOk B.G W noM:=by
 have h':laidMetH Tryz.prog plainLst W:=laidMetH.filter _ h;have hp:laidMet Tryz.prog plainLst W:=by rw[←Go.MakeChecks.laidMetH_plain Tryz.prog plainLst W (by kernel_rfl)];exact h'
 have ht:Lib.TabIs Tryz.prog W "internal/strconv.uint64pow10" .u64 Lib.pow10Tab:=tabIs_of_mem (l:=plainLst) (List.mem_of_getElem? powMem) gPow gPowT Tryz.underlying359 Tryz.underlying189 (by kernel_rfl) (by kernel_rfl) hp;intro i hi;by_cases h2:i= 2
 ·subst h2;exact GOk.ints gPow ht
 ·exact absurd (show B.G i= []from if_neg h2) hi
theorem rawOk_of{a:Raw}(h:InR y7 a):RawOk a:=⟨h.1,h.2.1,h.2.2.1,h.2.2.2.1,h.2.2.2.2.1,h.2.2.2.2.2.1,h.2.2.2.2.2.2.1,h.2.2.2.2.2.2.2.1,h.2.2.2.2.2.2.2.2.1,h.2.2.2.2.2.2.2.2.2.1,h.2.2.2.2.2.2.2.2.2.2.1,h.2.2.2.2.2.2.2.2.2.2.2.1,h.2.2.2.2.2.2.2.2.2.2.2.2.1,h.2.2.2.2.2.2.2.2.2.2.2.2.2.1,h.2.2.2.2.2.2.2.2.2.2.2.2.2.2.1,h.2.2.2.2.2.2.2.2.2.2.2.2.2.2.2⟩
noncomputable def s7:Sig:=⟨(.cons (.sl y7) (.cons (.int .u8) (.cons (.int .u8) (.one (.int .u8))))),.bool,wagebooktop_TopResume⟩
end WB
