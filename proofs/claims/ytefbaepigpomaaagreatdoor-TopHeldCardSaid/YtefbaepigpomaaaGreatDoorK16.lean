/-
  OWN TEXTS, MERGED (wip/merge.py): TopW, TopV. No condition of their own.
-/
import Derived.Test.YtefbaepigpomaaaGreatDoorK15
import Derived.Test.YtefbaepigpomaaaGreatDoorK7
import Derived.Test.YtefbaepigpomaaaGreatDoorRows
import Derived.Lay
import Derived.Deep.DeepHandedRow
import Derived.Test.YtefbaepigpomaaaGreatDoorK11
set_option linter.unusedVariables false
set_option linter.unusedSimpArgs false
namespace WB
open Go Go.RowKit Go.Proofs
def tabsR:List (String×DataW Unit):=Go.Proofs.YtefbaepigpomaaaGreatDoor.Rows.topHeldRow.laid
noncomputable def laidW(os:Os):World:=World.laidAll Tryz.prog os tabsR
theorem laid_met(os:Os)(args:Array Value):laidMet Tryz.prog tabsR ((laidW os).forCall (fun _ _=>0) ⟨#[],args,[]⟩).memory:=
 laidMet_laidAll args (by kernel_rfl) (by kernel_rfl)
end WB
namespace WB
open Go Go.RowKit Go.Proofs
theorem gok{W:World}(h:laidMetH Tryz.prog tabsR W):GOk B.G W noM:=fun i hi=>absurd rfl hi
theorem rawOk_of{a:Raw}(h:InR y6 a):RawOk a:=⟨h.1,h.2.1,h.2.2.1,h.2.2.2.1,h.2.2.2.2.1,h.2.2.2.2.2.1,h.2.2.2.2.2.2.1,h.2.2.2.2.2.2.2.1,h.2.2.2.2.2.2.2.2.1,h.2.2.2.2.2.2.2.2.2.1,h.2.2.2.2.2.2.2.2.2.2.1,h.2.2.2.2.2.2.2.2.2.2.2.1,h.2.2.2.2.2.2.2.2.2.2.2.2.1,h.2.2.2.2.2.2.2.2.2.2.2.2.2.1,h.2.2.2.2.2.2.2.2.2.2.2.2.2.2.1,h.2.2.2.2.2.2.2.2.2.2.2.2.2.2.2⟩
noncomputable def s3:Sig:=⟨(.cons (.sl y6) (.one (.int .u8))),.bool,wagebooktop_TopHeld⟩
end WB
