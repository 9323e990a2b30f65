/-
  OWN TEXTS, MERGED (wip/merge.py): BeforeW, BeforeV. No condition of their own.
-/
import Derived.Test.YtjdplgafkjnopaaGreatDoorK7
import Derived.Test.YtjdplgafkjnopaaGreatDoorK4
import Derived.Test.YtjdplgafkjnopaaGreatDoorRows
import Derived.Lay
import Derived.Deep.DeepHandedRow
set_option linter.unusedVariables false
set_option linter.unusedSimpArgs false
namespace WB
open Go Go.RowKit Go.Proofs

/-- What a row's list says. -/
def tabsR : List (String × DataW Unit) := Go.Proofs.YtjdplgafkjnopaaGreatDoor.Rows.beforeTakesRow.laid
noncomputable def laidW (os : Os) : World := World.laidAll Tryz.prog os tabsR
theorem laid_met (os : Os) (args : Array Value) : laidMet Tryz.prog tabsR ((laidW os).forCall (fun _ _ => 0) ⟨#[], args, []⟩).memory :=
  laidMet_laidAll args (by kernel_rfl) (by kernel_rfl)
end WB
namespace WB
open Go Go.RowKit Go.Proofs
theorem gok {W : World} (h : laidMetH Tryz.prog tabsR W) : GOk B.G W (fun _ => False) := fun i hi => absurd rfl hi
end WB
