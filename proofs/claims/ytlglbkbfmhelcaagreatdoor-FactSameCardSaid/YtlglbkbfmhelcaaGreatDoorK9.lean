/-
 OWN TEXTS, MERGED (wip/merge.py): Pfd, Pfe, Pfh. No condition of their own.
-/
import Derived.Test.YtlglbkbfmhelcaaGreatDoorK8
import Derived.Test.YtlglbkbfmhelcaaGreatDoorK6
import Derived.Test.YtlglbkbfmhelcaaGreatDoorK7
set_option linter.unusedVariables false
set_option linter.unusedSimpArgs false
namespace WB
open Go Go.RowKit
set_option linter.unusedSimpArgs false
set_option linter.unusedVariables false
set_option maxHeartbeats 1000000
end WB
namespace WB
open Go Go.RowKit
set_option linter.unusedSimpArgs false
set_option linter.unusedVariables false
set_option maxHeartbeats 1000000
end WB
namespace WB
open Go Go.RowKit
set_option linter.unusedSimpArgs false
set_option linter.unusedVariables false
set_option maxHeartbeats 1000000
theorem same_eq (x y : Int × Int × Int × Int × Int × List UInt8 × Int × List UInt8) : fact_Fact_Same (x, y) = some (x.2 == y.2) := by
 obtain ⟨a, x⟩ := x
 obtain ⟨b, y⟩ := y
 unfold fact_Fact_Same
 dsimp only
 rw [show (a == a) = true by simp, Bool.true_and]
 rfl
theorem law_FactSame (haw : law08_awake () = some true) (x y : Int × Int × Int × Int × Int × List UInt8 × Int × List UInt8) (id : Int) : law08_FactSame (x, y, id) = some true := by
 unfold law08_FactSame
 dsimp only
 simp only [gPi, gSS, gPb, gPm, gPs, gM, gM2, gAnd, gOr, gAndI, gOrI, gAA, gAO, gOA, gOO, gAAf, gAOf, gOAf, gOOf, gAMf, gOMf, gId]
 simp only [gIn1, gIn2, gIn3, gIn4, gIn5, gIn6, gIn7, gIn8, gId, gIdF, gMb, gMm, gBm, gBb, bs, ms]
 rw [haw, bs]
 simp only [Bool.not_true, Bool.false_eq_true, if_false]
 by_cases h1 : decide ((x.2.2.2.2.2.1.length : Int) > 4200) = true
 ·simp only [h1, if_true, bs]
 ·by_cases h2 : decide ((x.2.2.2.2.2.2.2.length : Int) > 4200) = true
  ·simp only [h1, h2, Bool.false_eq_true, if_true, if_false, bs]
  ·by_cases h3 : decide ((y.2.2.2.2.2.1.length : Int) > 4200) = true
   ·simp only [h1, h2, h3, Bool.false_eq_true, if_true, if_false, bs]
   ·by_cases h4 : decide ((y.2.2.2.2.2.2.2.length : Int) > 4200) = true
    ·simp only [h1, h2, h3, h4, Bool.false_eq_true, if_true, if_false, bs]
    ·simp only [h1, h2, h3, h4, Bool.false_eq_true, if_false, bs]
     simp only [same_eq, bs]
     rw [show ((x.2.1, x.2.2.1, x.2.2.2.1, x.2.2.2.2.1, x.2.2.2.2.2.1, x.2.2.2.2.2.2.1, x.2.2.2.2.2.2.2) == (x.2.1, x.2.2.1, x.2.2.2.1, x.2.2.2.2.1, x.2.2.2.2.2.1, x.2.2.2.2.2.2.1, x.2.2.2.2.2.2.2)) = true by simp, if_pos rfl]
     have e : ((0 : Int) == 0 && (x.2.1 == y.2.1 && (x.2.2.1 == y.2.2.1 && (x.2.2.2.1 == y.2.2.2.1 && (x.2.2.2.2.1 == y.2.2.2.2.1 && (x.2.2.2.2.2.1 == y.2.2.2.2.2.1 && (x.2.2.2.2.2.2.1 == y.2.2.2.2.2.2.1 && x.2.2.2.2.2.2.2 == y.2.2.2.2.2.2.2)))))) : Bool) = (x.2 == y.2) := by
      rw [show ((0 : Int) == 0) = true from rfl, Bool.true_and]
      rfl
     have f : ((x.2.1, x.2.2.1, x.2.2.2.1, x.2.2.2.2.1, x.2.2.2.2.2.1, x.2.2.2.2.2.2.1, x.2.2.2.2.2.2.2) == (y.2.1, y.2.2.1, y.2.2.2.1, y.2.2.2.2.1, y.2.2.2.2.2.1, y.2.2.2.2.2.2.1, y.2.2.2.2.2.2.2)) = (x.2 == y.2) := rfl
     have g : ((y.2.1, y.2.2.1, y.2.2.2.1, y.2.2.2.2.1, y.2.2.2.2.2.1, y.2.2.2.2.2.2.1, y.2.2.2.2.2.2.2) == (x.2.1, x.2.2.1, x.2.2.2.1, x.2.2.2.2.1, x.2.2.2.2.2.1, x.2.2.2.2.2.2.1, x.2.2.2.2.2.2.2)) = (y.2 == x.2) := rfl
     rw [e, f, g, show (y.2 == x.2) = (x.2 == y.2) from Bool.eq_iff_iff.2 (by rw [beq_iff_eq, beq_iff_eq]; exact eq_comm)]
     obtain ⟨q, hq⟩ : ∃ q, (x.2 == y.2) = q := ⟨_, rfl⟩
     simp only [hq]
     cases q <;> rfl
end WB

