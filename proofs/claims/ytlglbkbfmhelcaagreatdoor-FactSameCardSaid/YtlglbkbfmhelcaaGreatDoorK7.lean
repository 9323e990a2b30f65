/-
 OWN TEXTS, MERGED (wip/merge.py): Pfa, Pfn, Pfw, Pfx, Pct, PrP, PrQ, PrR, PrS, Pspl, Pfo. No condition of their own.
-/
import Derived.Test.YtlglbkbfmhelcaaGreatDoorK6
import Derived.Test.YtlglbkbfmhelcaaGreatDoorK5
set_option linter.unusedVariables false
set_option linter.unusedSimpArgs false
namespace WB
open Go Go.RowKit
set_option linter.unusedSimpArgs false
set_option linter.unusedVariables false
set_option maxRecDepth 100000
theorem iter_run {S T : Type} {b : S → Option (S ⊕ T)} {s : S} {t : T} (n : Nat) (h : iterN b n s = some t) : iter b s = some t := iter_some.2 ⟨n, h⟩
theorem bind_run {α β : Type} {x : Option α} {a : α} {f : α → Option β} {r : Option β} (h : x = some a) (h2 : f a = r) : x.bind f = r := by rw [h]; exact h2
theorem tens7 : fact_tens ([55], 4294967295) = some (7, true) := by
 unfold fact_tens
 dsimp only
 simp only [gPi, gSS, gPb, gPm, gPs, gM, gM2, gAnd, gOr, gAndI, gOrI, gAA, gAO, gOA, gOO, gAAf, gAOf, gOAf, gOOf, gAMf, gOMf, gId]
 rw [iter_run (t := _) 5 rfl]
 rfl
theorem tens12 : fact_tens ([49, 50], 4294967295) = some (12, true) := by
 unfold fact_tens
 dsimp only
 simp only [gPi, gSS, gPb, gPm, gPs, gM, gM2, gAnd, gOr, gAndI, gOrI, gAA, gAO, gOA, gOO, gAAf, gAOf, gOAf, gOOf, gAMf, gOMf, gId]
 rw [iter_run (t := _) 5 rfl]
 rfl
theorem tens6 : fact_tens ([54, 48, 48, 48, 48, 48, 48], 9223372036854775808) = some (6000000, true) := by
 unfold fact_tens
 dsimp only
 simp only [gPi, gSS, gPb, gPm, gPs, gM, gM2, gAnd, gOr, gAndI, gOrI, gAA, gAO, gOA, gOO, gAAf, gAOf, gOAf, gOOf, gAMf, gOMf, gId]
 rw [iter_run (t := _) 10 rfl]
 rfl
theorem parse17 : fact_Parse_1 ([55], true) = some 7 := by
 unfold fact_Parse_1
 dsimp only
 rw [tens7]
 rfl
theorem parse112 : fact_Parse_1 ([49, 50], true) = some 12 := by
 unfold fact_Parse_1
 dsimp only
 rw [tens12]
 rfl
theorem signed6 : fact_signed [54, 48, 48, 48, 48, 48, 48] = some (6000000, true) := by
 unfold fact_signed
 dsimp only
 refine bind_run (a := ([54, 48, 48, 48, 48, 48, 48], false)) rfl ?_
 dsimp only
 rw [tens6]
 rfl
theorem end0 : fact_end [45] = some (0, true) := rfl
def exL : List (List UInt8) := [[115, 97, 108, 97, 114, 121], [55], [49, 50], [50, 48, 50, 52, 45, 48, 49, 45, 48, 49], [45], [45], [54, 48, 48, 48, 48, 48, 48]]
def exT : List UInt8 := [115, 97, 108, 97, 114, 121, 32, 55, 32, 49, 50, 32, 50, 48, 50, 52, 45, 48, 49, 45, 48, 49, 32, 45, 32, 45, 32, 54, 48, 48, 48, 48, 48, 48]
theorem contains0 : slices_Contains (exL, []) = some false := by
 unfold slices_Contains slices_Index
 dsimp only
 rw [iter_run (t := _) 10 rfl]
 rfl
theorem splitN : strings_SplitN (exT, [32], 8) = some exL := by
 unfold strings_SplitN
 dsimp only
 refine bind_run (a := exL) ?_ rfl
 unfold strings_genSplit
 dsimp only
 rw [if_neg (by decide), if_neg (by decide)]
 refine bind_run rfl ?_
 dsimp only
 refine bind_run rfl ?_
 refine bind_run (bind_run (iter_run 20 rfl) rfl) ?_
 rfl
theorem numY : civil_number [50, 48, 50, 52] = some (2024, true) := by
 unfold civil_number
 refine bind_run rfl ?_
 dsimp only
 exact bind_run (iter_run 10 rfl) rfl
theorem numM : civil_number [48, 49] = some (1, true) := by
 unfold civil_number
 refine bind_run rfl ?_
 dsimp only
 exact bind_run (iter_run 10 rfl) rfl
theorem toD : civil_To 19723 = some (2024, 1, 1) := by
 unfold civil_To
 dsimp only
 refine bind_run rfl ?_
 rw [if_neg (by decide)]
 refine bind_run rfl ?_
 refine bind_run (iter_run 10 rfl) ?_
 dsimp only
 refine bind_run rfl ?_
 exact bind_run (iter_run 20 rfl) rfl
theorem ofD : civil_Of (2024, 1, 1) = some (19723, 0) := by
 unfold civil_Of
 dsimp only
 refine bind_run rfl ?_
 refine bind_run rfl ?_
 refine bind_run rfl ?_
 refine bind_run rfl ?_
 refine bind_run rfl ?_
 refine bind_run rfl ?_
 rw [if_neg (by decide)]
 refine bind_run rfl ?_
 refine bind_run (iter_run 20 rfl) ?_
 exact bind_run toD rfl
theorem civilP : civil_Parse [50, 48, 50, 52, 45, 48, 49, 45, 48, 49] = some (19723, 0) := by
 unfold civil_Parse
 dsimp only
 refine bind_run rfl ?_
 refine bind_run rfl ?_
 refine bind_run rfl ?_
 refine bind_run rfl ?_
 refine bind_run rfl ?_
 refine bind_run rfl ?_
 rw [if_neg (by decide)]
 refine bind_run rfl ?_
 refine bind_run numY ?_
 refine bind_run rfl ?_
 refine bind_run numM ?_
 refine bind_run rfl ?_
 refine bind_run numM ?_
 refine bind_run rfl ?_
 refine bind_run rfl ?_
 refine bind_run rfl ?_
 refine bind_run rfl ?_
 rw [if_neg (by decide)]
 exact bind_run ofD rfl
theorem digY : civil_digits (2024, 4) = some [50, 48, 50, 52] := by
 unfold civil_digits
 dsimp only
 exact bind_run (iter_run 10 rfl) rfl
theorem digM : civil_digits (1, 2) = some [48, 49] := by
 unfold civil_digits
 dsimp only
 exact bind_run (iter_run 10 rfl) rfl
theorem textD : civil_Text 19723 = some [50, 48, 50, 52, 45, 48, 49, 45, 48, 49] := by
 unfold civil_Text
 dsimp only
 refine bind_run rfl ?_
 rw [if_neg (by decide)]
 refine bind_run toD ?_
 refine bind_run digY ?_
 refine bind_run rfl ?_
 refine bind_run digM ?_
 refine bind_run rfl ?_
 refine bind_run rfl ?_
 refine bind_run digM ?_
 rfl
def exF : Int × Int × Int × Int × Int × List UInt8 × Int × List UInt8 := (7, 12, 2, 19723, 0, [], 6000000, [])
theorem checkF : fact_Fact_Check exF = some 0 := rfl
theorem parseF : fact_Parse exT = some (exF, 0) := by
 unfold fact_Parse
 dsimp only
 refine bind_run splitN ?_
 refine bind_run (a := some false) ?_ ?_
 ·rw [if_pos (by decide)]
  exact congrArg (Option.map some) (contains0)
 refine bind_run rfl ?_
 rw [if_neg (by decide)]
 refine bind_run rfl ?_
 refine bind_run parse17 ?_
 refine bind_run rfl ?_
 refine bind_run parse112 ?_
 refine bind_run (iter_run 30 rfl) ?_
 dsimp only
 refine bind_run rfl ?_
 refine bind_run civilP ?_
 refine bind_run rfl ?_
 refine bind_run end0 ?_
 refine bind_run rfl ?_
 refine bind_run signed6 ?_
 rfl
theorem itoa7 : Lib.itoa 7 = [55] := by unfold Lib.itoa; simp [Lib.decDigits]
theorem itoa12 : Lib.itoa 12 = [49, 50] := by unfold Lib.itoa; simp [Lib.decDigits]
theorem itoa6 : Lib.itoa 6000000 = [54, 48, 48, 48, 48, 48, 48] := by unfold Lib.itoa; simp [Lib.decDigits]
theorem fu7 : strconv_FormatUint (7, 10) = some [55] := by
 unfold strconv_FormatUint
 rw [if_pos (by decide)]
 exact congrArg some itoa7
theorem fu12 : strconv_FormatUint (12, 10) = some [49, 50] := by
 unfold strconv_FormatUint
 rw [if_pos (by decide)]
 exact congrArg some itoa12
theorem fi6 : strconv_FormatInt (6000000, 10) = some [54, 48, 48, 48, 48, 48, 48] := by
 unfold strconv_FormatInt
 rw [if_pos (by decide)]
 exact congrArg some itoa6
theorem lineF : fact_Fact_Line exF = some (exT, 0) := by
 unfold fact_Fact_Line
 dsimp only
 refine bind_run checkF ?_
 rw [if_neg (by decide)]
 refine bind_run rfl ?_
 refine bind_run fu7 ?_
 refine bind_run fu12 ?_
 refine bind_run textD ?_
 refine bind_run rfl ?_
 refine bind_run rfl ?_
 refine bind_run fi6 ?_
 refine bind_run rfl ?_
 rfl
theorem awake_eq : law08_awake () = some true := by
 unfold law08_awake
 refine bind_run parseF ?_
 refine bind_run lineF ?_
 rfl
end WB
namespace WB
open Go Go.RowKit
end WB
namespace WB
open Go Go.RowKit
set_option linter.unusedSimpArgs false
set_option linter.unusedVariables false
end WB
namespace WB
open Go Go.RowKit
set_option linter.unusedSimpArgs false
set_option linter.unusedVariables false
end WB
namespace WB
open Go Go.RowKit
set_option linter.unusedSimpArgs false
set_option linter.unusedVariables false
def mostC : Nat := 1125899906842624
def textN (n : Nat) : List UInt8 := Lib.decDigits (n / 100) ++ [46, dg9 (n / 10 % 10), dg9 (n % 10)]
def textC (c : Int) : List UInt8 := (if c < 0 then [45] else []) ++ textN c.natAbs
def IsC (s : List UInt8) (c : Int) : Prop := c.natAbs ≤ mostC ∧ textC c = s
instance (s : List UInt8) (c : Int) : Decidable (IsC s c) := inferInstanceAs (Decidable (_ ∧ _))
end WB
namespace WB
open Go Go.RowKit
end WB
namespace WB
open Go Go.RowKit
end WB
namespace WB
open Go Go.RowKit
end WB
namespace WB
open Go Go.RowKit
end WB
namespace WB
open Go Go.RowKit
set_option linter.unusedSimpArgs false
set_option linter.unusedVariables false
theorem byte_split (c : UInt8) (s : List UInt8) : (∀ x ∈ s, x ≠ c) ∨ ∃ l t, s = l ++ c :: t ∧ ∀ x ∈ l, x ≠ c := by
 induction s with
 | nil => exact .inl (by simp)
 | cons b s ih =>
  by_cases hb : b = c
  ·exact .inr ⟨[], s, by rw [hb]; rfl, by simp⟩
  ·rcases ih with h | ⟨l, t, rfl, h⟩
   ·exact .inl (by intro x hx; rcases List.mem_cons.1 hx with rfl | hx; exact hb; exact h x hx)
   ·exact .inr ⟨b :: l, t, rfl, by intro x hx; rcases List.mem_cons.1 hx with rfl | hx; exact hb; exact h x hx⟩
end WB
namespace WB
open Go Go.RowKit
set_option linter.unusedSimpArgs false
set_option linter.unusedVariables false
end WB

