/-
 OWN TEXTS, MERGED (wip/merge.py): Pfd, Pfe, Pfh. No condition of their own.
-/
import Derived.Test.YtlglbkbfmhelcaaGreatDoorK9
import Derived.Test.YtlglbkbfmhelcaaGreatDoorK7
import Derived.Test.YtlglbkbfmhelcaaGreatDoorK8
set_option linter.unusedVariables false
set_option linter.unusedSimpArgs false
namespace WB
open Go Go.RowKit
set_option linter.unusedSimpArgs false
set_option linter.unusedVariables false
set_option maxHeartbeats 1000000
def firmK (k : Int) : Bool := k == 14 || k == 15 || k == 16 || k == 18
def daysK (k : Int) : Bool := decide (1 ≤ k) && decide (k ≤ 15) && (k != 6) && (k != 8)
def codeK (k : Int) (s : List UInt8) : Bool :=
 if k = 6 then s == [] || nameB s else if k = 7 then absB s
 else if k = 8 ∨ k = 9 ∨ k = 10 ∨ k = 12 ∨ k = 14 ∨ k = 15 then nameB s else s == []
def lowK (k : Int) : Int := if k = 8 ∨ k = 14 then -1125899906842624 else if k = 18 then 1 else 0
def highK (k : Int) : Int :=
 if k = 1 then 1 else if k = 3 ∨ k = 7 then 1000000 else if k = 6 then 1440 else if k = 17 then 100000 else if k = 18 then 4096
 else if k = 4 ∨ k = 5 ∨ k = 13 ∨ k = 15 ∨ k = 16 then 0 else 1125899906842624
noncomputable def orderB (s : List UInt8) : Bool := (fact_order s).getD false
noncomputable def textK (k num : Int) (s : List UInt8) : Bool :=
 if k = 4 then weekB s else if k = 5 then weightsB s else if k = 6 then s == [] || tensB s (IntKind.u64.wrap (max num 0))
 else if k = 11 ∨ k = 13 then nameB s else if k = 12 then orderB s else if k = 14 then plainB s else if k = 15 then !(s == []) && plainB s else s == []
def daysS (k : Int) (dy : Bool) (fr to : Int) : Int :=
 if ((k == 18 && fr != 0) || decide (fr < -25567) || decide (fr > 84005)) = true then 15
 else if ((to != 0) && (!dy || decide (to ≤ fr))) = true then 24 else if decide (to > 84006) = true then 15 else 0
def checkG (fm cb tb : Bool) (p D num lo hi len : Int) : Int :=
 if (!(fm == (p == 0))) = true then 2 else if (D != 0) = true then D else if (!cb) = true then 12
 else if (decide (num < lo) || decide (num > hi)) = true then 2 else if decide (len > 4096) = true then 4 else if (!tb) = true then 3 else 0
noncomputable def checkS (x : Int × Int × Int × Int × Int × List UInt8 × Int × List UInt8) : Int :=
 if 1 ≤ x.2.2.1 ∧ x.2.2.1 ≤ 18 then checkG (firmK x.2.2.1) (codeK x.2.2.1 x.2.2.2.2.2.1) (textK x.2.2.1 x.2.2.2.2.2.2.1 x.2.2.2.2.2.2.2) x.2.1 (daysS x.2.2.1 (daysK x.2.2.1) x.2.2.2.1 x.2.2.2.2.1) x.2.2.2.2.2.2.1 (lowK x.2.2.1) (highK x.2.2.1) (x.2.2.2.2.2.2.2.length : Int)
 else 11
theorem kinds18 {k : Int} (h : 1 ≤ k ∧ k ≤ 18) : k = 1 ∨ k = 2 ∨ k = 3 ∨ k = 4 ∨ k = 5 ∨ k = 6 ∨ k = 7 ∨ k = 8 ∨ k = 9 ∨ k = 10 ∨ k = 11 ∨ k = 12 ∨ k = 13 ∨ k = 14 ∨ k = 15 ∨ k = 16 ∨ k = 17 ∨ k = 18 := by omega
theorem days_eq (a p k fr to : Int) (cd : List UInt8) (n : Int) (tx nm : List UInt8) (fm dy : Bool) (cf : Unit ⊕ (Unit ⊕ (Unit ⊕ (Unit ⊕ Unit)))) (lo hi : Int) (tf) :
  fact_Fact_days ((a, p, k, fr, to, cd, n, tx), (nm, fm, dy, cf, lo, hi, tf)) = some (daysS k dy fr to) := by
 unfold fact_Fact_days
 dsimp only
 simp only [gPi, gSS, gPb, gPm, gPs, gM, gM2, gAnd, gOr, gAndI, gOrI, gAA, gAO, gOA, gOO, gAAf, gAOf, gOAf, gOOf, gAMf, gOMf, gId]
 simp only [gIn1, gIn2, gIn3, gIn4, gIn5, gIn6, gIn7, gIn8, gId, gIdF, gMb, gMm, gBm, gBb, bs, ms]
 unfold daysS
 obtain ⟨q1, h1⟩ : ∃ q, (k == 18) = q := ⟨_, rfl⟩
 obtain ⟨q2, h2⟩ : ∃ q, (fr != 0) = q := ⟨_, rfl⟩
 obtain ⟨q3, h3⟩ : ∃ q, decide (fr < -25567) = q := ⟨_, rfl⟩
 obtain ⟨q4, h4⟩ : ∃ q, decide (fr > 84005) = q := ⟨_, rfl⟩
 obtain ⟨q5, h5⟩ : ∃ q, (to != 0) = q := ⟨_, rfl⟩
 obtain ⟨q6, h6⟩ : ∃ q, decide (to ≤ fr) = q := ⟨_, rfl⟩
 obtain ⟨q7, h7⟩ : ∃ q, decide (to > 84006) = q := ⟨_, rfl⟩
 simp only [h1, h2, h3, h4]
 cases q1 <;> cases q2 <;> cases q3 <;> cases q4 <;> (simp only [Bool.false_eq_true, if_false, if_true, bs, h5, h6, h7]; cases q5 <;> cases q6 <;> cases q7 <;> cases dy <;> rfl)
theorem finC (fm cb tb : Bool) (p D num lo hi len : Int) :
  (if (!(fm == (p == (0 : Int)))) = true then some (2 : Int) else (some D).bind fun x21 => if (x21 != 0) = true then some x21 else ((some cb).map fun v => v).bind fun x30 => if (!x30) = true then some 12 else
   (if decide (num < lo) = true then some true else some (decide (num > hi))).bind fun x44 => if x44 = true then some 2 else if decide (len > 4096) = true then some 4 else
   ((some tb).map fun v => v).bind fun x54 => if (!x54) = true then some 3 else some 0) = some (checkG fm cb tb p D num lo hi len) := by
 unfold checkG
 obtain ⟨q1, h1⟩ : ∃ q, (p == 0) = q := ⟨_, rfl⟩
 obtain ⟨q2, h2⟩ : ∃ q, (D != 0) = q := ⟨_, rfl⟩
 obtain ⟨q3, h3⟩ : ∃ q, decide (num < lo) = q := ⟨_, rfl⟩
 obtain ⟨q4, h4⟩ : ∃ q, decide (num > hi) = q := ⟨_, rfl⟩
 obtain ⟨q5, h5⟩ : ∃ q, decide (len > 4096) = q := ⟨_, rfl⟩
 simp only [h1, h2, h3, h4, h5, bs]
 cases fm <;> cases q1 <;> cases q2 <;> cases q3 <;> cases q4 <;> cases q5 <;> cases cb <;> cases tb <;> rfl
theorem order_eq {s : List UInt8} (h : s.length ≤ 4200) : fact_order s = some (orderB s) ∧ ref08_order s = some (orderB s) := by
 obtain ⟨b, h1, h2⟩ := order_alike h
 unfold orderB
 rw [h1]
 exact ⟨rfl, h2⟩
theorem weekly_eq {x : Int × Int × Int × Int × Int × List UInt8 × Int × List UInt8} (h : x.2.2.2.2.2.2.2.length ≤ 4200) : fact_weekly x = some (weekB x.2.2.2.2.2.2.2) := by
 obtain ⟨v, e, h1, h2⟩ := week_Parse_eq (s := x.2.2.2.2.2.2.2) (by omega)
 unfold fact_weekly
 dsimp only
 rw [h1, bs, ← h2]
theorem u64_le (n : Int) : 0 ≤ IntKind.u64.wrap n ∧ IntKind.u64.wrap n ≤ 18446744073709551615 := by rw [IntKind.wrap_u64]; omega
theorem night_eq {x : Int × Int × Int × Int × Int × List UInt8 × Int × List UInt8} (h : x.2.2.2.2.2.2.2.length ≤ 4200) : fact_night x = some (x.2.2.2.2.2.2.2 == [] || tensB x.2.2.2.2.2.2.2 (IntKind.u64.wrap (max x.2.2.2.2.2.2.1 0))) := by
 unfold fact_night
 dsimp only
 rw [ftens_eq (by omega) (u64_le _).2, bs]
 dsimp only
 cases x.2.2.2.2.2.2.2 == [] <;> rfl
theorem told_eq {s : List UInt8} (h : s.length ≤ 4200) : (if (!(s == [])) = true then fact_plain s else some false) = some (!(s == []) && plainB s) := by
 rw [plain_eq (by omega)]
 cases s == [] <;> rfl
theorem either_eq {s : List UInt8} (h : s.length ≤ 4200) : fact_rules_1 s = some (s == [] || nameB s) := by
 unfold fact_rules_1
 dsimp only
 simp only [gPi, gSS, gPb, gPm, gPs, gM, gM2, gAnd, gOr, gAndI, gOrI, gAA, gAO, gOA, gOO, gAAf, gAOf, gOAf, gOOf, gAMf, gOMf, gId]
 simp only [gIn1, gIn2, gIn3, gIn4, gIn5, gIn6, gIn7, gIn8, gId, gIdF, gMb, gMm, gBm, gBb, bs, ms]
 rw [isName_eq (by omega)]
 cases s == [] <;> rfl
theorem check_1 (a p fr to n : Int) (cd tx : List UInt8) (hc : cd.length ≤ 4200) (ht : tx.length ≤ 4200) : fact_Fact_Check (a, p, 1, fr, to, cd, n, tx) = some (checkS (a, p, 1, fr, to, cd, n, tx)) := by
 have e1 := show fact_empty cd = some (cd == []) from rfl
 have e2 := show fact_silent (a, p, 1, fr, to, cd, n, tx) = some (tx == []) from rfl
 unfold fact_Fact_Check
 dsimp only
 rw [show fact_known 1 = some true from rfl, bs]
 rw [show fact_rules () = some _ from rfl]
 simp only [gPi, gSS, gPb, gPm, gPs, gM, gM2, gAnd, gOr, gAndI, gOrI, gAA, gAO, gOA, gOO, gAAf, gAOf, gOAf, gOOf, gAMf, gOMf, gId]
 simp only [gIn1, gIn2, gIn3, gIn4, gIn5, gIn6, gIn7, gIn8, gId, gIdF, gMb, gMm, gBm, gBb, bs, ms]
 rw [if_neg (by decide)]
 rw [show lAt _ (1 : Int) = some _ from lAt_nat (i := 1) rfl, bs]
 dsimp only
 rw [days_eq, e1]
 try rw [e2]
 exact finC _ _ _ _ _ _ _ _ _
theorem check_2 (a p fr to n : Int) (cd tx : List UInt8) (hc : cd.length ≤ 4200) (ht : tx.length ≤ 4200) : fact_Fact_Check (a, p, 2, fr, to, cd, n, tx) = some (checkS (a, p, 2, fr, to, cd, n, tx)) := by
 have e1 := show fact_empty cd = some (cd == []) from rfl
 have e2 := show fact_silent (a, p, 2, fr, to, cd, n, tx) = some (tx == []) from rfl
 unfold fact_Fact_Check
 dsimp only
 rw [show fact_known 2 = some true from rfl, bs]
 rw [show fact_rules () = some _ from rfl]
 simp only [gPi, gSS, gPb, gPm, gPs, gM, gM2, gAnd, gOr, gAndI, gOrI, gAA, gAO, gOA, gOO, gAAf, gAOf, gOAf, gOOf, gAMf, gOMf, gId]
 simp only [gIn1, gIn2, gIn3, gIn4, gIn5, gIn6, gIn7, gIn8, gId, gIdF, gMb, gMm, gBm, gBb, bs, ms]
 rw [if_neg (by decide)]
 rw [show lAt _ (2 : Int) = some _ from lAt_nat (i := 2) rfl, bs]
 dsimp only
 rw [days_eq, e1]
 try rw [e2]
 exact finC _ _ _ _ _ _ _ _ _
theorem check_3 (a p fr to n : Int) (cd tx : List UInt8) (hc : cd.length ≤ 4200) (ht : tx.length ≤ 4200) : fact_Fact_Check (a, p, 3, fr, to, cd, n, tx) = some (checkS (a, p, 3, fr, to, cd, n, tx)) := by
 have e1 := show fact_empty cd = some (cd == []) from rfl
 have e2 := show fact_silent (a, p, 3, fr, to, cd, n, tx) = some (tx == []) from rfl
 unfold fact_Fact_Check
 dsimp only
 rw [show fact_known 3 = some true from rfl, bs]
 rw [show fact_rules () = some _ from rfl]
 simp only [gPi, gSS, gPb, gPm, gPs, gM, gM2, gAnd, gOr, gAndI, gOrI, gAA, gAO, gOA, gOO, gAAf, gAOf, gOAf, gOOf, gAMf, gOMf, gId]
 simp only [gIn1, gIn2, gIn3, gIn4, gIn5, gIn6, gIn7, gIn8, gId, gIdF, gMb, gMm, gBm, gBb, bs, ms]
 rw [if_neg (by decide)]
 rw [show lAt _ (3 : Int) = some _ from lAt_nat (i := 3) rfl, bs]
 dsimp only
 rw [days_eq, e1]
 try rw [e2]
 exact finC _ _ _ _ _ _ _ _ _
theorem check_4 (a p fr to n : Int) (cd tx : List UInt8) (hc : cd.length ≤ 4200) (ht : tx.length ≤ 4200) : fact_Fact_Check (a, p, 4, fr, to, cd, n, tx) = some (checkS (a, p, 4, fr, to, cd, n, tx)) := by
 have e1 := show fact_empty cd = some (cd == []) from rfl
 have e2 := weekly_eq (x := (a, p, 4, fr, to, cd, n, tx)) ht
 unfold fact_Fact_Check
 dsimp only
 rw [show fact_known 4 = some true from rfl, bs]
 rw [show fact_rules () = some _ from rfl]
 simp only [gPi, gSS, gPb, gPm, gPs, gM, gM2, gAnd, gOr, gAndI, gOrI, gAA, gAO, gOA, gOO, gAAf, gAOf, gOAf, gOOf, gAMf, gOMf, gId]
 simp only [gIn1, gIn2, gIn3, gIn4, gIn5, gIn6, gIn7, gIn8, gId, gIdF, gMb, gMm, gBm, gBb, bs, ms]
 rw [if_neg (by decide)]
 rw [show lAt _ (4 : Int) = some _ from lAt_nat (i := 4) rfl, bs]
 dsimp only
 rw [days_eq, e1]
 try rw [e2]
 exact finC _ _ _ _ _ _ _ _ _
theorem check_5 (a p fr to n : Int) (cd tx : List UInt8) (hc : cd.length ≤ 4200) (ht : tx.length ≤ 4200) : fact_Fact_Check (a, p, 5, fr, to, cd, n, tx) = some (checkS (a, p, 5, fr, to, cd, n, tx)) := by
 have e1 := show fact_empty cd = some (cd == []) from rfl
 have e2 := show fact_rules_5 (a, p, 5, fr, to, cd, n, tx) = some (weightsB tx) from (show fact_rules_5 (a, p, 5, fr, to, cd, n, tx) = (fact_weights tx).bind fun x => some x from rfl).trans (by rw [weights_eq (by omega)]; rfl)
 unfold fact_Fact_Check
 dsimp only
 rw [show fact_known 5 = some true from rfl, bs]
 rw [show fact_rules () = some _ from rfl]
 simp only [gPi, gSS, gPb, gPm, gPs, gM, gM2, gAnd, gOr, gAndI, gOrI, gAA, gAO, gOA, gOO, gAAf, gAOf, gOAf, gOOf, gAMf, gOMf, gId]
 simp only [gIn1, gIn2, gIn3, gIn4, gIn5, gIn6, gIn7, gIn8, gId, gIdF, gMb, gMm, gBm, gBb, bs, ms]
 rw [if_neg (by decide)]
 rw [show lAt _ (5 : Int) = some _ from lAt_nat (i := 5) rfl, bs]
 dsimp only
 rw [days_eq, e1]
 try rw [e2]
 exact finC _ _ _ _ _ _ _ _ _
theorem check_6 (a p fr to n : Int) (cd tx : List UInt8) (hc : cd.length ≤ 4200) (ht : tx.length ≤ 4200) : fact_Fact_Check (a, p, 6, fr, to, cd, n, tx) = some (checkS (a, p, 6, fr, to, cd, n, tx)) := by
 have e1 := either_eq hc
 have e2 := night_eq (x := (a, p, 6, fr, to, cd, n, tx)) ht
 unfold fact_Fact_Check
 dsimp only
 rw [show fact_known 6 = some true from rfl, bs]
 rw [show fact_rules () = some _ from rfl]
 simp only [gPi, gSS, gPb, gPm, gPs, gM, gM2, gAnd, gOr, gAndI, gOrI, gAA, gAO, gOA, gOO, gAAf, gAOf, gOAf, gOOf, gAMf, gOMf, gId]
 simp only [gIn1, gIn2, gIn3, gIn4, gIn5, gIn6, gIn7, gIn8, gId, gIdF, gMb, gMm, gBm, gBb, bs, ms]
 rw [if_neg (by decide)]
 rw [show lAt _ (6 : Int) = some _ from lAt_nat (i := 6) rfl, bs]
 dsimp only
 rw [days_eq, e1]
 try rw [e2]
 exact finC _ _ _ _ _ _ _ _ _
theorem check_7 (a p fr to n : Int) (cd tx : List UInt8) (hc : cd.length ≤ 4200) (ht : tx.length ≤ 4200) : fact_Fact_Check (a, p, 7, fr, to, cd, n, tx) = some (checkS (a, p, 7, fr, to, cd, n, tx)) := by
 have e1 := absence_eq cd
 have e2 := show fact_silent (a, p, 7, fr, to, cd, n, tx) = some (tx == []) from rfl
 unfold fact_Fact_Check
 dsimp only
 rw [show fact_known 7 = some true from rfl, bs]
 rw [show fact_rules () = some _ from rfl]
 simp only [gPi, gSS, gPb, gPm, gPs, gM, gM2, gAnd, gOr, gAndI, gOrI, gAA, gAO, gOA, gOO, gAAf, gAOf, gOAf, gOOf, gAMf, gOMf, gId]
 simp only [gIn1, gIn2, gIn3, gIn4, gIn5, gIn6, gIn7, gIn8, gId, gIdF, gMb, gMm, gBm, gBb, bs, ms]
 rw [if_neg (by decide)]
 rw [show lAt _ (7 : Int) = some _ from lAt_nat (i := 7) rfl, bs]
 dsimp only
 rw [days_eq, e1]
 try rw [e2]
 exact finC _ _ _ _ _ _ _ _ _
theorem check_8 (a p fr to n : Int) (cd tx : List UInt8) (hc : cd.length ≤ 4200) (ht : tx.length ≤ 4200) : fact_Fact_Check (a, p, 8, fr, to, cd, n, tx) = some (checkS (a, p, 8, fr, to, cd, n, tx)) := by
 have e1 := isName_eq (s := cd) (by omega)
 have e2 := show fact_silent (a, p, 8, fr, to, cd, n, tx) = some (tx == []) from rfl
 unfold fact_Fact_Check
 dsimp only
 rw [show fact_known 8 = some true from rfl, bs]
 rw [show fact_rules () = some _ from rfl]
 simp only [gPi, gSS, gPb, gPm, gPs, gM, gM2, gAnd, gOr, gAndI, gOrI, gAA, gAO, gOA, gOO, gAAf, gAOf, gOAf, gOOf, gAMf, gOMf, gId]
 simp only [gIn1, gIn2, gIn3, gIn4, gIn5, gIn6, gIn7, gIn8, gId, gIdF, gMb, gMm, gBm, gBb, bs, ms]
 rw [if_neg (by decide)]
 rw [show lAt _ (8 : Int) = some _ from lAt_nat (i := 8) rfl, bs]
 dsimp only
 rw [days_eq, e1]
 try rw [e2]
 exact finC _ _ _ _ _ _ _ _ _
theorem check_9 (a p fr to n : Int) (cd tx : List UInt8) (hc : cd.length ≤ 4200) (ht : tx.length ≤ 4200) : fact_Fact_Check (a, p, 9, fr, to, cd, n, tx) = some (checkS (a, p, 9, fr, to, cd, n, tx)) := by
 have e1 := isName_eq (s := cd) (by omega)
 have e2 := show fact_silent (a, p, 9, fr, to, cd, n, tx) = some (tx == []) from rfl
 unfold fact_Fact_Check
 dsimp only
 rw [show fact_known 9 = some true from rfl, bs]
 rw [show fact_rules () = some _ from rfl]
 simp only [gPi, gSS, gPb, gPm, gPs, gM, gM2, gAnd, gOr, gAndI, gOrI, gAA, gAO, gOA, gOO, gAAf, gAOf, gOAf, gOOf, gAMf, gOMf, gId]
 simp only [gIn1, gIn2, gIn3, gIn4, gIn5, gIn6, gIn7, gIn8, gId, gIdF, gMb, gMm, gBm, gBb, bs, ms]
 rw [if_neg (by decide)]
 rw [show lAt _ (9 : Int) = some _ from lAt_nat (i := 9) rfl, bs]
 dsimp only
 rw [days_eq, e1]
 try rw [e2]
 exact finC _ _ _ _ _ _ _ _ _
theorem check_10 (a p fr to n : Int) (cd tx : List UInt8) (hc : cd.length ≤ 4200) (ht : tx.length ≤ 4200) : fact_Fact_Check (a, p, 10, fr, to, cd, n, tx) = some (checkS (a, p, 10, fr, to, cd, n, tx)) := by
 have e1 := isName_eq (s := cd) (by omega)
 have e2 := show fact_silent (a, p, 10, fr, to, cd, n, tx) = some (tx == []) from rfl
 unfold fact_Fact_Check
 dsimp only
 rw [show fact_known 10 = some true from rfl, bs]
 rw [show fact_rules () = some _ from rfl]
 simp only [gPi, gSS, gPb, gPm, gPs, gM, gM2, gAnd, gOr, gAndI, gOrI, gAA, gAO, gOA, gOO, gAAf, gAOf, gOAf, gOOf, gAMf, gOMf, gId]
 simp only [gIn1, gIn2, gIn3, gIn4, gIn5, gIn6, gIn7, gIn8, gId, gIdF, gMb, gMm, gBm, gBb, bs, ms]
 rw [if_neg (by decide)]
 rw [show lAt _ (10 : Int) = some _ from lAt_nat (i := 10) rfl, bs]
 dsimp only
 rw [days_eq, e1]
 try rw [e2]
 exact finC _ _ _ _ _ _ _ _ _
theorem check_11 (a p fr to n : Int) (cd tx : List UInt8) (hc : cd.length ≤ 4200) (ht : tx.length ≤ 4200) : fact_Fact_Check (a, p, 11, fr, to, cd, n, tx) = some (checkS (a, p, 11, fr, to, cd, n, tx)) := by
 have e1 := show fact_empty cd = some (cd == []) from rfl
 have e2 := show fact_rules_2 (a, p, 11, fr, to, cd, n, tx) = some (nameB tx) from (show fact_rules_2 (a, p, 11, fr, to, cd, n, tx) = (fact_isName tx).bind fun x => some x from rfl).trans (by rw [isName_eq (by omega)]; rfl)
 unfold fact_Fact_Check
 dsimp only
 rw [show fact_known 11 = some true from rfl, bs]
 rw [show fact_rules () = some _ from rfl]
 simp only [gPi, gSS, gPb, gPm, gPs, gM, gM2, gAnd, gOr, gAndI, gOrI, gAA, gAO, gOA, gOO, gAAf, gAOf, gOAf, gOOf, gAMf, gOMf, gId]
 simp only [gIn1, gIn2, gIn3, gIn4, gIn5, gIn6, gIn7, gIn8, gId, gIdF, gMb, gMm, gBm, gBb, bs, ms]
 rw [if_neg (by decide)]
 rw [show lAt _ (11 : Int) = some _ from lAt_nat (i := 11) rfl, bs]
 dsimp only
 rw [days_eq, e1]
 try rw [e2]
 exact finC _ _ _ _ _ _ _ _ _
theorem check_12 (a p fr to n : Int) (cd tx : List UInt8) (hc : cd.length ≤ 4200) (ht : tx.length ≤ 4200) : fact_Fact_Check (a, p, 12, fr, to, cd, n, tx) = some (checkS (a, p, 12, fr, to, cd, n, tx)) := by
 have e1 := isName_eq (s := cd) (by omega)
 have e2 := show fact_rules_6 (a, p, 12, fr, to, cd, n, tx) = some (orderB tx) from (show fact_rules_6 (a, p, 12, fr, to, cd, n, tx) = (fact_order tx).bind fun x => some x from rfl).trans (by rw [(order_eq ht).1]; rfl)
 unfold fact_Fact_Check
 dsimp only
 rw [show fact_known 12 = some true from rfl, bs]
 rw [show fact_rules () = some _ from rfl]
 simp only [gPi, gSS, gPb, gPm, gPs, gM, gM2, gAnd, gOr, gAndI, gOrI, gAA, gAO, gOA, gOO, gAAf, gAOf, gOAf, gOOf, gAMf, gOMf, gId]
 simp only [gIn1, gIn2, gIn3, gIn4, gIn5, gIn6, gIn7, gIn8, gId, gIdF, gMb, gMm, gBm, gBb, bs, ms]
 rw [if_neg (by decide)]
 rw [show lAt _ (12 : Int) = some _ from lAt_nat (i := 12) rfl, bs]
 dsimp only
 rw [days_eq, e1]
 try rw [e2]
 exact finC _ _ _ _ _ _ _ _ _
theorem check_13 (a p fr to n : Int) (cd tx : List UInt8) (hc : cd.length ≤ 4200) (ht : tx.length ≤ 4200) : fact_Fact_Check (a, p, 13, fr, to, cd, n, tx) = some (checkS (a, p, 13, fr, to, cd, n, tx)) := by
 have e1 := show fact_empty cd = some (cd == []) from rfl
 have e2 := show fact_rules_2 (a, p, 13, fr, to, cd, n, tx) = some (nameB tx) from (show fact_rules_2 (a, p, 13, fr, to, cd, n, tx) = (fact_isName tx).bind fun x => some x from rfl).trans (by rw [isName_eq (by omega)]; rfl)
 unfold fact_Fact_Check
 dsimp only
 rw [show fact_known 13 = some true from rfl, bs]
 rw [show fact_rules () = some _ from rfl]
 simp only [gPi, gSS, gPb, gPm, gPs, gM, gM2, gAnd, gOr, gAndI, gOrI, gAA, gAO, gOA, gOO, gAAf, gAOf, gOAf, gOOf, gAMf, gOMf, gId]
 simp only [gIn1, gIn2, gIn3, gIn4, gIn5, gIn6, gIn7, gIn8, gId, gIdF, gMb, gMm, gBm, gBb, bs, ms]
 rw [if_neg (by decide)]
 rw [show lAt _ (13 : Int) = some _ from lAt_nat (i := 13) rfl, bs]
 dsimp only
 rw [days_eq, e1]
 try rw [e2]
 exact finC _ _ _ _ _ _ _ _ _
theorem check_14 (a p fr to n : Int) (cd tx : List UInt8) (hc : cd.length ≤ 4200) (ht : tx.length ≤ 4200) : fact_Fact_Check (a, p, 14, fr, to, cd, n, tx) = some (checkS (a, p, 14, fr, to, cd, n, tx)) := by
 have e1 := isName_eq (s := cd) (by omega)
 have e2 := show fact_rules_3 (a, p, 14, fr, to, cd, n, tx) = some (plainB tx) from (show fact_rules_3 (a, p, 14, fr, to, cd, n, tx) = (fact_plain tx).bind fun x => some x from rfl).trans (by rw [plain_eq (by omega)]; rfl)
 unfold fact_Fact_Check
 dsimp only
 rw [show fact_known 14 = some true from rfl, bs]
 rw [show fact_rules () = some _ from rfl]
 simp only [gPi, gSS, gPb, gPm, gPs, gM, gM2, gAnd, gOr, gAndI, gOrI, gAA, gAO, gOA, gOO, gAAf, gAOf, gOAf, gOOf, gAMf, gOMf, gId]
 simp only [gIn1, gIn2, gIn3, gIn4, gIn5, gIn6, gIn7, gIn8, gId, gIdF, gMb, gMm, gBm, gBb, bs, ms]
 rw [if_neg (by decide)]
 rw [show lAt _ (14 : Int) = some _ from lAt_nat (i := 14) rfl, bs]
 dsimp only
 rw [days_eq, e1]
 try rw [e2]
 exact finC _ _ _ _ _ _ _ _ _
theorem check_15 (a p fr to n : Int) (cd tx : List UInt8) (hc : cd.length ≤ 4200) (ht : tx.length ≤ 4200) : fact_Fact_Check (a, p, 15, fr, to, cd, n, tx) = some (checkS (a, p, 15, fr, to, cd, n, tx)) := by
 have e1 := isName_eq (s := cd) (by omega)
 have e2 := show fact_rules_4 (a, p, 15, fr, to, cd, n, tx) = some (!(tx == []) && plainB tx) from (by unfold fact_rules_4; dsimp only; simp only [gPi, gSS, gPb, gPm, gPs, gM, gM2, gAnd, gOr, gAndI, gOrI, gAA, gAO, gOA, gOO, gAAf, gAOf, gOAf, gOOf, gAMf, gOMf, gId]; simp only [gIn1, gIn2, gIn3, gIn4, gIn5, gIn6, gIn7, gIn8, gId, gIdF, gMb, gMm, gBm, gBb, bs, ms]; exact told_eq ht)
 unfold fact_Fact_Check
 dsimp only
 rw [show fact_known 15 = some true from rfl, bs]
 rw [show fact_rules () = some _ from rfl]
 simp only [gPi, gSS, gPb, gPm, gPs, gM, gM2, gAnd, gOr, gAndI, gOrI, gAA, gAO, gOA, gOO, gAAf, gAOf, gOAf, gOOf, gAMf, gOMf, gId]
 simp only [gIn1, gIn2, gIn3, gIn4, gIn5, gIn6, gIn7, gIn8, gId, gIdF, gMb, gMm, gBm, gBb, bs, ms]
 rw [if_neg (by decide)]
 rw [show lAt _ (15 : Int) = some _ from lAt_nat (i := 15) rfl, bs]
 dsimp only
 rw [days_eq, e1]
 try rw [e2]
 exact finC _ _ _ _ _ _ _ _ _
theorem check_16 (a p fr to n : Int) (cd tx : List UInt8) (hc : cd.length ≤ 4200) (ht : tx.length ≤ 4200) : fact_Fact_Check (a, p, 16, fr, to, cd, n, tx) = some (checkS (a, p, 16, fr, to, cd, n, tx)) := by
 have e1 := show fact_empty cd = some (cd == []) from rfl
 have e2 := show fact_silent (a, p, 16, fr, to, cd, n, tx) = some (tx == []) from rfl
 unfold fact_Fact_Check
 dsimp only
 rw [show fact_known 16 = some true from rfl, bs]
 rw [show fact_rules () = some _ from rfl]
 simp only [gPi, gSS, gPb, gPm, gPs, gM, gM2, gAnd, gOr, gAndI, gOrI, gAA, gAO, gOA, gOO, gAAf, gAOf, gOAf, gOOf, gAMf, gOMf, gId]
 simp only [gIn1, gIn2, gIn3, gIn4, gIn5, gIn6, gIn7, gIn8, gId, gIdF, gMb, gMm, gBm, gBb, bs, ms]
 rw [if_neg (by decide)]
 rw [show lAt _ (16 : Int) = some _ from lAt_nat (i := 16) rfl, bs]
 dsimp only
 rw [days_eq, e1]
 try rw [e2]
 exact finC _ _ _ _ _ _ _ _ _
theorem check_17 (a p fr to n : Int) (cd tx : List UInt8) (hc : cd.length ≤ 4200) (ht : tx.length ≤ 4200) : fact_Fact_Check (a, p, 17, fr, to, cd, n, tx) = some (checkS (a, p, 17, fr, to, cd, n, tx)) := by
 have e1 := show fact_empty cd = some (cd == []) from rfl
 have e2 := show fact_silent (a, p, 17, fr, to, cd, n, tx) = some (tx == []) from rfl
 unfold fact_Fact_Check
 dsimp only
 rw [show fact_known 17 = some true from rfl, bs]
 rw [show fact_rules () = some _ from rfl]
 simp only [gPi, gSS, gPb, gPm, gPs, gM, gM2, gAnd, gOr, gAndI, gOrI, gAA, gAO, gOA, gOO, gAAf, gAOf, gOAf, gOOf, gAMf, gOMf, gId]
 simp only [gIn1, gIn2, gIn3, gIn4, gIn5, gIn6, gIn7, gIn8, gId, gIdF, gMb, gMm, gBm, gBb, bs, ms]
 rw [if_neg (by decide)]
 rw [show lAt _ (17 : Int) = some _ from lAt_nat (i := 17) rfl, bs]
 dsimp only
 rw [days_eq, e1]
 try rw [e2]
 exact finC _ _ _ _ _ _ _ _ _
theorem check_18 (a p fr to n : Int) (cd tx : List UInt8) (hc : cd.length ≤ 4200) (ht : tx.length ≤ 4200) : fact_Fact_Check (a, p, 18, fr, to, cd, n, tx) = some (checkS (a, p, 18, fr, to, cd, n, tx)) := by
 have e1 := show fact_empty cd = some (cd == []) from rfl
 have e2 := show fact_silent (a, p, 18, fr, to, cd, n, tx) = some (tx == []) from rfl
 unfold fact_Fact_Check
 dsimp only
 rw [show fact_known 18 = some true from rfl, bs]
 rw [show fact_rules () = some _ from rfl]
 simp only [gPi, gSS, gPb, gPm, gPs, gM, gM2, gAnd, gOr, gAndI, gOrI, gAA, gAO, gOA, gOO, gAAf, gAOf, gOAf, gOOf, gAMf, gOMf, gId]
 simp only [gIn1, gIn2, gIn3, gIn4, gIn5, gIn6, gIn7, gIn8, gId, gIdF, gMb, gMm, gBm, gBb, bs, ms]
 rw [if_neg (by decide)]
 rw [show lAt _ (18 : Int) = some _ from lAt_nat (i := 18) rfl, bs]
 dsimp only
 rw [days_eq, e1]
 try rw [e2]
 exact finC _ _ _ _ _ _ _ _ _
theorem check_eq (x : Int × Int × Int × Int × Int × List UInt8 × Int × List UInt8) (hc : x.2.2.2.2.2.1.length ≤ 4200) (ht : x.2.2.2.2.2.2.2.length ≤ 4200) : fact_Fact_Check x = some (checkS x) := by
 obtain ⟨a, p, k, fr, to, cd, n, tx⟩ := x
 by_cases h : 1 ≤ k ∧ k ≤ 18
 ·rcases kinds18 h with rfl | rfl | rfl | rfl | rfl | rfl | rfl | rfl | rfl | rfl | rfl | rfl | rfl | rfl | rfl | rfl | rfl | rfl
  ·exact check_1 a p fr to n cd tx hc ht
  ·exact check_2 a p fr to n cd tx hc ht
  ·exact check_3 a p fr to n cd tx hc ht
  ·exact check_4 a p fr to n cd tx hc ht
  ·exact check_5 a p fr to n cd tx hc ht
  ·exact check_6 a p fr to n cd tx hc ht
  ·exact check_7 a p fr to n cd tx hc ht
  ·exact check_8 a p fr to n cd tx hc ht
  ·exact check_9 a p fr to n cd tx hc ht
  ·exact check_10 a p fr to n cd tx hc ht
  ·exact check_11 a p fr to n cd tx hc ht
  ·exact check_12 a p fr to n cd tx hc ht
  ·exact check_13 a p fr to n cd tx hc ht
  ·exact check_14 a p fr to n cd tx hc ht
  ·exact check_15 a p fr to n cd tx hc ht
  ·exact check_16 a p fr to n cd tx hc ht
  ·exact check_17 a p fr to n cd tx hc ht
  ·exact check_18 a p fr to n cd tx hc ht
 ·unfold fact_Fact_Check checkS
  dsimp only
  rw [fact_known_eq, bs, decide_eq_false h, if_neg h]
  rfl
end WB
namespace WB
open Go Go.RowKit
set_option linter.unusedSimpArgs false
set_option linter.unusedVariables false
set_option maxHeartbeats 1000000
end WB
namespace WB
open Go Go.RowKit
set_option linter.unusedSimpArgs false
set_option linter.unusedVariables false
set_option maxHeartbeats 1000000
theorem same_eq (x y : Int × Int × Int × Int × Int × List UInt8 × Int × List UInt8) : fact_Fact_Same (x, y) = some (x.2 == y.2) := by
 obtain ⟨a, x⟩ := x
 obtain ⟨b, y⟩ := y
 unfold fact_Fact_Same
 dsimp only
 rw [show (a == a) = true by simp, Bool.true_and]
 rfl
theorem checked {a p k fr to : Int} {cd : List UInt8} {n : Int} {tx : List UInt8} (h : checkS (a, p, k, fr, to, cd, n, tx) = 0) :
  (1 ≤ k ∧ k ≤ 18) ∧ daysS k (daysK k) fr to = 0 ∧ ∀ to', daysS k (daysK k) fr to' = 0 → checkS (a, p, k, fr, to', cd, n, tx) = 0 := by
 have hr : 1 ≤ k ∧ k ≤ 18 := by
  by_cases h' : 1 ≤ k ∧ k ≤ 18
  ·exact h'
  ·unfold checkS at h
   dsimp only at h
   rw [if_neg h'] at h
   cases h
 have hD : daysS k (daysK k) fr to = 0 := by
  have := h
  unfold checkS at this
  dsimp only at this
  rw [if_pos hr] at this
  unfold checkG at this
  by_cases h1 : (!(firmK k == (p == 0))) = true
  ·rw [if_pos h1] at this; cases this
  ·rw [if_neg h1] at this
   by_cases h2 : daysS k (daysK k) fr to = 0
   ·exact h2
   ·have h3 : (daysS k (daysK k) fr to != 0) = true := by simpa using h2
    rw [if_pos h3] at this
    exact absurd this h2
 refine ⟨hr, hD, fun to' h' => ?_⟩
 unfold checkS at h ⊢
 dsimp only at h ⊢
 rw [hD] at h
 rw [h']
 exact h
end WB

