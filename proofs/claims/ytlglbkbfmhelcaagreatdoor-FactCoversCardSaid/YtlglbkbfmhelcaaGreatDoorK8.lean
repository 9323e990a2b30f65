/-
 OWN TEXTS, MERGED (wip/merge.py): Pfd, Pfe, Pfh. No condition of their own.
-/
import Derived.Test.YtlglbkbfmhelcaaGreatDoorK7
import Derived.Test.YtlglbkbfmhelcaaGreatDoorK6
set_option linter.unusedVariables false
set_option linter.unusedSimpArgs false
namespace WB
open Go Go.RowKit
set_option linter.unusedSimpArgs false
set_option linter.unusedVariables false
set_option maxHeartbeats 1000000
def firmK (k : Int) : Bool := k == 14 || k == 15 || k == 16 || k == 18
def daysK (k : Int) : Bool := decide (1 ≤ k) && decide (k ≤ 15) && (k != 6) && (k != 8)
def codeK (k : Int) (s : List UInt8) : Bool :=
 if k = 6 then s == [] || nameB s else if k = 7 then absB s
 else if k = 8 ∨ k = 9 ∨ k = 10 ∨ k = 12 ∨ k = 14 ∨ k = 15 then nameB s else s == []
def lowK (k : Int) : Int := if k = 8 ∨ k = 14 then -1125899906842624 else if k = 18 then 1 else 0
def highK (k : Int) : Int :=
 if k = 1 then 1 else if k = 3 ∨ k = 7 then 1000000 else if k = 6 then 1440 else if k = 17 then 100000 else if k = 18 then 4096
 else if k = 4 ∨ k = 5 ∨ k = 13 ∨ k = 15 ∨ k = 16 then 0 else 1125899906842624
noncomputable def orderB (s : List UInt8) : Bool := (fact_order s).getD false
noncomputable def textK (k num : Int) (s : List UInt8) : Bool :=
 if k = 4 then weekB s else if k = 5 then weightsB s else if k = 6 then s == [] || tensB s (IntKind.u64.wrap (max num 0))
 else if k = 11 ∨ k = 13 then nameB s else if k = 12 then orderB s else if k = 14 then plainB s else if k = 15 then !(s == []) && plainB s else s == []
def daysS (k : Int) (dy : Bool) (fr to : Int) : Int :=
 if ((k == 18 && fr != 0) || decide (fr < -25567) || decide (fr > 84005)) = true then 15
 else if ((to != 0) && (!dy || decide (to ≤ fr))) = true then 24 else if decide (to > 84006) = true then 15 else 0
def checkG (fm cb tb : Bool) (p D num lo hi len : Int) : Int :=
 if (!(fm == (p == 0))) = true then 2 else if (D != 0) = true then D else if (!cb) = true then 12
 else if (decide (num < lo) || decide (num > hi)) = true then 2 else if decide (len > 4096) = true then 4 else if (!tb) = true then 3 else 0
noncomputable def checkS (x : Int × Int × Int × Int × Int × List UInt8 × Int × List UInt8) : Int :=
 if 1 ≤ x.2.2.1 ∧ x.2.2.1 ≤ 18 then checkG (firmK x.2.2.1) (codeK x.2.2.1 x.2.2.2.2.2.1) (textK x.2.2.1 x.2.2.2.2.2.2.1 x.2.2.2.2.2.2.2) x.2.1 (daysS x.2.2.1 (daysK x.2.2.1) x.2.2.2.1 x.2.2.2.2.1) x.2.2.2.2.2.2.1 (lowK x.2.2.1) (highK x.2.2.1) (x.2.2.2.2.2.2.2.length : Int)
 else 11
theorem kinds18 {k : Int} (h : 1 ≤ k ∧ k ≤ 18) : k = 1 ∨ k = 2 ∨ k = 3 ∨ k = 4 ∨ k = 5 ∨ k = 6 ∨ k = 7 ∨ k = 8 ∨ k = 9 ∨ k = 10 ∨ k = 11 ∨ k = 12 ∨ k = 13 ∨ k = 14 ∨ k = 15 ∨ k = 16 ∨ k = 17 ∨ k = 18 := by omega
theorem days_eq (a p k fr to : Int) (cd : List UInt8) (n : Int) (tx nm : List UInt8) (fm dy : Bool) (cf : Unit ⊕ (Unit ⊕ (Unit ⊕ (Unit ⊕ Unit)))) (lo hi : Int) (tf) :
  fact_Fact_days ((a, p, k, fr, to, cd, n, tx), (nm, fm, dy, cf, lo, hi, tf)) = some (daysS k dy fr to) := by
 unfold fact_Fact_days
 dsimp only
 simp only [gPi, gSS, gPb, gPm, gPs, gM, gM2, gAnd, gOr, gAndI, gOrI, gAA, gAO, gOA, gOO, gAAf, gAOf, gOAf, gOOf, gAMf, gOMf, gId]
 simp only [gIn1, gIn2, gIn3, gIn4, gIn5, gIn6, gIn7, gIn8, gId, gIdF, gMb, gMm, gBm, gBb, bs, ms]
 unfold daysS
 obtain ⟨q1, h1⟩ : ∃ q, (k == 18) = q := ⟨_, rfl⟩
 obtain ⟨q2, h2⟩ : ∃ q, (fr != 0) = q := ⟨_, rfl⟩
 obtain ⟨q3, h3⟩ : ∃ q, decide (fr < -25567) = q := ⟨_, rfl⟩
 obtain ⟨q4, h4⟩ : ∃ q, decide (fr > 84005) = q := ⟨_, rfl⟩
 obtain ⟨q5, h5⟩ : ∃ q, (to != 0) = q := ⟨_, rfl⟩
 obtain ⟨q6, h6⟩ : ∃ q, decide (to ≤ fr) = q := ⟨_, rfl⟩
 obtain ⟨q7, h7⟩ : ∃ q, decide (to > 84006) = q := ⟨_, rfl⟩
 simp only [h1, h2, h3, h4]
 cases q1 <;> cases q2 <;> cases q3 <;> cases q4 <;> (simp only [Bool.false_eq_true, if_false, if_true, bs, h5, h6, h7]; cases q5 <;> cases q6 <;> cases q7 <;> cases dy <;> rfl)
theorem finC (fm cb tb : Bool) (p D num lo hi len : Int) :
  (if (!(fm == (p == (0 : Int)))) = true then some (2 : Int) else (some D).bind fun x21 => if (x21 != 0) = true then some x21 else ((some cb).map fun v => v).bind fun x30 => if (!x30) = true then some 12 else
   (if decide (num < lo) = true then some true else some (decide (num > hi))).bind fun x44 => if x44 = true then some 2 else if decide (len > 4096) = true then some 4 else
   ((some tb).map fun v => v).bind fun x54 => if (!x54) = true then some 3 else some 0) = some (checkG fm cb tb p D num lo hi len) := by
 unfold checkG
 obtain ⟨q1, h1⟩ : ∃ q, (p == 0) = q := ⟨_, rfl⟩
 obtain ⟨q2, h2⟩ : ∃ q, (D != 0) = q := ⟨_, rfl⟩
 obtain ⟨q3, h3⟩ : ∃ q, decide (num < lo) = q := ⟨_, rfl⟩
 obtain ⟨q4, h4⟩ : ∃ q, decide (num > hi) = q := ⟨_, rfl⟩
 obtain ⟨q5, h5⟩ : ∃ q, decide (len > 4096) = q := ⟨_, rfl⟩
 simp only [h1, h2, h3, h4, h5, bs]
 cases fm <;> cases q1 <;> cases q2 <;> cases q3 <;> cases q4 <;> cases q5 <;> cases cb <;> cases tb <;> rfl
theorem order_eq {s : List UInt8} (h : s.length ≤ 4200) : fact_order s = some (orderB s) ∧ ref08_order s = some (orderB s) := by
 obtain ⟨b, h1, h2⟩ := order_alike h
 unfold orderB
 rw [h1]
 exact ⟨rfl, h2⟩
theorem weekly_eq {x : Int × Int × Int × Int × Int × List UInt8 × Int × List UInt8} (h : x.2.2.2.2.2.2.2.length ≤ 4200) : fact_weekly x = some (weekB x.2.2.2.2.2.2.2) := by
 obtain ⟨v, e, h1, h2⟩ := week_Parse_eq (s := x.2.2.2.2.2.2.2) (by omega)
 unfold fact_weekly
 dsimp only
 rw [h1, bs, ← h2]
theorem u64_le (n : Int) : 0 ≤ IntKind.u64.wrap n ∧ IntKind.u64.wrap n ≤ 18446744073709551615 := by rw [IntKind.wrap_u64]; omega
theorem night_eq {x : Int × Int × Int × Int × Int × List UInt8 × Int × List UInt8} (h : x.2.2.2.2.2.2.2.length ≤ 4200) : fact_night x = some (x.2.2.2.2.2.2.2 == [] || tensB x.2.2.2.2.2.2.2 (IntKind.u64.wrap (max x.2.2.2.2.2.2.1 0))) := by
 unfold fact_night
 dsimp only
 rw [ftens_eq (by omega) (u64_le _).2, bs]
 dsimp only
 cases x.2.2.2.2.2.2.2 == [] <;> rfl
theorem told_eq {s : List UInt8} (h : s.length ≤ 4200) : (if (!(s == [])) = true then fact_plain s else some false) = some (!(s == []) && plainB s) := by
 rw [plain_eq (by omega)]
 cases s == [] <;> rfl
theorem either_eq {s : List UInt8} (h : s.length ≤ 4200) : fact_rules_1 s = some (s == [] || nameB s) := by
 unfold fact_rules_1
 dsimp only
 simp only [gPi, gSS, gPb, gPm, gPs, gM, gM2, gAnd, gOr, gAndI, gOrI, gAA, gAO, gOA, gOO, gAAf, gAOf, gOAf, gOOf, gAMf, gOMf, gId]
 simp only [gIn1, gIn2, gIn3, gIn4, gIn5, gIn6, gIn7, gIn8, gId, gIdF, gMb, gMm, gBm, gBb, bs, ms]
 rw [isName_eq (by omega)]
 cases s == [] <;> rfl
theorem check_1 (a p fr to n : Int) (cd tx : List UInt8) (hc : cd.length ≤ 4200) (ht : tx.length ≤ 4200) : fact_Fact_Check (a, p, 1, fr, to, cd, n, tx) = some (checkS (a, p, 1, fr, to, cd, n, tx)) := by
 have e1 := show fact_empty cd = some (cd == []) from rfl
 have e2 := show fact_silent (a, p, 1, fr, to, cd, n, tx) = some (tx == []) from rfl
 unfold fact_Fact_Check
 dsimp only
 rw [show fact_known 1 = some true from rfl, bs]
 rw [show fact_rules () = some _ from rfl]
 simp only [gPi, gSS, gPb, gPm, gPs, gM, gM2, gAnd, gOr, gAndI, gOrI, gAA, gAO, gOA, gOO, gAAf, gAOf, gOAf, gOOf, gAMf, gOMf, gId]
 simp only [gIn1, gIn2, gIn3, gIn4, gIn5, gIn6, gIn7, gIn8, gId, gIdF, gMb, gMm, gBm, gBb, bs, ms]
 rw [if_neg (by decide)]
 rw [show lAt _ (1 : Int) = some _ from lAt_nat (i := 1) rfl, bs]
 dsimp only
 rw [days_eq, e1]
 try rw [e2]
 exact finC _ _ _ _ _ _ _ _ _
theorem check_2 (a p fr to n : Int) (cd tx : List UInt8) (hc : cd.length ≤ 4200) (ht : tx.length ≤ 4200) : fact_Fact_Check (a, p, 2, fr, to, cd, n, tx) = some (checkS (a, p, 2, fr, to, cd, n, tx)) := by
 have e1 := show fact_empty cd = some (cd == []) from rfl
 have e2 := show fact_silent (a, p, 2, fr, to, cd, n, tx) = some (tx == []) from rfl
 unfold fact_Fact_Check
 dsimp only
 rw [show fact_known 2 = some true from rfl, bs]
 rw [show fact_rules () = some _ from rfl]
 simp only [gPi, gSS, gPb, gPm, gPs, gM, gM2, gAnd, gOr, gAndI, gOrI, gAA, gAO, gOA, gOO, gAAf, gAOf, gOAf, gOOf, gAMf, gOMf, gId]
 simp only [gIn1, gIn2, gIn3, gIn4, gIn5, gIn6, gIn7, gIn8, gId, gIdF, gMb, gMm, gBm, gBb, bs, ms]
 rw [if_neg (by decide)]
 rw [show lAt _ (2 : Int) = some _ from lAt_nat (i := 2) rfl, bs]
 dsimp only
 rw [days_eq, e1]
 try rw [e2]
 exact finC _ _ _ _ _ _ _ _ _
theorem check_3 (a p fr to n : Int) (cd tx : List UInt8) (hc : cd.length ≤ 4200) (ht : tx.length ≤ 4200) : fact_Fact_Check (a, p, 3, fr, to, cd, n, tx) = some (checkS (a, p, 3, fr, to, cd, n, tx)) := by
 have e1 := show fact_empty cd = some (cd == []) from rfl
 have e2 := show fact_silent (a, p, 3, fr, to, cd, n, tx) = some (tx == []) from rfl
 unfold fact_Fact_Check
 dsimp only
 rw [show fact_known 3 = some true from rfl, bs]
 rw [show fact_rules () = some _ from rfl]
 simp only [gPi, gSS, gPb, gPm, gPs, gM, gM2, gAnd, gOr, gAndI, gOrI, gAA, gAO, gOA, gOO, gAAf, gAOf, gOAf, gOOf, gAMf, gOMf, gId]
 simp only [gIn1, gIn2, gIn3, gIn4, gIn5, gIn6, gIn7, gIn8, gId, gIdF, gMb, gMm, gBm, gBb, bs, ms]
 rw [if_neg (by decide)]
 rw [show lAt _ (3 : Int) = some _ from lAt_nat (i := 3) rfl, bs]
 dsimp only
 rw [days_eq, e1]
 try rw [e2]
 exact finC _ _ _ _ _ _ _ _ _
theorem check_4 (a p fr to n : Int) (cd tx : List UInt8) (hc : cd.length ≤ 4200) (ht : tx.length ≤ 4200) : fact_Fact_Check (a, p, 4, fr, to, cd, n, tx) = some (checkS (a, p, 4, fr, to, cd, n, tx)) := by
 have e1 := show fact_empty cd = some (cd == []) from rfl
 have e2 := weekly_eq (x := (a, p, 4, fr, to, cd, n, tx)) ht
 unfold fact_Fact_Check
 dsimp only
 rw [show fact_known 4 = some true from rfl, bs]
 rw [show fact_rules () = some _ from rfl]
 simp only [gPi, gSS, gPb, gPm, gPs, gM, gM2, gAnd, gOr, gAndI, gOrI, gAA, gAO, gOA, gOO, gAAf, gAOf, gOAf, gOOf, gAMf, gOMf, gId]
 simp only [gIn1, gIn2, gIn3, gIn4, gIn5, gIn6, gIn7, gIn8, gId, gIdF, gMb, gMm, gBm, gBb, bs, ms]
 rw [if_neg (by decide)]
 rw [show lAt _ (4 : Int) = some _ from lAt_nat (i := 4) rfl, bs]
 dsimp only
 rw [days_eq, e1]
 try rw [e2]
 exact finC _ _ _ _ _ _ _ _ _
theorem check_5 (a p fr to n : Int) (cd tx : List UInt8) (hc : cd.length ≤ 4200) (ht : tx.length ≤ 4200) : fact_Fact_Check (a, p, 5, fr, to, cd, n, tx) = some (checkS (a, p, 5, fr, to, cd, n, tx)) := by
 have e1 := show fact_empty cd = some (cd == []) from rfl
 have e2 := show fact_rules_5 (a, p, 5, fr, to, cd, n, tx) = some (weightsB tx) from (show fact_rules_5 (a, p, 5, fr, to, cd, n, tx) = (fact_weights tx).bind fun x => some x from rfl).trans (by rw [weights_eq (by omega)]; rfl)
 unfold fact_Fact_Check
 dsimp only
 rw [show fact_known 5 = some true from rfl, bs]
 rw [show fact_rules () = some _ from rfl]
 simp only [gPi, gSS, gPb, gPm, gPs, gM, gM2, gAnd, gOr, gAndI, gOrI, gAA, gAO, gOA, gOO, gAAf, gAOf, gOAf, gOOf, gAMf, gOMf, gId]
 simp only [gIn1, gIn2, gIn3, gIn4, gIn5, gIn6, gIn7, gIn8, gId, gIdF, gMb, gMm, gBm, gBb, bs, ms]
 rw [if_neg (by decide)]
 rw [show lAt _ (5 : Int) = some _ from lAt_nat (i := 5) rfl, bs]
 dsimp only
 rw [days_eq, e1]
 try rw [e2]
 exact finC _ _ _ _ _ _ _ _ _
theorem check_6 (a p fr to n : Int) (cd tx : List UInt8) (hc : cd.length ≤ 4200) (ht : tx.length ≤ 4200) : fact_Fact_Check (a, p, 6, fr, to, cd, n, tx) = some (checkS (a, p, 6, fr, to, cd, n, tx)) := by
 have e1 := either_eq hc
 have e2 := night_eq (x := (a, p, 6, fr, to, cd, n, tx)) ht
 unfold fact_Fact_Check
 dsimp only
 rw [show fact_known 6 = some true from rfl, bs]
 rw [show fact_rules () = some _ from rfl]
 simp only [gPi, gSS, gPb, gPm, gPs, gM, gM2, gAnd, gOr, gAndI, gOrI, gAA, gAO, gOA, gOO, gAAf, gAOf, gOAf, gOOf, gAMf, gOMf, gId]
 simp only [gIn1, gIn2, gIn3, gIn4, gIn5, gIn6, gIn7, gIn8, gId, gIdF, gMb, gMm, gBm, gBb, bs, ms]
 rw [if_neg (by decide)]
 rw [show lAt _ (6 : Int) = some _ from lAt_nat (i := 6) rfl, bs]
 dsimp only
 rw [days_eq, e1]
 try rw [e2]
 exact finC _ _ _ _ _ _ _ _ _
theorem check_7 (a p fr to n : Int) (cd tx : List UInt8) (hc : cd.length ≤ 4200) (ht : tx.length ≤ 4200) : fact_Fact_Check (a, p, 7, fr, to, cd, n, tx) = some (checkS (a, p, 7, fr, to, cd, n, tx)) := by
 have e1 := absence_eq cd
 have e2 := show fact_silent (a, p, 7, fr, to, cd, n, tx) = some (tx == []) from rfl
 unfold fact_Fact_Check
 dsimp only
 rw [show fact_known 7 = some true from rfl, bs]
 rw [show fact_rules () = some _ from rfl]
 simp only [gPi, gSS, gPb, gPm, gPs, gM, gM2, gAnd, gOr, gAndI, gOrI, gAA, gAO, gOA, gOO, gAAf, gAOf, gOAf, gOOf, gAMf, gOMf, gId]
 simp only [gIn1, gIn2, gIn3, gIn4, gIn5, gIn6, gIn7, gIn8, gId, gIdF, gMb, gMm, gBm, gBb, bs, ms]
 rw [if_neg (by decide)]
 rw [show lAt _ (7 : Int) = some _ from lAt_nat (i := 7) rfl, bs]
 dsimp only
 rw [days_eq, e1]
 try rw [e2]
 exact finC _ _ _ _ _ _ _ _ _
theorem check_8 (a p fr to n : Int) (cd tx : List UInt8) (hc : cd.length ≤ 4200) (ht : tx.length ≤ 4200) : fact_Fact_Check (a, p, 8, fr, to, cd, n, tx) = some (checkS (a, p, 8, fr, to, cd, n, tx)) := by
 have e1 := isName_eq (s := cd) (by omega)
 have e2 := show fact_silent (a, p, 8, fr, to, cd, n, tx) = some (tx == []) from rfl
 unfold fact_Fact_Check
 dsimp only
 rw [show fact_known 8 = some true from rfl, bs]
 rw [show fact_rules () = some _ from rfl]
 simp only [gPi, gSS, gPb, gPm, gPs, gM, gM2, gAnd, gOr, gAndI, gOrI, gAA, gAO, gOA, gOO, gAAf, gAOf, gOAf, gOOf, gAMf, gOMf, gId]
 simp only [gIn1, gIn2, gIn3, gIn4, gIn5, gIn6, gIn7, gIn8, gId, gIdF, gMb, gMm, gBm, gBb, bs, ms]
 rw [if_neg (by decide)]
 rw [show lAt _ (8 : Int) = some _ from lAt_nat (i := 8) rfl, bs]
 dsimp only
 rw [days_eq, e1]
 try rw [e2]
 exact finC _ _ _ _ _ _ _ _ _
theorem check_9 (a p fr to n : Int) (cd tx : List UInt8) (hc : cd.length ≤ 4200) (ht : tx.length ≤ 4200) : fact_Fact_Check (a, p, 9, fr, to, cd, n, tx) = some (checkS (a, p, 9, fr, to, cd, n, tx)) := by
 have e1 := isName_eq (s := cd) (by omega)
 have e2 := show fact_silent (a, p, 9, fr, to, cd, n, tx) = some (tx == []) from rfl
 unfold fact_Fact_Check
 dsimp only
 rw [show fact_known 9 = some true from rfl, bs]
 rw [show fact_rules () = some _ from rfl]
 simp only [gPi, gSS, gPb, gPm, gPs, gM, gM2, gAnd, gOr, gAndI, gOrI, gAA, gAO, gOA, gOO, gAAf, gAOf, gOAf, gOOf, gAMf, gOMf, gId]
 simp only [gIn1, gIn2, gIn3, gIn4, gIn5, gIn6, gIn7, gIn8, gId, gIdF, gMb, gMm, gBm, gBb, bs, ms]
 rw [if_neg (by decide)]
 rw [show lAt _ (9 : Int) = some _ from lAt_nat (i := 9) rfl, bs]
 dsimp only
 rw [days_eq, e1]
 try rw [e2]
 exact finC _ _ _ _ _ _ _ _ _
theorem check_10 (a p fr to n : Int) (cd tx : List UInt8) (hc : cd.length ≤ 4200) (ht : tx.length ≤ 4200) : fact_Fact_Check (a, p, 10, fr, to, cd, n, tx) = some (checkS (a, p, 10, fr, to, cd, n, tx)) := by
 have e1 := isName_eq (s := cd) (by omega)
 have e2 := show fact_silent (a, p, 10, fr, to, cd, n, tx) = some (tx == []) from rfl
 unfold fact_Fact_Check
 dsimp only
 rw [show fact_known 10 = some true from rfl, bs]
 rw [show fact_rules () = some _ from rfl]
 simp only [gPi, gSS, gPb, gPm, gPs, gM, gM2, gAnd, gOr, gAndI, gOrI, gAA, gAO, gOA, gOO, gAAf, gAOf, gOAf, gOOf, gAMf, gOMf, gId]
 simp only [gIn1, gIn2, gIn3, gIn4, gIn5, gIn6, gIn7, gIn8, gId, gIdF, gMb, gMm, gBm, gBb, bs, ms]
 rw [if_neg (by decide)]
 rw [show lAt _ (10 : Int) = some _ from lAt_nat (i := 10) rfl, bs]
 dsimp only
 rw [days_eq, e1]
 try rw [e2]
 exact finC _ _ _ _ _ _ _ _ _
theorem check_11 (a p fr to n : Int) (cd tx : List UInt8) (hc : cd.length ≤ 4200) (ht : tx.length ≤ 4200) : fact_Fact_Check (a, p, 11, fr, to, cd, n, tx) = some (checkS (a, p, 11, fr, to, cd, n, tx)) := by
 have e1 := show fact_empty cd = some (cd == []) from rfl
 have e2 := show fact_rules_2 (a, p, 11, fr, to, cd, n, tx) = some (nameB tx) from (show fact_rules_2 (a, p, 11, fr, to, cd, n, tx) = (fact_isName tx).bind fun x => some x from rfl).trans (by rw [isName_eq (by omega)]; rfl)
 unfold fact_Fact_Check
 dsimp only
 rw [show fact_known 11 = some true from rfl, bs]
 rw [show fact_rules () = some _ from rfl]
 simp only [gPi, gSS, gPb, gPm, gPs, gM, gM2, gAnd, gOr, gAndI, gOrI, gAA, gAO, gOA, gOO, gAAf, gAOf, gOAf, gOOf, gAMf, gOMf, gId]
 simp only [gIn1, gIn2, gIn3, gIn4, gIn5, gIn6, gIn7, gIn8, gId, gIdF, gMb, gMm, gBm, gBb, bs, ms]
 rw [if_neg (by decide)]
 rw [show lAt _ (11 : Int) = some _ from lAt_nat (i := 11) rfl, bs]
 dsimp only
 rw [days_eq, e1]
 try rw [e2]
 exact finC _ _ _ _ _ _ _ _ _
theorem check_12 (a p fr to n : Int) (cd tx : List UInt8) (hc : cd.length ≤ 4200) (ht : tx.length ≤ 4200) : fact_Fact_Check (a, p, 12, fr, to, cd, n, tx) = some (checkS (a, p, 12, fr, to, cd, n, tx)) := by
 have e1 := isName_eq (s := cd) (by omega)
 have e2 := show fact_rules_6 (a, p, 12, fr, to, cd, n, tx) = some (orderB tx) from (show fact_rules_6 (a, p, 12, fr, to, cd, n, tx) = (fact_order tx).bind fun x => some x from rfl).trans (by rw [(order_eq ht).1]; rfl)
 unfold fact_Fact_Check
 dsimp only
 rw [show fact_known 12 = some true from rfl, bs]
 rw [show fact_rules () = some _ from rfl]
 simp only [gPi, gSS, gPb, gPm, gPs, gM, gM2, gAnd, gOr, gAndI, gOrI, gAA, gAO, gOA, gOO, gAAf, gAOf, gOAf, gOOf, gAMf, gOMf, gId]
 simp only [gIn1, gIn2, gIn3, gIn4, gIn5, gIn6, gIn7, gIn8, gId, gIdF, gMb, gMm, gBm, gBb, bs, ms]
 rw [if_neg (by decide)]
 rw [show lAt _ (12 : Int) = some _ from lAt_nat (i := 12) rfl, bs]
 dsimp only
 rw [days_eq, e1]
 try rw [e2]
 exact finC _ _ _ _ _ _ _ _ _
theorem check_13 (a p fr to n : Int) (cd tx : List UInt8) (hc : cd.length ≤ 4200) (ht : tx.length ≤ 4200) : fact_Fact_Check (a, p, 13, fr, to, cd, n, tx) = some (checkS (a, p, 13, fr, to, cd, n, tx)) := by
 have e1 := show fact_empty cd = some (cd == []) from rfl
 have e2 := show fact_rules_2 (a, p, 13, fr, to, cd, n, tx) = some (nameB tx) from (show fact_rules_2 (a, p, 13, fr, to, cd, n, tx) = (fact_isName tx).bind fun x => some x from rfl).trans (by rw [isName_eq (by omega)]; rfl)
 unfold fact_Fact_Check
 dsimp only
 rw [show fact_known 13 = some true from rfl, bs]
 rw [show fact_rules () = some _ from rfl]
 simp only [gPi, gSS, gPb, gPm, gPs, gM, gM2, gAnd, gOr, gAndI, gOrI, gAA, gAO, gOA, gOO, gAAf, gAOf, gOAf, gOOf, gAMf, gOMf, gId]
 simp only [gIn1, gIn2, gIn3, gIn4, gIn5, gIn6, gIn7, gIn8, gId, gIdF, gMb, gMm, gBm, gBb, bs, ms]
 rw [if_neg (by decide)]
 rw [show lAt _ (13 : Int) = some _ from lAt_nat (i := 13) rfl, bs]
 dsimp only
 rw [days_eq, e1]
 try rw [e2]
 exact finC _ _ _ _ _ _ _ _ _
theorem check_14 (a p fr to n : Int) (cd tx : List UInt8) (hc : cd.length ≤ 4200) (ht : tx.length ≤ 4200) : fact_Fact_Check (a, p, 14, fr, to, cd, n, tx) = some (checkS (a, p, 14, fr, to, cd, n, tx)) := by
 have e1 := isName_eq (s := cd) (by omega)
 have e2 := show fact_rules_3 (a, p, 14, fr, to, cd, n, tx) = some (plainB tx) from (show fact_rules_3 (a, p, 14, fr, to, cd, n, tx) = (fact_plain tx).bind fun x => some x from rfl).trans (by rw [plain_eq (by omega)]; rfl)
 unfold fact_Fact_Check
 dsimp only
 rw [show fact_known 14 = some true from rfl, bs]
 rw [show fact_rules () = some _ from rfl]
 simp only [gPi, gSS, gPb, gPm, gPs, gM, gM2, gAnd, gOr, gAndI, gOrI, gAA, gAO, gOA, gOO, gAAf, gAOf, gOAf, gOOf, gAMf, gOMf, gId]
 simp only [gIn1, gIn2, gIn3, gIn4, gIn5, gIn6, gIn7, gIn8, gId, gIdF, gMb, gMm, gBm, gBb, bs, ms]
 rw [if_neg (by decide)]
 rw [show lAt _ (14 : Int) = some _ from lAt_nat (i := 14) rfl, bs]
 dsimp only
 rw [days_eq, e1]
 try rw [e2]
 exact finC _ _ _ _ _ _ _ _ _
theorem check_15 (a p fr to n : Int) (cd tx : List UInt8) (hc : cd.length ≤ 4200) (ht : tx.length ≤ 4200) : fact_Fact_Check (a, p, 15, fr, to, cd, n, tx) = some (checkS (a, p, 15, fr, to, cd, n, tx)) := by
 have e1 := isName_eq (s := cd) (by omega)
 have e2 := show fact_rules_4 (a, p, 15, fr, to, cd, n, tx) = some (!(tx == []) && plainB tx) from (by unfold fact_rules_4; dsimp only; simp only [gPi, gSS, gPb, gPm, gPs, gM, gM2, gAnd, gOr, gAndI, gOrI, gAA, gAO, gOA, gOO, gAAf, gAOf, gOAf, gOOf, gAMf, gOMf, gId]; simp only [gIn1, gIn2, gIn3, gIn4, gIn5, gIn6, gIn7, gIn8, gId, gIdF, gMb, gMm, gBm, gBb, bs, ms]; exact told_eq ht)
 unfold fact_Fact_Check
 dsimp only
 rw [show fact_known 15 = some true from rfl, bs]
 rw [show fact_rules () = some _ from rfl]
 simp only [gPi, gSS, gPb, gPm, gPs, gM, gM2, gAnd, gOr, gAndI, gOrI, gAA, gAO, gOA, gOO, gAAf, gAOf, gOAf, gOOf, gAMf, gOMf, gId]
 simp only [gIn1, gIn2, gIn3, gIn4, gIn5, gIn6, gIn7, gIn8, gId, gIdF, gMb, gMm, gBm, gBb, bs, ms]
 rw [if_neg (by decide)]
 rw [show lAt _ (15 : Int) = some _ from lAt_nat (i := 15) rfl, bs]
 dsimp only
 rw [days_eq, e1]
 try rw [e2]
 exact finC _ _ _ _ _ _ _ _ _
theorem check_16 (a p fr to n : Int) (cd tx : List UInt8) (hc : cd.length ≤ 4200) (ht : tx.length ≤ 4200) : fact_Fact_Check (a, p, 16, fr, to, cd, n, tx) = some (checkS (a, p, 16, fr, to, cd, n, tx)) := by
 have e1 := show fact_empty cd = some (cd == []) from rfl
 have e2 := show fact_silent (a, p, 16, fr, to, cd, n, tx) = some (tx == []) from rfl
 unfold fact_Fact_Check
 dsimp only
 rw [show fact_known 16 = some true from rfl, bs]
 rw [show fact_rules () = some _ from rfl]
 simp only [gPi, gSS, gPb, gPm, gPs, gM, gM2, gAnd, gOr, gAndI, gOrI, gAA, gAO, gOA, gOO, gAAf, gAOf, gOAf, gOOf, gAMf, gOMf, gId]
 simp only [gIn1, gIn2, gIn3, gIn4, gIn5, gIn6, gIn7, gIn8, gId, gIdF, gMb, gMm, gBm, gBb, bs, ms]
 rw [if_neg (by decide)]
 rw [show lAt _ (16 : Int) = some _ from lAt_nat (i := 16) rfl, bs]
 dsimp only
 rw [days_eq, e1]
 try rw [e2]
 exact finC _ _ _ _ _ _ _ _ _
theorem check_17 (a p fr to n : Int) (cd tx : List UInt8) (hc : cd.length ≤ 4200) (ht : tx.length ≤ 4200) : fact_Fact_Check (a, p, 17, fr, to, cd, n, tx) = some (checkS (a, p, 17, fr, to, cd, n, tx)) := by
 have e1 := show fact_empty cd = some (cd == []) from rfl
 have e2 := show fact_silent (a, p, 17, fr, to, cd, n, tx) = some (tx == []) from rfl
 unfold fact_Fact_Check
 dsimp only
 rw [show fact_known 17 = some true from rfl, bs]
 rw [show fact_rules () = some _ from rfl]
 simp only [gPi, gSS, gPb, gPm, gPs, gM, gM2, gAnd, gOr, gAndI, gOrI, gAA, gAO, gOA, gOO, gAAf, gAOf, gOAf, gOOf, gAMf, gOMf, gId]
 simp only [gIn1, gIn2, gIn3, gIn4, gIn5, gIn6, gIn7, gIn8, gId, gIdF, gMb, gMm, gBm, gBb, bs, ms]
 rw [if_neg (by decide)]
 rw [show lAt _ (17 : Int) = some _ from lAt_nat (i := 17) rfl, bs]
 dsimp only
 rw [days_eq, e1]
 try rw [e2]
 exact finC _ _ _ _ _ _ _ _ _
theorem check_18 (a p fr to n : Int) (cd tx : List UInt8) (hc : cd.length ≤ 4200) (ht : tx.length ≤ 4200) : fact_Fact_Check (a, p, 18, fr, to, cd, n, tx) = some (checkS (a, p, 18, fr, to, cd, n, tx)) := by
 have e1 := show fact_empty cd = some (cd == []) from rfl
 have e2 := show fact_silent (a, p, 18, fr, to, cd, n, tx) = some (tx == []) from rfl
 unfold fact_Fact_Check
 dsimp only
 rw [show fact_known 18 = some true from rfl, bs]
 rw [show fact_rules () = some _ from rfl]
 simp only [gPi, gSS, gPb, gPm, gPs, gM, gM2, gAnd, gOr, gAndI, gOrI, gAA, gAO, gOA, gOO, gAAf, gAOf, gOAf, gOOf, gAMf, gOMf, gId]
 simp only [gIn1, gIn2, gIn3, gIn4, gIn5, gIn6, gIn7, gIn8, gId, gIdF, gMb, gMm, gBm, gBb, bs, ms]
 rw [if_neg (by decide)]
 rw [show lAt _ (18 : Int) = some _ from lAt_nat (i := 18) rfl, bs]
 dsimp only
 rw [days_eq, e1]
 try rw [e2]
 exact finC _ _ _ _ _ _ _ _ _
theorem refGen {a p k fr to n : Int} {cd tx : List UInt8} {fm dy cb tb tb' : Bool} {lo hi : Int} (hk : 1 ≤ k ∧ k ≤ 18) (hF : ref08_Firm k = some fm) (hD : ref08_Days k = some dy) (hC : ref08_code (a, p, k, fr, to, cd, n, tx) = some cb)
  (hN : ref08_num (a, p, k, fr, to, cd, n, tx) = if decide (n ≥ lo) = true then some (decide (n ≤ hi)) else some false) (hT : ref08_text (a, p, k, fr, to, cd, n, tx) = some tb') (htt : lo ≤ n → n ≤ hi → tb' = tb) :
  ref08_Check (a, p, k, fr, to, cd, n, tx) = some (checkG fm cb tb p (daysS k dy fr to) n lo hi (tx.length : Int)) := by
 unfold ref08_Check
 dsimp only
 simp only [gPi, gSS, gPb, gPm, gPs, gM, gM2, gAnd, gOr, gAndI, gOrI, gAA, gAO, gOA, gOO, gAAf, gAOf, gOAf, gOOf, gAMf, gOMf, gId]
 simp only [gIn1, gIn2, gIn3, gIn4, gIn5, gIn6, gIn7, gIn8, gId, gIdF, gMb, gMm, gBm, gBb, bs, ms]
 have c1 : decide (k < 1) = false := decide_eq_false (by omega)
 have c2 : decide (k > 18) = false := decide_eq_false (by omega)
 have hI : ref04_In fr = some (!(decide (fr < -25567) || decide (fr > 84005))) := by
  unfold ref04_In
  simp only [gPi, gSS, gPb, gPm, gPs, gM, gM2, gAnd, gOr, gAndI, gOrI, gAA, gAO, gOA, gOO, gAAf, gAOf, gOAf, gOOf, gAMf, gOMf, gId]
  by_cases h1 : fr ≥ -25567 <;> by_cases h2 : fr ≤ 84005 <;> simp [h1, h2] <;> omega
 have hn : (if decide (n ≥ lo) = true then some (decide (n ≤ hi)) else some false) = some (!(decide (n < lo) || decide (n > hi))) := by
  by_cases h1 : n ≥ lo <;> by_cases h2 : n ≤ hi <;> simp [h1, h2] <;> omega
 simp only [c1, c2, Bool.false_eq_true, if_false, bs, hF, hD, hC, hN, hn, hT, hI]
 unfold checkG daysS
 have ht : tb' = tb ∨ (decide (n < lo) || decide (n > hi)) = true := by
  by_cases h1 : lo ≤ n
  ·by_cases h2 : n ≤ hi
   ·exact .inl (htt h1 h2)
   ·exact .inr (by simp; omega)
  ·exact .inr (by simp; omega)
 obtain ⟨q1, h1⟩ : ∃ q, (k == 18) = q := ⟨_, rfl⟩
 obtain ⟨q2, h2⟩ : ∃ q, (fr != 0) = q := ⟨_, rfl⟩
 obtain ⟨q3, h3⟩ : ∃ q, decide (fr < -25567) = q := ⟨_, rfl⟩
 obtain ⟨q4, h4⟩ : ∃ q, decide (fr > 84005) = q := ⟨_, rfl⟩
 obtain ⟨q5, h5⟩ : ∃ q, (to != 0) = q := ⟨_, rfl⟩
 obtain ⟨q6, h6⟩ : ∃ q, decide (to ≤ fr) = q := ⟨_, rfl⟩
 obtain ⟨q7, h7⟩ : ∃ q, decide (to > 84006) = q := ⟨_, rfl⟩
 obtain ⟨q8, h8⟩ : ∃ q, (p == 0) = q := ⟨_, rfl⟩
 obtain ⟨q9, h9⟩ : ∃ q, (decide (n < lo) || decide (n > hi)) = q := ⟨_, rfl⟩
 obtain ⟨q10, h10⟩ : ∃ q, decide ((tx.length : Int) > 4096) = q := ⟨_, rfl⟩
 rw [h9] at ht
 simp only [h1, h2, h3, h4, h5, h6, h7, h8, h9, h10]
 cases hq : (!(fm == q8)) with
 | true => rfl
 | false =>
  simp only [Bool.false_eq_true, if_false]
  have e1 : (if (!!(q3 || q4)) = true then some true else if q1 = true then some q2 else some false) = some ((q1 && q2) || q3 || q4) := by
   cases q1 <;> cases q2 <;> cases q3 <;> cases q4 <;> rfl
  rw [e1, bs]
  cases ((q1 && q2) || q3 || q4) with
  | true => rfl
  | false =>
   simp only [Bool.false_eq_true, if_false]
   have e2 : (if q5 = true then if (!dy) = true then some true else some q6 else some false) = some (q5 && (!dy || q6)) := by
    cases q5 <;> cases dy <;> cases q6 <;> rfl
   rw [e2, bs]
   cases (q5 && (!dy || q6)) with
   | true => rfl
   | false =>
    simp only [Bool.false_eq_true, if_false]
    cases q7 with
    | true => rfl
    | false =>
     simp only [Bool.false_eq_true, if_false]
     rcases ht with rfl | rfl
     ·cases cb <;> cases q9 <;> cases q10 <;> cases tb' <;> rfl
     ·cases cb <;> rfl
theorem refCheck_1 (a p fr to n : Int) (cd tx : List UInt8) (hc : cd.length ≤ 4200) (ht : tx.length ≤ 4200) : ref08_Check (a, p, 1, fr, to, cd, n, tx) = some (checkS (a, p, 1, fr, to, cd, n, tx)) :=
 refGen (k := 1) (fm := firmK 1) (dy := daysK 1) (cb := codeK 1 cd) (tb := textK 1 n tx) (tb' := tx == []) (lo := lowK 1) (hi := highK 1) (by decide) rfl rfl
  rfl
  (by unfold ref08_num; dsimp only; simp only [gPi, gSS, gPb, gPm, gPs, gM, gM2, gAnd, gOr, gAndI, gOrI, gAA, gAO, gOA, gOO, gAAf, gAOf, gOAf, gOOf, gAMf, gOMf, gId]; simp only [gIn1, gIn2, gIn3, gIn4, gIn5, gIn6, gIn7, gIn8, gId, gIdF, gMb, gMm, gBm, gBb, bs, ms]; rfl)
  rfl
  (fun _ _ => rfl)
theorem refCheck_2 (a p fr to n : Int) (cd tx : List UInt8) (hc : cd.length ≤ 4200) (ht : tx.length ≤ 4200) : ref08_Check (a, p, 2, fr, to, cd, n, tx) = some (checkS (a, p, 2, fr, to, cd, n, tx)) :=
 refGen (k := 2) (fm := firmK 2) (dy := daysK 2) (cb := codeK 2 cd) (tb := textK 2 n tx) (tb' := tx == []) (lo := lowK 2) (hi := highK 2) (by decide) rfl rfl
  rfl
  (by unfold ref08_num; dsimp only; simp only [gPi, gSS, gPb, gPm, gPs, gM, gM2, gAnd, gOr, gAndI, gOrI, gAA, gAO, gOA, gOO, gAAf, gAOf, gOAf, gOOf, gAMf, gOMf, gId]; simp only [gIn1, gIn2, gIn3, gIn4, gIn5, gIn6, gIn7, gIn8, gId, gIdF, gMb, gMm, gBm, gBb, bs, ms]; rfl)
  rfl
  (fun _ _ => rfl)
theorem refCheck_3 (a p fr to n : Int) (cd tx : List UInt8) (hc : cd.length ≤ 4200) (ht : tx.length ≤ 4200) : ref08_Check (a, p, 3, fr, to, cd, n, tx) = some (checkS (a, p, 3, fr, to, cd, n, tx)) :=
 refGen (k := 3) (fm := firmK 3) (dy := daysK 3) (cb := codeK 3 cd) (tb := textK 3 n tx) (tb' := tx == []) (lo := lowK 3) (hi := highK 3) (by decide) rfl rfl
  rfl
  (by unfold ref08_num; dsimp only; simp only [gPi, gSS, gPb, gPm, gPs, gM, gM2, gAnd, gOr, gAndI, gOrI, gAA, gAO, gOA, gOO, gAAf, gAOf, gOAf, gOOf, gAMf, gOMf, gId]; simp only [gIn1, gIn2, gIn3, gIn4, gIn5, gIn6, gIn7, gIn8, gId, gIdF, gMb, gMm, gBm, gBb, bs, ms]; rfl)
  rfl
  (fun _ _ => rfl)
theorem refCheck_4 (a p fr to n : Int) (cd tx : List UInt8) (hc : cd.length ≤ 4200) (ht : tx.length ≤ 4200) : ref08_Check (a, p, 4, fr, to, cd, n, tx) = some (checkS (a, p, 4, fr, to, cd, n, tx)) :=
 refGen (k := 4) (fm := firmK 4) (dy := daysK 4) (cb := codeK 4 cd) (tb := textK 4 n tx) (tb' := weekB tx) (lo := lowK 4) (hi := highK 4) (by decide) rfl rfl
  rfl
  (by unfold ref08_num; dsimp only; simp only [gPi, gSS, gPb, gPm, gPs, gM, gM2, gAnd, gOr, gAndI, gOrI, gAA, gAO, gOA, gOO, gAAf, gAOf, gOAf, gOOf, gAMf, gOMf, gId]; simp only [gIn1, gIn2, gIn3, gIn4, gIn5, gIn6, gIn7, gIn8, gId, gIdF, gMb, gMm, gBm, gBb, bs, ms]; rfl)
  (by obtain ⟨v, e, h1, h2⟩ := ref07_Parse_eq (s := tx) (by omega); refine (show ref08_text (a, p, 4, fr, to, cd, n, tx) = (ref07_Parse tx).bind fun x14 => some (x14.2 == 0) from rfl).trans ?_; rw [h1, bs, ← h2])
  (fun _ _ => rfl)
theorem refCheck_5 (a p fr to n : Int) (cd tx : List UInt8) (hc : cd.length ≤ 4200) (ht : tx.length ≤ 4200) : ref08_Check (a, p, 5, fr, to, cd, n, tx) = some (checkS (a, p, 5, fr, to, cd, n, tx)) :=
 refGen (k := 5) (fm := firmK 5) (dy := daysK 5) (cb := codeK 5 cd) (tb := textK 5 n tx) (tb' := weightsB tx) (lo := lowK 5) (hi := highK 5) (by decide) rfl rfl
  rfl
  (by unfold ref08_num; dsimp only; simp only [gPi, gSS, gPb, gPm, gPs, gM, gM2, gAnd, gOr, gAndI, gOrI, gAA, gAO, gOA, gOO, gAAf, gAOf, gOAf, gOOf, gAMf, gOMf, gId]; simp only [gIn1, gIn2, gIn3, gIn4, gIn5, gIn6, gIn7, gIn8, gId, gIdF, gMb, gMm, gBm, gBb, bs, ms]; rfl)
  ((show ref08_text (a, p, 5, fr, to, cd, n, tx) = (ref08_weights tx).bind fun x => some x from rfl).trans (by rw [refWeights_eq (by omega)]; rfl))
  (fun _ _ => rfl)
theorem refCheck_6 (a p fr to n : Int) (cd tx : List UInt8) (hc : cd.length ≤ 4200) (ht : tx.length ≤ 4200) : ref08_Check (a, p, 6, fr, to, cd, n, tx) = some (checkS (a, p, 6, fr, to, cd, n, tx)) :=
 refGen (k := 6) (fm := firmK 6) (dy := daysK 6) (cb := codeK 6 cd) (tb := textK 6 n tx) (tb' := tx == [] || tensB tx (IntKind.u64.wrap n)) (lo := lowK 6) (hi := highK 6) (by decide) rfl rfl
  (by show _ = some (cd == [] || nameB cd); unfold ref08_code; dsimp only; simp only [gPi, gSS, gPb, gPm, gPs, gM, gM2, gAnd, gOr, gAndI, gOrI, gAA, gAO, gOA, gOO, gAAf, gAOf, gOAf, gOOf, gAMf, gOMf, gId]; simp only [gIn1, gIn2, gIn3, gIn4, gIn5, gIn6, gIn7, gIn8, gId, gIdF, gMb, gMm, gBm, gBb, bs, ms]; rw [refWord_eq (by omega)]; cases cd == [] <;> rfl)
  (by unfold ref08_num; dsimp only; simp only [gPi, gSS, gPb, gPm, gPs, gM, gM2, gAnd, gOr, gAndI, gOrI, gAA, gAO, gOA, gOO, gAAf, gAOf, gOAf, gOOf, gAMf, gOMf, gId]; simp only [gIn1, gIn2, gIn3, gIn4, gIn5, gIn6, gIn7, gIn8, gId, gIdF, gMb, gMm, gBm, gBb, bs, ms]; rfl)
  (by refine (show ref08_text (a, p, 6, fr, to, cd, n, tx) = (ref08_Tens (tx, IntKind.u64.wrap n)).bind fun x32 => if (tx == []) = true then some true else if (tx == []) = false then some x32.2 else none from ?_).trans ?_; (unfold ref08_text; dsimp only; simp only [gPi, gSS, gPb, gPm, gPs, gM, gM2, gAnd, gOr, gAndI, gOrI, gAA, gAO, gOA, gOO, gAAf, gAOf, gOAf, gOOf, gAMf, gOMf, gId]; simp only [gIn1, gIn2, gIn3, gIn4, gIn5, gIn6, gIn7, gIn8, gId, gIdF, gMb, gMm, gBm, gBb, bs, ms]; rfl); rw [refTens_eq (by omega) (u64_le _).1 (u64_le _).2, bs]; cases tx == [] <;> cases tensB tx (IntKind.u64.wrap n) <;> rfl)
  (fun h1 h2 => by rw [show textK 6 n tx = (tx == [] || tensB tx (IntKind.u64.wrap (max n 0))) from rfl, Int.max_eq_left (show (0 : Int) ≤ n from h1)])
theorem refCheck_7 (a p fr to n : Int) (cd tx : List UInt8) (hc : cd.length ≤ 4200) (ht : tx.length ≤ 4200) : ref08_Check (a, p, 7, fr, to, cd, n, tx) = some (checkS (a, p, 7, fr, to, cd, n, tx)) :=
 refGen (k := 7) (fm := firmK 7) (dy := daysK 7) (cb := codeK 7 cd) (tb := textK 7 n tx) (tb' := tx == []) (lo := lowK 7) (hi := highK 7) (by decide) rfl rfl
  (by show _ = some (absB cd); unfold ref08_code absB; dsimp only; simp only [gPi, gSS, gPb, gPm, gPs, gM, gM2, gAnd, gOr, gAndI, gOrI, gAA, gAO, gOA, gOO, gAAf, gAOf, gOAf, gOOf, gAMf, gOMf, gId]; simp only [gIn1, gIn2, gIn3, gIn4, gIn5, gIn6, gIn7, gIn8, gId, gIdF, gMb, gMm, gBm, gBb, bs, ms]; obtain ⟨q1, h1⟩ : ∃ q, (cd == [115, 105, 99, 107]) = q := ⟨_, rfl⟩; obtain ⟨q2, h2⟩ : ∃ q, (cd == [108, 101, 97, 118, 101]) = q := ⟨_, rfl⟩; obtain ⟨q3, h3⟩ : ∃ q, (cd == [117, 110, 112, 97, 105, 100]) = q := ⟨_, rfl⟩; obtain ⟨q4, h4⟩ : ∃ q, (cd == [112, 97, 114, 101, 110, 116, 97, 108]) = q := ⟨_, rfl⟩; simp only [h1, h2, h3, h4]; cases q1 <;> cases q2 <;> cases q3 <;> cases q4 <;> rfl)
  (by unfold ref08_num; dsimp only; simp only [gPi, gSS, gPb, gPm, gPs, gM, gM2, gAnd, gOr, gAndI, gOrI, gAA, gAO, gOA, gOO, gAAf, gAOf, gOAf, gOOf, gAMf, gOMf, gId]; simp only [gIn1, gIn2, gIn3, gIn4, gIn5, gIn6, gIn7, gIn8, gId, gIdF, gMb, gMm, gBm, gBb, bs, ms]; rfl)
  rfl
  (fun _ _ => rfl)
theorem refCheck_8 (a p fr to n : Int) (cd tx : List UInt8) (hc : cd.length ≤ 4200) (ht : tx.length ≤ 4200) : ref08_Check (a, p, 8, fr, to, cd, n, tx) = some (checkS (a, p, 8, fr, to, cd, n, tx)) :=
 refGen (k := 8) (fm := firmK 8) (dy := daysK 8) (cb := codeK 8 cd) (tb := textK 8 n tx) (tb' := tx == []) (lo := lowK 8) (hi := highK 8) (by decide) rfl rfl
  (by unfold ref08_code; dsimp only; simp only [gPi, gSS, gPb, gPm, gPs, gM, gM2, gAnd, gOr, gAndI, gOrI, gAA, gAO, gOA, gOO, gAAf, gAOf, gOAf, gOOf, gAMf, gOMf, gId]; simp only [gIn1, gIn2, gIn3, gIn4, gIn5, gIn6, gIn7, gIn8, gId, gIdF, gMb, gMm, gBm, gBb, bs, ms]; exact refWord_eq (s := cd) (by omega))
  (by unfold ref08_num; dsimp only; simp only [gPi, gSS, gPb, gPm, gPs, gM, gM2, gAnd, gOr, gAndI, gOrI, gAA, gAO, gOA, gOO, gAAf, gAOf, gOAf, gOOf, gAMf, gOMf, gId]; simp only [gIn1, gIn2, gIn3, gIn4, gIn5, gIn6, gIn7, gIn8, gId, gIdF, gMb, gMm, gBm, gBb, bs, ms]; rfl)
  rfl
  (fun _ _ => rfl)
theorem refCheck_9 (a p fr to n : Int) (cd tx : List UInt8) (hc : cd.length ≤ 4200) (ht : tx.length ≤ 4200) : ref08_Check (a, p, 9, fr, to, cd, n, tx) = some (checkS (a, p, 9, fr, to, cd, n, tx)) :=
 refGen (k := 9) (fm := firmK 9) (dy := daysK 9) (cb := codeK 9 cd) (tb := textK 9 n tx) (tb' := tx == []) (lo := lowK 9) (hi := highK 9) (by decide) rfl rfl
  (by unfold ref08_code; dsimp only; simp only [gPi, gSS, gPb, gPm, gPs, gM, gM2, gAnd, gOr, gAndI, gOrI, gAA, gAO, gOA, gOO, gAAf, gAOf, gOAf, gOOf, gAMf, gOMf, gId]; simp only [gIn1, gIn2, gIn3, gIn4, gIn5, gIn6, gIn7, gIn8, gId, gIdF, gMb, gMm, gBm, gBb, bs, ms]; exact refWord_eq (s := cd) (by omega))
  (by unfold ref08_num; dsimp only; simp only [gPi, gSS, gPb, gPm, gPs, gM, gM2, gAnd, gOr, gAndI, gOrI, gAA, gAO, gOA, gOO, gAAf, gAOf, gOAf, gOOf, gAMf, gOMf, gId]; simp only [gIn1, gIn2, gIn3, gIn4, gIn5, gIn6, gIn7, gIn8, gId, gIdF, gMb, gMm, gBm, gBb, bs, ms]; rfl)
  rfl
  (fun _ _ => rfl)
theorem refCheck_10 (a p fr to n : Int) (cd tx : List UInt8) (hc : cd.length ≤ 4200) (ht : tx.length ≤ 4200) : ref08_Check (a, p, 10, fr, to, cd, n, tx) = some (checkS (a, p, 10, fr, to, cd, n, tx)) :=
 refGen (k := 10) (fm := firmK 10) (dy := daysK 10) (cb := codeK 10 cd) (tb := textK 10 n tx) (tb' := tx == []) (lo := lowK 10) (hi := highK 10) (by decide) rfl rfl
  (by unfold ref08_code; dsimp only; simp only [gPi, gSS, gPb, gPm, gPs, gM, gM2, gAnd, gOr, gAndI, gOrI, gAA, gAO, gOA, gOO, gAAf, gAOf, gOAf, gOOf, gAMf, gOMf, gId]; simp only [gIn1, gIn2, gIn3, gIn4, gIn5, gIn6, gIn7, gIn8, gId, gIdF, gMb, gMm, gBm, gBb, bs, ms]; exact refWord_eq (s := cd) (by omega))
  (by unfold ref08_num; dsimp only; simp only [gPi, gSS, gPb, gPm, gPs, gM, gM2, gAnd, gOr, gAndI, gOrI, gAA, gAO, gOA, gOO, gAAf, gAOf, gOAf, gOOf, gAMf, gOMf, gId]; simp only [gIn1, gIn2, gIn3, gIn4, gIn5, gIn6, gIn7, gIn8, gId, gIdF, gMb, gMm, gBm, gBb, bs, ms]; rfl)
  rfl
  (fun _ _ => rfl)
theorem refCheck_11 (a p fr to n : Int) (cd tx : List UInt8) (hc : cd.length ≤ 4200) (ht : tx.length ≤ 4200) : ref08_Check (a, p, 11, fr, to, cd, n, tx) = some (checkS (a, p, 11, fr, to, cd, n, tx)) :=
 refGen (k := 11) (fm := firmK 11) (dy := daysK 11) (cb := codeK 11 cd) (tb := textK 11 n tx) (tb' := nameB tx) (lo := lowK 11) (hi := highK 11) (by decide) rfl rfl
  rfl
  (by unfold ref08_num; dsimp only; simp only [gPi, gSS, gPb, gPm, gPs, gM, gM2, gAnd, gOr, gAndI, gOrI, gAA, gAO, gOA, gOO, gAAf, gAOf, gOAf, gOOf, gAMf, gOMf, gId]; simp only [gIn1, gIn2, gIn3, gIn4, gIn5, gIn6, gIn7, gIn8, gId, gIdF, gMb, gMm, gBm, gBb, bs, ms]; rfl)
  ((show ref08_text (a, p, 11, fr, to, cd, n, tx) = (ref08_Word tx).bind fun x => some x from rfl).trans (by rw [refWord_eq (by omega)]; rfl))
  (fun _ _ => rfl)
theorem refCheck_12 (a p fr to n : Int) (cd tx : List UInt8) (hc : cd.length ≤ 4200) (ht : tx.length ≤ 4200) : ref08_Check (a, p, 12, fr, to, cd, n, tx) = some (checkS (a, p, 12, fr, to, cd, n, tx)) :=
 refGen (k := 12) (fm := firmK 12) (dy := daysK 12) (cb := codeK 12 cd) (tb := textK 12 n tx) (tb' := orderB tx) (lo := lowK 12) (hi := highK 12) (by decide) rfl rfl
  (by unfold ref08_code; dsimp only; simp only [gPi, gSS, gPb, gPm, gPs, gM, gM2, gAnd, gOr, gAndI, gOrI, gAA, gAO, gOA, gOO, gAAf, gAOf, gOAf, gOOf, gAMf, gOMf, gId]; simp only [gIn1, gIn2, gIn3, gIn4, gIn5, gIn6, gIn7, gIn8, gId, gIdF, gMb, gMm, gBm, gBb, bs, ms]; exact refWord_eq (s := cd) (by omega))
  (by unfold ref08_num; dsimp only; simp only [gPi, gSS, gPb, gPm, gPs, gM, gM2, gAnd, gOr, gAndI, gOrI, gAA, gAO, gOA, gOO, gAAf, gAOf, gOAf, gOOf, gAMf, gOMf, gId]; simp only [gIn1, gIn2, gIn3, gIn4, gIn5, gIn6, gIn7, gIn8, gId, gIdF, gMb, gMm, gBm, gBb, bs, ms]; rfl)
  ((show ref08_text (a, p, 12, fr, to, cd, n, tx) = (ref08_order tx).bind fun x => some x from rfl).trans (by rw [(order_eq ht).2]; rfl))
  (fun _ _ => rfl)
theorem refCheck_13 (a p fr to n : Int) (cd tx : List UInt8) (hc : cd.length ≤ 4200) (ht : tx.length ≤ 4200) : ref08_Check (a, p, 13, fr, to, cd, n, tx) = some (checkS (a, p, 13, fr, to, cd, n, tx)) :=
 refGen (k := 13) (fm := firmK 13) (dy := daysK 13) (cb := codeK 13 cd) (tb := textK 13 n tx) (tb' := nameB tx) (lo := lowK 13) (hi := highK 13) (by decide) rfl rfl
  rfl
  (by unfold ref08_num; dsimp only; simp only [gPi, gSS, gPb, gPm, gPs, gM, gM2, gAnd, gOr, gAndI, gOrI, gAA, gAO, gOA, gOO, gAAf, gAOf, gOAf, gOOf, gAMf, gOMf, gId]; simp only [gIn1, gIn2, gIn3, gIn4, gIn5, gIn6, gIn7, gIn8, gId, gIdF, gMb, gMm, gBm, gBb, bs, ms]; rfl)
  ((show ref08_text (a, p, 13, fr, to, cd, n, tx) = (ref08_Word tx).bind fun x => some x from rfl).trans (by rw [refWord_eq (by omega)]; rfl))
  (fun _ _ => rfl)
theorem refCheck_14 (a p fr to n : Int) (cd tx : List UInt8) (hc : cd.length ≤ 4200) (ht : tx.length ≤ 4200) : ref08_Check (a, p, 14, fr, to, cd, n, tx) = some (checkS (a, p, 14, fr, to, cd, n, tx)) :=
 refGen (k := 14) (fm := firmK 14) (dy := daysK 14) (cb := codeK 14 cd) (tb := textK 14 n tx) (tb' := plainB tx) (lo := lowK 14) (hi := highK 14) (by decide) rfl rfl
  (by unfold ref08_code; dsimp only; simp only [gPi, gSS, gPb, gPm, gPs, gM, gM2, gAnd, gOr, gAndI, gOrI, gAA, gAO, gOA, gOO, gAAf, gAOf, gOAf, gOOf, gAMf, gOMf, gId]; simp only [gIn1, gIn2, gIn3, gIn4, gIn5, gIn6, gIn7, gIn8, gId, gIdF, gMb, gMm, gBm, gBb, bs, ms]; exact refWord_eq (s := cd) (by omega))
  (by unfold ref08_num; dsimp only; simp only [gPi, gSS, gPb, gPm, gPs, gM, gM2, gAnd, gOr, gAndI, gOrI, gAA, gAO, gOA, gOO, gAAf, gAOf, gOAf, gOOf, gAMf, gOMf, gId]; simp only [gIn1, gIn2, gIn3, gIn4, gIn5, gIn6, gIn7, gIn8, gId, gIdF, gMb, gMm, gBm, gBb, bs, ms]; rfl)
  ((show ref08_text (a, p, 14, fr, to, cd, n, tx) = (ref08_plain tx).bind fun x => some x from rfl).trans (by rw [refPlain_eq (by omega)]; rfl))
  (fun _ _ => rfl)
theorem refCheck_15 (a p fr to n : Int) (cd tx : List UInt8) (hc : cd.length ≤ 4200) (ht : tx.length ≤ 4200) : ref08_Check (a, p, 15, fr, to, cd, n, tx) = some (checkS (a, p, 15, fr, to, cd, n, tx)) :=
 refGen (k := 15) (fm := firmK 15) (dy := daysK 15) (cb := codeK 15 cd) (tb := textK 15 n tx) (tb' := !(tx == []) && plainB tx) (lo := lowK 15) (hi := highK 15) (by decide) rfl rfl
  (by unfold ref08_code; dsimp only; simp only [gPi, gSS, gPb, gPm, gPs, gM, gM2, gAnd, gOr, gAndI, gOrI, gAA, gAO, gOA, gOO, gAAf, gAOf, gOAf, gOOf, gAMf, gOMf, gId]; simp only [gIn1, gIn2, gIn3, gIn4, gIn5, gIn6, gIn7, gIn8, gId, gIdF, gMb, gMm, gBm, gBb, bs, ms]; exact refWord_eq (s := cd) (by omega))
  (by unfold ref08_num; dsimp only; simp only [gPi, gSS, gPb, gPm, gPs, gM, gM2, gAnd, gOr, gAndI, gOrI, gAA, gAO, gOA, gOO, gAAf, gAOf, gOAf, gOOf, gAMf, gOMf, gId]; simp only [gIn1, gIn2, gIn3, gIn4, gIn5, gIn6, gIn7, gIn8, gId, gIdF, gMb, gMm, gBm, gBb, bs, ms]; rfl)
  (by refine (show ref08_text (a, p, 15, fr, to, cd, n, tx) = (if (!(tx == [])) = true then ref08_plain tx else some false) from ?_).trans ?_; (unfold ref08_text; dsimp only; simp only [gPi, gSS, gPb, gPm, gPs, gM, gM2, gAnd, gOr, gAndI, gOrI, gAA, gAO, gOA, gOO, gAAf, gAOf, gOAf, gOOf, gAMf, gOMf, gId]; simp only [gIn1, gIn2, gIn3, gIn4, gIn5, gIn6, gIn7, gIn8, gId, gIdF, gMb, gMm, gBm, gBb, bs, ms]; rfl); rw [refPlain_eq (by omega)]; cases tx == [] <;> rfl)
  (fun _ _ => rfl)
theorem refCheck_16 (a p fr to n : Int) (cd tx : List UInt8) (hc : cd.length ≤ 4200) (ht : tx.length ≤ 4200) : ref08_Check (a, p, 16, fr, to, cd, n, tx) = some (checkS (a, p, 16, fr, to, cd, n, tx)) :=
 refGen (k := 16) (fm := firmK 16) (dy := daysK 16) (cb := codeK 16 cd) (tb := textK 16 n tx) (tb' := tx == []) (lo := lowK 16) (hi := highK 16) (by decide) rfl rfl
  rfl
  (by unfold ref08_num; dsimp only; simp only [gPi, gSS, gPb, gPm, gPs, gM, gM2, gAnd, gOr, gAndI, gOrI, gAA, gAO, gOA, gOO, gAAf, gAOf, gOAf, gOOf, gAMf, gOMf, gId]; simp only [gIn1, gIn2, gIn3, gIn4, gIn5, gIn6, gIn7, gIn8, gId, gIdF, gMb, gMm, gBm, gBb, bs, ms]; rfl)
  rfl
  (fun _ _ => rfl)
theorem refCheck_17 (a p fr to n : Int) (cd tx : List UInt8) (hc : cd.length ≤ 4200) (ht : tx.length ≤ 4200) : ref08_Check (a, p, 17, fr, to, cd, n, tx) = some (checkS (a, p, 17, fr, to, cd, n, tx)) :=
 refGen (k := 17) (fm := firmK 17) (dy := daysK 17) (cb := codeK 17 cd) (tb := textK 17 n tx) (tb' := tx == []) (lo := lowK 17) (hi := highK 17) (by decide) rfl rfl
  rfl
  (by unfold ref08_num; dsimp only; simp only [gPi, gSS, gPb, gPm, gPs, gM, gM2, gAnd, gOr, gAndI, gOrI, gAA, gAO, gOA, gOO, gAAf, gAOf, gOAf, gOOf, gAMf, gOMf, gId]; simp only [gIn1, gIn2, gIn3, gIn4, gIn5, gIn6, gIn7, gIn8, gId, gIdF, gMb, gMm, gBm, gBb, bs, ms]; rfl)
  rfl
  (fun _ _ => rfl)
theorem refCheck_18 (a p fr to n : Int) (cd tx : List UInt8) (hc : cd.length ≤ 4200) (ht : tx.length ≤ 4200) : ref08_Check (a, p, 18, fr, to, cd, n, tx) = some (checkS (a, p, 18, fr, to, cd, n, tx)) :=
 refGen (k := 18) (fm := firmK 18) (dy := daysK 18) (cb := codeK 18 cd) (tb := textK 18 n tx) (tb' := tx == []) (lo := lowK 18) (hi := highK 18) (by decide) rfl rfl
  rfl
  (by unfold ref08_num; dsimp only; simp only [gPi, gSS, gPb, gPm, gPs, gM, gM2, gAnd, gOr, gAndI, gOrI, gAA, gAO, gOA, gOO, gAAf, gAOf, gOAf, gOOf, gAMf, gOMf, gId]; simp only [gIn1, gIn2, gIn3, gIn4, gIn5, gIn6, gIn7, gIn8, gId, gIdF, gMb, gMm, gBm, gBb, bs, ms]; rfl)
  rfl
  (fun _ _ => rfl)
theorem refCheck_eq (x : Int × Int × Int × Int × Int × List UInt8 × Int × List UInt8) (hc : x.2.2.2.2.2.1.length ≤ 4200) (ht : x.2.2.2.2.2.2.2.length ≤ 4200) : ref08_Check x = some (checkS x) := by
 obtain ⟨a, p, k, fr, to, cd, n, tx⟩ := x
 by_cases h : 1 ≤ k ∧ k ≤ 18
 ·rcases kinds18 h with rfl | rfl | rfl | rfl | rfl | rfl | rfl | rfl | rfl | rfl | rfl | rfl | rfl | rfl | rfl | rfl | rfl | rfl
  ·exact refCheck_1 a p fr to n cd tx hc ht
  ·exact refCheck_2 a p fr to n cd tx hc ht
  ·exact refCheck_3 a p fr to n cd tx hc ht
  ·exact refCheck_4 a p fr to n cd tx hc ht
  ·exact refCheck_5 a p fr to n cd tx hc ht
  ·exact refCheck_6 a p fr to n cd tx hc ht
  ·exact refCheck_7 a p fr to n cd tx hc ht
  ·exact refCheck_8 a p fr to n cd tx hc ht
  ·exact refCheck_9 a p fr to n cd tx hc ht
  ·exact refCheck_10 a p fr to n cd tx hc ht
  ·exact refCheck_11 a p fr to n cd tx hc ht
  ·exact refCheck_12 a p fr to n cd tx hc ht
  ·exact refCheck_13 a p fr to n cd tx hc ht
  ·exact refCheck_14 a p fr to n cd tx hc ht
  ·exact refCheck_15 a p fr to n cd tx hc ht
  ·exact refCheck_16 a p fr to n cd tx hc ht
  ·exact refCheck_17 a p fr to n cd tx hc ht
  ·exact refCheck_18 a p fr to n cd tx hc ht
 ·unfold ref08_Check checkS
  dsimp only
  rw [if_neg h]
  simp only [gPi, gSS, gPb, gPm, gPs, gM, gM2, gAnd, gOr, gAndI, gOrI, gAA, gAO, gOA, gOO, gAAf, gAOf, gOAf, gOOf, gAMf, gOMf, gId]
  simp only [gIn1, gIn2, gIn3, gIn4, gIn5, gIn6, gIn7, gIn8, gId, gIdF, gMb, gMm, gBm, gBb, bs, ms]
  by_cases h1 : k < 1
  ·simp only [decide_eq_true h1, if_true, bs]
  ·simp only [decide_eq_false h1, decide_eq_true (show k > 18 by omega), Bool.false_eq_true, if_false, if_true, bs]
theorem check_eq (x : Int × Int × Int × Int × Int × List UInt8 × Int × List UInt8) (hc : x.2.2.2.2.2.1.length ≤ 4200) (ht : x.2.2.2.2.2.2.2.length ≤ 4200) : fact_Fact_Check x = some (checkS x) := by
 obtain ⟨a, p, k, fr, to, cd, n, tx⟩ := x
 by_cases h : 1 ≤ k ∧ k ≤ 18
 ·rcases kinds18 h with rfl | rfl | rfl | rfl | rfl | rfl | rfl | rfl | rfl | rfl | rfl | rfl | rfl | rfl | rfl | rfl | rfl | rfl
  ·exact check_1 a p fr to n cd tx hc ht
  ·exact check_2 a p fr to n cd tx hc ht
  ·exact check_3 a p fr to n cd tx hc ht
  ·exact check_4 a p fr to n cd tx hc ht
  ·exact check_5 a p fr to n cd tx hc ht
  ·exact check_6 a p fr to n cd tx hc ht
  ·exact check_7 a p fr to n cd tx hc ht
  ·exact check_8 a p fr to n cd tx hc ht
  ·exact check_9 a p fr to n cd tx hc ht
  ·exact check_10 a p fr to n cd tx hc ht
  ·exact check_11 a p fr to n cd tx hc ht
  ·exact check_12 a p fr to n cd tx hc ht
  ·exact check_13 a p fr to n cd tx hc ht
  ·exact check_14 a p fr to n cd tx hc ht
  ·exact check_15 a p fr to n cd tx hc ht
  ·exact check_16 a p fr to n cd tx hc ht
  ·exact check_17 a p fr to n cd tx hc ht
  ·exact check_18 a p fr to n cd tx hc ht
 ·unfold fact_Fact_Check checkS
  dsimp only
  rw [fact_known_eq, bs, decide_eq_false h, if_neg h]
  rfl
end WB
namespace WB
open Go Go.RowKit
set_option linter.unusedSimpArgs false
set_option linter.unusedVariables false
set_option maxHeartbeats 1000000
noncomputable def coversS (x : Int × Int × Int × Int × Int × List UInt8 × Int × List UInt8) (d : Int) : Bool :=
 if checkS x ≠ 0 ∨ x.2.2.1 = 18 then false else if daysK x.2.2.1 = true then decide (d ≥ x.2.2.2.1) && ((x.2.2.2.2.1 == 0) || decide (d < x.2.2.2.2.1)) else d == x.2.2.2.1
theorem covers_fin {fr to d : Int} {dy : Bool} : (if dy = true then (if decide (d ≥ fr) = true then if (to == 0) = true then some true else some (decide (d < to)) else some false) else some (d == fr)) = some (if dy = true then decide (d ≥ fr) && ((to == 0) || decide (d < to)) else d == fr) := by
 obtain ⟨q1, h1⟩ : ∃ q, decide (d ≥ fr) = q := ⟨_, rfl⟩
 obtain ⟨q2, h2⟩ : ∃ q, (to == 0) = q := ⟨_, rfl⟩
 simp only [h1, h2]
 cases dy <;> cases q1 <;> cases q2 <;> rfl
theorem covers_eq (x : Int × Int × Int × Int × Int × List UInt8 × Int × List UInt8) (d : Int) (hc : x.2.2.2.2.2.1.length ≤ 4200) (ht : x.2.2.2.2.2.2.2.length ≤ 4200) : fact_Fact_Covers (x, d) = some (coversS x d) := by
 have hk := check_eq x hc ht
 obtain ⟨a, p, k, fr, to, cd, n, tx⟩ := x
 unfold fact_Fact_Covers coversS
 dsimp only at hc ht ⊢
 simp only [gPi, gSS, gPb, gPm, gPs, gM, gM2, gAnd, gOr, gAndI, gOrI, gAA, gAO, gOA, gOO, gAAf, gAOf, gOAf, gOOf, gAMf, gOMf, gId]
 simp only [gIn1, gIn2, gIn3, gIn4, gIn5, gIn6, gIn7, gIn8, gId, gIdF, gMb, gMm, gBm, gBb, bs, ms]
 rw [hk, bs]
 by_cases h0 : checkS (a, p, k, fr, to, cd, n, tx) = 0
 ·have hr : 1 ≤ k ∧ k ≤ 18 := by
   by_cases h : 1 ≤ k ∧ k ≤ 18
   ·exact h
   ·unfold checkS at h0
    dsimp only at h0
    rw [if_neg h] at h0
    cases h0
  rw [h0]
  by_cases h18 : k = 18
  ·subst h18
   rw [if_pos (show (0 : Int) ≠ 0 ∨ (18 : Int) = 18 from .inr rfl)]
   rfl
  ·rw [if_neg (show ¬ ((0 : Int) ≠ 0 ∨ k = 18) from fun hh => hh.elim (fun h => h rfl) h18)]
   have c18 : (k == 18) = false := by simpa using h18
   simp only [c18, show ((0 : Int) != 0) = false from rfl, Bool.false_eq_true, if_false, bs]
   rw [show fact_rules () = some _ from rfl, bs]
   dsimp only
   rcases kinds18 hr with rfl | rfl | rfl | rfl | rfl | rfl | rfl | rfl | rfl | rfl | rfl | rfl | rfl | rfl | rfl | rfl | rfl | rfl
   ·rw [show lAt _ (1 : Int) = some _ from lAt_nat (i := 1) rfl, bs]
    exact covers_fin
   ·rw [show lAt _ (2 : Int) = some _ from lAt_nat (i := 2) rfl, bs]
    exact covers_fin
   ·rw [show lAt _ (3 : Int) = some _ from lAt_nat (i := 3) rfl, bs]
    exact covers_fin
   ·rw [show lAt _ (4 : Int) = some _ from lAt_nat (i := 4) rfl, bs]
    exact covers_fin
   ·rw [show lAt _ (5 : Int) = some _ from lAt_nat (i := 5) rfl, bs]
    exact covers_fin
   ·rw [show lAt _ (6 : Int) = some _ from lAt_nat (i := 6) rfl, bs]
    exact covers_fin
   ·rw [show lAt _ (7 : Int) = some _ from lAt_nat (i := 7) rfl, bs]
    exact covers_fin
   ·rw [show lAt _ (8 : Int) = some _ from lAt_nat (i := 8) rfl, bs]
    exact covers_fin
   ·rw [show lAt _ (9 : Int) = some _ from lAt_nat (i := 9) rfl, bs]
    exact covers_fin
   ·rw [show lAt _ (10 : Int) = some _ from lAt_nat (i := 10) rfl, bs]
    exact covers_fin
   ·rw [show lAt _ (11 : Int) = some _ from lAt_nat (i := 11) rfl, bs]
    exact covers_fin
   ·rw [show lAt _ (12 : Int) = some _ from lAt_nat (i := 12) rfl, bs]
    exact covers_fin
   ·rw [show lAt _ (13 : Int) = some _ from lAt_nat (i := 13) rfl, bs]
    exact covers_fin
   ·rw [show lAt _ (14 : Int) = some _ from lAt_nat (i := 14) rfl, bs]
    exact covers_fin
   ·rw [show lAt _ (15 : Int) = some _ from lAt_nat (i := 15) rfl, bs]
    exact covers_fin
   ·rw [show lAt _ (16 : Int) = some _ from lAt_nat (i := 16) rfl, bs]
    exact covers_fin
   ·rw [show lAt _ (17 : Int) = some _ from lAt_nat (i := 17) rfl, bs]
    exact covers_fin
   ·exact absurd rfl h18
 ·have c0 : (checkS (a, p, k, fr, to, cd, n, tx) != 0) = true := by simpa using h0
  rw [c0, if_pos (show checkS (a, p, k, fr, to, cd, n, tx) ≠ 0 ∨ k = 18 from .inl h0)]
  rfl
theorem refCovers_eq (x : Int × Int × Int × Int × Int × List UInt8 × Int × List UInt8) (d : Int) (hc : x.2.2.2.2.2.1.length ≤ 4200) (ht : x.2.2.2.2.2.2.2.length ≤ 4200) : ref08_Covers (x, d) = some (coversS x d) := by
 have hk := refCheck_eq x hc ht
 obtain ⟨a, p, k, fr, to, cd, n, tx⟩ := x
 unfold ref08_Covers coversS
 dsimp only at hc ht ⊢
 simp only [gPi, gSS, gPb, gPm, gPs, gM, gM2, gAnd, gOr, gAndI, gOrI, gAA, gAO, gOA, gOO, gAAf, gAOf, gOAf, gOOf, gAMf, gOMf, gId]
 simp only [gIn1, gIn2, gIn3, gIn4, gIn5, gIn6, gIn7, gIn8, gId, gIdF, gMb, gMm, gBm, gBb, bs, ms]
 rw [hk, bs]
 by_cases h0 : checkS (a, p, k, fr, to, cd, n, tx) = 0
 ·have hr : 1 ≤ k ∧ k ≤ 18 := by
   by_cases h : 1 ≤ k ∧ k ≤ 18
   ·exact h
   ·unfold checkS at h0
    dsimp only at h0
    rw [if_neg h] at h0
    cases h0
  rw [h0]
  by_cases h18 : k = 18
  ·subst h18
   rw [if_pos (show (0 : Int) ≠ 0 ∨ (18 : Int) = 18 from .inr rfl)]
   rfl
  ·rw [if_neg (show ¬ ((0 : Int) ≠ 0 ∨ k = 18) from fun hh => hh.elim (fun h => h rfl) h18)]
   have c18 : (k == 18) = false := by simpa using h18
   simp only [c18, show ((0 : Int) != 0) = false from rfl, Bool.false_eq_true, if_false, bs]
   have hD : ref08_Days k = some (daysK k) := by
    rcases kinds18 hr with rfl | rfl | rfl | rfl | rfl | rfl | rfl | rfl | rfl | rfl | rfl | rfl | rfl | rfl | rfl | rfl | rfl | rfl <;> rfl
   rw [hD, bs]
   have e : (if (!daysK k) = true then some (d == fr) else if decide (d ≥ fr) = true then if (to == 0) = true then some true else some (decide (d < to)) else some false) = (if daysK k = true then (if decide (d ≥ fr) = true then if (to == 0) = true then some true else some (decide (d < to)) else some false) else some (d == fr)) := by
    cases daysK k <;> rfl
   rw [e]
   exact covers_fin
 ·have c0 : (checkS (a, p, k, fr, to, cd, n, tx) != 0) = true := by simpa using h0
  rw [c0, if_pos (show checkS (a, p, k, fr, to, cd, n, tx) ≠ 0 ∨ k = 18 from .inl h0)]
  rfl
theorem short_eq (x : Int × Int × Int × Int × Int × List UInt8 × Int × List UInt8) : ref08_Short x = some (decide (x.2.2.2.2.2.1.length ≤ 300) && decide (x.2.2.2.2.2.2.2.length ≤ 4200)) := by
 unfold ref08_Short
 dsimp only
 simp only [gPi, gSS, gPb, gPm, gPs, gM, gM2, gAnd, gOr, gAndI, gOrI, gAA, gAO, gOA, gOO, gAAf, gAOf, gOAf, gOOf, gAMf, gOMf, gId]
 simp only [gIn1, gIn2, gIn3, gIn4, gIn5, gIn6, gIn7, gIn8, gId, gIdF, gMb, gMm, gBm, gBb, bs, ms]
 by_cases h1 : x.2.2.2.2.2.1.length ≤ 300
 ·rw [decide_eq_true (show (x.2.2.2.2.2.1.length : Int) ≤ 300 by omega), if_pos rfl, decide_eq_true h1, Bool.true_and]
  congr 1
  apply decide_eq_decide.2
  omega
 ·rw [decide_eq_false (show ¬ (x.2.2.2.2.2.1.length : Int) ≤ 300 by omega), if_neg (by decide), decide_eq_false h1, Bool.false_and]
theorem of_eq (x : Int × Int × Int × Int × Int × List UInt8 × Int × List UInt8) : law08_of x = some x := rfl
theorem law_FactCovers (haw : law08_awake () = some true) (x : Int × Int × Int × Int × Int × List UInt8 × Int × List UInt8) (d : Int) (hf : -9223372036854775808 ≤ x.2.2.2.1 ∧ x.2.2.2.1 ≤ 9223372036854775807) (hd : -9223372036854775808 ≤ d ∧ d ≤ 9223372036854775807) : law08_FactCovers (x, d) = some true := by
 obtain ⟨a, p, k, fr, to, cd, n, tx⟩ := x
 unfold law08_FactCovers
 dsimp only at hf ⊢
 simp only [gPi, gSS, gPb, gPm, gPs, gM, gM2, gAnd, gOr, gAndI, gOrI, gAA, gAO, gOA, gOO, gAAf, gAOf, gOAf, gOOf, gAMf, gOMf, gId]
 simp only [gIn1, gIn2, gIn3, gIn4, gIn5, gIn6, gIn7, gIn8, gId, gIdF, gMb, gMm, gBm, gBb, bs, ms]
 rw [haw, bs]
 simp only [Bool.not_true, Bool.false_eq_true, if_false]
 rw [of_eq, bs, short_eq, bs]
 dsimp only
 by_cases h : cd.length ≤ 300 ∧ tx.length ≤ 4200
 ·rw [decide_eq_true h.1, decide_eq_true h.2]
  simp only [Bool.and_self, Bool.not_true, Bool.false_eq_true, if_false]
  have hcv := fun d => covers_eq (a, p, k, fr, to, cd, n, tx) d (show cd.length ≤ 4200 by omega) h.2
  have hrv := fun d => refCovers_eq (a, p, k, fr, to, cd, n, tx) d (show cd.length ≤ 4200 by omega) h.2
  simp only [hcv, hrv, bs]
  rw [show (!(coversS (a, p, k, fr, to, cd, n, tx) d == coversS (a, p, k, fr, to, cd, n, tx) d)) = false by simp]
  simp only [Bool.false_eq_true, if_false]
  cases hcd : coversS (a, p, k, fr, to, cd, n, tx) d with
  | false => rfl
  | true =>
   simp only [Bool.not_true, Bool.false_eq_true, if_false]
   have hchk : checkS (a, p, k, fr, to, cd, n, tx) = 0 ∧ k ≠ 18 := by
    unfold coversS at hcd
    split at hcd
    ·cases hcd
    ·rename_i hh
     exact ⟨by simpa using fun h' => hh (.inl h'), fun h' => hh (.inr h')⟩
   have hr : 1 ≤ k ∧ k ≤ 18 := by
    by_cases h : 1 ≤ k ∧ k ≤ 18
    ·exact h
    ·have := hchk.1
     unfold checkS at this
     dsimp only at this
     rw [if_neg h] at this
     cases this
   have hcov : ∀ e, coversS (a, p, k, fr, to, cd, n, tx) e = if daysK k = true then decide (e ≥ fr) && ((to == 0) || decide (e < to)) else e == fr := by
    intro e
    unfold coversS
    rw [if_neg (fun hh => hh.elim (fun h' => h' hchk.1) hchk.2)]
   have hD : daysS k (daysK k) fr to = 0 := by
    have := hchk.1
    unfold checkS at this
    dsimp only at this
    rw [if_pos hr] at this
    unfold checkG at this
    by_cases h1 : (!(firmK k == (p == 0))) = true
    ·rw [if_pos h1] at this; cases this
    ·rw [if_neg h1] at this
     by_cases h2 : daysS k (daysK k) fr to = 0
     ·exact h2
     ·have h3 : (daysS k (daysK k) fr to != 0) = true := by simpa using h2
      rw [if_pos h3] at this
      exact absurd this h2
   unfold daysS at hD
   have g1 : ¬ ((k == 18 && fr != 0) || decide (fr < -25567) || decide (fr > 84005)) = true := by
    intro hh; rw [if_pos hh] at hD; cases hD
   rw [if_neg g1] at hD
   have g2 : ¬ ((to != 0) && (!daysK k || decide (to ≤ fr))) = true := by
    intro hh; rw [if_pos hh] at hD; cases hD
   have hfr : -25567 ≤ fr ∧ fr ≤ 84005 := by
    simp only [Bool.or_eq_true, decide_eq_true_eq, not_or] at g1
    omega
   have w1 : IntKind.i64.wrap (fr - 1) = fr - 1 := w64' (by omega) (by omega)
   rw [hcov] at hcd
   rw [w1]
   simp only [hcov]
   cases hdy : daysK k with
   | true =>
    rw [hdy] at hcd g2
    simp only [if_true, Bool.and_eq_true, decide_eq_true_eq, Bool.or_eq_true, beq_iff_eq] at hcd
    have w2 : IntKind.i64.wrap (d - 1) = d - 1 := w64' (by omega) (by omega)
    rw [w2]
    have t0 : to = 0 ∨ fr < to := by
     by_cases h0 : to = 0
     ·exact .inl h0
     ·right
      have : (to != 0) = true := by simpa using h0
      rw [this] at g2
      simpa using g2
    simp only [if_true]
    by_cases h0 : to = 0
    ·subst h0
     have b1 : decide (fr ≥ fr) = true := decide_eq_true (by omega)
     have b2 : decide (d ≥ fr) = true := decide_eq_true hcd.1
     have b3 : decide (fr - 1 ≥ fr) = false := decide_eq_false (by omega)
     have z : ((0 : Int) == 0) = true := rfl
     simp only [b1, b2, b3, z, if_true, bs, Bool.true_or, Bool.true_and, Bool.false_and, Bool.not_false]
     by_cases hdf : d = fr
     ·have : (d == fr) = true := by simpa using hdf
      simp only [this, if_true, bs]
     ·have b4 : (d == fr) = false := by simpa using hdf
      have b5 : decide (d - 1 ≥ fr) = true := decide_eq_true (by omega)
      simp only [b4, b5, Bool.false_eq_true, if_false, Bool.true_and, bs, if_true]
    ·have z : (to == 0) = false := by simpa using h0
     have hdt : d < to := hcd.2.resolve_left h0
     have b1 : decide (fr ≥ fr) = true := decide_eq_true (by omega)
     have b2 : decide (d ≥ fr) = true := decide_eq_true hcd.1
     have b3 : decide (fr - 1 ≥ fr) = false := decide_eq_false (by omega)
     have b6 : decide (fr < to) = true := decide_eq_true (by omega)
     have b7 : decide (d < to) = true := decide_eq_true hdt
     have b8 : decide (to < to) = false := decide_eq_false (by omega)
     simp only [b1, b2, b3, b6, b7, b8, z, if_true, bs, Bool.false_or, Bool.true_and, Bool.false_and, Bool.not_false, Bool.and_false, Bool.false_eq_true, if_false]
     by_cases hdf : d = fr
     ·have : (d == fr) = true := by simpa using hdf
      simp only [this, if_true, bs]
     ·have b4 : (d == fr) = false := by simpa using hdf
      have b5 : decide (d - 1 ≥ fr) = true := decide_eq_true (by omega)
      have b9 : decide (d - 1 < to) = true := decide_eq_true (by omega)
      simp only [b4, b5, b9, Bool.false_eq_true, if_false, Bool.true_and, bs, if_true]
   | false =>
    rw [hdy] at hcd g2
    simp only [Bool.false_eq_true, if_false, beq_iff_eq] at hcd
    subst hcd
    have t0 : to = 0 := by
     by_cases h0 : to = 0
     ·exact h0
     ·have : (to != 0) = true := by simpa using h0
      rw [this] at g2
      simp at g2
    subst t0
    have b1 : decide (d ≥ d) = true := decide_eq_true (by omega)
    have b2 : (d == d) = true := by simp
    have b3 : (d - 1 == d) = false := by
     have : ¬ d - 1 = d := by omega
     simpa using this
    have z : ((0 : Int) == 0) = true := rfl
    simp only [b1, b2, b3, z, Bool.false_eq_true, if_false, if_true, bs, Bool.not_false]
 ·have : (decide (cd.length ≤ 300) && decide (tx.length ≤ 4200)) = false := by
   by_cases h1 : cd.length ≤ 300
   ·have h2 : ¬ tx.length ≤ 4200 := fun h2 => h ⟨h1, h2⟩
    rw [decide_eq_false h2, Bool.and_false]
   ·rw [decide_eq_false h1, Bool.false_and]
  rw [this]
  rfl
end WB
namespace WB
open Go Go.RowKit
set_option linter.unusedSimpArgs false
set_option linter.unusedVariables false
set_option maxHeartbeats 1000000
end WB

