/-
 OWN TEXTS, MERGED (wip/merge.py): Pcv, Pfj, Pfm. No condition of their own.
-/
import Derived.Test.YtlglbkbfmhelcaaGreatDoorK7
import Derived.Test.YtlglbkbfmhelcaaGreatDoorK6
import Derived.Test.YtlglbkbfmhelcaaGreatDoorK10
import Derived.Test.YtlglbkbfmhelcaaGreatDoorK8
set_option linter.unusedVariables false
set_option linter.unusedSimpArgs false
namespace WB
open Go Go.RowKit
set_option linter.unusedSimpArgs false
set_option linter.unusedVariables false
theorem cvL {S T : Type} {b : S → Option (S ⊕ T)} {s s' : S} (h : b s = some (.inl s')) : iter b s = iter b s' := by rw [iter_eq, h]; rfl
theorem cvR {S T : Type} {b : S → Option (S ⊕ T)} {s : S} {t : T} (h : b s = some (.inr t)) : iter b s = some t := by rw [iter_eq, h]; rfl
def lpN (y : Nat) : Bool := y % 4 == 0 && (y % 100 != 0 || y % 400 == 0)
def lensN : List Nat := [31, 28, 31, 30, 31, 30, 31, 31, 30, 31, 30, 31]
def mdN (y m : Nat) : Nat := if m = 2 ∧ lpN y = true then 29 else lensN.getD (m - 1) 0
def stN (y : Nat) : Nat := (365 * (y - 1900) + (y - 1) / 4 + (y - 1) / 400) - ((y - 1) / 100 + 460)
def msN (y : Nat) : Nat → Nat
 | 0 => 0
 | m + 1 => msN y m + mdN y (m + 1)
theorem st_next0 : ∀ k, k < 300 → stN (1900 + k + 1) = stN (1900 + k) + msN (1900 + k) 12 := by decide +kernel
theorem st_le0 : ∀ k, k < 301 → stN (1900 + k) ≤ 366 * k := by decide +kernel
theorem st_sub0 : ∀ k, k < 301 → (1900 + k - 1) / 100 + 460 ≤ 365 * k + (1900 + k - 1) / 4 + (1900 + k - 1) / 400 := by decide +kernel
theorem st_end : stN 2200 = 109573 := by decide
theorem st_next {y : Nat} (h : 1900 ≤ y ∧ y ≤ 2199) : stN (y + 1) = stN y + msN y 12 := by
 have := st_next0 (y - 1900) (by omega)
 rw [show 1900 + (y - 1900) = y by omega] at this
 exact this
theorem leap_eq {y : Nat} : civil_leap (y : Int) = some (lpN y) := by
 unfold civil_leap lpN
 dsimp only
 try simp only [gPi, gSS, gPb, gPm, gPs, gM, gM2, gAnd, gOr, gAndI, gOrI, gAA, gAO, gOA, gOO, gAAf, gAOf, gOAf, gOOf, gAMf, gOMf, gId]
 try simp only [gIn1, gIn2, gIn3, gIn4, gIn5, gIn6, gIn7, gIn8, gId, gIdF, gMb, gMm, gBm, gBb, bs, ms]
 have h4 : ((y : Int)).tmod 4 = ((y % 4 : Nat) : Int) := by rw [Int.tmod_eq_emod_of_nonneg (by omega)]; rfl
 have h100 : ((y : Int)).tmod 100 = ((y % 100 : Nat) : Int) := by rw [Int.tmod_eq_emod_of_nonneg (by omega)]; rfl
 have h400 : ((y : Int)).tmod 400 = ((y % 400 : Nat) : Int) := by rw [Int.tmod_eq_emod_of_nonneg (by omega)]; rfl
 rw [h4, h100, h400]
 simp only [bs, show ¬ ((4 : Int) = 0) by decide, show ¬ ((100 : Int) = 0) by decide, show ¬ ((400 : Int) = 0) by decide, if_false]
 have c : ∀ n : Nat, ((n : Int) == 0) = (n == 0) := fun n => by rw [Bool.eq_iff_iff, beq_iff_eq, beq_iff_eq]; omega
 have c' : ∀ n : Nat, ((n : Int) != 0) = (n != 0) := fun n => by rw [Bool.eq_iff_iff, bne_iff_ne, bne_iff_ne]; omega
 rw [c, c, c']
 cases (y % 4 == 0) <;> cases (y % 100 != 0) <;> rfl
theorem md_eq {y m : Nat} (hy : 1900 ≤ y ∧ y ≤ 2199) (hm : 1 ≤ m ∧ m ≤ 12) : civil_MonthDays ((y : Int), (m : Int)) = some (mdN y m : Int) := by
 unfold civil_MonthDays mdN
 dsimp only
 try simp only [gPi, gSS, gPb, gPm, gPs, gM, gM2, gAnd, gOr, gAndI, gOrI, gAA, gAO, gOA, gOO, gAAf, gAOf, gOAf, gOOf, gAMf, gOMf, gId]
 try simp only [gIn1, gIn2, gIn3, gIn4, gIn5, gIn6, gIn7, gIn8, gId, gIdF, gMb, gMm, gBm, gBb, bs, ms]
 rw [decide_eq_false (show ¬ ((y : Int) < 1900) by omega), decide_eq_false (show ¬ ((y : Int) > 2199) by omega), decide_eq_false (show ¬ ((m : Int) < 1) by omega), decide_eq_false (show ¬ ((m : Int) > 12) by omega)]
 simp only [Bool.false_eq_true, if_false, bs]
 have w : IntKind.i64.wrap ((m : Int) - 1) = ((m - 1 : Nat) : Int) := by rw [w64' (by omega) (by omega)]; omega
 have hl : lAt [(31 : Int), 28, 31, 30, 31, 30, 31, 31, 30, 31, 30, 31] ((m - 1 : Nat) : Int) = some ((lensN.getD (m - 1) 0 : Nat) : Int) := by
  have : ∀ k : Nat, k < 12 → lAt [(31 : Int), 28, 31, 30, 31, 30, 31, 31, 30, 31, 30, 31] (k : Int) = some ((lensN.getD k 0 : Nat) : Int) := by decide
  exact this _ (by omega)
 rw [w, leap_eq]
 by_cases h2 : m = 2
 ·have d : ((m : Int) == 2) = true := by rw [beq_iff_eq]; omega
  rw [d, if_pos rfl, bs]
  cases hp : lpN y with
  | true => rw [if_pos rfl, if_pos ⟨h2, rfl⟩]; rfl
  | false => rw [if_neg (by decide), if_neg (fun h => by cases h.2)]; exact hl
 ·have d : ((m : Int) == 2) = false := by rw [beq_eq_false_iff_ne]; omega
  rw [d, if_neg (by decide), bs, if_neg (by decide), if_neg (fun h => h2 h.1)]
  exact hl
theorem st_eq {y : Nat} (hy : 1900 ≤ y ∧ y ≤ 2200) : civil_start (y : Int) = some (stN y : Int) := by
 unfold civil_start
 dsimp only
 try simp only [gPi, gSS, gPb, gPm, gPs, gM, gM2, gAnd, gOr, gAndI, gOrI, gAA, gAO, gOA, gOO, gAAf, gAOf, gOAf, gOOf, gAMf, gOMf, gId]
 try simp only [gIn1, gIn2, gIn3, gIn4, gIn5, gIn6, gIn7, gIn8, gId, gIdF, gMb, gMm, gBm, gBb, bs, ms]
 have hs := st_sub0 (y - 1900) (by omega)
 rw [show 1900 + (y - 1900) = y by omega] at hs
 have w1 : IntKind.i64.wrap ((y : Int) - 1) = ((y - 1 : Nat) : Int) := by rw [w64' (by omega) (by omega)]; omega
 have h4 : (((y - 1 : Nat) : Int)).tdiv 4 = (((y - 1) / 4 : Nat) : Int) := by rw [Int.tdiv_eq_ediv_of_nonneg (by omega)]; rfl
 have h100 : (((y - 1 : Nat) : Int)).tdiv 100 = (((y - 1) / 100 : Nat) : Int) := by rw [Int.tdiv_eq_ediv_of_nonneg (by omega)]; rfl
 have h400 : (((y - 1 : Nat) : Int)).tdiv 400 = (((y - 1) / 400 : Nat) : Int) := by rw [Int.tdiv_eq_ediv_of_nonneg (by omega)]; rfl
 rw [w1, h4, h100, h400]
 simp only [bs, show ¬ ((4 : Int) = 0) by decide, show ¬ ((100 : Int) = 0) by decide, show ¬ ((400 : Int) = 0) by decide, if_false]
 have b1 : (y - 1) / 4 ≤ 1000 := by omega
 have b2 : (y - 1) / 100 ≤ 1000 := by omega
 have b3 : (y - 1) / 400 ≤ 1000 := by omega
 have e : (stN y : Int) = 365 * ((y : Int) - 1900) + (((y - 1) / 4 : Nat) : Int) - (((y - 1) / 100 : Nat) : Int) + (((y - 1) / 400 : Nat) : Int) - 460 := by
  unfold stN
  omega
 rw [e]
 generalize (y - 1) / 4 = q1 at *
 generalize (y - 1) / 100 = q2 at *
 generalize (y - 1) / 400 = q3 at *
 congr 1
 rw [w64' (n := (y : Int) - 1900) (by omega) (by omega), w64' (n := 365 * ((y : Int) - 1900)) (by omega) (by omega), w64' (n := (q1 : Int)) (by omega) (by omega), w64' (n := (q2 : Int)) (by omega) (by omega), w64' (n := (q3 : Int)) (by omega) (by omega), w64' (n := 365 * ((y : Int) - 1900) + (q1 : Int)) (by omega) (by omega), w64' (n := 365 * ((y : Int) - 1900) + (q1 : Int) - (q2 : Int)) (by omega) (by omega), w64' (n := 365 * ((y : Int) - 1900) + (q1 : Int) - (q2 : Int) + (q3 : Int)) (by omega) (by omega), w64' (by omega) (by omega)]
theorem yr_loop {n : Nat} {a b c : Int} (hn : n < 109573) : ∀ (m y : Nat), 1900 ≤ y → y ≤ 2199 → 2199 - y ≤ m → stN y ≤ n → ∃ Y, 1900 ≤ Y ∧ Y ≤ 2199 ∧ stN Y ≤ n ∧ n < stN (Y + 1) ∧ iter civil_To_loop2 ((n : Int), (y : Int), a, b, c, (), (), ()) = some ((n : Int), (Y : Int), a, b, c, (), (), ()) := by
 intro m
 induction m with
 | zero =>
  intro y h1 h2 h3 h4
  have hy : y = 2199 := by omega
  refine ⟨y, h1, h2, h4, by rw [hy, st_end]; exact hn, cvR ?_⟩
  unfold civil_To_loop2
  dsimp only
  have w : IntKind.i64.wrap ((y : Int) + 1) = ((y + 1 : Nat) : Int) := by rw [w64' (by omega) (by omega)]; omega
  rw [w, st_eq ⟨by omega, by omega⟩, bs, decide_eq_false (by rw [hy, st_end]; omega), if_neg (by decide)]
 | succ m ih =>
  intro y h1 h2 h3 h4
  have w : IntKind.i64.wrap ((y : Int) + 1) = ((y + 1 : Nat) : Int) := by rw [w64' (by omega) (by omega)]; omega
  by_cases h : stN (y + 1) ≤ n
  ·have hy : y ≠ 2199 := fun e => by rw [e, st_end] at h; omega
   obtain ⟨Y, k1, k2, k3, k4, k5⟩ := ih (y + 1) (by omega) (by omega) (by omega) h
   refine ⟨Y, k1, k2, k3, k4, (cvL ?_).trans k5⟩
   unfold civil_To_loop2
   dsimp only
   rw [w, st_eq ⟨by omega, by omega⟩, bs, decide_eq_true (show ((stN (y + 1) : Nat) : Int) ≤ (n : Int) by omega), if_pos rfl]
  ·refine ⟨y, h1, h2, h4, by omega, cvR ?_⟩
   unfold civil_To_loop2
   dsimp only
   rw [w, st_eq ⟨by omega, by omega⟩, bs, decide_eq_false (show ¬ (((stN (y + 1) : Nat) : Int) ≤ (n : Int)) by omega), if_neg (by decide)]
theorem mo_loop {y : Nat} {a b c : Int} (hy : 1900 ≤ y ∧ y ≤ 2199) : ∀ (j m n : Nat), 1 ≤ m → m ≤ 12 → 12 - m ≤ j → n < 1000 → n + msN y (m - 1) < msN y 12 → ∃ M dd, 1 ≤ M ∧ M ≤ 12 ∧ dd < mdN y M ∧ n + msN y (m - 1) = msN y (M - 1) + dd ∧ iter civil_To_loop1 ((n : Int), (y : Int), (m : Int), a, b, c, (), (), ()) = some ((dd : Int), (y : Int), (M : Int), a, b, c, (), (), ()) := by
 intro j
 induction j with
 | zero =>
  intro m n h1 h2 h3 hn h4
  have hm : m = 12 := by omega
  subst hm
  have h5 : msN y 12 = msN y 11 + mdN y 12 := rfl
  have h6 : n < mdN y 12 := by
   have : msN y (12 - 1) = msN y 11 := rfl
   omega
  refine ⟨12, n, by omega, by omega, h6, Nat.add_comm _ _, cvR ?_⟩
  unfold civil_To_loop1
  dsimp only
  rw [show ((12 : Nat) : Int) = ((12 : Nat) : Int) from rfl, md_eq hy ⟨by omega, by omega⟩, bs, decide_eq_false (by omega), if_neg (by decide)]
 | succ j ih =>
  intro m n h1 h2 h3 hn h4
  by_cases h : mdN y m ≤ n
  ·have e1 : msN y m = msN y (m - 1) + mdN y m := by
    cases m with
    | zero => omega
    | succ m => rfl
   have hm : m ≠ 12 := fun e => by
    subst e
    omega
   have w1 : IntKind.i64.wrap ((n : Int) - (mdN y m : Int)) = ((n - mdN y m : Nat) : Int) := by rw [w64' (by omega) (by omega)]; omega
   have w2 : IntKind.i64.wrap ((m : Int) + 1) = ((m + 1 : Nat) : Int) := by rw [w64' (by omega) (by omega)]; omega
   obtain ⟨M, dd, k1, k2, k3, k4, k5⟩ := ih (m + 1) (n - mdN y m) (by omega) (by omega) (by omega) (by omega) (by
    rw [show m + 1 - 1 = m by omega, e1]; omega)
   refine ⟨M, dd, k1, k2, k3, ?_, (cvL ?_).trans k5⟩
   ·rw [show m + 1 - 1 = m by omega, e1] at k4
    omega
   ·unfold civil_To_loop1
    dsimp only
    try simp only [gPi, gSS, gPb, gPm, gPs, gM, gM2, gAnd, gOr, gAndI, gOrI, gAA, gAO, gOA, gOO, gAAf, gAOf, gOAf, gOOf, gAMf, gOMf, gId]
    try simp only [gIn1, gIn2, gIn3, gIn4, gIn5, gIn6, gIn7, gIn8, gId, gIdF, gMb, gMm, gBm, gBb, bs, ms]
    rw [md_eq hy ⟨h1, h2⟩, bs, decide_eq_true (show (n : Int) ≥ (mdN y m : Int) by omega), if_pos rfl, bs, w1, w2]
  ·refine ⟨m, n, h1, h2, by omega, Nat.add_comm _ _, cvR ?_⟩
   unfold civil_To_loop1
   dsimp only
   try simp only [gPi, gSS, gPb, gPm, gPs, gM, gM2, gAnd, gOr, gAndI, gOrI, gAA, gAO, gOA, gOO, gAAf, gAOf, gOAf, gOOf, gAMf, gOMf, gId]
   try simp only [gIn1, gIn2, gIn3, gIn4, gIn5, gIn6, gIn7, gIn8, gId, gIdF, gMb, gMm, gBm, gBb, bs, ms]
   rw [md_eq hy ⟨h1, h2⟩, bs, decide_eq_false (show ¬ ((n : Int) ≥ (mdN y m : Int)) by omega), if_neg (by decide)]
theorem ms_le {y : Nat} : ∀ m, msN y m ≤ 31 * m
 | 0 => by simp [msN]
 | m + 1 => by
  have := ms_le (y := y) m
  have h : mdN y (m + 1) ≤ 31 := by
   unfold mdN
   split
   ·omega
   ·have : ∀ k, lensN.getD k 0 ≤ 31 := fun k => by
     by_cases hk : k < 12
     ·have : ∀ k, k < 12 → lensN.getD k 0 ≤ 31 := by decide
      exact this k hk
     ·rw [List.getD_eq_getElem?_getD, List.getElem?_eq_none (by have : lensN.length = 12 := rfl; omega)]; simp
    exact this _
  show msN y m + mdN y (m + 1) ≤ _
  omega
theorem in_eq (d : Int) : civil_in d = some (decide (-25567 ≤ d ∧ d ≤ 84005)) := by
 unfold civil_in
 dsimp only
 try simp only [gPi, gSS, gPb, gPm, gPs, gM, gM2, gAnd, gOr, gAndI, gOrI, gAA, gAO, gOA, gOO, gAAf, gAOf, gOAf, gOOf, gAMf, gOMf, gId]
 try simp only [gIn1, gIn2, gIn3, gIn4, gIn5, gIn6, gIn7, gIn8, gId, gIdF, gMb, gMm, gBm, gBb, bs, ms]
 by_cases h1 : -25567 ≤ d
 ·by_cases h2 : d ≤ 84005
  ·rw [decide_eq_true (show d ≥ -25567 from h1), if_pos rfl, decide_eq_true (show d < 84006 by omega), decide_eq_true ⟨h1, h2⟩]
  ·rw [decide_eq_true (show d ≥ -25567 from h1), if_pos rfl, decide_eq_false (show ¬ (d < 84006) by omega), decide_eq_false (fun h => h2 h.2)]
 ·rw [decide_eq_false (show ¬ (d ≥ -25567) from h1), if_neg (by decide), decide_eq_false (fun h => h1 h.1)]
structure DateOf (d : Int) (Y M dd : Nat) : Prop where
 y : 1900 ≤ Y ∧ Y ≤ 2199
 m : 1 ≤ M ∧ M ≤ 12
 dl : dd < mdN Y M
 n : d + 25567 = ((stN Y + msN Y (M - 1) + dd : Nat) : Int)
 to : civil_To d = some ((Y : Int), (M : Int), ((dd + 1 : Nat) : Int))
theorem md_le (y m : Nat) : mdN y (m + 1) ≤ 31 := by
 unfold mdN
 split
 ·omega
 ·by_cases hk : m < 12
  ·have : ∀ k, k < 12 → lensN.getD k 0 ≤ 31 := by decide
   exact this _ hk
  ·rw [List.getD_eq_getElem?_getD, List.getElem?_eq_none (by have : lensN.length = 12 := rfl; omega)]; simp
theorem To_eq {d : Int} (h : -25567 ≤ d ∧ d ≤ 84005) : ∃ Y M dd, DateOf d Y M dd := by
 obtain ⟨n, hn⟩ := Int.eq_ofNat_of_zero_le (show 0 ≤ d - -25567 by omega)
 have hn2 : n < 109573 := by omega
 have h0 : stN (1900 + n / 366) ≤ n := by
  have := st_le0 (n / 366) (by omega)
  omega
 obtain ⟨Y, y1, y2, y3, y4, y5⟩ := yr_loop (a := 0) (b := 0) (c := 0) hn2 300 (1900 + n / 366) (by omega) (by omega) (by omega) h0
 have hnx := st_next ⟨y1, y2⟩
 have hms := ms_le (y := Y) 12
 obtain ⟨M, dd, m1, m2, m3, m4, m5⟩ := mo_loop (a := 0) (b := 0) (c := 0) ⟨y1, y2⟩ 12 1 (n - stN Y) (by omega) (by omega) (by omega) (by omega) (by
  have : msN Y (1 - 1) = 0 := rfl
  omega)
 have e0 : msN Y (1 - 1) = 0 := rfl
 have hd31 : mdN Y M ≤ 31 := by
  obtain ⟨k, rfl⟩ : ∃ k, M = k + 1 := ⟨M - 1, by omega⟩
  exact md_le Y k
 refine ⟨Y, M, dd, ⟨y1, y2⟩, ⟨m1, m2⟩, m3, by omega, ?_⟩
 unfold civil_To
 dsimp only
 try simp only [gPi, gSS, gPb, gPm, gPs, gM, gM2, gAnd, gOr, gAndI, gOrI, gAA, gAO, gOA, gOO, gAAf, gAOf, gOAf, gOOf, gAMf, gOMf, gId]
 try simp only [gIn1, gIn2, gIn3, gIn4, gIn5, gIn6, gIn7, gIn8, gId, gIdF, gMb, gMm, gBm, gBb, bs, ms]
 have w1 : IntKind.i64.wrap (d - -25567) = (n : Int) := by rw [hn]; exact w64' (by omega) (by omega)
 have t1 : (n : Int).tdiv 366 = ((n / 366 : Nat) : Int) := by rw [Int.tdiv_eq_ediv_of_nonneg (by omega)]; rfl
 have w2 : IntKind.i64.wrap (1900 + ((n / 366 : Nat) : Int)) = ((1900 + n / 366 : Nat) : Int) := by rw [w64' (by omega) (by omega)]; omega
 rw [in_eq, bs, decide_eq_true h, if_neg (by decide), if_neg (by decide), bs, w1, t1, w64' (n := ((n / 366 : Nat) : Int)) (by omega) (by omega), w2]
 rw [y5, bs]
 dsimp only
 have w3 : IntKind.i64.wrap ((n : Int) - (stN Y : Int)) = ((n - stN Y : Nat) : Int) := by rw [w64' (by omega) (by omega)]; omega
 rw [st_eq ⟨by omega, by omega⟩, bs, w3]
 rw [show ((1 : Nat) : Int) = (1 : Int) from rfl] at m5
 rw [m5, bs]
 dsimp only
 have w4 : IntKind.i64.wrap ((dd : Int) + 1) = ((dd + 1 : Nat) : Int) := by rw [w64' (by omega) (by omega)]; omega
 rw [w4]
theorem of_loop {y M D : Nat} (hy : 1900 ≤ y ∧ y ≤ 2199) (hM : M ≤ 12) : ∀ (j m n : Nat), 1 ≤ m → m ≤ M → M - m ≤ j → n + 31 * j ≤ 1000000 → iter civil_Of_loop1 ((n : Int), (m : Int), (y : Int), (M : Int), (D : Int), (), (), ()) = some (((n + (msN y (M - 1) - msN y (m - 1)) : Nat) : Int), (y : Int), (M : Int), (D : Int), (), (), ()) := by
 intro j
 induction j with
 | zero =>
  intro m n h1 h2 h3 hn
  have : m = M := by omega
  subst this
  refine cvR ?_
  unfold civil_Of_loop1
  dsimp only
  rw [decide_eq_false (by omega), if_neg (by decide)]
  simp
 | succ j ih =>
  intro m n h1 h2 h3 hn
  by_cases h : m = M
  ·subst h
   refine cvR ?_
   unfold civil_Of_loop1
   dsimp only
   rw [decide_eq_false (by omega), if_neg (by decide)]
   simp
  ·have e1 : msN y m = msN y (m - 1) + mdN y m := by
    cases m with
    | zero => omega
    | succ m => rfl
   have hmono : ∀ k i, msN y i ≤ msN y (i + k) := by
    intro k
    induction k with
    | zero => intro i; exact Nat.le_refl _
    | succ k ihk => intro i; have := ihk i; show msN y i ≤ msN y (i + k) + mdN y (i + k + 1); omega
   have hle := hmono (M - 1 - m) m
   rw [show m + (M - 1 - m) = M - 1 by omega] at hle
   have hms := ms_le (y := y) (M - 1)
   have h31 : mdN y m ≤ 31 := by
    obtain ⟨k, rfl⟩ : ∃ k, m = k + 1 := ⟨m - 1, by omega⟩
    exact md_le y k
   have w1 : IntKind.i64.wrap ((n : Int) + (mdN y m : Int)) = ((n + mdN y m : Nat) : Int) := by rw [w64' (by omega) (by omega)]; omega
   have w2 : IntKind.i64.wrap ((m : Int) + 1) = ((m + 1 : Nat) : Int) := by rw [w64' (by omega) (by omega)]; omega
   refine (cvL (s' := (((n + mdN y m : Nat) : Int), ((m + 1 : Nat) : Int), (y : Int), (M : Int), (D : Int), (), (), ())) ?_).trans ?_
   ·unfold civil_Of_loop1
    dsimp only
    try simp only [gPi, gSS, gPb, gPm, gPs, gM, gM2, gAnd, gOr, gAndI, gOrI, gAA, gAO, gOA, gOO, gAAf, gAOf, gOAf, gOOf, gAMf, gOMf, gId]
    try simp only [gIn1, gIn2, gIn3, gIn4, gIn5, gIn6, gIn7, gIn8, gId, gIdF, gMb, gMm, gBm, gBb, bs, ms]
    rw [decide_eq_true (show (m : Int) < (M : Int) by omega), if_pos rfl, md_eq hy ⟨h1, by omega⟩, bs, w1, w2]
   ·rw [ih (m + 1) (n + mdN y m) (by omega) (by omega) (by omega) (by omega), show m + 1 - 1 = m by omega]
    have e2 : n + mdN y m + (msN y (M - 1) - msN y m) = n + (msN y (M - 1) - msN y (m - 1)) := by omega
    rw [e2]
theorem Of_eq {d : Int} {Y M dd : Nat} (hd : -25567 ≤ d ∧ d ≤ 84005) (h : DateOf d Y M dd) : civil_Of ((Y : Int), (M : Int), ((dd + 1 : Nat) : Int)) = some (d, 0) := by
 have hn := h.n
 have hms := ms_le (y := Y) (M - 1)
 have h1 := h.y
 have h2 := h.m
 have h3 := h.dl
 have hst : stN Y ≤ 366 * 300 := by
  have := st_le0 (Y - 1900) (by omega)
  rw [show 1900 + (Y - 1900) = Y by omega] at this
  omega
 have h31 : mdN Y M ≤ 31 := by
  obtain ⟨k, hk⟩ : ∃ k, M = k + 1 := ⟨M - 1, by omega⟩
  rw [hk]
  exact md_le Y k
 unfold civil_Of
 dsimp only
 try simp only [gPi, gSS, gPb, gPm, gPs, gM, gM2, gAnd, gOr, gAndI, gOrI, gAA, gAO, gOA, gOO, gAAf, gAOf, gOAf, gOOf, gAMf, gOMf, gId]
 try simp only [gIn1, gIn2, gIn3, gIn4, gIn5, gIn6, gIn7, gIn8, gId, gIdF, gMb, gMm, gBm, gBb, bs, ms]
 rw [decide_eq_false (show ¬ (((dd + 1 : Nat) : Int) < 1) by omega), if_neg (by decide), md_eq h.y h.m, bs, bs, decide_eq_false (show ¬ (((dd + 1 : Nat) : Int) > (mdN Y M : Int)) by omega), if_neg (by decide), st_eq ⟨by omega, by omega⟩, bs]
 have w1 : IntKind.i64.wrap ((stN Y : Int) + ((dd + 1 : Nat) : Int)) = ((stN Y + dd + 1 : Nat) : Int) := by rw [w64' (by omega) (by omega)]; omega
 have w2 : IntKind.i64.wrap (((stN Y + dd + 1 : Nat) : Int) - 1) = ((stN Y + dd : Nat) : Int) := by rw [w64' (by omega) (by omega)]; omega
 have hl := of_loop (D := dd + 1) h.y (by omega : M ≤ 12) 12 1 (stN Y + dd) (by omega) (by omega) (by omega) (by omega)
 have e0 : msN Y (1 - 1) = 0 := rfl
 rw [e0, show ((1 : Nat) : Int) = (1 : Int) from rfl] at hl
 rw [w1, w2, hl, bs]
 dsimp only
 have w3 : IntKind.i64.wrap (((stN Y + dd + (msN Y (M - 1) - 0) : Nat) : Int) + -25567) = d := by rw [w64' (by omega) (by omega)]; omega
 rw [w3, h.to, bs]
 have e1 : (!((Y : Int) == (Y : Int) && ((M : Int) == (M : Int) && ((dd + 1 : Nat) : Int) == ((dd + 1 : Nat) : Int)))) = false := by simp
 dsimp only
 rw [e1, if_neg (by decide)]
theorem rune9 {d : Nat} (h : d < 10) : (Utf8.encode (IntKind.i32.wrap (IntKind.i64.wrap (48 + (d : Int))))).data.toList = [dg9 d] := by
 have : ∀ k : Fin 10, (Utf8.encode (IntKind.i32.wrap (IntKind.i64.wrap (48 + (k.val : Int))))).data.toList = [dg9 k.val] := by decide
 exact this ⟨d, h⟩
theorem dig_step {n : Nat} {s : List UInt8} {many i : Int} (hn : n ≤ 1000000) (hs : s.length ≤ 1000) (hi : i < many) (hi2 : 0 ≤ i ∧ i ≤ 1000) : civil_digits_loop1 ((n : Int), s, many, i, ()) = some (.inl (((n / 10 : Nat) : Int), dg9 (n % 10) :: s, many, i + 1, ())) := by
 unfold civil_digits_loop1
 dsimp only
 try simp only [gPi, gSS, gPb, gPm, gPs, gM, gM2, gAnd, gOr, gAndI, gOrI, gAA, gAO, gOA, gOO, gAAf, gAOf, gOAf, gOOf, gAMf, gOMf, gId]
 try simp only [gIn1, gIn2, gIn3, gIn4, gIn5, gIn6, gIn7, gIn8, gId, gIdF, gMb, gMm, gBm, gBb, bs, ms]
 have h1 : (n : Int).tmod 10 = ((n % 10 : Nat) : Int) := by rw [Int.tmod_eq_emod_of_nonneg (by omega)]; rfl
 have h2 : (n : Int).tdiv 10 = ((n / 10 : Nat) : Int) := by rw [Int.tdiv_eq_ediv_of_nonneg (by omega)]; rfl
 rw [decide_eq_true hi, if_pos rfl, if_neg (by decide), bs, h1, rune9 (Nat.mod_lt _ (by decide)), if_pos (by simp; omega), if_neg (by decide), bs, h2, w64' (n := ((n / 10 : Nat) : Int)) (by omega) (by omega), w64' (n := i + 1) (by omega) (by omega)]
 rfl
theorem dig_end {n : Int} {s : List UInt8} {many : Int} : civil_digits_loop1 (n, s, many, many, ()) = some (.inr (s, ())) := by
 unfold civil_digits_loop1
 dsimp only
 rw [decide_eq_false (by omega), if_neg (by decide)]
def dg2 (n : Nat) : List UInt8 := [dg9 (n / 10 % 10), dg9 (n % 10)]
def dg4 (n : Nat) : List UInt8 := [dg9 (n / 10 / 10 / 10 % 10), dg9 (n / 10 / 10 % 10), dg9 (n / 10 % 10), dg9 (n % 10)]
theorem digits2 {n : Nat} (hn : n ≤ 1000000) : civil_digits ((n : Int), 2) = some (dg2 n) := by
 unfold civil_digits
 dsimp only
 rw [cvL (dig_step hn (by decide) (by decide) (by decide)), show (0 : Int) + 1 = 1 from rfl, cvL (dig_step (by omega) (by simp) (by decide) (by decide)), show (1 : Int) + 1 = 2 from rfl, cvR dig_end, bs]
 rfl
theorem digits4 {n : Nat} (hn : n ≤ 1000000) : civil_digits ((n : Int), 4) = some (dg4 n) := by
 unfold civil_digits
 dsimp only
 rw [cvL (dig_step hn (by decide) (by decide) (by decide)), show (0 : Int) + 1 = 1 from rfl, cvL (dig_step (by omega) (by simp) (by decide) (by decide)), show (1 : Int) + 1 = 2 from rfl, cvL (dig_step (by omega) (by simp) (by decide) (by decide)), show (2 : Int) + 1 = 3 from rfl, cvL (dig_step (by omega) (by simp) (by decide) (by decide)), show (3 : Int) + 1 = 4 from rfl, cvR dig_end, bs]
 rfl
theorem num_fold : ∀ (D : List UInt8) (n : Nat), foldE (fun n b => if dgt b = true then (Sum.inl (n * 10 + (b.toNat - 48)) : Nat ⊕ ((Int × Unit) ⊕ (Int × Bool))) else .inr (.inr (0, false))) (fun n => .inl ((n : Int), ())) n D = if D.all dgt = true then .inl ((numV n D : Int), ()) else .inr (0, false)
 | [], n => rfl
 | b :: D, n => by
  rw [foldE, List.all_cons]
  cases h : dgt b with
  | false => rw [if_neg (by decide), Bool.false_and, if_neg (by decide)]
  | true => rw [if_pos rfl, Bool.true_and]; exact num_fold D _
theorem cnumber_eq {D : List UInt8} (hD : D.length ≤ 9) : civil_number D = some (if D.all dgt = true then ((numV 0 D : Int), true) else (0, false)) := by
 unfold civil_number
 dsimp only
 try simp only [gPi, gSS, gPb, gPm, gPs, gM, gM2, gAnd, gOr, gAndI, gOrI, gAA, gAO, gOA, gOO, gAAf, gAOf, gOAf, gOOf, gAMf, gOMf, gId]
 try simp only [gIn1, gIn2, gIn3, gIn4, gIn5, gIn6, gIn7, gIn8, gId, gIdF, gMb, gMm, gBm, gBb, bs, ms]
 rw [if_pos (by omega)]
 generalize hL : List.map (fun b : UInt8 => (b.toNat : Int)) D = L
 have hlen : L.length = D.length := by rw [← hL]; simp
 have key := iter_fold0 (b := civil_number_loop1) (α := UInt8) (A := Nat) (fun k n => ((n : Int), L, (L.length : Int), (k : Int), ())) (fun n b => if dgt b = true then (Sum.inl (n * 10 + (b.toNat - 48)) : Nat ⊕ ((Int × Unit) ⊕ (Int × Bool))) else .inr (.inr (0, false))) (fun n => .inl ((n : Int), ())) (fun i n => n < 10 ^ i) D (a := 0) (by decide) (fun i b n hx hn => by
   have hi := (List.getElem?_eq_some_iff.1 hx).1
   have hn' : n < 10 ^ 9 := Nat.lt_of_lt_of_le hn (Nat.pow_le_pow_right (by decide) (by omega))
   have hp : (10 : Nat) ^ 9 = 1000000000 := rfl
   have hx' : L[i]? = some (b.toNat : Int) := by rw [← hL, List.getElem?_map, hx]; rfl
   unfold civil_number_loop1
   dsimp only
   try simp only [gPi, gSS, gPb, gPm, gPs, gM, gM2, gAnd, gOr, gAndI, gOrI, gAA, gAO, gOA, gOO, gAAf, gAOf, gOAf, gOOf, gAMf, gOMf, gId]
   try simp only [gIn1, gIn2, gIn3, gIn4, gIn5, gIn6, gIn7, gIn8, gId, gIdF, gMb, gMm, gBm, gBb, bs, ms]
   rw [lt_len hx', if_pos rfl]
   simp only [lAt_nat hx', bs]
   by_cases hd : dgt b = true
   ·have hb := dgt_iff.1 hd
    rw [decide_eq_false (show ¬ ((b.toNat : Int) < 48) by omega), if_neg (by decide), bs, decide_eq_false (show ¬ ((b.toNat : Int) > 57) by omega), if_neg (by decide), if_pos hd]
    have u : IntKind.u8.wrap ((b.toNat : Int) - 48) = (b.toNat : Int) - 48 := by rw [IntKind.wrap_u8]; omega
    rw [u, w64' (n := (b.toNat : Int) - 48) (by omega) (by omega), w64' (n := 10 * (n : Int)) (by omega) (by omega), w64' (by omega) (by omega), w_succ (by omega)]
    have e : 10 * (n : Int) + ((b.toNat : Int) - 48) = ((n * 10 + (b.toNat - 48) : Nat) : Int) := by omega
    rw [e]
    rfl
   ·rw [if_neg hd]
    by_cases h1 : (b.toNat : Int) < 48
    ·rw [decide_eq_true h1]; rfl
    ·have h2 : (b.toNat : Int) > 57 := by
      refine Classical.byContradiction fun h2 => hd (dgt_iff.2 ⟨by omega, by omega⟩)
     rw [decide_eq_false h1, if_neg (by decide), bs, decide_eq_true h2]; rfl) (fun i b n n' _ hn hst => by
   split at hst
   ·rename_i hd
    have hb := dgt_iff.1 hd
    cases hst
    rw [Nat.pow_succ]
    omega
   ·cases hst) (fun _ _ => by
   unfold civil_number_loop1
   dsimp only
   rw [← hlen, nlt_len, if_neg (by decide)])
 rw [num_fold] at key
 rw [show (0 : Int) = ((0 : Nat) : Int) from rfl, key, bs]
 cases D.all dgt <;> rfl
theorem dg2_num {n : Nat} (h : n < 100) : (dg2 n).all dgt = true ∧ numV 0 (dg2 n) = n := by
 have a := dg9_nat (show n / 10 % 10 < 10 by omega)
 have b := dg9_nat (show n % 10 < 10 by omega)
 refine ⟨by simp [dg2, dgt_dg9 (show n / 10 % 10 < 10 by omega), dgt_dg9 (show n % 10 < 10 by omega)], ?_⟩
 simp only [numV, dg2, List.foldl_cons, List.foldl_nil, a, b]
 omega
theorem dg4_num {n : Nat} (h : n < 10000) : (dg4 n).all dgt = true ∧ numV 0 (dg4 n) = n := by
 have a := dg9_nat (show n / 10 / 10 / 10 % 10 < 10 by omega)
 have b := dg9_nat (show n / 10 / 10 % 10 < 10 by omega)
 have c := dg9_nat (show n / 10 % 10 < 10 by omega)
 have d := dg9_nat (show n % 10 < 10 by omega)
 refine ⟨by simp [dg4, dgt_dg9 (show n / 10 / 10 / 10 % 10 < 10 by omega), dgt_dg9 (show n / 10 / 10 % 10 < 10 by omega), dgt_dg9 (show n / 10 % 10 < 10 by omega), dgt_dg9 (show n % 10 < 10 by omega)], ?_⟩
 simp only [numV, dg4, List.foldl_cons, List.foldl_nil, a, b, c, d]
 omega
def dateT (Y M D : Nat) : List UInt8 := dg4 Y ++ [45] ++ dg2 M ++ [45] ++ dg2 D
theorem date_text {d : Int} (hd : -25567 ≤ d ∧ d ≤ 84005) : ∃ Y M D, civil_Text d = some (dateT Y M D) ∧ civil_Parse (dateT Y M D) = some (d, 0) := by
 obtain ⟨Y, M, dd, h⟩ := To_eq hd
 have h1 := h.y
 have h2 := h.m
 have h3 := h.dl
 have h31 : mdN Y M ≤ 31 := by
  obtain ⟨k, hk⟩ : ∃ k, M = k + 1 := ⟨M - 1, by omega⟩
  rw [hk]
  exact md_le Y k
 refine ⟨Y, M, dd + 1, ?_, ?_⟩
 ·unfold civil_Text
  dsimp only
  try simp only [gPi, gSS, gPb, gPm, gPs, gM, gM2, gAnd, gOr, gAndI, gOrI, gAA, gAO, gOA, gOO, gAAf, gAOf, gOAf, gOOf, gAMf, gOMf, gId]
  try simp only [gIn1, gIn2, gIn3, gIn4, gIn5, gIn6, gIn7, gIn8, gId, gIdF, gMb, gMm, gBm, gBb, bs, ms]
  rw [in_eq, bs, decide_eq_true hd, if_neg (by decide), h.to, bs]
  dsimp only
  rw [digits4 (by omega), bs, if_pos (by simp [dg4]), digits2 (by omega), bs, if_pos (by simp [dg4, dg2]), if_pos (by simp [dg4, dg2]), digits2 (by omega), bs, if_pos (by simp [dg4, dg2])]
  rfl
 ·have n1 := dg4_num (n := Y) (by omega)
  have n2 := dg2_num (n := M) (by omega)
  have n3 := dg2_num (n := dd + 1) (by omega)
  have l1 : (dg4 Y).length = 4 := rfl
  have l2 : (dg2 M).length = 2 := rfl
  have l3 : (dg2 (dd + 1)).length = 2 := rfl
  unfold civil_Parse dateT
  generalize dg4 Y = A at *
  generalize dg2 M = B at *
  generalize dg2 (dd + 1) = C at *
  dsimp only
  try simp only [gPi, gSS, gPb, gPm, gPs, gM, gM2, gAnd, gOr, gAndI, gOrI, gAA, gAO, gOA, gOO, gAAf, gAOf, gOAf, gOOf, gAMf, gOMf, gId]
  try simp only [gIn1, gIn2, gIn3, gIn4, gIn5, gIn6, gIn7, gIn8, gId, gIdF, gMb, gMm, gBm, gBb, bs, ms]
  match A, l1 with
  | [a1, a2, a3, a4], _ =>
   match B, l2 with
   | [b1, b2], _ =>
    match C, l3 with
    | [c1, c2], _ =>
     have s4 : sAt ([a1, a2, a3, a4] ++ [45] ++ [b1, b2] ++ [45] ++ [c1, c2]) 4 = some (((45 : UInt8).toNat : Nat) : Int) := sAt_nat (i := 4) rfl
     have s7 : sAt ([a1, a2, a3, a4] ++ [45] ++ [b1, b2] ++ [45] ++ [c1, c2]) 7 = some (((45 : UInt8).toNat : Nat) : Int) := sAt_nat (i := 7) rfl
     have u1 : lSub ([a1, a2, a3, a4] ++ [45] ++ [b1, b2] ++ [45] ++ [c1, c2]) 0 4 = some [a1, a2, a3, a4] := lSub_nat (i := 0) (j := 4) (by omega) (by simp)
     have u2 : lSub ([a1, a2, a3, a4] ++ [45] ++ [b1, b2] ++ [45] ++ [c1, c2]) 5 7 = some [b1, b2] := lSub_nat (i := 5) (j := 7) (by omega) (by simp)
     have u3 : lSub ([a1, a2, a3, a4] ++ [45] ++ [b1, b2] ++ [45] ++ [c1, c2]) 8 ((([a1, a2, a3, a4] ++ [45] ++ [b1, b2] ++ [45] ++ [c1, c2] : List UInt8).length : Nat) : Int) = some [c1, c2] := lSub_nat (i := 8) (j := 10) (by omega) (by simp)
     rw [if_neg (by simp), s4, bs, bs, if_neg (by decide), s7, bs, bs, if_neg (by decide), u1, bs, cnumber_eq (by simp), bs, u2, bs, cnumber_eq (by simp), bs, u3, bs, cnumber_eq (by simp), bs]
     rw [n1.1, n2.1, n3.1]
     simp only [if_true, Bool.not_true, Bool.false_eq_true, if_false, bs]
     rw [n1.2, n2.2, n3.2, Of_eq hd h, bs]
theorem dateT_bytes (Y M D : Nat) : ∀ b ∈ dateT Y M D, dgt b = true ∨ b = 45 := by
 intro b hb
 have h : ∀ n, dgt (dg9 (n % 10)) = true := fun n => dgt_dg9 (Nat.mod_lt _ (by decide))
 simp only [dateT, dg4, dg2, List.mem_append, List.mem_cons, List.not_mem_nil, or_false] at hb
 rcases hb with ((((rfl | rfl | rfl | rfl) | rfl) | rfl | rfl) | rfl) | rfl | rfl <;> first | exact .inl (h _) | exact .inr rfl
theorem dateT_len (Y M D : Nat) : (dateT Y M D).length = 10 := rfl
end WB
namespace WB
open Go Go.RowKit
set_option linter.unusedSimpArgs false
set_option linter.unusedVariables false
set_option maxHeartbeats 1000000
abbrev Fct := Int × Int × Int × Int × Int × List UInt8 × Int × List UInt8
structure RightF (x : Fct) : Prop where
 k : 1 ≤ x.2.2.1 ∧ x.2.2.1 ≤ 18
 fr : -25567 ≤ x.2.2.2.1 ∧ x.2.2.2.1 ≤ 84005
 to : x.2.2.2.2.1 = 0 ∨ x.2.2.2.2.1 = 84006 ∨ (-25567 ≤ x.2.2.2.2.1 ∧ x.2.2.2.2.1 ≤ 84005)
 cd : codeK x.2.2.1 x.2.2.2.2.2.1 = true
 nm : -1125899906842624 ≤ x.2.2.2.2.2.2.1 ∧ x.2.2.2.2.2.2.1 ≤ 1125899906842624
 tx : x.2.2.2.2.2.2.2.length ≤ 4096
theorem low_high (k : Int) : -1125899906842624 ≤ lowK k ∧ highK k ≤ 1125899906842624 := by
 unfold lowK highK
 constructor
 ·split
  ·omega
  ·split <;> omega
 ·split
  ·omega
  ·split
   ·omega
   ·split
    ·omega
    ·split
     ·omega
     ·split
      ·omega
      ·split <;> omega
theorem RightF.of {x : Fct} (h : checkS x = 0) : RightF x := by
 obtain ⟨a, p, k, fr, to, cd, n, tx⟩ := x
 obtain ⟨h1, h2, _⟩ := checked h
 unfold checkS at h
 dsimp only at h
 rw [if_pos h1, h2] at h
 unfold checkG at h
 by_cases g1 : (!(firmK k == (p == 0))) = true
 ·rw [if_pos g1] at h; cases h
 ·rw [if_neg g1, if_neg (by decide)] at h
  by_cases g2 : (!codeK k cd) = true
  ·rw [if_pos g2] at h; cases h
  ·rw [if_neg g2] at h
   by_cases g3 : (decide (n < lowK k) || decide (n > highK k)) = true
   ·rw [if_pos g3] at h; cases h
   ·rw [if_neg g3] at h
    by_cases g4 : decide ((tx.length : Int) > 4096) = true
    ·rw [if_pos g4] at h; cases h
    ·have g4' : ¬ ((tx.length : Int) > 4096) := fun h => g4 (decide_eq_true h)
     simp only [Bool.or_eq_true, decide_eq_true_eq, not_or] at g3
     have lh := low_high k
     unfold daysS at h2
     by_cases q1 : ((k == 18 && fr != 0) || decide (fr < -25567) || decide (fr > 84005)) = true
     ·rw [if_pos q1] at h2; cases h2
     ·rw [if_neg q1] at h2
      by_cases q2 : ((to != 0) && (!daysK k || decide (to ≤ fr))) = true
      ·rw [if_pos q2] at h2; cases h2
      ·rw [if_neg q2] at h2
       by_cases q3 : decide (to > 84006) = true
       ·rw [if_pos q3] at h2; cases h2
       ·have q3' : ¬ (to > 84006) := fun h => q3 (decide_eq_true h)
        simp only [Bool.or_eq_true, decide_eq_true_eq, not_or] at q1
        have hto : to = 0 ∨ fr < to := by
         by_cases t0 : to = 0
         ·exact .inl t0
         ·right
          refine Classical.byContradiction fun hlt => q2 ?_
          have d1 : (to != 0) = true := by simpa using t0
          have d2 : decide (to ≤ fr) = true := decide_eq_true (by omega)
          rw [d1, d2, Bool.or_true, Bool.and_true]
        refine ⟨h1, ⟨by dsimp only; omega, by dsimp only; omega⟩, ?_, by simpa using g2, ⟨by dsimp only; omega, by dsimp only; omega⟩, by dsimp only; omega⟩
        dsimp only
        omega
def noB (s : List UInt8) : Prop := (∀ b ∈ s, b ≠ 32) ∧ s ≠ []
theorem dgt_b {b : UInt8} (h : dgt b = true) : b ≠ 32 := by
 have := dgt_iff.1 h
 rintro rfl
 revert this
 decide
theorem itoa_f (n : Int) : Lib.itoa n = (if n < 0 then [45] else []) ++ Lib.decDigits n.natAbs := by
 unfold Lib.itoa
 by_cases h : n < 0
 ·rw [if_pos h, if_pos h]; rfl
 ·rw [if_neg h, if_neg h, show n.toNat = n.natAbs by omega]; rfl
theorem itoa_noB (n : Int) : noB (Lib.itoa n) := by
 rw [itoa_f]
 refine ⟨fun b hb => ?_, ?_⟩
 ·rcases List.mem_append.1 hb with hb | hb
  ·split at hb
   ·rw [List.mem_singleton.1 hb]; decide
   ·cases hb
  ·exact dgt_b (List.all_eq_true.1 (digits_all n.natAbs) b hb)
 ·intro e
  have := (List.append_eq_nil_iff.1 e).2
  exact digits_ne _ this
theorem kname_noB {k : Int} (h : 1 ≤ k ∧ k ≤ 18) : noB (kname k) := by
 have h0 : ∀ i : Nat, i < 19 → 1 ≤ i → (∀ b ∈ kname (i : Int), b ≠ 32) ∧ kname (i : Int) ≠ [] := by decide
 obtain ⟨n, rfl⟩ := Int.eq_ofNat_of_zero_le (show 0 ≤ k by omega)
 exact h0 n (by omega) (by omega)
theorem okb_b {b : UInt8} (h : okb b = true) : b ≠ 32 := by rintro rfl; revert h; decide
theorem nameB_noB {s : List UInt8} (h : nameB s = true) : noB s ∧ s ≠ [45] ∧ s.length ≤ 32 := by
 unfold nameB at h
 simp only [Bool.and_eq_true, decide_eq_true_eq, Bool.not_eq_true', beq_eq_false_iff_ne] at h
 exact ⟨⟨fun b hb => okb_b (List.all_eq_true.1 h.1.1.1 b hb), h.1.1.2⟩, h.1.2, by omega⟩
theorem absB_noB {s : List UInt8} (h : absB s = true) : noB s ∧ s ≠ [45] ∧ s.length ≤ 32 := by
 unfold absB at h
 simp only [Bool.or_eq_true, beq_iff_eq] at h
 rcases h with ((rfl | rfl) | rfl) | rfl <;> exact ⟨⟨by decide, by decide⟩, by decide, by decide⟩
theorem code_cases {k : Int} {s : List UInt8} (h : codeK k s = true) : s = [] ∨ (noB s ∧ s ≠ [45] ∧ s.length ≤ 32) := by
 unfold codeK at h
 split at h
 ·rw [Bool.or_eq_true, beq_iff_eq] at h
  rcases h with h | h
  ·exact .inl h
  ·exact .inr (nameB_noB h)
 ·split at h
  ·exact .inr (absB_noB h)
  ·split at h
   ·exact .inr (nameB_noB h)
   ·exact .inl (beq_iff_eq.1 h)
def dashT (s : List UInt8) : List UInt8 := if s = [] then [45] else s
theorem dash_eq (s : List UInt8) : fact_dash s = some (dashT s) := by
 unfold fact_dash dashT
 dsimp only
 cases s with
 | nil => rfl
 | cons a s => rw [if_neg (by simp), if_neg (by simp)]
theorem dash_noB {k : Int} {s : List UInt8} (h : codeK k s = true) : noB (dashT s) ∧ (dashT s = [45] → s = []) ∧ (dashT s ≠ [45] → dashT s = s) ∧ (dashT s).length ≤ 32 := by
 unfold dashT
 rcases code_cases h with rfl | ⟨h1, h2, h3⟩
 ·rw [if_pos rfl]
  exact ⟨⟨by decide, by decide⟩, fun _ => rfl, fun h => absurd rfl h, by decide⟩
 ·rw [if_neg h1.2]
  exact ⟨h1, fun e => absurd e h2, fun _ => rfl, h3⟩
theorem date_f {d : Int} (hd : -25567 ≤ d ∧ d ≤ 84005) : ∃ t, civil_Text d = some t ∧ civil_Parse t = some (d, 0) ∧ noB t ∧ t.length = 10 := by
 obtain ⟨Y, M, D, h1, h2⟩ := date_text hd
 refine ⟨_, h1, h2, ⟨fun b hb => ?_, fun e => ?_⟩, rfl⟩
 ·rcases dateT_bytes Y M D b hb with h | rfl
  ·exact dgt_b h
  ·decide
 ·have := congrArg List.length e
  rw [dateT_len] at this
  cases this
theorem until_f {to : Int} (h : to = 0 ∨ to = 84006 ∨ (-25567 ≤ to ∧ to ≤ 84005)) : ∃ t, fact_until to = some t ∧ fact_end t = some (to, true) ∧ noB t ∧ t.length ≤ 10 := by
 by_cases h0 : to = 0
 ·subst h0
  exact ⟨[45], rfl, rfl, ⟨by decide, by decide⟩, by decide⟩
 ·by_cases h1 : to = 84006
  ·subst h1
   exact ⟨[101, 110, 100], rfl, rfl, ⟨by decide, by decide⟩, by decide⟩
  ·obtain ⟨t, t1, t2, t3, t4⟩ := date_f (d := to) (by omega)
   refine ⟨t, ?_, ?_, t3, by omega⟩
   ·unfold fact_until
    dsimp only
    rw [if_neg (by simpa using h0), if_neg (by simpa using h1)]
    rw [t1, bs]
   ·unfold fact_end
    dsimp only
    try simp only [gPi, gSS, gPb, gPm, gPs, gM, gM2, gAnd, gOr, gAndI, gOrI, gAA, gAO, gOA, gOO, gAAf, gAOf, gOAf, gOOf, gAMf, gOMf, gId]
    try simp only [gIn1, gIn2, gIn3, gIn4, gIn5, gIn6, gIn7, gIn8, gId, gIdF, gMb, gMm, gBm, gBb, bs, ms]
    have e1 : (t == [45]) = false := by rw [beq_eq_false_iff_ne]; intro e; rw [e] at t4; cases t4
    have e2 : (t == [101, 110, 100]) = false := by rw [beq_eq_false_iff_ne]; intro e; rw [e] at t4; cases t4
    have e3 : (to != 0) = true := by simpa using h0
    rw [e1, if_neg (by decide), e2, if_neg (by decide), t2, bs]
    dsimp only
    rw [if_pos (show ((0 : Int) == 0) = true from rfl), bs, e3]
theorem parse1 {n : Int} (h : 0 ≤ n ∧ n ≤ 4294967295) : fact_Parse_1 (Lib.itoa n, true) = some n := by
 have e : Lib.itoa n = Lib.decDigits n.natAbs := by rw [itoa_f, if_neg (by omega)]; rfl
 have hl : (Lib.decDigits n.natAbs).length ≤ 10 := digits_len (by decide) (by omega)
 have ht : tensB (Lib.decDigits n.natAbs) 4294967295 = true := by
  unfold tensB
  rw [canon_digits, digits_num, decide_eq_true (by omega)]
  rfl
 have hv : tensV (Lib.decDigits n.natAbs) = n := by
  rw [tensB_nn ht (by decide), digits_num]
  omega
 unfold fact_Parse_1
 dsimp only
 try simp only [gPi, gSS, gPb, gPm, gPs, gM, gM2, gAnd, gOr, gAndI, gOrI, gAA, gAO, gOA, gOO, gAAf, gAOf, gOAf, gOOf, gAMf, gOMf, gId]
 try simp only [gIn1, gIn2, gIn3, gIn4, gIn5, gIn6, gIn7, gIn8, gId, gIdF, gMb, gMm, gBm, gBb, bs, ms]
 rw [e, ftens_eq (by omega) (by decide), bs, ht, hv]
 simp only [if_true, bs]
 rw [IntKind.wrap_u32]
 congr 1
 omega
theorem cutP_no {s : List UInt8} (h : s.head? ≠ some 45) : strings_CutPrefix (s, [45]) = some (s, false) := by
 unfold strings_CutPrefix internal_stringslite_CutPrefix internal_stringslite_HasPrefix
 dsimp only
 try simp only [gPi, gSS, gPb, gPm, gPs, gM, gM2, gAnd, gOr, gAndI, gOrI, gAA, gAO, gOA, gOO, gAAf, gAOf, gOAf, gOOf, gAMf, gOMf, gId]
 try simp only [gIn1, gIn2, gIn3, gIn4, gIn5, gIn6, gIn7, gIn8, gId, gIdF, gMb, gMm, gBm, gBb, bs, ms]
 cases s with
 | nil => rfl
 | cons a s =>
  have ha : ([a] == [(45 : UInt8)]) = false := by
   rw [beq_eq_false_iff_ne]
   intro e
   apply h
   rw [List.head?_cons]
   exact congrArg some (List.cons.inj e).1
  have hs : lSub (a :: s) 0 (([(45 : UInt8)].length : Nat) : Int) = some [a] := lSub_nat (i := 0) (j := 1) (by omega) (by simp)
  rw [decide_eq_true (show (((a :: s).length : Nat) : Int) ≥ (([(45 : UInt8)].length : Nat) : Int) by simp; omega), if_pos rfl, hs, bs, bs, ha, if_pos (show (!false) = true from rfl), bs]
theorem cutP_yes (s : List UInt8) : strings_CutPrefix (45 :: s, [45]) = some (s, true) := by
 unfold strings_CutPrefix internal_stringslite_CutPrefix internal_stringslite_HasPrefix
 dsimp only
 try simp only [gPi, gSS, gPb, gPm, gPs, gM, gM2, gAnd, gOr, gAndI, gOrI, gAA, gAO, gOA, gOO, gAAf, gAOf, gOAf, gOOf, gAMf, gOMf, gId]
 try simp only [gIn1, gIn2, gIn3, gIn4, gIn5, gIn6, gIn7, gIn8, gId, gIdF, gMb, gMm, gBm, gBb, bs, ms]
 have hs : lSub (45 :: s) 0 (([(45 : UInt8)].length : Nat) : Int) = some [45] := lSub_nat (i := 0) (j := 1) (by omega) (by simp)
 have hs2 : lSub (45 :: s) (([(45 : UInt8)].length : Nat) : Int) (((45 :: s).length : Nat) : Int) = some s := by
  have := lSub_nat (xs := (45 : UInt8) :: s) (i := 1) (j := (45 :: s).length) (by simp) (by omega)
  rw [List.take_length] at this
  exact this
 rw [decide_eq_true (show (((45 :: s).length : Nat) : Int) ≥ (([(45 : UInt8)].length : Nat) : Int) by simp; omega), if_pos rfl, hs, bs, bs, if_neg (by decide), hs2, bs, bs]
theorem head_dgt (n : Nat) : (Lib.decDigits n).head? ≠ some 45 := by
 intro e
 cases hD : Lib.decDigits n with
 | nil => exact digits_ne n hD
 | cons a r =>
  rw [hD] at e
  have ha : a = 45 := Option.some.inj e
  have := digits_all n
  rw [hD, List.all_cons, Bool.and_eq_true] at this
  rw [ha] at this
  exact absurd this.1 (by decide)
theorem pint_digits {n : Nat} (h : n ≤ 9223372036854775807) : Lib.parseUintB 64 (Lib.decDigits n) = .ok n := by
 unfold Lib.parseUintB
 rw [if_neg (digits_ne n), parseM_digits (M := 2 ^ 64 - 1) (by omega) _ 0 (digits_all n) (by omega), digits_num, if_pos (by omega)]
theorem signed_eq {n : Int} (h : -1125899906842624 ≤ n ∧ n ≤ 1125899906842624) : fact_signed (Lib.itoa n) = some (n, true) := by
 have hl : (Lib.decDigits n.natAbs).length ≤ 20 := digits_len (by decide) (by have : (10 : Nat) ^ 20 = 100000000000000000000 := rfl; omega)
 have ht : tensB (Lib.decDigits n.natAbs) 9223372036854775808 = true := by
  unfold tensB
  rw [canon_digits, digits_num, decide_eq_true (by omega)]
  rfl
 have hcut : strings_CutPrefix (Lib.itoa n, [45]) = some (Lib.decDigits n.natAbs, decide (n < 0)) := by
  rw [itoa_f]
  by_cases hn : n < 0
  ·rw [if_pos hn, decide_eq_true hn]
   exact cutP_yes _
  ·rw [if_neg hn, decide_eq_false hn]
   exact cutP_no (head_dgt _)
 have hp : strconv_ParseInt (Lib.itoa n, 10, 64) = some (n, true) := by
  unfold strconv_ParseInt
  dsimp only
  rw [if_pos ⟨rfl, rfl, by rw [itoa_f]; simp only [List.length_append]; split <;> simp <;> omega⟩]
  have e : Lib.parseIntB 64 (Lib.itoa n) = .ok n := by
   rw [itoa_f]
   by_cases hn : n < 0
   ·rw [if_pos hn, List.singleton_append]
    unfold Lib.parseIntB
    dsimp only
    rw [if_pos (.inr rfl), pint_digits (by omega)]
    dsimp only
    rw [if_neg (by simp), if_neg (by simp; omega), if_pos (show UInt8.toNat 45 = 45 from rfl)]
    congr 1
    omega
   ·rw [if_neg hn, List.nil_append]
    have hh := head_dgt n.natAbs
    cases hD : Lib.decDigits n.natAbs with
    | nil => exact absurd hD (digits_ne _)
    | cons c r =>
     rw [hD] at hh
     have ha := digits_all n.natAbs
     rw [hD, List.all_cons, Bool.and_eq_true] at ha
     have hc := dgt_iff.1 ha.1
     unfold Lib.parseIntB
     dsimp only
     rw [if_neg (by omega), ← hD, pint_digits (by omega)]
     dsimp only
     rw [if_neg (by omega), if_neg (by omega), if_neg (by omega)]
     congr 1
     omega
  rw [e]
 unfold fact_signed
 dsimp only
 try simp only [gPi, gSS, gPb, gPm, gPs, gM, gM2, gAnd, gOr, gAndI, gOrI, gAA, gAO, gOA, gOO, gAAf, gAOf, gOAf, gOOf, gAMf, gOMf, gId]
 try simp only [gIn1, gIn2, gIn3, gIn4, gIn5, gIn6, gIn7, gIn8, gId, gIdF, gMb, gMm, gBm, gBb, bs, ms]
 rw [hcut, bs]
 dsimp only
 rw [ftens_eq (by omega) (by decide), bs, ht, if_neg (show ¬ ((!true) = true) by decide)]
 have d : (if decide (n < 0) = true then some (Lib.decDigits n.natAbs == [48]) else some false) = some false := by
  by_cases hn : n < 0
  ·rw [decide_eq_true hn, if_pos rfl]
   congr 1
   rw [beq_eq_false_iff_ne]
   intro e
   have := digits_num n.natAbs
   rw [e] at this
   have h0 : numV 0 [48] = 0 := rfl
   omega
  ·rw [decide_eq_false hn, if_neg (by decide)]
 rw [d, bs, if_neg (by decide), hp, bs]
end WB
namespace WB
open Go Go.RowKit
set_option linter.unusedSimpArgs false
set_option linter.unusedVariables false
set_option maxHeartbeats 1000000
theorem join2 (a b : List UInt8) (r : List (List UInt8)) : Lib.join (a :: b :: r) [32] = a ++ 32 :: Lib.join (b :: r) [32] := by
 rw [Lib.join_cons, Lib.join_cons]
 simp [Lib.joinTail]
theorem join_len : ∀ (l : List (List UInt8)), (Lib.join l [32]).length ≤ (l.map List.length).sum + l.length
 | [] => by simp [Lib.join_nil]
 | [a] => by simp [Lib.join_one]
 | a :: b :: r => by
  have h := join_len (b :: r)
  rw [join2]
  simp only [List.length_append, List.length_cons, List.map_cons, List.sum_cons] at h ⊢
  omega
theorem splitF_join : ∀ (l : List (List UInt8)) (k : Nat) (last : List UInt8), (∀ w ∈ l, ∀ b ∈ w, b ≠ 32) → l.length ≤ k → (l.length = k ∨ ∀ b ∈ last, b ≠ 32) → last ≠ [] → splitF 32 k [] (Lib.join (l ++ [last]) [32]) = l ++ [last]
 | [], k, last, _, _, h, hne => by
  rw [List.nil_append, Lib.join_one]
  rcases h with h | h
  ·have : k = 0 := h.symm
   subst this
   cases last with
   | nil => exact absurd rfl hne
   | cons a s => rfl
  ·rw [splitF_no 32 last [] k h]
   rfl
 | a :: l, k, last, hw, hl, h, hne => by
  cases k with
  | zero => simp at hl
  | succ k =>
   have ej : Lib.join (a :: l ++ [last]) [32] = a ++ 32 :: Lib.join (l ++ [last]) [32] := by
    cases l with
    | nil => exact join2 a last []
    | cons b l => exact join2 a b (l ++ [last])
   rw [ej, splitF_at 32 a _ [] k (hw a (by simp)), splitF_join l k last (fun w hm => hw w (by simp [hm])) (by simpa using hl) (by simpa using h) hne]
   rfl
def seven (x : Fct) (t u : List UInt8) : List (List UInt8) := [kname x.2.2.1, Lib.itoa x.1, Lib.itoa x.2.1, t, u, dashT x.2.2.2.2.2.1, Lib.itoa x.2.2.2.2.2.2.1]
def flds (x : Fct) (t u : List UInt8) : List (List UInt8) := if x.2.2.2.2.2.2.2 = [] then seven x t u else seven x t u ++ [x.2.2.2.2.2.2.2]
structure Parts (x : Fct) (t u : List UInt8) : Prop where
 r : RightF x
 id : 0 ≤ x.1 ∧ x.1 ≤ 4294967295
 p : 0 ≤ x.2.1 ∧ x.2.1 ≤ 4294967295
 t1 : civil_Text x.2.2.2.1 = some t
 t2 : civil_Parse t = some (x.2.2.2.1, 0)
 t3 : noB t ∧ t.length ≤ 10
 u1 : fact_until x.2.2.2.2.1 = some u
 u2 : fact_end u = some (x.2.2.2.2.1, true)
 u3 : noB u ∧ u.length ≤ 10
theorem parts_of {x : Fct} (h : checkS x = 0) (hid : 0 ≤ x.1 ∧ x.1 ≤ 4294967295) (hp : 0 ≤ x.2.1 ∧ x.2.1 ≤ 4294967295) : ∃ t u, Parts x t u := by
 have r := RightF.of h
 obtain ⟨t, t1, t2, t3, t4⟩ := date_f r.fr
 obtain ⟨u, u1, u2, u3, u4⟩ := until_f r.to
 exact ⟨t, u, r, hid, hp, t1, t2, ⟨t3, by omega⟩, u1, u2, u3, u4⟩
theorem seven_ok {x : Fct} {t u : List UInt8} (P : Parts x t u) : (∀ w ∈ seven x t u, noB w) ∧ ((seven x t u).map List.length).sum ≤ 200 := by
 have hk : (kname x.2.2.1).length ≤ 10 := by
  have h0 : ∀ i : Nat, i < 19 → (kname (i : Int)).length ≤ 10 := by decide
  obtain ⟨n, hn⟩ := Int.eq_ofNat_of_zero_le (show 0 ≤ x.2.2.1 by have := P.r.k.1; omega)
  rw [hn]
  exact h0 n (by have := P.r.k.2; omega)
 have hi : ∀ n : Int, -1125899906842624 ≤ n ∧ n ≤ 1125899906842624 → (Lib.itoa n).length ≤ 21 := fun n h => by
  rw [itoa_f]
  have hl : (Lib.decDigits n.natAbs).length ≤ 20 := digits_len (by decide) (by have : (10 : Nat) ^ 20 = 100000000000000000000 := rfl; omega)
  simp only [List.length_append]
  split <;> simp <;> omega
 have h1 := hi x.1 (by have := P.id; omega)
 have h2 := hi x.2.1 (by have := P.p; omega)
 have h3 := hi _ P.r.nm
 have h4 := (dash_noB P.r.cd).2.2.2
 have h5 := P.t3.2
 have h6 := P.u3.2
 refine ⟨fun w hw => ?_, ?_⟩
 ·unfold seven at hw
  simp only [List.mem_cons, List.not_mem_nil, or_false] at hw
  rcases hw with rfl | rfl | rfl | rfl | rfl | rfl | rfl
  ·exact kname_noB P.r.k
  ·exact itoa_noB _
  ·exact itoa_noB _
  ·exact P.t3.1
  ·exact P.u3.1
  ·exact (dash_noB P.r.cd).1
  ·exact itoa_noB _
 ·simp only [seven, List.map_cons, List.map_nil, List.sum_cons, List.sum_nil]
  omega
theorem flds_len {x : Fct} {t u : List UInt8} (P : Parts x t u) : (Lib.join (flds x t u) [32]).length ≤ 5000 ∧ ((flds x t u).length = 7 ∨ (flds x t u).length = 8) := by
 have h1 := (seven_ok P).2
 have h2 := join_len (flds x t u)
 have h3 := P.r.tx
 have h7 : (seven x t u).length = 7 := rfl
 unfold flds at h2 ⊢
 split at h2
 ·rename_i he
  rw [if_pos he]
  exact ⟨by omega, .inl rfl⟩
 ·rename_i he
  rw [if_neg he]
  simp only [List.map_append, List.sum_append, List.map_cons, List.map_nil, List.sum_cons, List.sum_nil, List.length_append, List.length_cons, List.length_nil] at h2 ⊢
  exact ⟨by omega, .inr (by omega)⟩
theorem Line_eq {x : Fct} {t u : List UInt8} (P : Parts x t u) (h : checkS x = 0) : fact_Fact_Line x = some (Lib.join (flds x t u) [32], 0) := by
 have hcd : x.2.2.2.2.2.1.length ≤ 4200 := by
  rcases code_cases P.r.cd with e | ⟨_, _, e⟩
  ·rw [e]; decide
  ·omega
 have hl := (flds_len P).1
 have fu : ∀ n : Int, 0 ≤ n ∧ n ≤ 4294967295 → strconv_FormatUint (IntKind.u64.wrap n, 10) = some (Lib.itoa n) := fun n hn => by
  unfold strconv_FormatUint
  have : IntKind.u64.wrap n = n := by rw [IntKind.wrap_u64]; omega
  rw [this, if_pos ⟨rfl, by omega, by omega⟩]
 have fi : strconv_FormatInt (x.2.2.2.2.2.2.1, 10) = some (Lib.itoa x.2.2.2.2.2.2.1) := by
  have := P.r.nm
  unfold strconv_FormatInt
  rw [if_pos ⟨rfl, by omega, by omega⟩]
 unfold fact_Fact_Line
 dsimp only
 try simp only [gPi, gSS, gPb, gPm, gPs, gM, gM2, gAnd, gOr, gAndI, gOrI, gAA, gAO, gOA, gOO, gAAf, gAOf, gOAf, gOOf, gAMf, gOMf, gId]
 try simp only [gIn1, gIn2, gIn3, gIn4, gIn5, gIn6, gIn7, gIn8, gId, gIdF, gMb, gMm, gBm, gBb, bs, ms]
 have hc : fact_Fact_Check (x.1, x.2.1, x.2.2.1, x.2.2.2.1, x.2.2.2.2.1, x.2.2.2.2.2.1, x.2.2.2.2.2.2.1, x.2.2.2.2.2.2.2) = some 0 := by
  rw [show fact_Fact_Check (x.1, x.2.1, x.2.2.1, x.2.2.2.1, x.2.2.2.2.1, x.2.2.2.2.2.1, x.2.2.2.2.2.2.1, x.2.2.2.2.2.2.2) = some (checkS x) from check_eq x hcd (by have := P.r.tx; omega), h]
 rw [hc, bs, if_neg (by decide), fact_Name_eq, bs, fu _ P.id, bs, fu _ P.p, bs, P.t1, bs, P.u1, bs, dash_eq, bs, fi, bs]
 have hj : ∀ l : List (List UInt8), l = flds x t u → strings_Join (l, [32]) = some (Lib.join (flds x t u) [32]) := fun l e => by
  subst e
  unfold strings_Join
  dsimp only
  rw [if_pos ⟨by omega, by rcases (flds_len P).2 with e | e <;> omega⟩]
 by_cases he : x.2.2.2.2.2.2.2 = []
 ·rw [he, if_neg (by decide), bs]
  dsimp only
  rw [hj _ (by unfold flds; rw [if_pos he]; rfl), bs]
 ·have d : (!(x.2.2.2.2.2.2.2 == [])) = true := by simpa using he
  rw [d, if_pos rfl, if_pos (by simp), bs]
  dsimp only
  rw [hj _ (by unfold flds; rw [if_neg he]; rfl), bs]
theorem split_line {x : Fct} {t u : List UInt8} (P : Parts x t u) : strings_SplitN (Lib.join (flds x t u) [32], [32], 8) = some (flds x t u) := by
 have hl := (flds_len P).1
 have hs := (seven_ok P).1
 have e := SplitN_eq (c := 32) (s := Lib.join (flds x t u) [32]) (by omega) (k := 7) (by omega)
 rw [show (((7 + 1 : Nat)) : Int) = 8 from rfl] at e
 rw [e]
 congr 1
 have h6 : seven x t u = [kname x.2.2.1, Lib.itoa x.1, Lib.itoa x.2.1, t, u, dashT x.2.2.2.2.2.1] ++ [Lib.itoa x.2.2.2.2.2.2.1] := rfl
 by_cases he : x.2.2.2.2.2.2.2 = []
 ·have ef : flds x t u = seven x t u := by unfold flds; rw [if_pos he]
  rw [ef, h6]
  refine splitF_join _ 7 _ (fun w hw => (hs w (by rw [h6]; exact List.mem_append.2 (.inl hw))).1) (by simp) (.inr (itoa_noB _).1) (itoa_noB _).2
 ·have ef : flds x t u = seven x t u ++ [x.2.2.2.2.2.2.2] := by unfold flds; rw [if_neg he]
  rw [ef]
  exact splitF_join _ 7 _ (fun w hw => (hs w hw).1) (by show 7 ≤ 7; omega) (.inl rfl) he
theorem k_loop {l : List (List UInt8)} {K : Nat} {id p : Int} (hl : l[0]? = some (kname (K : Int))) (hK : 1 ≤ K ∧ K ≤ 18) : ∀ (j k : Nat) (kd : Int), 1 ≤ k → 19 - k ≤ j → k ≤ 19 →
  iter fact_Parse_loop1 (l, true, (k : Int), 0, 0, 0, 0, 0, [], 0, [], id, p, kd, 0, 0, [], 0, [], (), (), (), (), ()) = some (l, true, 0, 0, 0, 0, 0, [], 0, [], id, p, (if k ≤ K then (K : Int) else kd), 0, 0, [], 0, [], (), (), (), (), ()) := by
 intro j
 induction j with
 | zero =>
  intro k kd h1 h2 h3
  have : k = 19 := by omega
  subst this
  refine itR ?_
  unfold fact_Parse_loop1
  dsimp only
  rw [decide_eq_false (by decide), if_neg (by decide), if_neg (by omega)]
 | succ j ih =>
  intro k kd h1 h2 h3
  by_cases h : k = 19
  ·subst h
   refine itR ?_
   unfold fact_Parse_loop1
   dsimp only
   rw [decide_eq_false (by decide), if_neg (by decide), if_neg (by omega)]
  ·have w : IntKind.i64.wrap ((k : Int) + 1) = ((k + 1 : Nat) : Int) := by rw [w64' (by omega) (by omega)]; omega
   have st : fact_Parse_loop1 (l, true, (k : Int), 0, 0, 0, 0, 0, [], 0, [], id, p, kd, 0, 0, [], 0, [], (), (), (), (), ()) = some (.inl (l, true, ((k + 1 : Nat) : Int), 0, 0, 0, 0, 0, [], 0, [], id, p, (if k = K then (k : Int) else kd), 0, 0, [], 0, [], (), (), (), (), ())) := by
    unfold fact_Parse_loop1
    dsimp only
    try simp only [gPi, gSS, gPb, gPm, gPs, gM, gM2, gAnd, gOr, gAndI, gOrI, gAA, gAO, gOA, gOO, gAAf, gAOf, gOAf, gOOf, gAMf, gOMf, gId]
    try simp only [gIn1, gIn2, gIn3, gIn4, gIn5, gIn6, gIn7, gIn8, gId, gIdF, gMb, gMm, gBm, gBb, bs, ms]
    rw [decide_eq_true (show (k : Int) < 19 by omega), if_pos rfl, fact_Name_eq, bs, show lAt l 0 = some (kname (K : Int)) from lAt_nat (i := 0) hl, bs]
    by_cases hk : k = K
    ·subst hk
     have d : (kname (k : Int) == kname (k : Int)) = true := by simp
     rw [d, if_pos rfl, bs, if_pos rfl]
     dsimp only
     rw [w]
    ·have d : (kname (k : Int) == kname (K : Int)) = false := by
      rw [beq_eq_false_iff_ne]
      intro e
      exact hk (kname_inj0 k (by omega) K (by omega) e h1)
     rw [d, if_neg (by decide), bs, if_neg hk]
     dsimp only
     rw [w]
   rw [itL st, ih (k + 1) _ (by omega) (by omega) (by omega)]
   by_cases hk : k = K
   ·subst hk
    rw [if_pos rfl, if_neg (by omega), if_pos (Nat.le_refl _)]
   ·rw [if_neg hk]
    by_cases hlt : k + 1 ≤ K
    ·rw [if_pos hlt, if_pos (by omega)]
    ·rw [if_neg hlt, if_neg (by omega)]
theorem eta8 {x : Fct} {c t : List UInt8} (h1 : x.2.2.2.2.2.1 = c) (h2 : x.2.2.2.2.2.2.2 = t) : ((x.1, x.2.1, x.2.2.1, x.2.2.2.1, x.2.2.2.2.1, c, x.2.2.2.2.2.2.1, t) : Fct) = x := by
 subst h1
 subst h2
 rfl
theorem Parse_line {x : Fct} {t u : List UInt8} (P : Parts x t u) (h : checkS x = 0) : fact_Parse (Lib.join (flds x t u) [32]) = some (x, 0) := by
 obtain ⟨K, hK⟩ := Int.eq_ofNat_of_zero_le (show 0 ≤ x.2.2.1 by have := P.r.k.1; omega)
 have hK' : 1 ≤ K ∧ K ≤ 18 := by have := P.r.k; omega
 have hcd : x.2.2.2.2.2.1.length ≤ 4200 := by
  rcases code_cases P.r.cd with e | ⟨_, _, e⟩
  ·rw [e]; decide
  ·omega
 have hne : ∀ w ∈ flds x t u, w ≠ [] := fun w hw => by
  unfold flds at hw
  split at hw
  ·exact ((seven_ok P).1 w hw).2
  ·rename_i he
   rcases List.mem_append.1 hw with g | g
   ·exact ((seven_ok P).1 w g).2
   ·rw [List.mem_singleton.1 g]; exact he
 have hat : ∀ (i : Nat) (w : List UInt8), (seven x t u)[i]? = some w → lAt (flds x t u) (i : Int) = some w := fun i w hw => by
  refine lAt_nat ?_
  unfold flds
  split
  ·exact hw
  ·rw [List.getElem?_append_left (List.getElem?_eq_some_iff.1 hw).1]; exact hw
 have hl8 : (flds x t u).length = (if x.2.2.2.2.2.2.2 = [] then 7 else 8) := by
  unfold flds
  split
  ·rfl
  ·rfl
 have hcon : slices_Contains (flds x t u, []) = some false := by
  rw [Contains_eq (by rcases (flds_len P).2 with e | e <;> omega)]
  congr 1
  rw [List.any_eq_false]
  intro w hw
  have := hne w hw
  cases w with
  | nil => exact absurd rfl this
  | cons a w => simp
 unfold fact_Parse
 dsimp only
 try simp only [gPi, gSS, gPb, gPm, gPs, gM, gM2, gAnd, gOr, gAndI, gOrI, gAA, gAO, gOA, gOO, gAAf, gAOf, gOAf, gOOf, gAMf, gOMf, gId]
 try simp only [gIn1, gIn2, gIn3, gIn4, gIn5, gIn6, gIn7, gIn8, gId, gIdF, gMb, gMm, gBm, gBb, bs, ms]
 rw [split_line P, bs, decide_eq_false (show ¬ (((flds x t u).length : Int) < 7) by rcases (flds_len P).2 with e | e <;> omega), if_neg (by decide), hcon, bs, if_neg (by decide)]
 rw [show lAt (flds x t u) 1 = some (Lib.itoa x.1) from hat 1 _ rfl, bs, parse1 P.id, bs, show lAt (flds x t u) 2 = some (Lib.itoa x.2.1) from hat 2 _ rfl, bs, parse1 P.p, bs]
 have h0 : (flds x t u)[0]? = some (kname (K : Int)) := by
  rw [← hK]
  unfold flds
  split <;> rfl
 have hk := k_loop (l := flds x t u) (id := x.1) (p := x.2.1) h0 hK' 19 1 0 (by omega) (by omega) (by omega)
 rw [show ((1 : Nat) : Int) = (1 : Int) from rfl, if_pos hK'.1, ← hK] at hk
 rw [hk, bs]
 dsimp only
 rw [show lAt (flds x t u) 3 = some t from hat 3 _ rfl, bs, P.t2, bs, show lAt (flds x t u) 4 = some u from hat 4 _ rfl, bs, P.u2, bs, show lAt (flds x t u) 6 = some (Lib.itoa x.2.2.2.2.2.2.1) from hat 6 _ rfl, bs, signed_eq P.r.nm, bs]
 have dk : (x.2.2.1 == 0) = false := by rw [beq_eq_false_iff_ne]; omega
 dsimp only
 rw [dk]
 simp only [Bool.not_true, Bool.false_eq_true, if_false, bs, bne_self_eq_false]
 rw [show lAt (flds x t u) 5 = some (dashT x.2.2.2.2.2.1) from hat 5 _ rfl]
 simp only [bs]
 obtain ⟨q1, q2, q3, q4⟩ := dash_noB P.r.cd
 have hch : fact_Fact_Check (x.1, x.2.1, x.2.2.1, x.2.2.2.1, x.2.2.2.2.1, x.2.2.2.2.2.1, x.2.2.2.2.2.2.1, x.2.2.2.2.2.2.2) = some 0 := by
  rw [show fact_Fact_Check (x.1, x.2.1, x.2.2.1, x.2.2.2.1, x.2.2.2.2.1, x.2.2.2.2.2.1, x.2.2.2.2.2.2.1, x.2.2.2.2.2.2.2) = some (checkS x) from check_eq x hcd (by have := P.r.tx; omega), h]
 have h7 : x.2.2.2.2.2.2.2 ≠ [] → lAt (flds x t u) 7 = some x.2.2.2.2.2.2.2 := fun he => by
  refine lAt_nat (i := 7) ?_
  unfold flds
  rw [if_neg he]
  rfl
 have fin : ∀ {c t : List UInt8} {e : Int}, x.2.2.2.2.2.1 = c → x.2.2.2.2.2.2.2 = t → e = 0 → (if (e != 0) = true then some (((0, 0, 0, 0, 0, [], 0, []) : Fct), e) else some (((x.1, x.2.1, x.2.2.1, x.2.2.2.1, x.2.2.2.2.1, c, x.2.2.2.2.2.2.1, t) : Fct), 0)) = some (x, 0) := fun h1 h2 h3 => by
  subst h3
  rw [eta8 h1 h2]
  rfl
 by_cases hd : dashT x.2.2.2.2.2.1 = [45]
 ·have hc0 := q2 hd
  rw [hd, if_neg (by decide), bs]
  dsimp only
  rw [hl8]
  by_cases he : x.2.2.2.2.2.2.2 = []
  ·rw [if_pos he, if_neg (by decide), bs]
   dsimp only
   rw [hc0, he] at hch
   rw [hch, bs]
   exact fin hc0 he rfl
  ·rw [if_neg he, if_pos (by decide), h7 he, bs, bs]
   dsimp only
   rw [hc0] at hch
   rw [hch, bs]
   exact fin hc0 rfl rfl
 ·have d : (!(dashT x.2.2.2.2.2.1 == [45])) = true := by simpa using hd
  rw [d, if_pos rfl, bs, q3 hd]
  dsimp only
  rw [hl8]
  by_cases he : x.2.2.2.2.2.2.2 = []
  ·rw [if_pos he, if_neg (by decide), bs]
   dsimp only
   rw [he] at hch
   rw [hch, bs]
   exact fin rfl he rfl
  ·rw [if_neg he, if_pos (by decide), h7 he, bs, bs]
   dsimp only
   rw [hch, bs]
   exact fin rfl rfl rfl
theorem Line_err {x : Fct} (hc : x.2.2.2.2.2.1.length ≤ 4200) (ht : x.2.2.2.2.2.2.2.length ≤ 4200) (h : checkS x ≠ 0) : fact_Fact_Line x = some ([], checkS x) := by
 unfold fact_Fact_Line
 dsimp only
 try simp only [gPi, gSS, gPb, gPm, gPs, gM, gM2, gAnd, gOr, gAndI, gOrI, gAA, gAO, gOA, gOO, gAAf, gAOf, gOAf, gOOf, gAMf, gOMf, gId]
 try simp only [gIn1, gIn2, gIn3, gIn4, gIn5, gIn6, gIn7, gIn8, gId, gIdF, gMb, gMm, gBm, gBb, bs, ms]
 have d : (checkS x != 0) = true := by simpa using h
 rw [show fact_Fact_Check (x.1, x.2.1, x.2.2.1, x.2.2.2.1, x.2.2.2.2.1, x.2.2.2.2.2.1, x.2.2.2.2.2.2.1, x.2.2.2.2.2.2.2) = some (checkS x) from check_eq x hc ht, bs, d, if_pos rfl]
theorem law_FactIDs (haw : law08_awake () = some true) {x : Fct} {a b : Int} (ha : 0 ≤ a ∧ a ≤ 4294967295) (hb : 0 ≤ b ∧ b ≤ 4294967295) (hp : 0 ≤ x.2.1 ∧ x.2.1 ≤ 4294967295) : law08_FactIDs (x, a, b) = some true := by
 unfold law08_FactIDs
 dsimp only
 try simp only [gPi, gSS, gPb, gPm, gPs, gM, gM2, gAnd, gOr, gAndI, gOrI, gAA, gAO, gOA, gOO, gAAf, gAOf, gOAf, gOOf, gAMf, gOMf, gId]
 try simp only [gIn1, gIn2, gIn3, gIn4, gIn5, gIn6, gIn7, gIn8, gId, gIdF, gMb, gMm, gBm, gBb, bs, ms]
 rw [haw, bs, if_neg (by decide)]
 by_cases g1 : (x.2.2.2.2.2.1.length : Int) > 300
 ·rw [decide_eq_true g1, if_pos rfl, bs, if_pos rfl]
 ·rw [decide_eq_false g1, if_neg (by decide), bs]
  by_cases g2 : (x.2.2.2.2.2.2.2.length : Int) > 4200
  ·rw [decide_eq_true g2, if_pos rfl]
  ·rw [decide_eq_false g2, if_neg (by decide)]
   have hc : x.2.2.2.2.2.1.length ≤ 4200 := by omega
   have ht : x.2.2.2.2.2.2.2.length ≤ 4200 := by omega
   have cA : fact_Fact_Check (a, x.2.1, x.2.2.1, x.2.2.2.1, x.2.2.2.2.1, x.2.2.2.2.2.1, x.2.2.2.2.2.2.1, x.2.2.2.2.2.2.2) = some (checkS x) := check_eq (a, x.2) hc ht
   have cB : fact_Fact_Check (b, x.2.1, x.2.2.1, x.2.2.2.1, x.2.2.2.2.1, x.2.2.2.2.2.1, x.2.2.2.2.2.2.1, x.2.2.2.2.2.2.2) = some (checkS x) := check_eq (b, x.2) hc ht
   have sm : fact_Fact_Same ((a, x.2.1, x.2.2.1, x.2.2.2.1, x.2.2.2.2.1, x.2.2.2.2.2.1, x.2.2.2.2.2.2.1, x.2.2.2.2.2.2.2), b, x.2.1, x.2.2.1, x.2.2.2.1, x.2.2.2.2.1, x.2.2.2.2.2.1, x.2.2.2.2.2.2.1, x.2.2.2.2.2.2.2) = some true := by
    rw [same_eq]
    congr 1
    rw [beq_iff_eq]
   rw [cA, cB, sm]
   simp only [bs]
   have db : (checkS x != checkS x) = false := by simp
   by_cases h : checkS x = 0
   ·obtain ⟨t, u, PA⟩ := parts_of (x := (a, x.2)) h ha hp
    have PB : Parts (b, x.2) t u := ⟨⟨PA.r.k, PA.r.fr, PA.r.to, PA.r.cd, PA.r.nm, PA.r.tx⟩, hb, hp, PA.t1, PA.t2, PA.t3, PA.u1, PA.u2, PA.u3⟩
    have lA : fact_Fact_Line (a, x.2.1, x.2.2.1, x.2.2.2.1, x.2.2.2.2.1, x.2.2.2.2.2.1, x.2.2.2.2.2.2.1, x.2.2.2.2.2.2.2) = some (Lib.join (flds (a, x.2) t u) [32], 0) := Line_eq PA h
    have lB : fact_Fact_Line (b, x.2.1, x.2.2.1, x.2.2.2.1, x.2.2.2.2.1, x.2.2.2.2.2.1, x.2.2.2.2.2.2.1, x.2.2.2.2.2.2.2) = some (Lib.join (flds (b, x.2) t u) [32], 0) := Line_eq PB h
    have pA := Parse_line PA h
    have pB := Parse_line PB h
    rw [lA, bs, lB, bs]
    dsimp only
    rw [if_neg (show ¬ (((0 : Int) != 0) = true) by decide), db]
    simp only [bs, Bool.false_eq_true, if_false, Bool.not_true]
    rw [if_neg (show ¬ (((0 : Int) != 0) = true) by decide), pA, bs]
    dsimp only
    have da : (a == a) = true := by simp
    rw [if_pos (show ((0 : Int) == 0) = true from rfl), da, bs, if_pos rfl]
    congr 1
    rw [beq_iff_eq, Bool.eq_iff_iff, beq_iff_eq, beq_iff_eq]
    constructor
    ·intro e
     rw [e, pB] at pA
     have := congrArg (fun o => o.map fun p => p.1.1) pA
     simpa using this.symm
    ·intro e; rw [e]
   ·have lA : fact_Fact_Line (a, x.2.1, x.2.2.1, x.2.2.2.1, x.2.2.2.2.1, x.2.2.2.2.2.1, x.2.2.2.2.2.2.1, x.2.2.2.2.2.2.2) = some ([], checkS x) := Line_err (x := (a, x.2)) hc ht h
    have lB : fact_Fact_Line (b, x.2.1, x.2.2.1, x.2.2.2.1, x.2.2.2.2.1, x.2.2.2.2.2.1, x.2.2.2.2.2.2.1, x.2.2.2.2.2.2.2) = some ([], checkS x) := Line_err (x := (b, x.2)) hc ht h
    have d0 : (checkS x != 0) = true := by simpa using h
    rw [lA, bs, lB, bs]
    dsimp only
    rw [db]
    simp only [bs, Bool.false_eq_true, if_false, Bool.not_true]
    rw [d0, if_pos rfl, if_pos (show (([] : List UInt8) == []) = true from rfl)]
    rfl
end WB

