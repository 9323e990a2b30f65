/-
 FACTS: weights: code and document alike.
-/
import Derived.Test.YtlglbkbfmhelcaaGreatDoorK8
set_option linter.unusedVariables false
set_option linter.unusedSimpArgs false
namespace WB
open Go Go.RowKit
set_option linter.unusedSimpArgs false
set_option linter.unusedVariables false
def firstP (w : List UInt8) : List UInt8 := w.takeWhile (fun b => !(b == 58))
def restP (w : List UInt8) : List UInt8 := (w.dropWhile (fun b => !(b == 58))).tail
def hasP (w : List UInt8) : Bool := w.any (fun b => b == 58)
def goodP (w : List UInt8) : Bool := hasP w && nameB (firstP w) && tensB (restP w) 1000000 && !(numV 0 (restP w) == 0)
def stepW (seen : List (List UInt8)) (w : List UInt8) : List (List UInt8) ⊕ (List (List UInt8) × Unit ⊕ Bool) := if goodP w = true ∧ firstP w ∉ seen then .inl (seen ++ [firstP w]) else .inr (.inr false)
def weightsB (s : List UInt8) : Bool := match foldE stepW (fun _ => .inl (splitB 32 s, ())) [] (splitB 32 s) with
 | .inl _ => decide (((splitB 32 s).length : Int) ≤ 64)
 | .inr b => b
theorem twSelf {p : UInt8 → Bool} : ∀ {l : List UInt8}, (∀ x ∈ l, p x = true) → l.takeWhile p = l ∧ l.dropWhile p = []
 | [], _ => ⟨rfl, rfl⟩
 | x :: l, h => by
  have h1 := h x (by simp)
  have h2 := twSelf (l := l) fun y hy => h y (by simp [hy])
  simp [List.takeWhile_cons, List.dropWhile_cons, h1, h2.1, h2.2]
theorem parts (w : List UInt8) : ((∀ x ∈ w, x ≠ 58) ∧ firstP w = w ∧ restP w = [] ∧ hasP w = false) ∨ (w = firstP w ++ 58 :: restP w ∧ (∀ x ∈ firstP w, x ≠ 58) ∧ hasP w = true) := by
 rcases byte_split 58 w with h | ⟨l, t, rfl, h⟩
 ·refine .inl ⟨h, ?_, ?_, ?_⟩
  ·unfold firstP
   exact (twSelf fun x hx => by simpa using h x hx).1
  ·unfold restP
   have : w.dropWhile (fun b => !(b == 58)) = [] := (twSelf fun x hx => by simpa using h x hx).2
   rw [this]; rfl
  ·unfold hasP
   rw [List.any_eq_false]
   intro x hx; simpa using h x hx
 ·have e1 : (l ++ 58 :: t).takeWhile (fun b => !(b == 58)) = l := by
   rw [List.takeWhile_append_of_pos (by intro x hx; simpa using h x hx)]
   simp
  have e2 : (l ++ 58 :: t).dropWhile (fun b => !(b == 58)) = 58 :: t := by
   rw [List.dropWhile_append_of_pos (by intro x hx; simpa using h x hx)]
   simp
  refine .inr ⟨?_, ?_, ?_⟩
  ·unfold firstP restP; rw [e1, e2]; rfl
  ·unfold firstP; rw [e1]; exact h
  ·unfold hasP; simp
theorem CutP_eq {w : List UInt8} (h : w.length ≤ 1000000) : strings_Cut (w, [58]) = some (firstP w, restP w, hasP w) := by
 rcases parts w with ⟨h1, h2, h3, h4⟩ | ⟨h1, h2, h3⟩
 ·rw [h2, h3, h4]; exact Cut_not h1
 ·have := Cut_at (l := firstP w) (t := restP w) h2 (by rw [← h1]; omega)
  rw [← h1] at this
  rw [this, h3]
theorem part_len (w : List UInt8) : (firstP w).length ≤ w.length ∧ (restP w).length ≤ w.length := by
 rcases parts w with ⟨h1, h2, h3, h4⟩ | ⟨h1, h2, h3⟩
 ·rw [h2, h3]; simp
 ·have := congrArg List.length h1
  simp at this
  omega
theorem eqZs (a b : List UInt8) : eqZ .str a b = true ↔ a = b := by
 show (a == b) = true ↔ a = b
 simp
theorem tensB_nn {w : List UInt8} {m : Int} (h : tensB w m = true) (hm : m ≤ 18446744073709551615) : tensV w = (numV 0 w : Int) := by
 unfold tensB at h
 simp only [Bool.and_eq_true, decide_eq_true_eq] at h
 unfold tensV
 rw [if_pos h.1, if_pos (by omega)]
abbrev WA := List (List UInt8 × Int) × List (List UInt8)
theorem weights_step {l : List (List UInt8)} (hl : l.length ≤ 1000000) (hw : ∀ w ∈ l, w.length ≤ 1000000) {i : Nat} {w : List UInt8} (hi : l[i]? = some w) {met : List (List UInt8 × Int)} {seen : List (List UInt8)}
  (hm : ∀ k, (alGet (eqZ .str) (zeroT (.int .i64)) k met).1 = if k ∈ seen then 1 else 0) :
  fact_weights_loop1 (l, l, (l.length : Int), (i : Int), met, (), ()) = some (if goodP w = true ∧ firstP w ∉ seen then .inl (l, l, (l.length : Int), ((i + 1 : Nat) : Int), alPut (eqZ .str) (firstP w) 1 met, (), ()) else .inr (.inr false)) := by
 have hwl := hw w (List.mem_of_getElem? hi)
 have hil := (List.getElem?_eq_some_iff.1 hi).1
 have ws := w_succ (show i < 9223372036854775807 by omega)
 have hpl := part_len w
 unfold fact_weights_loop1
 dsimp only
 simp only [gPi, gSS, gPb, gPm, gPs, gM, gM2, gAnd, gOr, gAndI, gOrI, gAA, gAO, gOA, gOO, gAAf, gAOf, gOAf, gOOf, gAMf, gOMf, gId]
 simp only [gIn1, gIn2, gIn3, gIn4, gIn5, gIn6, gIn7, gIn8, gId, gIdF, gMb, gMm, gBm, gBb, bs, ms]
 have t1 := ftens_eq (s := restP w) (most := 1000000) (by omega) (by decide)
 have n1 := isName_eq (s := firstP w) (by omega)
 simp only [lt_len hi, if_true, lAt_nat hi, bs, CutP_eq hwl, t1, n1, ws, hm (firstP w)]
 have hget : ∀ v : Int, (alGet (eqZ .str) (zeroT (.int .i64)) (firstP w) (alPut (eqZ .str) (firstP w) v met)).1 = v := by
  intro v
  rw [alGet_put eqZs, if_pos rfl]
 rw [hget]
 unfold goodP
 cases h1 : hasP w with
 | false => simp
 | true =>
  cases h2 : nameB (firstP w) with
  | false => simp
  | true =>
   cases h3 : tensB (restP w) 1000000 with
   | false => simp
   | true =>
    rw [tensB_nn h3 (by decide)]
    by_cases h4 : numV 0 (restP w) = 0
    ·simp [h4]
    ·have e4 : ((numV 0 (restP w) : Int) == 0) = false := by
      have : ¬ (numV 0 (restP w) : Int) = 0 := by omega
      simpa using this
     have e5 : (numV 0 (restP w) == 0) = false := by simpa using h4
     by_cases h5 : firstP w ∈ seen
     ·have w1 : IntKind.i64.wrap ((1 : Int) + 1) = 2 := by decide
      simp only [h5, if_true, e4, e5, w1]
      simp
     ·have w1 : IntKind.i64.wrap ((0 : Int) + 1) = 1 := by decide
      simp only [h5, if_false, e4, e5, w1]
      simp
theorem weights_eq {s : List UInt8} (h : s.length ≤ 900000) : fact_weights s = some (weightsB s) := by
 have hw : ∀ w ∈ splitB 32 s, w.length ≤ 1000000 := fun w hw => by
  have := (splitU_word 32 s [] (by simp) w hw).2.1
  simp at this; omega
 have hlen : (splitB 32 s).length ≤ 1000000 := by
  unfold splitB
  rw [splitU_len]
  have : s.count 32 ≤ s.length := List.count_le_length
  omega
 have e1 : strings_Split (s, [32]) = some (splitB 32 s) := Split_eq (by omega)
 unfold fact_weights
 dsimp only
 rw [e1, bs]
 have e := iter_fold0 (b := fact_weights_loop1) (A := WA) (T := (List (List UInt8) × Unit) ⊕ Bool) (fun i a => (splitB 32 s, splitB 32 s, ((splitB 32 s).length : Int), (i : Int), a.1, (), ()))
  (fun a w => if goodP w = true ∧ firstP w ∉ a.2 then .inl (alPut (eqZ .str) (firstP w) 1 a.1, a.2 ++ [firstP w]) else .inr (.inr false)) (fun _ => .inl (splitB 32 s, ()))
  (fun i a => ∀ k, (alGet (eqZ .str) (zeroT (.int .i64)) k a.1).1 = if k ∈ a.2 then 1 else 0) (splitB 32 s) (a := ([], [])) (fun k => by simp [alGet, zeroT]) ?_ ?_ ?_
 ·rw [show ((0 : Nat) : Int) = 0 from rfl] at e
  rw [e, bs]
  have key : ∀ (l : List (List UInt8)) (met : List (List UInt8 × Int)) (seen : List (List UInt8)), foldE (T := (List (List UInt8) × Unit) ⊕ Bool) (fun (a : WA) w => if goodP w = true ∧ firstP w ∉ a.2 then .inl (alPut (eqZ .str) (firstP w) 1 a.1, a.2 ++ [firstP w]) else .inr (.inr false)) (fun _ => .inl (splitB 32 s, ())) (met, seen) l = foldE stepW (fun _ => .inl (splitB 32 s, ())) seen l := by
   intro l
   induction l with
   | nil => intro met seen; rfl
   | cons w l ih =>
    intro met seen
    rw [foldE, foldE]
    unfold stepW
    by_cases hg : goodP w = true ∧ firstP w ∉ seen
    ·rw [if_pos hg, if_pos hg]
     exact ih _ _
    ·rw [if_neg hg, if_neg hg]
  rw [key]
  unfold weightsB
  have hend : ∀ (l : List (List UInt8)) (seen : List (List UInt8)), foldE stepW (fun _ => .inl (splitB 32 s, ())) seen l = .inl (splitB 32 s, ()) ∨ ∃ b, foldE stepW (fun _ => .inl (splitB 32 s, ())) seen l = .inr b := by
   intro l
   induction l with
   | nil => intro seen; exact .inl rfl
   | cons w l ih =>
    intro seen
    rw [foldE]
    unfold stepW
    by_cases hg : goodP w = true ∧ firstP w ∉ seen
    ·rw [if_pos hg]; exact ih _
    ·rw [if_neg hg]; exact .inr ⟨false, rfl⟩
  rcases hend (splitB 32 s) [] with h1 | ⟨b, h1⟩
  ·rw [h1]
  ·rw [h1]
 ·rintro i w ⟨met, seen⟩ hx hI
  rw [weights_step hlen hw hx hI]
  dsimp only
  by_cases hg : goodP w = true ∧ firstP w ∉ seen
  ·rw [if_pos hg, if_pos hg]; rfl
  ·rw [if_neg hg, if_neg hg]; rfl
 ·rintro i w ⟨met, seen⟩ a' hx hI hst
  dsimp only at hst hI
  split at hst
  ·rename_i hg
   cases hst
   intro k
   rw [alGet_put eqZs]
   by_cases hk : k = firstP w
   ·rw [if_pos hk, hk]; simp
   ·rw [if_neg hk, hI k]
    simp [hk]
  ·cases hst
 ·rintro ⟨met, seen⟩ _
  unfold fact_weights_loop1
  dsimp only
  simp only [nlt_len, Bool.false_eq_true, if_false]
end WB

