/-
 FACTS: weights: code and document alike.
-/
import Derived.Test.YtlglbkbfmhelcaaGreatDoorK7
set_option linter.unusedVariables false
set_option linter.unusedSimpArgs false
namespace WB
open Go Go.RowKit
set_option linter.unusedSimpArgs false
set_option linter.unusedVariables false
def firstP (w : List UInt8) : List UInt8 := w.takeWhile (fun b => !(b == 58))
def restP (w : List UInt8) : List UInt8 := (w.dropWhile (fun b => !(b == 58))).tail
def hasP (w : List UInt8) : Bool := w.any (fun b => b == 58)
theorem twSelf {p : UInt8 → Bool} : ∀ {l : List UInt8}, (∀ x ∈ l, p x = true) → l.takeWhile p = l ∧ l.dropWhile p = []
 | [], _ => ⟨rfl, rfl⟩
 | x :: l, h => by
  have h1 := h x (by simp)
  have h2 := twSelf (l := l) fun y hy => h y (by simp [hy])
  simp [List.takeWhile_cons, List.dropWhile_cons, h1, h2.1, h2.2]
theorem parts (w : List UInt8) : ((∀ x ∈ w, x ≠ 58) ∧ firstP w = w ∧ restP w = [] ∧ hasP w = false) ∨ (w = firstP w ++ 58 :: restP w ∧ (∀ x ∈ firstP w, x ≠ 58) ∧ hasP w = true) := by
 rcases byte_split 58 w with h | ⟨l, t, rfl, h⟩
 ·refine .inl ⟨h, ?_, ?_, ?_⟩
  ·unfold firstP
   exact (twSelf fun x hx => by simpa using h x hx).1
  ·unfold restP
   have : w.dropWhile (fun b => !(b == 58)) = [] := (twSelf fun x hx => by simpa using h x hx).2
   rw [this]; rfl
  ·unfold hasP
   rw [List.any_eq_false]
   intro x hx; simpa using h x hx
 ·have e1 : (l ++ 58 :: t).takeWhile (fun b => !(b == 58)) = l := by
   rw [List.takeWhile_append_of_pos (by intro x hx; simpa using h x hx)]
   simp
  have e2 : (l ++ 58 :: t).dropWhile (fun b => !(b == 58)) = 58 :: t := by
   rw [List.dropWhile_append_of_pos (by intro x hx; simpa using h x hx)]
   simp
  refine .inr ⟨?_, ?_, ?_⟩
  ·unfold firstP restP; rw [e1, e2]; rfl
  ·unfold firstP; rw [e1]; exact h
  ·unfold hasP; simp
end WB

