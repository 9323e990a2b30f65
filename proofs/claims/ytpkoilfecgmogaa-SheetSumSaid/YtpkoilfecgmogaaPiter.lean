/-
  LOOPS: how what a loop comes to is shown.
-/
import Derived.Test.YtpkoilfecgmogaaCoreTo
namespace WB
open Go Go.RowKit

/-- Kept from simp's eye as no equation by reckoning (great bounds in a goal send the kernel deep). -/
theorem bs {α β : Type} (a : α) (f : α → Option β) : (some a).bind f = f a := (Option.bind_some a f).trans (Eq.refl _)
theorem ms {α β : Type} (a : α) (f : α → β) : (some a).map f = some (f a) := (Option.map_some (f := f) (a := a)).trans (Eq.refl _)

/-- A loop by an invariant with a measure. -/
theorem iter_inv {S T : Type} {b : S → Option (S ⊕ T)} {t : T} (I : Nat → S → Prop) (h : ∀ n s, I n s → (∃ s', b s = some (.inl s') ∧ ∃ m, m < n ∧ I m s') ∨ b s = some (.inr t)) : ∀ n s, I n s → iter b s = some t := by
  intro n
  induction n using Nat.strongRecOn with
  | _ n ih =>
    intro s hs
    rw [iter_eq]
    rcases h n s hs with ⟨s', h1, m, hm, h2⟩ | h1
    · rw [h1]; exact ih m hm s' h2
    · rw [h1]; rfl

theorem lAt_nat {α : Type} {xs : List α} {i : Nat} {a : α} (h : xs[i]? = some a) : lAt xs (i : Int) = some a := by
  have := (List.getElem?_eq_some_iff.1 h).1
  unfold lAt
  rw [if_pos ⟨by omega, by omega⟩]
  simpa using h
theorem sAt_nat {s : List UInt8} {i : Nat} {b : UInt8} (h : s[i]? = some b) : sAt s (i : Int) = some (b.toNat : Int) := by
  have := (List.getElem?_eq_some_iff.1 h).1
  unfold sAt
  rw [if_pos ⟨by omega, by omega⟩]
  simp [h]
theorem lSub_nat {α : Type} {xs : List α} {i j : Nat} (h1 : i ≤ j) (h2 : j ≤ xs.length) : lSub xs (i : Int) (j : Int) = some ((xs.take j).drop i) := by
  unfold lSub
  rw [if_pos ⟨by omega, by omega, by omega⟩]
  simp
theorem w64' {n : Int} (h1 : -9223372036854775808 ≤ n) (h2 : n ≤ 9223372036854775807) : IntKind.i64.wrap n = n := Go.IntWalk.i64_in n ⟨h1, h2⟩
theorem alGet_put {α β : Type} {eq : α → α → Bool} (he : ∀ a b, eq a b = true ↔ a = b) (z : β) (k k' : α) [Decidable (k = k')] (v : β) : ∀ (m : List (α × β)), alGet eq z k (alPut eq k' v m) = if k = k' then (v, true) else alGet eq z k m
  | [] => by
    unfold alPut alGet
    by_cases h : k = k'
    · subst h; simp [(he k k).2 rfl]
    · have : eq k k' = false := by
        cases hh : eq k k' with
        | false => rfl
        | true => exact absurd ((he _ _).1 hh) h
      simp [this, h, alGet]
  | p :: m => by
    unfold alPut
    by_cases hp : eq k' p.1 = true
    · rw [if_pos hp]
      have e := (he _ _).1 hp
      unfold alGet
      by_cases h : k = k'
      · subst h; simp [hp]
      · have : eq k p.1 = false := by
          cases hh : eq k p.1 with
          | false => rfl
          | true => exact absurd (((he _ _).1 hh).trans e.symm) h
        simp [this, h]
    · rw [if_neg hp]
      unfold alGet
      by_cases hq : eq k p.1 = true
      · have e := (he _ _).1 hq
        have : k ≠ k' := fun h => hp ((he _ _).2 (h.symm.trans e))
        simp [hq, this]
      · simp only [hq, Bool.false_eq_true, if_false]
        exact alGet_put he z k k' v m
theorem app1 {α : Type} {xs ys : List α} {k : Int} (hx : xs.length ≤ 1000000) (hy : ys.length ≤ 1000000) (hk : 0 ≤ k ∧ k ≤ 1000) :
    (if ((xs.length : Int) + (ys.length : Int)) * k ≤ 140737488355328 ∧ (xs.length : Int) + (ys.length : Int) ≤ 4611686018427387904 then some (xs ++ ys) else none) = some (xs ++ ys) := by
  rw [if_pos]
  refine ⟨?_, by omega⟩
  have h1 : ((xs.length : Int) + (ys.length : Int)) * k ≤ 2000000 * 1000 := Int.mul_le_mul (by omega) hk.2 hk.1 (by omega)
  omega
end WB
