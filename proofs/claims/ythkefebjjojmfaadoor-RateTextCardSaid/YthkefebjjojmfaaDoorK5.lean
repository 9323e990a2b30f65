/-
  OWN TEXTS, MERGED (wip/merge.py): Piter, Pgd, Pu64, Pknuth, PG, PrA, PrB, PrC, PrD, PrE, PrF, PrH, PrI, PrJ, PrK. No condition of their own.
-/
import Derived.Test.YthkefebjjojmfaaDoorK4
import Derived.Lib.Mul64
import Derived.Laws.Bits64b
import Derived.Laws.BitsLemmas
import Derived.Lib.BitFns
set_option linter.unusedVariables false
set_option linter.unusedSimpArgs false
namespace WB
open Go Go.RowKit

/-- Kept from simp's eye as no equation by reckoning (great bounds in a goal send the kernel deep). -/
theorem bs {α β : Type} (a : α) (f : α → Option β) : (some a).bind f = f a := (Option.bind_some a f).trans (Eq.refl _)
theorem ms {α β : Type} (a : α) (f : α → β) : (some a).map f = some (f a) := (Option.map_some (f := f) (a := a)).trans (Eq.refl _)

/-- A loop by an invariant with a measure. -/
theorem iter_inv {S T : Type} {b : S → Option (S ⊕ T)} {t : T} (I : Nat → S → Prop) (h : ∀ n s, I n s → (∃ s', b s = some (.inl s') ∧ ∃ m, m < n ∧ I m s') ∨ b s = some (.inr t)) : ∀ n s, I n s → iter b s = some t := by
  intro n
  induction n using Nat.strongRecOn with
  | _ n ih =>
    intro s hs
    rw [iter_eq]
    rcases h n s hs with ⟨s', h1, m, hm, h2⟩ | h1
    · rw [h1]; exact ih m hm s' h2
    · rw [h1]; rfl

theorem lAt_nat {α : Type} {xs : List α} {i : Nat} {a : α} (h : xs[i]? = some a) : lAt xs (i : Int) = some a := by
  have := (List.getElem?_eq_some_iff.1 h).1
  unfold lAt
  rw [if_pos ⟨by omega, by omega⟩]
  simpa using h
theorem sAt_nat {s : List UInt8} {i : Nat} {b : UInt8} (h : s[i]? = some b) : sAt s (i : Int) = some (b.toNat : Int) := by
  have := (List.getElem?_eq_some_iff.1 h).1
  unfold sAt
  rw [if_pos ⟨by omega, by omega⟩]
  simp [h]
theorem lSub_nat {α : Type} {xs : List α} {i j : Nat} (h1 : i ≤ j) (h2 : j ≤ xs.length) : lSub xs (i : Int) (j : Int) = some ((xs.take j).drop i) := by
  unfold lSub
  rw [if_pos ⟨by omega, by omega, by omega⟩]
  simp
theorem w64' {n : Int} (h1 : -9223372036854775808 ≤ n) (h2 : n ≤ 9223372036854775807) : IntKind.i64.wrap n = n := Go.IntWalk.i64_in n ⟨h1, h2⟩
theorem alGet_put {α β : Type} {eq : α → α → Bool} (he : ∀ a b, eq a b = true ↔ a = b) (z : β) (k k' : α) [Decidable (k = k')] (v : β) : ∀ (m : List (α × β)), alGet eq z k (alPut eq k' v m) = if k = k' then (v, true) else alGet eq z k m
  | [] => by
    unfold alPut alGet
    by_cases h : k = k'
    · subst h; simp [(he k k).2 rfl]
    · have : eq k k' = false := by
        cases hh : eq k k' with
        | false => rfl
        | true => exact absurd ((he _ _).1 hh) h
      simp [this, h, alGet]
  | p :: m => by
    unfold alPut
    by_cases hp : eq k' p.1 = true
    · rw [if_pos hp]
      have e := (he _ _).1 hp
      unfold alGet
      by_cases h : k = k'
      · subst h; simp [hp]
      · have : eq k p.1 = false := by
          cases hh : eq k p.1 with
          | false => rfl
          | true => exact absurd (((he _ _).1 hh).trans e.symm) h
        simp [this, h]
    · rw [if_neg hp]
      unfold alGet
      by_cases hq : eq k p.1 = true
      · have e := (he _ _).1 hq
        have : k ≠ k' := fun h => hp ((he _ _).2 (h.symm.trans e))
        simp [hq, this]
      · simp only [hq, Bool.false_eq_true, if_false]
        exact alGet_put he z k k' v m
theorem app1 {α : Type} {xs ys : List α} {k : Int} (hx : xs.length ≤ 1000000) (hy : ys.length ≤ 1000000) (hk : 0 ≤ k ∧ k ≤ 1000) :
    (if ((xs.length : Int) + (ys.length : Int)) * k ≤ 140737488355328 ∧ (xs.length : Int) + (ys.length : Int) ≤ 4611686018427387904 then some (xs ++ ys) else none) = some (xs ++ ys) := by
  rw [if_pos]
  refine ⟨?_, by omega⟩
  have h1 : ((xs.length : Int) + (ys.length : Int)) * k ≤ 2000000 * 1000 := Int.mul_le_mul (by omega) hk.2 hk.1 (by omega)
  omega
end WB
namespace WB
open Go Go.RowKit

section
variable {α β γ δ : Type} {p : Prop} [Decidable p]
theorem gPb (X : Option α) (f : α → Option β) : (if p then X else none).bind f = if p then X.bind f else none := by by_cases h : p <;> simp [h]
theorem gPm (X : Option α) (f : α → β) : (if p then X else none).map f = if p then X.map f else none := by by_cases h : p <;> simp [h]
theorem gPs (Y Z : Option β) (W : Option β) : (if p then (if p then Z else W) else Y) = if p then Z else Y := by by_cases h : p <;> simp [h]
theorem gPsm (Z W : Option α) (Y : Option (Option α)) : (if p then (if p then Z else W).map some else Y) = if p then Z.map some else Y := by by_cases h : p <;> simp [h]
theorem gM (A : Option α) (B : Option α → Option β) (K : Option β → Option γ) : (Option.bind (if p then A.map some else some none) fun x => Option.bind (if p then (B x).map some else some none) K) = Option.bind (if p then (A.bind fun v => B (some v)).map some else some none) K := by by_cases h : p <;> cases A <;> simp [h]
theorem gM2 (A : Option α) (B : Option α → Option β) (C : Option α → Option β → Option γ) (K : Option γ → Option δ) : (Option.bind (if p then A.map some else some none) fun x => Option.bind (if p then (B x).map some else some none) fun y => Option.bind (if p then (C x y).map some else some none) K) = Option.bind (if p then (A.bind fun v => (B (some v)).bind fun w => C (some v) (some w)).map some else some none) K := by
  by_cases h : p
  · cases A with
    | none => simp [h]
    | some v => simp only [h, if_true, Option.map_some, Option.bind_some]; cases B (some v) <;> simp
  · simp [h]
/-- The ends: and, or. -/
theorem gAnd (c : Bool) (A : Option α) (B : Option α → Option Bool) (K : Bool → Option β) : (Option.bind (if c = true then A.map some else some none) fun x => Option.bind (if c = true then B x else some false) K) = Option.bind (if c = true then A.bind fun v => B (some v) else some false) K := by cases c <;> cases A <;> simp
theorem gOr (c : Bool) (A : Option α) (B : Option α → Option Bool) (K : Bool → Option β) : (Option.bind (if c = false then A.map some else some none) fun x => Option.bind (if c = true then some true else B x) K) = Option.bind (if c = true then some true else A.bind fun v => B (some v)) K := by cases c <;> cases A <;> simp
/-- An and, or an or, within a guarded chain. -/
theorem gAndI (A B : Option Bool) (K : Option Bool → Option β) : (Option.bind (if p then A.map some else some none) fun g => Option.bind (if g = some true then B.map some else some none) fun x => Option.bind (if p then (g.bind fun z => if z = true then x else some false).map some else some none) K) = Option.bind (if p then (A.bind fun z => if z = true then B else some false).map some else some none) K := by
  by_cases h : p
  · cases A with
    | none => simp [h]
    | some v => cases v <;> cases B <;> simp [h]
  · simp [h]
theorem gOrI (A B : Option Bool) (K : Option Bool → Option β) : (Option.bind (if p then A.map some else some none) fun g => Option.bind (if g = some false then B.map some else some none) fun x => Option.bind (if p then (g.bind fun z => if z = true then some true else x).map some else some none) K) = Option.bind (if p then (A.bind fun z => if z = true then some true else B).map some else some none) K := by
  by_cases h : p
  · cases A with
    | none => simp [h]
    | some v => cases v <;> cases B <;> simp [h]
  · simp [h]
theorem gAA (c : Bool) (A : Option Bool) (B : Option α) (C : Option α → Option Bool) (K : Bool → Option β) : (Option.bind (if c = true then A.map some else some none) fun g => Option.bind (if g = some true then B.map some else some none) fun x => Option.bind (if c = true then g.bind fun z => if z = true then C x else some false else some false) K) = Option.bind (if c = true then A.bind fun z => if z = true then B.bind fun v => C (some v) else some false else some false) K := by
  cases c <;> cases A <;> first | (simp; done) | (rename_i v; cases v <;> cases B <;> simp)
theorem gAO (c : Bool) (A : Option Bool) (B : Option α) (C : Option α → Option Bool) (K : Bool → Option β) : (Option.bind (if c = false then A.map some else some none) fun g => Option.bind (if g = some true then B.map some else some none) fun x => Option.bind (if c = true then some true else g.bind fun z => if z = true then C x else some false) K) = Option.bind (if c = true then some true else A.bind fun z => if z = true then B.bind fun v => C (some v) else some false) K := by
  cases c <;> cases A <;> first | (simp; done) | (rename_i v; cases v <;> cases B <;> simp)
theorem gOA (c : Bool) (A : Option Bool) (B : Option α) (C : Option α → Option Bool) (K : Bool → Option β) : (Option.bind (if c = true then A.map some else some none) fun g => Option.bind (if g = some false then B.map some else some none) fun x => Option.bind (if c = true then g.bind fun z => if z = true then some true else C x else some false) K) = Option.bind (if c = true then A.bind fun z => if z = true then some true else B.bind fun v => C (some v) else some false) K := by
  cases c <;> cases A <;> first | (simp; done) | (rename_i v; cases v <;> cases B <;> simp)
theorem gOO (c : Bool) (A : Option Bool) (B : Option α) (C : Option α → Option Bool) (K : Bool → Option β) : (Option.bind (if c = false then A.map some else some none) fun g => Option.bind (if g = some false then B.map some else some none) fun x => Option.bind (if c = true then some true else g.bind fun z => if z = true then some true else C x) K) = Option.bind (if c = true then some true else A.bind fun z => if z = true then some true else B.bind fun v => C (some v)) K := by
  cases c <;> cases A <;> first | (simp; done) | (rename_i v; cases v <;> cases B <;> simp)
theorem gAAf (c : Bool) (A : Option Bool) (B : Option α) (C : Option α → Option Bool) (F : Bool → Option Bool) (K : Bool → Option β) : (Option.bind (if c = true then A.map some else some none) fun g => Option.bind (if g = some true then B.map some else some none) fun x => Option.bind (if c = true then (g.bind fun z => if z = true then C x else some false).bind F else some false) K) = Option.bind (if c = true then (A.bind fun z => if z = true then B.bind fun v => C (some v) else some false).bind F else some false) K := by
  cases c <;> cases A <;> first | (simp ; done) | (rename_i v; cases v <;> cases B <;> simp )
theorem gAOf (c : Bool) (A : Option Bool) (B : Option α) (C : Option α → Option Bool) (F : Bool → Option Bool) (K : Bool → Option β) : (Option.bind (if c = false then A.map some else some none) fun g => Option.bind (if g = some true then B.map some else some none) fun x => Option.bind (if c = true then some true else (g.bind fun z => if z = true then C x else some false).bind F) K) = Option.bind (if c = true then some true else (A.bind fun z => if z = true then B.bind fun v => C (some v) else some false).bind F) K := by
  cases c <;> cases A <;> first | (simp ; done) | (rename_i v; cases v <;> cases B <;> simp )
theorem gOAf (c : Bool) (A : Option Bool) (B : Option α) (C : Option α → Option Bool) (F : Bool → Option Bool) (K : Bool → Option β) : (Option.bind (if c = true then A.map some else some none) fun g => Option.bind (if g = some false then B.map some else some none) fun x => Option.bind (if c = true then (g.bind fun z => if z = true then some true else C x).bind F else some false) K) = Option.bind (if c = true then (A.bind fun z => if z = true then some true else B.bind fun v => C (some v)).bind F else some false) K := by
  cases c <;> cases A <;> first | (simp ; done) | (rename_i v; cases v <;> cases B <;> simp )
theorem gOOf (c : Bool) (A : Option Bool) (B : Option α) (C : Option α → Option Bool) (F : Bool → Option Bool) (K : Bool → Option β) : (Option.bind (if c = false then A.map some else some none) fun g => Option.bind (if g = some false then B.map some else some none) fun x => Option.bind (if c = true then some true else (g.bind fun z => if z = true then some true else C x).bind F) K) = Option.bind (if c = true then some true else (A.bind fun z => if z = true then some true else B.bind fun v => C (some v)).bind F) K := by
  cases c <;> cases A <;> first | (simp ; done) | (rename_i v; cases v <;> cases B <;> simp )
theorem gAMf (A : Option Bool) (B : Option α) (C : Option α → Option Bool) (F : Bool → Option γ) (K : Option γ → Option β) : (Option.bind (if p then A.map some else some none) fun g => Option.bind (if g = some true then B.map some else some none) fun x => Option.bind (if p then ((g.bind fun z => if z = true then C x else some false).bind F).map some else some none) K) = Option.bind (if p then ((A.bind fun z => if z = true then B.bind fun v => C (some v) else some false).bind F).map some else some none) K := by
  by_cases h : p <;> cases A <;> first | (simp [h]; done) | (rename_i v; cases v <;> cases B <;> simp [h])
theorem gOMf (A : Option Bool) (B : Option α) (C : Option α → Option Bool) (F : Bool → Option γ) (K : Option γ → Option β) : (Option.bind (if p then A.map some else some none) fun g => Option.bind (if g = some false then B.map some else some none) fun x => Option.bind (if p then ((g.bind fun z => if z = true then some true else C x).bind F).map some else some none) K) = Option.bind (if p then ((A.bind fun z => if z = true then some true else B.bind fun v => C (some v)).bind F).map some else some none) K := by
  by_cases h : p <;> cases A <;> first | (simp [h]; done) | (rename_i v; cases v <;> cases B <;> simp [h])
theorem gIn1 (A : Option α) (X Y : α → Option β) (R : α → β → Option γ) (Z : Option γ) : (if p then (A.bind fun v => (if p then X v else Y v).bind (R v)) else Z) = if p then (A.bind fun v => (X v).bind (R v)) else Z := by by_cases h : p <;> simp [h]
theorem gIn2 (A : Option α) (X Y : α → Option β) (R : α → β → γ) (Z : Option γ) : (if p then (A.bind fun v => (if p then X v else Y v).map (R v)) else Z) = if p then (A.bind fun v => (X v).map (R v)) else Z := by by_cases h : p <;> simp [h]
theorem gIn3 (X Y : Option β) (R : β → Option γ) (Z : Option γ) : (if p then ((if p then X else Y).bind R) else Z) = if p then (X.bind R) else Z := by by_cases h : p <;> simp [h]
theorem gIn4 (X Y : Option β) (R : β → γ) (Z : Option γ) : (if p then ((if p then X else Y).map R) else Z) = if p then (X.map R) else Z := by by_cases h : p <;> simp [h]
theorem gIn5 (c : Bool) (X Y : Option β) (R : β → Option γ) (Z : Option γ) : (if c = true then Z else ((if c = false then X else Y).bind R)) = if c = true then Z else X.bind R := by cases c <;> simp
theorem gIn6 (c : Bool) (A : Option α) (X Y : α → Option β) (R : α → β → Option γ) (Z : Option γ) : (if c = true then Z else (A.bind fun v => (if c = false then X v else Y v).bind (R v))) = if c = true then Z else (A.bind fun v => (X v).bind (R v)) := by cases c <;> simp
theorem gIn7 (c : Bool) (A : Option α) (X Y : α → Option β) (R : α → β → γ) (Z : Option γ) : (if c = true then Z else (A.bind fun v => (if c = false then X v else Y v).map (R v))) = if c = true then Z else (A.bind fun v => (X v).map (R v)) := by cases c <;> simp
theorem gIn8 (c : Bool) (X Y : Option β) (R : β → γ) (Z : Option γ) : (if c = true then Z else ((if c = false then X else Y).map R)) = if c = true then Z else X.map R := by cases c <;> simp
theorem gPi (X : Option α) (Y W : α → Option β) (Z : Option β) : (if p then (X.bind fun z => if p then Y z else W z) else Z) = if p then X.bind Y else Z := by by_cases h : p <;> simp [h]
theorem gSS (v : α) (Z : Option (Option α)) : (if p then some (some v) else Z) = if p then (some v).map some else Z := rfl
theorem gId (X : Option α) : X.map (fun z => z) = X := by cases X <;> rfl
theorem gIdF (X : Option α) : (X.bind fun z => some z) = X := by cases X <;> rfl
theorem gMb (X : Option α) (f : α → β) (g : β → Option γ) : (X.map f).bind g = X.bind fun v => g (f v) := by cases X <;> rfl
theorem gMm (X : Option α) (f : α → β) (g : β → γ) : (X.map f).map g = X.map fun v => g (f v) := by cases X <;> rfl
theorem gBm (X : Option α) (f : α → Option β) (g : β → γ) : (X.bind f).map g = X.bind fun v => (f v).map g := by cases X <;> rfl
theorem gBb (X : Option α) (f : α → Option β) (g : β → Option γ) : (X.bind f).bind g = X.bind fun v => (f v).bind g := by cases X <;> rfl
end
end WB
namespace WB
open Go Go.RowKit

theorem wu64 {n : Nat} (h : n < 18446744073709551616) : IntKind.u64.wrap (n : Int) = (n : Int) := by rw [IntKind.wrap_u64]; omega
theorem wu64' {n : Int} (h1 : 0 ≤ n) (h2 : n < 18446744073709551616) : IntKind.u64.wrap n = n := by rw [IntKind.wrap_u64]; omega
theorem wu64m (n : Nat) : IntKind.u64.wrap (n : Int) = ((n % 18446744073709551616 : Nat) : Int) := by rw [IntKind.wrap_u64]; omega
theorem bitZ_bits (op : BinOp) (k : IntKind) (x y : Int) (h : op = .and ∨ op = .or) : bitZ op k x y = bits op k x y := by
  rcases h with rfl | rfl <;> rfl
theorem mask32 {n : Nat} (h : n < 18446744073709551616) : bitZ .and .u64 (n : Int) 4294967295 = ((n % 4294967296 : Nat) : Int) := by
  rw [bitZ_bits _ _ _ _ (.inl rfl)]
  have h1 := bits_and_u64_nat n 4294967295 h (by omega)
  have e : n &&& 4294967295 = n % 4294967296 := Nat.and_two_pow_sub_one_eq_mod n 32
  rw [e] at h1
  exact h1
theorem shr32 (n : Nat) : (if (32 : Int) < 0 then none else some ((n : Int).fdiv (2 ^ (min (32 : Int).toNat 64)))) = some ((n / 4294967296 : Nat) : Int) := by
  rw [if_neg (by decide)]
  have e : (2 : Int) ^ (min (32 : Int).toNat 64) = 4294967296 := by decide
  rw [e, Int.fdiv_eq_ediv_of_nonneg _ (by decide)]
  congr 1
end WB
namespace WB

section
variable {b p z u n q r : Nat}

/-- A guess that is too great shows itself. -/
theorem kn_test (h : q * p + r = u) : b * r + n < q * z ↔ u * b + n < q * (p * b + z) := by
  have e1 : q * (p * b + z) = q * p * b + q * z := by rw [Nat.mul_add, Nat.mul_assoc]
  have e2 : u * b = q * p * b + b * r := by rw [← h, Nat.add_mul, Nat.mul_comm r b]
  omega
theorem kn_lt {d N : Nat} (hd : 0 < d) : N < q * d ↔ N / d < q := (Nat.div_lt_iff_lt_mul hd).symm
/-- The true quotient is one digit. -/
theorem kn_digit (hn : n < b) (hu : u < p * b + z) : (u * b + n) / (p * b + z) < b := by
  have hd : 0 < p * b + z := by omega
  rw [Nat.div_lt_iff_lt_mul hd]
  have : (u + 1) * b ≤ (p * b + z) * b := Nat.mul_le_mul_right b hu
  rw [Nat.add_mul] at this
  rw [Nat.mul_comm b]
  omega
/-- The first guess isn't too small, nor much too great. -/
theorem kn_first (hb : b ≤ 2 * p) (hp : 0 < p) (hz : z < b) (hn : n < b) (hu : u < p * b + z) : (u * b + n) / (p * b + z) ≤ u / p ∧ u / p ≤ b + 1 := by
  have hd : 0 < p * b + z := by omega
  constructor
  · rw [Nat.le_div_iff_mul_le hp]
    have h1 : (u * b + n) / (p * b + z) * (p * b + z) ≤ u * b + n := Nat.div_mul_le_self _ _
    generalize (u * b + n) / (p * b + z) = Q at h1
    have e1 : Q * (p * b + z) = Q * p * b + Q * z := by rw [Nat.mul_add, Nat.mul_assoc]
    have h2 : Q * p * b < (u + 1) * b := by rw [Nat.add_mul]; omega
    have := Nat.lt_of_mul_lt_mul_right h2
    omega
  · rw [← Nat.lt_succ_iff, Nat.div_lt_iff_lt_mul hp]
    have : (b + 1 + 1) * p = b * p + 2 * p := by rw [show b + 1 + 1 = b + 2 by omega, Nat.add_mul]
    rw [Nat.succ_eq_add_one, this, Nat.mul_comm b p]
    omega
/-- Where the rest has grown past a digit, the guess is right. -/
theorem kn_break (hr : b ≤ r) (hq : q ≤ b) (hz : z < b) (h : q * p + r = u) : q * (p * b + z) ≤ u * b + n := by
  have e1 : q * (p * b + z) = q * p * b + q * z := by rw [Nat.mul_add, Nat.mul_assoc]
  have e2 : u * b = q * p * b + r * b := by rw [← h, Nat.add_mul]
  have h1 : q * z ≤ b * b := Nat.mul_le_mul hq (by omega)
  have h2 : b * b ≤ r * b := Nat.mul_le_mul_right b hr
  omega
end
end WB
namespace WB
open Go Go.RowKit
set_option linter.unusedVariables false
noncomputable def rate_amount (a : Int) : Option (Bool) :=
  let x0 := a
  let x4 := (decide (x0 ≥ (-1125899906842624 : Int)))
  let x6 := (if x4 = true then some x0 else none)
  Option.bind (if x4 = true then ((x6.bind (fun z7 => some (z7, (1125899906842624 : Int)))).map (fun z9 => (decide (z9.1 ≤ z9.2)))).map some else some none) fun x7 =>
  Option.bind (if x4 then x7 else some false) fun x8 =>
  some x8
noncomputable def rate_right (a : Int) : Option (Bool) :=
  let x0 := a
  let x4 := (decide (x0 ≥ (-1000000000 : Int)))
  let x6 := (if x4 = true then some x0 else none)
  Option.bind (if x4 = true then ((x6.bind (fun z7 => some (z7, (1000000000 : Int)))).map (fun z9 => (decide (z9.1 ≤ z9.2)))).map some else some none) fun x7 =>
  Option.bind (if x4 then x7 else some false) fun x8 =>
  some x8
noncomputable def rate_size (a : Int) : Option (Int) :=
  let x0 := a
  let x4 := (decide (x0 < (0 : Int)))
  if x4 then (
    let x6 := IntKind.u64.wrap x0
    let x7 := IntKind.u64.wrap (0 - x6)
    some x7)
  else (
    let x9 := IntKind.u64.wrap x0
    some x9)
noncomputable def math_bits_Mul64 (a : Int × Int) : Option (Int × Int) :=
  let x0 := a.1
  let x1 := a.2
  let x15 := bitZ .and .u64 x0 (4294967295 : Int)
  Option.bind (if (32 : Int) < 0 then none else some (x0.fdiv (2 ^ (min (32 : Int).toNat 64)))) fun x17 =>
  let x19 := bitZ .and .u64 x1 (4294967295 : Int)
  Option.bind (if (32 : Int) < 0 then none else some (x1.fdiv (2 ^ (min (32 : Int).toNat 64)))) fun x21 =>
  let x24 := IntKind.u64.wrap (x15 * x19)
  let x27 := IntKind.u64.wrap (x17 * x19)
  Option.bind (if (32 : Int) < 0 then none else some (x24.fdiv (2 ^ (min (32 : Int).toNat 64)))) fun x29 =>
  let x30 := IntKind.u64.wrap (x27 + x29)
  let x32 := bitZ .and .u64 x30 (4294967295 : Int)
  Option.bind (if (32 : Int) < 0 then none else some (x30.fdiv (2 ^ (min (32 : Int).toNat 64)))) fun x34 =>
  let x38 := IntKind.u64.wrap (x15 * x21)
  let x39 := IntKind.u64.wrap (x32 + x38)
  let x42 := IntKind.u64.wrap (x17 * x21)
  let x44 := IntKind.u64.wrap (x42 + x34)
  Option.bind (if (32 : Int) < 0 then none else some (x39.fdiv (2 ^ (min (32 : Int).toNat 64)))) fun x46 =>
  let x47 := IntKind.u64.wrap (x44 + x46)
  let x50 := IntKind.u64.wrap (x0 * x1)
  some (x47, x50)
noncomputable def math_bits_Len64 (a : Int) : Option (Int) :=
  let x0 := a
  Option.bind (show Option (((Int) × (Int) × Unit)) from (
    let x4 := (decide (x0 ≥ (4294967296 : Int)))
    if x4 then (
      Option.bind (if (32 : Int) < 0 then none else some (x0.fdiv (2 ^ (min (32 : Int).toNat 64)))) fun x6 =>
      some (x6, (32 : Int), ()))
    else (
      some (x0, (0 : Int), ())))) fun o =>
  let x0 := o.1
  let x2 := o.2.1
  Option.bind (show Option (((Int) × (Int) × Unit)) from (
    let x8 := (decide (x0 ≥ (65536 : Int)))
    if x8 then (
      Option.bind (if (16 : Int) < 0 then none else some (x0.fdiv (2 ^ (min (16 : Int).toNat 64)))) fun x10 =>
      let x12 := IntKind.i64.wrap (x2 + (16 : Int))
      some (x10, x12, ()))
    else (
      some (x0, x2, ())))) fun o =>
  let x0 := o.1
  let x2 := o.2.1
  Option.bind (show Option (((Int) × (Int) × Unit)) from (
    let x14 := (decide (x0 ≥ (256 : Int)))
    if x14 then (
      Option.bind (if (8 : Int) < 0 then none else some (x0.fdiv (2 ^ (min (8 : Int).toNat 64)))) fun x16 =>
      let x18 := IntKind.i64.wrap (x2 + (8 : Int))
      some (x16, x18, ()))
    else (
      some (x0, x2, ())))) fun o =>
  let x0 := o.1
  let x2 := o.2.1
  let x21 := IntKind.u8.wrap x0
  Option.bind (sAt ([0, 1, 2, 2, 3, 3, 3, 3, 4, 4, 4, 4, 4, 4, 4, 4, 5, 5, 5, 5, 5, 5, 5, 5, 5, 5, 5, 5, 5, 5, 5, 5, 6, 6, 6, 6, 6, 6, 6, 6, 6, 6, 6, 6, 6, 6, 6, 6, 6, 6, 6, 6, 6, 6, 6, 6, 6, 6, 6, 6, 6, 6, 6, 6, 7, 7, 7, 7, 7, 7, 7, 7, 7, 7, 7, 7, 7, 7, 7, 7, 7, 7, 7, 7, 7, 7, 7, 7, 7, 7, 7, 7, 7, 7, 7, 7, 7, 7, 7, 7, 7, 7, 7, 7, 7, 7, 7, 7, 7, 7, 7, 7, 7, 7, 7, 7, 7, 7, 7, 7, 7, 7, 7, 7, 7, 7, 7, 7, 8, 8, 8, 8, 8, 8, 8, 8, 8, 8, 8, 8, 8, 8, 8, 8, 8, 8, 8, 8, 8, 8, 8, 8, 8, 8, 8, 8, 8, 8, 8, 8, 8, 8, 8, 8, 8, 8, 8, 8, 8, 8, 8, 8, 8, 8, 8, 8, 8, 8, 8, 8, 8, 8, 8, 8, 8, 8, 8, 8, 8, 8, 8, 8, 8, 8, 8, 8, 8, 8, 8, 8, 8, 8, 8, 8, 8, 8, 8, 8, 8, 8, 8, 8, 8, 8, 8, 8, 8, 8, 8, 8, 8, 8, 8, 8, 8, 8, 8, 8, 8, 8, 8, 8, 8, 8, 8, 8, 8, 8, 8, 8, 8, 8, 8, 8, 8, 8, 8, 8, 8, 8, 8, 8, 8, 8, 8, 8] : List UInt8) x21) fun x22 =>
  let x23 := IntKind.i64.wrap x22
  let x24 := IntKind.i64.wrap (x2 + x23)
  some x24
noncomputable def math_bits_LeadingZeros64 (a : Int) : Option (Int) :=
  let x0 := a
  Option.bind (math_bits_Len64 x0) fun x4 =>
  let x5 := IntKind.i64.wrap ((64 : Int) - x4)
  some x5
noncomputable def math_bits_Div64_loop1 (s : (Int) × (Int) × (Int) × (Int) × (Int) × (Int) × (Int) × (Int) × (Int) × Unit) : Option (((Int) × (Int) × (Int) × (Int) × (Int) × (Int) × (Int) × (Int) × (Int) × Unit) ⊕ (((Int) × (Int) × (Int) × (Int) × (Int) × (Int) × (Int) × (Int) × Unit))) :=
  let x2 := s.1
  let x8 := s.2.1
  let x9 := s.2.2.1
  let x10 := s.2.2.2.1
  let x11 := s.2.2.2.2.1
  let x13 := s.2.2.2.2.2.1
  let x14 := s.2.2.2.2.2.2.1
  let x15 := s.2.2.2.2.2.2.2.1
  let x16 := s.2.2.2.2.2.2.2.2.1
  let x68 := (decide (x15 ≥ (4294967296 : Int)))
  let x70 := (if x68 = false then some x15 else none)
  let x71 := (if x68 = false then some x10 else none)
  Option.bind (if x68 = false then ((x70.bind (fun z157 => x71.map (fun z158 => (z157, z158)))).map (fun z159 => IntKind.u64.wrap (z159.1 * z159.2))).map some else some none) fun x72 =>
  let x73 := (if x68 = false then some x16 else none)
  Option.bind (if x68 = false then ((x73.map (fun z161 => ((4294967296 : Int), z161))).map (fun z162 => IntKind.u64.wrap (z162.1 * z162.2))).map some else some none) fun x74 =>
  let x75 := (if x68 = false then some x13 else none)
  Option.bind (if x68 = false then ((x74.bind (fun z163 => x75.map (fun z164 => (z163, z164)))).map (fun z165 => IntKind.u64.wrap (z165.1 + z165.2))).map some else some none) fun x76 =>
  Option.bind (if x68 = false then ((x72.bind (fun z166 => x76.map (fun z167 => (z166, z167)))).map (fun z168 => (decide (z168.1 > z168.2)))).map some else some none) fun x77 =>
  Option.bind (if x68 then some true else x77.map (fun z169 => z169)) fun x78 =>
  if x78 then (
    let x80 := IntKind.u64.wrap (x15 - (1 : Int))
    let x83 := IntKind.u64.wrap (x16 + x9)
    let x85 := (decide (x83 ≥ (4294967296 : Int)))
    if x85 then (
      some (Sum.inr (x2, x8, x9, x10, x11, x13, x14, x80, ())))
    else (
      some (Sum.inl (x2, x8, x9, x10, x11, x13, x14, x80, x83, ()))))
  else (
    some (Sum.inr (x2, x8, x9, x10, x11, x13, x14, x15, ())))
noncomputable def math_bits_Div64_loop2 (s : (Int) × (Int) × (Int) × (Int) × (Int) × (Int) × (Int) × (Int) × (Int) × Unit) : Option (((Int) × (Int) × (Int) × (Int) × (Int) × (Int) × (Int) × (Int) × (Int) × Unit) ⊕ (((Int) × (Int) × (Int) × (Int) × (Int) × (Int) × Unit))) :=
  let x2 := s.1
  let x8 := s.2.1
  let x9 := s.2.2.1
  let x10 := s.2.2.2.1
  let x14 := s.2.2.2.2.1
  let x15 := s.2.2.2.2.2.1
  let x16 := s.2.2.2.2.2.2.1
  let x17 := s.2.2.2.2.2.2.2.1
  let x18 := s.2.2.2.2.2.2.2.2.1
  let x103 := (decide (x18 ≥ (4294967296 : Int)))
  let x105 := (if x103 = false then some x18 else none)
  let x106 := (if x103 = false then some x10 else none)
  Option.bind (if x103 = false then ((x105.bind (fun z326 => x106.map (fun z327 => (z326, z327)))).map (fun z328 => IntKind.u64.wrap (z328.1 * z328.2))).map some else some none) fun x107 =>
  let x108 := (if x103 = false then some x16 else none)
  Option.bind (if x103 = false then ((x108.map (fun z330 => ((4294967296 : Int), z330))).map (fun z331 => IntKind.u64.wrap (z331.1 * z331.2))).map some else some none) fun x109 =>
  let x110 := (if x103 = false then some x14 else none)
  Option.bind (if x103 = false then ((x109.bind (fun z332 => x110.map (fun z333 => (z332, z333)))).map (fun z334 => IntKind.u64.wrap (z334.1 + z334.2))).map some else some none) fun x111 =>
  Option.bind (if x103 = false then ((x107.bind (fun z335 => x111.map (fun z336 => (z335, z336)))).map (fun z337 => (decide (z337.1 > z337.2)))).map some else some none) fun x112 =>
  Option.bind (if x103 then some true else x112.map (fun z338 => z338)) fun x113 =>
  if x113 then (
    let x115 := IntKind.u64.wrap (x18 - (1 : Int))
    let x118 := IntKind.u64.wrap (x16 + x9)
    let x120 := (decide (x118 ≥ (4294967296 : Int)))
    if x120 then (
      some (Sum.inr (x2, x8, x14, x15, x17, x115, ())))
    else (
      some (Sum.inl (x2, x8, x9, x10, x14, x15, x118, x17, x115, ()))))
  else (
    some (Sum.inr (x2, x8, x14, x15, x17, x18, ())))
noncomputable def math_bits_Div64 (a : Int × Int × Int) : Option (Int × Int) :=
  let x0 := a.1
  let x1 := a.2.1
  let x2 := a.2.2
  let x20 := (x2 == (0 : Int))
  if x20 then (
    none)
  else (
    let x24 := (decide (x2 ≤ x0))
    if x24 then (
      none)
    else (
      let x27 := (x0 == (0 : Int))
      if x27 then (
        Option.bind (if x2 = 0 then none else some (IntKind.u64.wrap (x1.tdiv x2))) fun x30 =>
        Option.bind (if x2 = 0 then none else some (x1.tmod x2)) fun x33 =>
        some (x30, x33))
      else (
        Option.bind (math_bits_LeadingZeros64 x2) fun x35 =>
        let x36 := IntKind.u64.wrap x35
        Option.bind (if x36 < 0 then none else some (IntKind.u64.wrap (x2 * 2 ^ (min x36.toNat 64)))) fun x39 =>
        Option.bind (if (32 : Int) < 0 then none else some (x39.fdiv (2 ^ (min (32 : Int).toNat 64)))) fun x41 =>
        let x43 := bitZ .and .u64 x39 (4294967295 : Int)
        Option.bind (if x36 < 0 then none else some (IntKind.u64.wrap (x0 * 2 ^ (min x36.toNat 64)))) fun x46 =>
        let x49 := IntKind.u64.wrap ((64 : Int) - x36)
        Option.bind (if x49 < 0 then none else some (x1.fdiv (2 ^ (min x49.toNat 64)))) fun x50 =>
        let x51 := bitZ .or .u64 x46 x50
        Option.bind (if x36 < 0 then none else some (IntKind.u64.wrap (x1 * 2 ^ (min x36.toNat 64)))) fun x54 =>
        Option.bind (if (32 : Int) < 0 then none else some (x54.fdiv (2 ^ (min (32 : Int).toNat 64)))) fun x56 =>
        let x58 := bitZ .and .u64 x54 (4294967295 : Int)
        Option.bind (if x41 = 0 then none else some (IntKind.u64.wrap (x51.tdiv x41))) fun x61 =>
        let x65 := IntKind.u64.wrap (x61 * x41)
        let x66 := IntKind.u64.wrap (x51 - x65)
        Option.bind (show Option (((Int) × (Int) × (Int) × (Int) × (Int) × (Int) × (Int) × (Int) × Unit)) from (
          Option.bind (iter math_bits_Div64_loop1 (x39, x36, x41, x43, x51, x56, x58, x61, x66, ())) fun o =>
          let x2 := o.1
          let x8 := o.2.1
          let x9 := o.2.2.1
          let x10 := o.2.2.2.1
          let x11 := o.2.2.2.2.1
          let x13 := o.2.2.2.2.2.1
          let x14 := o.2.2.2.2.2.2.1
          let x15 := o.2.2.2.2.2.2.2.1
          some (x2, x8, x9, x10, x11, x13, x14, x15, ()))) fun o =>
        let x2 := o.1
        let x8 := o.2.1
        let x9 := o.2.2.1
        let x10 := o.2.2.2.1
        let x11 := o.2.2.2.2.1
        let x13 := o.2.2.2.2.2.1
        let x14 := o.2.2.2.2.2.2.1
        let x15 := o.2.2.2.2.2.2.2.1
        let x87 := IntKind.u64.wrap (x11 * (4294967296 : Int))
        let x89 := IntKind.u64.wrap (x87 + x13)
        let x92 := IntKind.u64.wrap (x15 * x2)
        let x93 := IntKind.u64.wrap (x89 - x92)
        Option.bind (if x9 = 0 then none else some (IntKind.u64.wrap (x93.tdiv x9))) fun x96 =>
        let x100 := IntKind.u64.wrap (x96 * x9)
        let x101 := IntKind.u64.wrap (x93 - x100)
        Option.bind (show Option (((Int) × (Int) × (Int) × (Int) × (Int) × (Int) × Unit)) from (
          Option.bind (iter math_bits_Div64_loop2 (x2, x8, x9, x10, x14, x15, x101, x93, x96, ())) fun o =>
          let x2 := o.1
          let x8 := o.2.1
          let x14 := o.2.2.1
          let x15 := o.2.2.2.1
          let x17 := o.2.2.2.2.1
          let x18 := o.2.2.2.2.2.1
          some (x2, x8, x14, x15, x17, x18, ()))) fun o =>
        let x2 := o.1
        let x8 := o.2.1
        let x14 := o.2.2.1
        let x15 := o.2.2.2.1
        let x17 := o.2.2.2.2.1
        let x18 := o.2.2.2.2.2.1
        let x122 := IntKind.u64.wrap (x15 * (4294967296 : Int))
        let x124 := IntKind.u64.wrap (x122 + x18)
        let x126 := IntKind.u64.wrap (x17 * (4294967296 : Int))
        let x128 := IntKind.u64.wrap (x126 + x14)
        let x131 := IntKind.u64.wrap (x18 * x2)
        let x132 := IntKind.u64.wrap (x128 - x131)
        Option.bind (if x8 < 0 then none else some (x132.fdiv (2 ^ (min x8.toNat 64)))) fun x134 =>
        some (x124, x134))))
noncomputable def rate_up (a : Bool × Int × Int × Int × Int) : Option (Bool) :=
  let x0 := a.1
  let x1 := a.2.1
  let x2 := a.2.2.1
  let x3 := a.2.2.2.1
  let x4 := a.2.2.2.2
  Option.bind (show Option (((Bool) × Unit)) from (
    Option.bind (show Option (((Int) × (Int) × Unit) ⊕ ((Bool) × Unit)) from (
      Option.bind (show Option (((Int) × Unit) ⊕ ((Int) × (Int) × (Int) × Unit) ⊕ ((Int) × (Int) × Unit) ⊕ ((Bool) × Unit)) from (
        let x14 := (x4 == (4 : Int))
        if x14 then (
          let x22 := (!x0)
          if x22 then (
            some (Sum.inr (Sum.inr (Sum.inr (false, ())))))
          else (
            some (Sum.inl (x2, ()))))
        else (
          let x16 := (x4 == (3 : Int))
          if x16 then (
            some (Sum.inl (x2, ())))
          else (
            let x18 := (x4 == (2 : Int))
            if x18 then (
              some (Sum.inr (Sum.inl (x1, x2, x3, ()))))
            else (
              let x20 := (x4 == (1 : Int))
              if x20 then (
                some (Sum.inr (Sum.inr (Sum.inl (x2, x3, ())))))
              else (
                some (Sum.inr (Sum.inr (Sum.inr (false, ())))))))))) fun o =>
      match o with
      | Sum.inl p1 => (
        let x2 := p1.1
        let x24 := (decide (x2 > (0 : Int)))
        some (Sum.inr (x24, ())))
      | Sum.inr q2 => (
        match q2 with
        | Sum.inl p3 => (
          let x1 := p3.1
          let x2 := p3.2.1
          let x3 := p3.2.2.1
          let x28 := IntKind.u64.wrap (x3 - x2)
          let x29 := (x2 == x28)
          if x29 then (
            Option.bind (if (2 : Int) = 0 then none else some (x1.tmod (2 : Int))) fun x31 =>
            let x32 := (x31 == (1 : Int))
            some (Sum.inr (x32, ())))
          else (
            some (Sum.inl (x2, x3, ()))))
        | Sum.inr q4 => (
          match q4 with
          | Sum.inl p5 => (
            let x2 := p5.1
            let x3 := p5.2.1
            some (Sum.inl (x2, x3, ())))
          | Sum.inr q6 => (
            let x11 := q6.1
            some (Sum.inr (x11, ()))))))) fun o =>
    match o with
    | Sum.inl p7 => (
      let x2 := p7.1
      let x3 := p7.2.1
      let x36 := IntKind.u64.wrap (x3 - x2)
      let x37 := (decide (x2 ≥ x36))
      some (x37, ()))
    | Sum.inr q8 => (
      let x11 := q8.1
      some (x11, ())))) fun o =>
  let x11 := o.1
  some x11
noncomputable def rate_quotient (a : Int × Int × Int × Int × Int) : Option (Int × Bool) :=
  let x0 := a.1
  let x1 := a.2.1
  let x2 := a.2.2.1
  let x3 := a.2.2.2.1
  let x4 := a.2.2.2.2
  let x18 := (decide (x0 < (0 : Int)))
  let x20 := (decide (x1 < (0 : Int)))
  let x21 := (!(x18 == x20))
  Option.bind (rate_size x0) fun x24 =>
  Option.bind (rate_size x1) fun x26 =>
  Option.bind (math_bits_Mul64 (x24, x26)) fun x27 =>
  let x32 := (decide (x27.1 ≥ x2))
  if x32 then (
    some ((0 : Int), false))
  else (
    Option.bind (math_bits_Div64 (x27.1, x27.2, x2)) fun x37 =>
    let x42 := (decide (x37.1 > x3))
    if x42 then (
      some ((0 : Int), false))
    else (
      Option.bind (show Option (((Int) × (Bool) × (Int) × Unit)) from (
        Option.bind (rate_up (x21, x37.1, x37.2, x2, x4)) fun x48 =>
        if x48 then (
          let x50 := IntKind.u64.wrap (x37.1 + (1 : Int))
          some (x3, x21, x50, ()))
        else (
          some (x3, x21, x37.1, ())))) fun o =>
      let x3 := o.1
      let x12 := o.2.1
      let x15 := o.2.2.1
      let x53 := (decide (x15 > x3))
      if x53 then (
        some ((0 : Int), false))
      else (
        if x12 then (
          let x56 := IntKind.i64.wrap x15
          let x57 := IntKind.i64.wrap (0 - x56)
          some (x57, true))
        else (
          let x59 := IntKind.i64.wrap x15
          some (x59, true)))))
noncomputable def rate_Part (a : Int × Int × Int × Int) : Option (Int × Int) :=
  let x0 := a.1
  let x1 := a.2.1
  let x2 := a.2.2.1
  let x3 := a.2.2.2
  Option.bind (rate_amount x0) fun x14 =>
  let x15 := (!x14)
  if x15 then (
    some ((0 : Int), (2 : Int)))
  else (
    let x18 := (x2 == (0 : Int))
    if x18 then (
      some ((0 : Int), (22 : Int)))
    else (
      let x21 := (decide (x2 < (0 : Int)))
      if x21 then (
        some ((0 : Int), (2 : Int)))
      else (
        let x24 := (decide (x3 < (0 : Int)))
        let x26 := (if x24 = false then some x3 else none)
        Option.bind (if x24 = false then ((x26.bind (fun z17 => some (z17, (4 : Int)))).map (fun z19 => (decide (z19.1 > z19.2)))).map some else some none) fun x27 =>
        Option.bind (if x24 then some true else x27.map (fun z20 => z20)) fun x28 =>
        if x28 then (
          some ((0 : Int), (11 : Int)))
        else (
          let x33 := IntKind.u64.wrap x2
          Option.bind (rate_quotient (x0, x1, x33, (1125899906842624 : Int), x3)) fun x35 =>
          let x39 := (!x35.2)
          if x39 then (
            some ((0 : Int), (9 : Int)))
          else (
            some (x35.1, (0 : Int)))))))
noncomputable def rate_Of (a : Int × Int × Int) : Option (Int × Int) :=
  let x0 := a.1
  let x1 := a.2.1
  let x2 := a.2.2
  Option.bind (rate_amount x0) fun x9 =>
  let x10 := (!x9)
  let x12 := (if x10 = false then some x1 else none)
  Option.bind (if x10 = false then ((x12.map (fun z17 => z17)).bind (fun z18 => rate_right z18)).map some else some none) fun x13 =>
  Option.bind (if x10 = false then (x13.map (fun z19 => (!z19))).map some else some none) fun x14 =>
  Option.bind (if x10 then some true else x14.map (fun z20 => z20)) fun x15 =>
  if x15 then (
    some ((0 : Int), (2 : Int)))
  else (
    Option.bind (rate_Part (x0, x1, (1000000 : Int), x2)) fun x19 =>
    some (x19.1, x19.2))
noncomputable def internal_stringslite_HasPrefix (a : (List UInt8) × (List UInt8)) : Option (Bool) :=
  let x0 := a.1
  let x1 := a.2
  let x6 := (x0.length : Int)
  let x8 := (x1.length : Int)
  let x9 := (decide (x6 ≥ x8))
  let x11 := (if x9 = true then some x0 else none)
  let x12 := (if x9 = true then some x1 else none)
  Option.bind (if x9 = true then (x12.map (fun z17 => (z17.length : Int))).map some else some none) fun x13 =>
  Option.bind (if x9 = true then (((x11.bind (fun z18 => x13.map (fun z19 => (z18, z19)))).map (fun z20 => (z20.1, (0 : Int), z20.2))).bind (fun z21 => lSub z21.1 z21.2.1 z21.2.2)).map some else some none) fun x14 =>
  let x15 := (if x9 = true then some x1 else none)
  Option.bind (if x9 = true then ((x14.bind (fun z22 => x15.map (fun z23 => (z22, z23)))).map (fun z24 => ((z24.1 == z24.2)))).map some else some none) fun x16 =>
  Option.bind (if x9 then x16 else some false) fun x17 =>
  some x17
noncomputable def internal_stringslite_CutPrefix (a : (List UInt8) × (List UInt8)) : Option ((List UInt8) × Bool) :=
  let x0 := a.1
  let x1 := a.2
  let x4 := ([] : List UInt8)
  Option.bind (internal_stringslite_HasPrefix (x0, x1)) fun x8 =>
  let x9 := (!x8)
  if x9 then (
    some (x0, false))
  else (
    let x13 := (x1.length : Int)
    Option.bind (lSub x0 x13 (x0.length : Int)) fun x14 =>
    some (x14, true))
noncomputable def strings_CutPrefix (a : (List UInt8) × (List UInt8)) : Option ((List UInt8) × Bool) :=
  let x0 := a.1
  let x1 := a.2
  let x4 := ([] : List UInt8)
  Option.bind (internal_stringslite_CutPrefix (x0, x1)) fun x8 =>
  some (x8.1, x8.2)
noncomputable def internal_stringslite_HasSuffix (a : (List UInt8) × (List UInt8)) : Option (Bool) :=
  let x0 := a.1
  let x1 := a.2
  let x6 := (x0.length : Int)
  let x8 := (x1.length : Int)
  let x9 := (decide (x6 ≥ x8))
  let x11 := (if x9 = true then some x0 else none)
  let x12 := (if x9 = true then some x0 else none)
  Option.bind (if x9 = true then (x12.map (fun z25 => (z25.length : Int))).map some else some none) fun x13 =>
  let x14 := (if x9 = true then some x1 else none)
  Option.bind (if x9 = true then (x14.map (fun z26 => (z26.length : Int))).map some else some none) fun x15 =>
  Option.bind (if x9 = true then ((x13.bind (fun z27 => x15.map (fun z28 => (z27, z28)))).map (fun z29 => IntKind.i64.wrap (z29.1 - z29.2))).map some else some none) fun x16 =>
  Option.bind (if x9 = true then (((x11.bind (fun z30 => x16.map (fun z31 => (z30, z31)))).map (fun z32 => (z32.1, z32.2, (z32.1.length : Int)))).bind (fun z33 => lSub z33.1 z33.2.1 z33.2.2)).map some else some none) fun x17 =>
  let x18 := (if x9 = true then some x1 else none)
  Option.bind (if x9 = true then ((x17.bind (fun z34 => x18.map (fun z35 => (z34, z35)))).map (fun z36 => ((z36.1 == z36.2)))).map some else some none) fun x19 =>
  Option.bind (if x9 then x19 else some false) fun x20 =>
  some x20
noncomputable def internal_stringslite_CutSuffix (a : (List UInt8) × (List UInt8)) : Option ((List UInt8) × Bool) :=
  let x0 := a.1
  let x1 := a.2
  let x4 := ([] : List UInt8)
  Option.bind (internal_stringslite_HasSuffix (x0, x1)) fun x8 =>
  let x9 := (!x8)
  if x9 then (
    some (x0, false))
  else (
    let x13 := (x0.length : Int)
    let x15 := (x1.length : Int)
    let x16 := IntKind.i64.wrap (x13 - x15)
    Option.bind (lSub x0 (0 : Int) x16) fun x17 =>
    some (x17, true))
noncomputable def strings_CutSuffix (a : (List UInt8) × (List UInt8)) : Option ((List UInt8) × Bool) :=
  let x0 := a.1
  let x1 := a.2
  let x4 := ([] : List UInt8)
  Option.bind (internal_stringslite_CutSuffix (x0, x1)) fun x8 =>
  some (x8.1, x8.2)
noncomputable def internal_stringslite_Cut (a : (List UInt8) × (List UInt8)) : Option ((List UInt8) × (List UInt8) × Bool) :=
  let x0 := a.1
  let x1 := a.2
  let x4 := ([] : List UInt8)
  let x5 := ([] : List UInt8)
  Option.bind (internal_stringslite_Index (x0, x1)) fun x10 =>
  let x12 := (decide (x10 ≥ (0 : Int)))
  if x12 then (
    Option.bind (lSub x0 (0 : Int) x10) fun x15 =>
    let x19 := (x1.length : Int)
    let x20 := IntKind.i64.wrap (x10 + x19)
    Option.bind (lSub x0 x20 (x0.length : Int)) fun x21 =>
    some (x15, x21, true))
  else (
    let x5 := ([] : List UInt8)
    some (x0, x5, false))
noncomputable def strings_Cut (a : (List UInt8) × (List UInt8)) : Option ((List UInt8) × (List UInt8) × Bool) :=
  let x0 := a.1
  let x1 := a.2
  let x4 := ([] : List UInt8)
  let x5 := ([] : List UInt8)
  Option.bind (internal_stringslite_Cut (x0, x1)) fun x9 =>
  some (x9.1, x9.2.1, x9.2.2)
noncomputable def rate_digits_loop1 (s : (List UInt8) × (Int) × (Int) × Unit) : Option (((List UInt8) × (Int) × (Int) × Unit) ⊕ (((List UInt8) × Unit) ⊕ (Bool))) :=
  let x0 := s.1
  let x5 := s.2.1
  let x6 := s.2.2.1
  let x7 := (decide (x6 < x5))
  if x7 then (
    Option.bind (sAt x0 x6) fun x11 =>
    let x12 := (decide (x11 < (48 : Int)))
    let x14 := (if x12 = false then some x0 else none)
    let x15 := (if x12 = false then some x6 else none)
    Option.bind (if x12 = false then ((x14.bind (fun z85 => x15.map (fun z86 => (z85, z86)))).bind (fun z87 => sAt z87.1 z87.2)).map some else some none) fun x16 =>
    Option.bind (if x12 = false then ((x16.bind (fun z88 => some (z88, (57 : Int)))).map (fun z90 => (decide (z90.1 > z90.2)))).map some else some none) fun x17 =>
    Option.bind (if x12 then some true else x17.map (fun z91 => z91)) fun x18 =>
    if x18 then (
      some (Sum.inr (Sum.inr false)))
    else (
      let x19 := IntKind.i64.wrap (x6 + (1 : Int))
      some (Sum.inl (x0, x5, x19, ()))))
  else (
    some (Sum.inr (Sum.inl (x0, ()))))
noncomputable def rate_digits (a : (List UInt8)) : Option (Bool) :=
  let x0 := a
  let x5 := (x0.length : Int)
  Option.bind (iter rate_digits_loop1 (x0, x5, (0 : Int), ())) fun o =>
  match o with
  | Sum.inl p92 => (
    let x0 := p92.1
    let x21 := (!(x0 == ([] : List UInt8)))
    some x21)
  | Sum.inr q93 => (
    some q93)
noncomputable def rate_value_loop1 (s : (List UInt8) × (Int) × (Int) × (Int) × (Int) × Unit) : Option (((List UInt8) × (Int) × (Int) × (Int) × (Int) × Unit) ⊕ (((Int) × Unit))) :=
  let x0 := s.1
  let x1 := s.2.1
  let x5 := s.2.2.1
  let x8 := s.2.2.2.1
  let x9 := s.2.2.2.2.1
  let x10 := (decide (x9 < x8))
  if x10 then (
    let x13 := IntKind.i64.wrap (x5 * (10 : Int))
    Option.bind (sAt x0 x9) fun x16 =>
    let x17 := IntKind.u8.wrap (x16 - (48 : Int))
    let x18 := IntKind.i64.wrap x17
    let x19 := IntKind.i64.wrap (x13 + x18)
    let x21 := IntKind.i64.wrap (x1 + (1 : Int))
    let x22 := (min x19 x21)
    let x23 := IntKind.i64.wrap (x9 + (1 : Int))
    some (Sum.inl (x0, x1, x22, x8, x23, ())))
  else (
    some (Sum.inr (x5, ())))
noncomputable def rate_value (a : (List UInt8) × Int) : Option (Int) :=
  let x0 := a.1
  let x1 := a.2
  let x8 := (x0.length : Int)
  Option.bind (iter rate_value_loop1 (x0, x1, (0 : Int), x8, (0 : Int), ())) fun o =>
  let x5 := o.1
  some x5
noncomputable def rate_Parse (a : (List UInt8)) : Option (Int × Int) :=
  let x0 := a
  let x12 := ((x0 == ([] : List UInt8)))
  if x12 then (
    some ((0 : Int), (10 : Int)))
  else (
    Option.bind (strings_CutPrefix (x0, ([45] : List UInt8))) fun x15 =>
    Option.bind (strings_CutSuffix (x15.1, ([37] : List UInt8))) fun x20 =>
    Option.bind (strings_Cut (x20.1, ([46] : List UInt8))) fun x25 =>
    let x31 := (!x20.2)
    let x33 := (if x31 = false then some x25.1 else none)
    Option.bind (if x31 = false then ((x33.map (fun z115 => z115)).bind (fun z116 => rate_digits z116)).map some else some none) fun x34 =>
    Option.bind (if x31 = false then (x34.map (fun z117 => (!z117))).map some else some none) fun x35 =>
    Option.bind (if x31 then some true else x35.map (fun z118 => z118)) fun x36 =>
    let x38 := (if x36 = false then some x25.1 else none)
    Option.bind (if x36 = false then (x38.map (fun z119 => (z119.length : Int))).map some else some none) fun x39 =>
    Option.bind (if x36 = false then ((x39.bind (fun z120 => some (z120, (1 : Int)))).map (fun z122 => (decide (z122.1 > z122.2)))).map some else some none) fun x40 =>
    Option.bind (if x36 = false then x40.map some else some none) fun x41 =>
    let x42 := (if x41 = some true then some x25.1 else none)
    Option.bind (if x41 = some true then ((x42.bind (fun z123 => some (z123, (0 : Int)))).bind (fun z125 => sAt z125.1 z125.2)).map some else some none) fun x43 =>
    Option.bind (if x41 = some true then ((x43.bind (fun z126 => some (z126, (48 : Int)))).map (fun z128 => (z128.1 == z128.2))).map some else some none) fun x44 =>
    Option.bind (if x36 = false then (x41.bind (fun z129 => if z129 then x44 else some false)).map some else some none) fun x45 =>
    Option.bind (if x36 then some true else x45.map (fun z130 => z130)) fun x46 =>
    if x46 then (
      some ((0 : Int), (3 : Int)))
    else (
      let x50 := (if x25.2.2 = true then some x25.2.1 else none)
      Option.bind (if x25.2.2 = true then ((x50.map (fun z173 => z173)).bind (fun z174 => rate_digits z174)).map some else some none) fun x51 =>
      Option.bind (if x25.2.2 = true then (x51.map (fun z175 => (!z175))).map some else some none) fun x52 =>
      Option.bind (if x25.2.2 = true then x52.map some else some none) fun x53 =>
      let x54 := (if x53 = some false then some x25.2.1 else none)
      Option.bind (if x53 = some false then (x54.map (fun z176 => (z176.length : Int))).map some else some none) fun x55 =>
      Option.bind (if x53 = some false then ((x55.bind (fun z177 => some (z177, (4 : Int)))).map (fun z179 => (decide (z179.1 > z179.2)))).map some else some none) fun x56 =>
      Option.bind (if x25.2.2 = true then (x53.bind (fun z181 => if z181 then some true else x56.map (fun z180 => z180))).map some else some none) fun x57 =>
      Option.bind (if x25.2.2 = true then x57.map some else some none) fun x58 =>
      let x59 := (if x58 = some false then some x25.2.1 else none)
      let x60 := (if x58 = some false then some x25.2.1 else none)
      Option.bind (if x58 = some false then (x60.map (fun z182 => (z182.length : Int))).map some else some none) fun x61 =>
      Option.bind (if x58 = some false then ((x61.bind (fun z183 => some (z183, (1 : Int)))).map (fun z185 => IntKind.i64.wrap (z185.1 - z185.2))).map some else some none) fun x62 =>
      Option.bind (if x58 = some false then ((x59.bind (fun z186 => x62.map (fun z187 => (z186, z187)))).bind (fun z188 => sAt z188.1 z188.2)).map some else some none) fun x63 =>
      Option.bind (if x58 = some false then ((x63.bind (fun z189 => some (z189, (48 : Int)))).map (fun z191 => (z191.1 == z191.2))).map some else some none) fun x64 =>
      Option.bind (if x25.2.2 = true then (x58.bind (fun z193 => if z193 then some true else x64.map (fun z192 => z192))).map some else some none) fun x65 =>
      Option.bind (if x25.2.2 then x65 else some false) fun x66 =>
      if x66 then (
        some ((0 : Int), (3 : Int)))
      else (
        let x70 := (if x15.2 = true then some x25.1 else none)
        Option.bind (if x15.2 = true then ((x70.bind (fun z202 => some (z202, ([48] : List UInt8)))).map (fun z204 => ((z204.1 == z204.2)))).map some else some none) fun x71 =>
        Option.bind (if x15.2 then x71 else some false) fun x72 =>
        let x74 := (if x72 = true then some x25.2.2 else none)
        Option.bind (if x72 = true then (x74.map (fun z205 => (!z205))).map some else some none) fun x75 =>
        Option.bind (if x72 then x75 else some false) fun x76 =>
        if x76 then (
          some ((0 : Int), (3 : Int)))
        else (
          Option.bind (rate_value (x25.1, (100000 : Int))) fun x78 =>
          let x79 := IntKind.i64.wrap (x78 * (10000 : Int))
          Option.bind (if x25.2.1.length + ([48, 48, 48, 48] : List UInt8).length ≤ 4611686018427387904 then some (x25.2.1 ++ ([48, 48, 48, 48] : List UInt8)) else none) fun x81 =>
          Option.bind (lSub x81 (0 : Int) (4 : Int)) fun x82 =>
          Option.bind (rate_value (x82, (10000 : Int))) fun x83 =>
          let x84 := IntKind.i64.wrap (x79 + x83)
          let x86 := (decide (x84 > (1000000000 : Int)))
          if x86 then (
            some ((0 : Int), (2 : Int)))
          else (
            Option.bind (show Option (((Int) × Unit)) from (
              if x15.2 then (
                let x89 := IntKind.i64.wrap (0 - x84)
                some (x89, ()))
              else (
                some (x84, ())))) fun o =>
            let x10 := o.1
            some (x10, (0 : Int)))))))
noncomputable def rate_Text (a : Int) : Option (List UInt8) :=
  let x0 := a
  let x2 := ([] : List UInt8)
  Option.bind (rate_right x0) fun x7 =>
  let x8 := (!x7)
  if x8 then (
    let x2 := ([] : List UInt8)
    some x2)
  else (
    let x3 := ([] : List UInt8)
    Option.bind (show Option (((Int) × (List UInt8) × Unit)) from (
      let x10 := (decide (x0 < (0 : Int)))
      if x10 then (
        let x3 := ([45] : List UInt8)
        let x12 := IntKind.i64.wrap (0 - x0)
        some (x12, x3, ()))
      else (
        some (x0, x3, ())))) fun o =>
    let x0 := o.1
    let x3 := o.2.1
    Option.bind (if (10000 : Int) = 0 then none else some (IntKind.i64.wrap (x0.tdiv (10000 : Int)))) fun x15 =>
    Option.bind (strconv_FormatInt (x15, (10 : Int))) fun x16 =>
    Option.bind (if x3.length + x16.length ≤ 4611686018427387904 then some (x3 ++ x16) else none) fun x17 =>
    Option.bind (show Option (((List UInt8) × Unit)) from (
      Option.bind (if (10000 : Int) = 0 then none else some (x0.tmod (10000 : Int))) fun x19 =>
      let x21 := (decide (x19 > (0 : Int)))
      if x21 then (
        let x23 := IntKind.i64.wrap ((10000 : Int) + x19)
        Option.bind (strconv_FormatInt (x23, (10 : Int))) fun x24 =>
        Option.bind (lSub x24 (1 : Int) (x24.length : Int)) fun x25 =>
        Option.bind (strings_TrimRight (x25, ([48] : List UInt8))) fun x28 =>
        Option.bind (if ([46] : List UInt8).length + x28.length ≤ 4611686018427387904 then some (([46] : List UInt8) ++ x28) else none) fun x29 =>
        Option.bind (if x17.length + x29.length ≤ 4611686018427387904 then some (x17 ++ x29) else none) fun x30 =>
        some (x30, ()))
      else (
        some (x17, ())))) fun o =>
    let x3 := o.1
    Option.bind (if x3.length + ([37] : List UInt8).length ≤ 4611686018427387904 then some (x3 ++ ([37] : List UInt8)) else none) fun x32 =>
    some x32)
noncomputable def law02_awake (a : Unit) : Option (Bool) :=
  Option.bind (rate_Of ((1001 : Int), (125000 : Int), (1 : Int))) fun x8 =>
  Option.bind (rate_Part ((-5 : Int), (1 : Int), (2 : Int), (2 : Int))) fun x12 =>
  Option.bind (rate_Parse ([49, 50, 46, 53, 37] : List UInt8)) fun x16 =>
  let x20 := (x8.1 == (125 : Int))
  let x22 := (if x20 = true then some x8.2 else none)
  Option.bind (if x20 = true then ((x22.bind (fun z37 => some (z37, (0 : Int)))).map (fun z39 => (z39.1 == z39.2))).map some else some none) fun x23 =>
  Option.bind (if x20 then x23 else some false) fun x24 =>
  let x26 := (if x24 = true then some x12.1 else none)
  Option.bind (if x24 = true then ((x26.bind (fun z40 => some (z40, (-2 : Int)))).map (fun z42 => (z42.1 == z42.2))).map some else some none) fun x27 =>
  Option.bind (if x24 then x27 else some false) fun x28 =>
  let x30 := (if x28 = true then some x12.2 else none)
  Option.bind (if x28 = true then ((x30.bind (fun z43 => some (z43, (0 : Int)))).map (fun z45 => (z45.1 == z45.2))).map some else some none) fun x31 =>
  Option.bind (if x28 then x31 else some false) fun x32 =>
  let x34 := (if x32 = true then some x16.1 else none)
  Option.bind (if x32 = true then ((x34.bind (fun z46 => some (z46, (125000 : Int)))).map (fun z48 => (z48.1 == z48.2))).map some else some none) fun x35 =>
  Option.bind (if x32 then x35 else some false) fun x36 =>
  let x38 := (if x36 = true then some x16.2 else none)
  Option.bind (if x36 = true then ((x38.bind (fun z49 => some (z49, (0 : Int)))).map (fun z51 => (z51.1 == z51.2))).map some else some none) fun x39 =>
  Option.bind (if x36 then x39 else some false) fun x40 =>
  Option.bind (if x40 = true then (rate_Text (-1 : Int)).map some else some none) fun x42 =>
  Option.bind (if x40 = true then ((x42.bind (fun z52 => some (z52, ([45, 48, 46, 48, 48, 48, 49, 37] : List UInt8)))).map (fun z54 => ((z54.1 == z54.2)))).map some else some none) fun x43 =>
  Option.bind (if x40 then x43 else some false) fun x44 =>
  some x44
noncomputable def ref02_Fits (a : Int) : Option (Bool) :=
  let x0 := a
  let x4 := (decide (x0 ≥ (-1125899906842624 : Int)))
  let x6 := (if x4 = true then some x0 else none)
  Option.bind (if x4 = true then ((x6.bind (fun z7 => some (z7, (1125899906842624 : Int)))).map (fun z9 => (decide (z9.1 ≤ z9.2)))).map some else some none) fun x7 =>
  Option.bind (if x4 then x7 else some false) fun x8 =>
  some x8
noncomputable def ref02_Abs (a : Int) : Option (Int) :=
  let x0 := a
  let x4 := (decide (x0 < (0 : Int)))
  if x4 then (
    let x6 := IntKind.u64.wrap x0
    let x7 := IntKind.u64.wrap (0 - x6)
    some x7)
  else (
    let x9 := IntKind.u64.wrap x0
    some x9)
noncomputable def ref02_bit_loop1 (s : (Int) × (Int) × (Int) × Unit) : Option (((Int) × (Int) × (Int) × Unit) ⊕ (((Int) × Unit))) :=
  let x0 := s.1
  let x1 := s.2.1
  let x5 := s.2.2.1
  let x8 := (decide (x5 < x1))
  if x8 then (
    Option.bind (if (2 : Int) = 0 then none else some (IntKind.u64.wrap (x0.tdiv (2 : Int)))) fun x12 =>
    let x10 := IntKind.i64.wrap (x5 + (1 : Int))
    some (Sum.inl (x12, x1, x10, ())))
  else (
    some (Sum.inr (x0, ())))
noncomputable def ref02_bit (a : Int × Int) : Option (Int) :=
  let x0 := a.1
  let x1 := a.2
  Option.bind (iter ref02_bit_loop1 (x0, x1, (0 : Int), ())) fun o =>
  let x0 := o.1
  Option.bind (if (2 : Int) = 0 then none else some (x0.tmod (2 : Int))) fun x14 =>
  some x14
noncomputable def ref02_product_loop1 (s : (Int) × (Int) × (Int) × (Int) × (Int) × (List (Int)) × (Unit) × Unit) : Option (((Int) × (Int) × (Int) × (Int) × (Int) × (List (Int)) × (Unit) × Unit) ⊕ (((Int) × (Int) × (Int) × (List (Int)) × (Unit) × Unit))) :=
  let x0 := s.1
  let x1 := s.2.1
  let x6 := s.2.2.1
  let x7 := s.2.2.2.1
  let x10 := s.2.2.2.2.1
  let l12 := s.2.2.2.2.2.1
  let x49 := (decide (x7 > (0 : Int)))
  if x49 then (
    Option.bind (if 0 ≤ x10 ∧ x10 < (l12.length : Int) then some x10.toNat else none) fun x54 =>
    Option.bind ((l12[x54]?).map (fun y => y)) fun x55 =>
    let x57 := IntKind.u64.wrap (x55 + x7)
    Option.bind (if (2 : Int) = 0 then none else some (x57.tmod (2 : Int))) fun x61 =>
    Option.bind (if 0 ≤ x10 ∧ x10 < (l12.length : Int) then some x10.toNat else none) fun x62 =>
    Option.bind ((l12[x62]?).map (fun el62 => l12.set x62 x61)) fun l12 =>
    Option.bind (if (2 : Int) = 0 then none else some (IntKind.u64.wrap (x57.tdiv (2 : Int)))) fun x64 =>
    let x51 := IntKind.i64.wrap (x10 + (1 : Int))
    some (Sum.inl (x0, x1, x6, x64, x51, l12, (), ())))
  else (
    some (Sum.inr (x0, x1, x6, l12, (), ())))
noncomputable def ref02_product_loop2 (s : (Int) × (Int) × (Int) × (Int) × (Int) × (List (Int)) × (Unit) × Unit) : Option (((Int) × (Int) × (Int) × (Int) × (Int) × (List (Int)) × (Unit) × Unit) ⊕ (((Int) × (Int) × (Int) × (Int) × (List (Int)) × (Unit) × Unit))) :=
  let x0 := s.1
  let x1 := s.2.1
  let x6 := s.2.2.1
  let x7 := s.2.2.2.1
  let x8 := s.2.2.2.2.1
  let l12 := s.2.2.2.2.2.1
  let x22 := (decide (x8 < (64 : Int)))
  if x22 then (
    let x28 := IntKind.i64.wrap (x6 + x8)
    Option.bind (if 0 ≤ x28 ∧ x28 < (l12.length : Int) then some x28.toNat else none) fun x29 =>
    Option.bind ((l12[x29]?).map (fun y => y)) fun x30 =>
    Option.bind (ref02_bit (x1, x8)) fun x33 =>
    let x34 := IntKind.u64.wrap (x30 + x33)
    let x36 := IntKind.u64.wrap (x34 + x7)
    let x40 := IntKind.i64.wrap (x6 + x8)
    Option.bind (if (2 : Int) = 0 then none else some (x36.tmod (2 : Int))) fun x42 =>
    Option.bind (if 0 ≤ x40 ∧ x40 < (l12.length : Int) then some x40.toNat else none) fun x43 =>
    Option.bind ((l12[x43]?).map (fun el53 => l12.set x43 x42)) fun l12 =>
    Option.bind (if (2 : Int) = 0 then none else some (IntKind.u64.wrap (x36.tdiv (2 : Int)))) fun x45 =>
    let x24 := IntKind.i64.wrap (x8 + (1 : Int))
    some (Sum.inl (x0, x1, x6, x45, x24, l12, (), ())))
  else (
    some (Sum.inr (x0, x1, x6, x7, l12, (), ())))
noncomputable def ref02_product_loop3 (s : (Int) × (Int) × (Int) × (List (Int)) × (Unit) × Unit) : Option (((Int) × (Int) × (Int) × (List (Int)) × (Unit) × Unit) ⊕ (((List (Int)) × (Unit) × Unit))) :=
  let x0 := s.1
  let x1 := s.2.1
  let x6 := s.2.2.1
  let l12 := s.2.2.2.1
  let x14 := (decide (x6 < (64 : Int)))
  if x14 then (
    Option.bind (show Option (((Int) × (Int) × (Int) × (List (Int)) × (Unit) × Unit)) from (
      Option.bind (ref02_bit (x0, x6)) fun x19 =>
      let x20 := (x19 == (0 : Int))
      if x20 then (
        some (x0, x1, x6, l12, (), ()))
      else (
        Option.bind (iter ref02_product_loop2 (x0, x1, x6, (0 : Int), (0 : Int), l12, (), ())) fun o =>
        let x0 := o.1
        let x1 := o.2.1
        let x6 := o.2.2.1
        let x7 := o.2.2.2.1
        let l12 := o.2.2.2.2.1
        let x47 := IntKind.i64.wrap (x6 + (64 : Int))
        Option.bind (iter ref02_product_loop1 (x0, x1, x6, x7, x47, l12, (), ())) fun o =>
        let x0 := o.1
        let x1 := o.2.1
        let x6 := o.2.2.1
        let l12 := o.2.2.2.1
        some (x0, x1, x6, l12, (), ())))) fun o =>
    let x0 := o.1
    let x1 := o.2.1
    let x6 := o.2.2.1
    let l12 := o.2.2.2.1
    let x16 := IntKind.i64.wrap (x6 + (1 : Int))
    some (Sum.inl (x0, x1, x16, l12, (), ())))
  else (
    some (Sum.inr (l12, (), ())))
noncomputable def ref02_product (a : Int × Int) : Option (List (Int)) :=
  let x0 := a.1
  let x1 := a.2
  Option.bind (if 0 ≤ (129 : Int) ∧ (129 : Int) ≤ (129 : Int) ∧ (129 : Int) * (8 : Int) ≤ 140737488355328 ∧ (129 : Int) ≤ 4611686018427387904 then some (List.replicate (129 : Int).toNat (0 : Int)) else none) fun l12 =>
  Option.bind (iter ref02_product_loop3 (x0, x1, (0 : Int), l12, (), ())) fun o =>
  let l12 := o.1
  Option.bind (lSub l12 (0 : Int) (128 : Int)) fun x66 =>
  some x66
noncomputable def ref02_Divided_loop1 (s : (Int) × (List (Int)) × (Int) × (Int) × (Bool) × (Int) × Unit) : Option (((Int) × (List (Int)) × (Int) × (Int) × (Bool) × (Int) × Unit) ⊕ (((Int) × (Int) × (Bool) × Unit))) :=
  let x2 := s.1
  let x9 := s.2.1
  let x10 := s.2.2.1
  let x11 := s.2.2.2.1
  let x12 := s.2.2.2.2.1
  let x13 := s.2.2.2.2.2.1
  let x18 := (decide (x13 ≥ (0 : Int)))
  if x18 then (
    Option.bind (show Option (((Int) × (List (Int)) × (Int) × (Int) × (Bool) × (Int) × Unit)) from (
      let x22 := IntKind.u64.wrap ((2 : Int) * x11)
      Option.bind ((lAt x9 x13).map (fun y => y)) fun x25 =>
      let x27 := IntKind.u64.wrap (x22 + x25)
      let x30 := (if x12 = true then some x10 else none)
      Option.bind (if x12 = true then ((x30.bind (fun z37 => some (z37, (2305843009213693952 : Int)))).map (fun z39 => (decide (z39.1 < z39.2)))).map some else some none) fun x31 =>
      Option.bind (if x12 then x31 else some false) fun x32 =>
      let x34 := IntKind.u64.wrap ((2 : Int) * x10)
      let x37 := (decide (x27 ≥ x2))
      if x37 then (
        let x40 := IntKind.u64.wrap (x27 - x2)
        let x42 := IntKind.u64.wrap (x34 + (1 : Int))
        some (x2, x9, x42, x40, x32, x13, ()))
      else (
        some (x2, x9, x34, x27, x32, x13, ())))) fun o =>
    let x2 := o.1
    let x9 := o.2.1
    let x10 := o.2.2.1
    let x11 := o.2.2.2.1
    let x12 := o.2.2.2.2.1
    let x13 := o.2.2.2.2.2.1
    let x20 := IntKind.i64.wrap (x13 - (1 : Int))
    some (Sum.inl (x2, x9, x10, x11, x12, x20, ())))
  else (
    some (Sum.inr (x10, x11, x12, ())))
noncomputable def ref02_Divided (a : Int × Int × Int) : Option (Int × Int × Bool) :=
  let x0 := a.1
  let x1 := a.2.1
  let x2 := a.2.2
  Option.bind (ref02_product (x0, x1)) fun x16 =>
  Option.bind (iter ref02_Divided_loop1 (x2, x16, (0 : Int), (0 : Int), true, (127 : Int), ())) fun o =>
  let x10 := o.1
  let x11 := o.2.1
  let x12 := o.2.2.1
  some (x10, x11, x12)
noncomputable def ref02_Rounded (a : Int × Int × Int × Bool × Int) : Option (Int) :=
  let x0 := a.1
  let x1 := a.2.1
  let x2 := a.2.2.1
  let x3 := a.2.2.2.1
  let x4 := a.2.2.2.2
  Option.bind (show Option (((Int) × (Bool) × Unit)) from (
    let x14 := (x4 == (1 : Int))
    if x14 then (
      let x18 := IntKind.u64.wrap (x2 - x1)
      let x19 := (decide (x1 ≥ x18))
      some (x0, x19, ()))
    else (
      let x21 := (x4 == (2 : Int))
      if x21 then (
        let x25 := IntKind.u64.wrap (x2 - x1)
        let x26 := (decide (x1 > x25))
        let x28 := (if x26 = false then some x1 else none)
        let x29 := (if x26 = false then some x2 else none)
        let x30 := (if x26 = false then some x1 else none)
        Option.bind (if x26 = false then ((x29.bind (fun z43 => x30.map (fun z44 => (z43, z44)))).map (fun z45 => IntKind.u64.wrap (z45.1 - z45.2))).map some else some none) fun x31 =>
        Option.bind (if x26 = false then ((x28.bind (fun z46 => x31.map (fun z47 => (z46, z47)))).map (fun z48 => (z48.1 == z48.2))).map some else some none) fun x32 =>
        Option.bind (if x26 = false then x32.map some else some none) fun x33 =>
        let x34 := (if x33 = some true then some x0 else none)
        Option.bind (if x33 = some true then ((x34.bind (fun z49 => some (z49, (2 : Int)))).bind (fun z51 => if z51.2 = 0 then none else some (z51.1.tmod z51.2))).map some else some none) fun x35 =>
        Option.bind (if x33 = some true then ((x35.bind (fun z52 => some (z52, (1 : Int)))).map (fun z54 => (z54.1 == z54.2))).map some else some none) fun x36 =>
        Option.bind (if x26 = false then (x33.bind (fun z55 => if z55 then x36 else some false)).map some else some none) fun x37 =>
        Option.bind (if x26 then some true else x37.map (fun z56 => z56)) fun x38 =>
        some (x0, x38, ()))
      else (
        let x40 := (x4 == (3 : Int))
        if x40 then (
          let x42 := (decide (x1 > (0 : Int)))
          some (x0, x42, ()))
        else (
          let x44 := (x4 == (4 : Int))
          if x44 then (
            let x46 := (decide (x1 > (0 : Int)))
            let x48 := (if x46 = true then some x3 else none)
            Option.bind (if x46 then x48 else some false) fun x49 =>
            some (x0, x49, ()))
          else (
            some (x0, false, ()))))))) fun o =>
  let x0 := o.1
  let x11 := o.2.1
  if x11 then (
    let x52 := IntKind.u64.wrap (x0 + (1 : Int))
    some x52)
  else (
    some x0)
noncomputable def ref02_Part (a : Int × Int × Int × Int) : Option (Int × Int) :=
  let x0 := a.1
  let x1 := a.2.1
  let x2 := a.2.2.1
  let x3 := a.2.2.2
  Option.bind (ref02_Fits x0) fun x16 =>
  let x17 := (!x16)
  if x17 then (
    some ((0 : Int), (2 : Int)))
  else (
    let x19 := (x2 == (0 : Int))
    if x19 then (
      some ((0 : Int), (22 : Int)))
    else (
      let x21 := (decide (x2 < (0 : Int)))
      if x21 then (
        some ((0 : Int), (2 : Int)))
      else (
        let x23 := (decide (x3 < (0 : Int)))
        let x25 := (if x23 = false then some x3 else none)
        Option.bind (if x23 = false then ((x25.bind (fun z17 => some (z17, (4 : Int)))).map (fun z19 => (decide (z19.1 > z19.2)))).map some else some none) fun x26 =>
        Option.bind (if x23 then some true else x26.map (fun z20 => z20)) fun x27 =>
        if x27 then (
          some ((0 : Int), (11 : Int)))
        else (
          let x29 := (decide (x0 < (0 : Int)))
          let x31 := (decide (x1 < (0 : Int)))
          let x32 := (!(x29 == x31))
          Option.bind (ref02_Abs x0) fun x35 =>
          Option.bind (ref02_Abs x1) fun x37 =>
          let x39 := IntKind.u64.wrap x2
          Option.bind (ref02_Divided (x35, x37, x39)) fun x40 =>
          let x47 := IntKind.u64.wrap x2
          Option.bind (ref02_Rounded (x40.1, x40.2.1, x47, x32, x3)) fun x50 =>
          let x52 := (!x40.2.2)
          let x54 := (if x52 = false then some x50 else none)
          Option.bind (if x52 = false then ((x54.bind (fun z37 => some (z37, (1125899906842624 : Int)))).map (fun z39 => (decide (z39.1 > z39.2)))).map some else some none) fun x55 =>
          Option.bind (if x52 then some true else x55.map (fun z40 => z40)) fun x56 =>
          if x56 then (
            some ((0 : Int), (9 : Int)))
          else (
            if x32 then (
              let x59 := IntKind.i64.wrap x50
              let x60 := IntKind.i64.wrap (0 - x59)
              some (x60, (0 : Int)))
            else (
              let x62 := IntKind.i64.wrap x50
              some (x62, (0 : Int))))))))
noncomputable def law02_RatePart (a : Int × Int × Int × Int) : Option (Bool) :=
  let x0 := a.1
  let x1 := a.2.1
  let x2 := a.2.2.1
  let x3 := a.2.2.2
  Option.bind (law02_awake ()) fun x13 =>
  let x14 := (!x13)
  if x14 then (
    some false)
  else (
    Option.bind (rate_Part (x0, x1, x2, x3)) fun x20 =>
    Option.bind (ref02_Part (x0, x1, x2, x3)) fun x28 =>
    let x33 := (x20.1 == x28.1)
    let x35 := (if x33 = true then some x20.2 else none)
    let x36 := (if x33 = true then some x28.2 else none)
    Option.bind (if x33 = true then ((x35.bind (fun z7 => x36.map (fun z8 => (z7, z8)))).map (fun z9 => (z9.1 == z9.2))).map some else some none) fun x37 =>
    Option.bind (if x33 then x37 else some false) fun x38 =>
    some x38)
noncomputable def law02_RateModes_loop1 (s : (Int) × (Int) × (Int) × (Int) × (Int) × (Int) × (Int) × (Int) × (Int) × (Int) × (Int) × (Int) × (Int) × (Unit) × (Unit) × (Unit) × (Unit) × Unit) : Option (((Int) × (Int) × (Int) × (Int) × (Int) × (Int) × (Int) × (Int) × (Int) × (Int) × (Int) × (Int) × (Int) × (Unit) × (Unit) × (Unit) × (Unit) × Unit) ⊕ ((Unit) ⊕ (Bool))) :=
  let x7 := s.1
  let x16 := s.2.1
  let x17 := s.2.2.1
  let c9_0 := s.2.2.2.1
  let c9_1 := s.2.2.2.2.1
  let c9_2 := s.2.2.2.2.2.1
  let c9_3 := s.2.2.2.2.2.2.1
  let c9_4 := s.2.2.2.2.2.2.2.1
  let c10_0 := s.2.2.2.2.2.2.2.2.1
  let c10_1 := s.2.2.2.2.2.2.2.2.2.1
  let c10_2 := s.2.2.2.2.2.2.2.2.2.2.1
  let c10_3 := s.2.2.2.2.2.2.2.2.2.2.2.1
  let c10_4 := s.2.2.2.2.2.2.2.2.2.2.2.2.1
  let x97 := (decide (x17 < (4 : Int)))
  if x97 then (
    Option.bind (if 0 ≤ x17 ∧ x17 < (5 : Int) then some x17.toNat else none) fun x101 =>
    Option.bind (([c9_0, c9_1, c9_2, c9_3, c9_4] : List (Int))[x101]?) fun x102 =>
    let x104 := (x102 != x16)
    let x106 := (if x104 = true then some x17 else none)
    Option.bind (if x104 = true then ((x106.map (fun z470 => ((), z470))).bind (fun z471 => if 0 ≤ z471.2 ∧ z471.2 < (5 : Int) then some z471.2.toNat else none)).map some else some none) fun x107 =>
    Option.bind (if x104 = true then ((x107.map (fun z472 => ([c9_0, c9_1, c9_2, c9_3, c9_4] : List (Int))[z472]?)).bind (fun z473 => z473)).map some else some none) fun x108 =>
    let x109 := (if x104 = true then some x7 else none)
    Option.bind (if x104 = true then ((x108.bind (fun z474 => x109.map (fun z475 => (z474, z475)))).map (fun z476 => (z476.1 != z476.2))).map some else some none) fun x110 =>
    Option.bind (if x104 then x110 else some false) fun x111 =>
    let x113 := (if x111 = false then some x17 else none)
    Option.bind (if x111 = false then ((x113.map (fun z478 => ((), z478))).bind (fun z479 => if 0 ≤ z479.2 ∧ z479.2 < (5 : Int) then some z479.2.toNat else none)).map some else some none) fun x114 =>
    Option.bind (if x111 = false then ((x114.map (fun z480 => ([c10_0, c10_1, c10_2, c10_3, c10_4] : List (Int))[z480]?)).bind (fun z481 => z481)).map some else some none) fun x115 =>
    let x116 := (if x111 = false then some x17 else none)
    Option.bind (if x111 = false then ((x116.map (fun z483 => ((), z483))).bind (fun z484 => if 0 ≤ z484.2 ∧ z484.2 < (5 : Int) then some z484.2.toNat else none)).map some else some none) fun x117 =>
    Option.bind (if x111 = false then ((x117.map (fun z485 => ([c9_0, c9_1, c9_2, c9_3, c9_4] : List (Int))[z485]?)).bind (fun z486 => z486)).map some else some none) fun x118 =>
    Option.bind (if x111 = false then (x118.map (fun z487 => IntKind.i64.wrap (0 - z487))).map some else some none) fun x119 =>
    Option.bind (if x111 = false then ((x115.bind (fun z488 => x119.map (fun z489 => (z488, z489)))).map (fun z490 => (z490.1 != z490.2))).map some else some none) fun x120 =>
    Option.bind (if x111 then some true else x120.map (fun z491 => z491)) fun x121 =>
    if x121 then (
      some (Sum.inr (Sum.inr false)))
    else (
      let x99 := IntKind.i64.wrap (x17 + (1 : Int))
      some (Sum.inl (x7, x16, x99, c9_0, c9_1, c9_2, c9_3, c9_4, c10_0, c10_1, c10_2, c10_3, c10_4, (), (), (), (), ()))))
  else (
    some (Sum.inr (Sum.inl (()))))
noncomputable def law02_RateModes_loop2 (s : (Int) × (Int) × (Int) × (Int) × (Int) × (Int) × (Int) × (Int) × (Int) × (Int) × (Int) × (Int) × (Int) × (Int) × (Int) × (Unit) × (Unit) × (Unit) × (Unit) × Unit) : Option (((Int) × (Int) × (Int) × (Int) × (Int) × (Int) × (Int) × (Int) × (Int) × (Int) × (Int) × (Int) × (Int) × (Int) × (Int) × (Unit) × (Unit) × (Unit) × (Unit) × Unit) ⊕ (((Int) × (Int) × (Int) × (Int) × (Int) × (Int) × (Int) × (Int) × (Int) × (Int) × (Int) × (Unit) × (Unit) × (Unit) × (Unit) × Unit) ⊕ (Bool))) :=
  let x0 := s.1
  let x1 := s.2.1
  let x2 := s.2.2.1
  let x7 := s.2.2.2.1
  let x11 := s.2.2.2.2.1
  let c9_0 := s.2.2.2.2.2.1
  let c9_1 := s.2.2.2.2.2.2.1
  let c9_2 := s.2.2.2.2.2.2.2.1
  let c9_3 := s.2.2.2.2.2.2.2.2.1
  let c9_4 := s.2.2.2.2.2.2.2.2.2.1
  let c10_0 := s.2.2.2.2.2.2.2.2.2.2.1
  let c10_1 := s.2.2.2.2.2.2.2.2.2.2.2.1
  let c10_2 := s.2.2.2.2.2.2.2.2.2.2.2.2.1
  let c10_3 := s.2.2.2.2.2.2.2.2.2.2.2.2.2.1
  let c10_4 := s.2.2.2.2.2.2.2.2.2.2.2.2.2.2.1
  let x36 := (decide (x11 < (5 : Int)))
  if x36 then (
    Option.bind (rate_Part (x0, x1, x2, x11)) fun x44 =>
    let x49 := IntKind.i64.wrap (0 - x0)
    Option.bind (rate_Part (x49, x1, x2, x11)) fun x53 =>
    let x57 := (x44.2 != (0 : Int))
    let x59 := (if x57 = false then some x53.2 else none)
    Option.bind (if x57 = false then ((x59.bind (fun z77 => some (z77, (0 : Int)))).map (fun z79 => (z79.1 != z79.2))).map some else some none) fun x60 =>
    Option.bind (if x57 then some true else x60.map (fun z80 => z80)) fun x61 =>
    if x61 then (
      some (Sum.inr (Sum.inr false)))
    else (
      Option.bind (if 0 ≤ x11 ∧ x11 < (5 : Int) then some x11.toNat else none) fun x66 =>
      let c9_0 := (if x66 = 0 then x44.1 else c9_0)
      let c9_1 := (if x66 = 1 then x44.1 else c9_1)
      let c9_2 := (if x66 = 2 then x44.1 else c9_2)
      let c9_3 := (if x66 = 3 then x44.1 else c9_3)
      let c9_4 := (if x66 = 4 then x44.1 else c9_4)
      Option.bind (if 0 ≤ x11 ∧ x11 < (5 : Int) then some x11.toNat else none) fun x67 =>
      let c10_0 := (if x67 = 0 then x53.1 else c10_0)
      let c10_1 := (if x67 = 1 then x53.1 else c10_1)
      let c10_2 := (if x67 = 2 then x53.1 else c10_2)
      let c10_3 := (if x67 = 3 then x53.1 else c10_3)
      let c10_4 := (if x67 = 4 then x53.1 else c10_4)
      let x38 := IntKind.i64.wrap (x11 + (1 : Int))
      some (Sum.inl (x0, x1, x2, x7, x38, c9_0, c9_1, c9_2, c9_3, c9_4, c10_0, c10_1, c10_2, c10_3, c10_4, (), (), (), (), ()))))
  else (
    some (Sum.inr (Sum.inl (x7, c9_0, c9_1, c9_2, c9_3, c9_4, c10_0, c10_1, c10_2, c10_3, c10_4, (), (), (), (), ()))))
noncomputable def law02_RateModes (a : Int × Int × Int) : Option (Bool) :=
  let x0 := a.1
  let x1 := a.2.1
  let x2 := a.2.2
  Option.bind (law02_awake ()) fun x18 =>
  let x19 := (!x18)
  if x19 then (
    some false)
  else (
    let x21 := (decide (x0 < (0 : Int)))
    let x23 := (if x21 = false then some x1 else none)
    Option.bind (if x21 = false then ((x23.bind (fun z17 => some (z17, (0 : Int)))).map (fun z19 => (decide (z19.1 < z19.2)))).map some else some none) fun x24 =>
    Option.bind (if x21 then some true else x24.map (fun z20 => z20)) fun x25 =>
    if x25 then (
      some true)
    else (
      Option.bind (rate_Part (x0, x1, x2, (3 : Int))) fun x30 =>
      let x34 := (x30.2 != (0 : Int))
      if x34 then (
        some true)
      else (
        Option.bind (iter law02_RateModes_loop2 (x0, x1, x2, x30.1, (0 : Int), (0 : Int), (0 : Int), (0 : Int), (0 : Int), (0 : Int), (0 : Int), (0 : Int), (0 : Int), (0 : Int), (0 : Int), (), (), (), (), ())) fun o =>
        match o with
        | Sum.inl p81 => (
          let x7 := p81.1
          let c9_0 := p81.2.1
          let c9_1 := p81.2.2.1
          let c9_2 := p81.2.2.2.1
          let c9_3 := p81.2.2.2.2.1
          let c9_4 := p81.2.2.2.2.2.1
          let c10_0 := p81.2.2.2.2.2.2.1
          let c10_1 := p81.2.2.2.2.2.2.2.1
          let c10_2 := p81.2.2.2.2.2.2.2.2.1
          let c10_3 := p81.2.2.2.2.2.2.2.2.2.1
          let c10_4 := p81.2.2.2.2.2.2.2.2.2.2.1
          Option.bind (if 0 ≤ (0 : Int) ∧ (0 : Int) < (5 : Int) then some (0 : Int).toNat else none) fun x68 =>
          Option.bind (([c9_0, c9_1, c9_2, c9_3, c9_4] : List (Int))[x68]?) fun x69 =>
          Option.bind (if 0 ≤ (4 : Int) ∧ (4 : Int) < (5 : Int) then some (4 : Int).toNat else none) fun x70 =>
          Option.bind (([c9_0, c9_1, c9_2, c9_3, c9_4] : List (Int))[x70]?) fun x71 =>
          let x73 := (x71 != x69)
          let x75 := (if x73 = false then some x7 else none)
          let x76 := (if x73 = false then some x69 else none)
          Option.bind (if x73 = false then ((x75.bind (fun z171 => x76.map (fun z172 => (z171, z172)))).map (fun z173 => (decide (z173.1 < z173.2)))).map some else some none) fun x77 =>
          Option.bind (if x73 then some true else x77.map (fun z174 => z174)) fun x78 =>
          let x80 := (if x78 = false then some x7 else none)
          let x81 := (if x78 = false then some x69 else none)
          Option.bind (if x78 = false then ((x81.bind (fun z175 => some (z175, (1 : Int)))).map (fun z177 => IntKind.i64.wrap (z177.1 + z177.2))).map some else some none) fun x82 =>
          Option.bind (if x78 = false then ((x80.bind (fun z178 => x82.map (fun z179 => (z178, z179)))).map (fun z180 => (decide (z180.1 > z180.2)))).map some else some none) fun x83 =>
          Option.bind (if x78 then some true else x83.map (fun z181 => z181)) fun x84 =>
          let x86 := (if x84 = false then some x69 else none)
          Option.bind (if x84 = false then ((x86.bind (fun z182 => some (z182, (0 : Int)))).map (fun z184 => (decide (z184.1 < z184.2)))).map some else some none) fun x87 =>
          Option.bind (if x84 then some true else x87.map (fun z185 => z185)) fun x88 =>
          Option.bind (if x88 = false then (if 0 ≤ (4 : Int) ∧ (4 : Int) < (5 : Int) then some (4 : Int).toNat else none).map some else some none) fun x90 =>
          Option.bind (if x88 = false then ((x90.map (fun z186 => ([c10_0, c10_1, c10_2, c10_3, c10_4] : List (Int))[z186]?)).bind (fun z187 => z187)).map some else some none) fun x91 =>
          let x92 := (if x88 = false then some x7 else none)
          Option.bind (if x88 = false then (x92.map (fun z188 => IntKind.i64.wrap (0 - z188))).map some else some none) fun x93 =>
          Option.bind (if x88 = false then ((x91.bind (fun z189 => x93.map (fun z190 => (z189, z190)))).map (fun z191 => (z191.1 != z191.2))).map some else some none) fun x94 =>
          Option.bind (if x88 then some true else x94.map (fun z192 => z192)) fun x95 =>
          if x95 then (
            some false)
          else (
            Option.bind (iter law02_RateModes_loop1 (x7, x69, (0 : Int), c9_0, c9_1, c9_2, c9_3, c9_4, c10_0, c10_1, c10_2, c10_3, c10_4, (), (), (), (), ())) fun o =>
            match o with
            | Sum.inl p492 => (
              some true)
            | Sum.inr q493 => (
              some q493)))
        | Sum.inr q82 => (
          some q82))))
noncomputable def law02_RateSums_loop1 (s : (Int) × (Int) × (Int) × (Int) × (Int) × (Int) × (List (Int)) × (Unit) × Unit) : Option (((Int) × (Int) × (Int) × (Int) × (Int) × (Int) × (List (Int)) × (Unit) × Unit) ⊕ ((Unit) ⊕ (Bool))) :=
  let x0 := s.1
  let x1 := s.2.1
  let x2 := s.2.2.1
  let x3 := s.2.2.2.1
  let x21 := s.2.2.2.2.1
  let x22 := s.2.2.2.2.2.1
  let l20 := s.2.2.2.2.2.2.1
  let x23 := (decide (x22 < x21))
  if x23 then (
    Option.bind (show Option (((Int) × (Int) × (Int) × (Int) × (Int) × (Int) × (List (Int)) × (Unit) × Unit) ⊕ (Bool)) from (
      Option.bind (if 0 ≤ x22 ∧ x22 < (l20.length : Int) then some x22.toNat else none) fun x24 =>
      Option.bind ((l20[x24]?).map (fun y => y)) fun x25 =>
      Option.bind (ref02_Fits x0) fun x27 =>
      let x28 := (!x27)
      let x30 := (if x28 = false then some x1 else none)
      Option.bind (if x28 = false then ((x30.map (fun z257 => z257)).bind (fun z258 => ref02_Fits z258)).map some else some none) fun x31 =>
      Option.bind (if x28 = false then (x31.map (fun z259 => (!z259))).map some else some none) fun x32 =>
      Option.bind (if x28 then some true else x32.map (fun z260 => z260)) fun x33 =>
      if x33 then (
        some (Sum.inr true))
      else (
        Option.bind (rate_Part (x0, x2, x3, x25)) fun x39 =>
        Option.bind (rate_Part (x1, x2, x3, x25)) fun x47 =>
        let x53 := IntKind.i64.wrap (x0 + x1)
        Option.bind (rate_Part (x53, x2, x3, x25)) fun x57 =>
        let x61 := (x39.2 != (0 : Int))
        let x63 := (if x61 = false then some x47.2 else none)
        Option.bind (if x61 = false then ((x63.bind (fun z293 => some (z293, (0 : Int)))).map (fun z295 => (z295.1 != z295.2))).map some else some none) fun x64 =>
        Option.bind (if x61 then some true else x64.map (fun z296 => z296)) fun x65 =>
        let x67 := (if x65 = false then some x57.2 else none)
        Option.bind (if x65 = false then ((x67.bind (fun z297 => some (z297, (0 : Int)))).map (fun z299 => (z299.1 != z299.2))).map some else some none) fun x68 =>
        Option.bind (if x65 then some true else x68.map (fun z300 => z300)) fun x69 =>
        if x69 then (
          some (Sum.inl (x0, x1, x2, x3, x21, x22, l20, (), ())))
        else (
          let x72 := IntKind.i64.wrap (x57.1 - x39.1)
          let x74 := IntKind.i64.wrap (x72 - x47.1)
          let x76 := (decide (x74 > (1 : Int)))
          let x78 := (if x76 = false then some x74 else none)
          Option.bind (if x76 = false then ((x78.bind (fun z325 => some (z325, (-1 : Int)))).map (fun z327 => (decide (z327.1 < z327.2)))).map some else some none) fun x79 =>
          Option.bind (if x76 then some true else x79.map (fun z328 => z328)) fun x80 =>
          let x82 := (if x80 = false then some x25 else none)
          Option.bind (if x80 = false then ((x82.bind (fun z329 => some (z329, (4 : Int)))).map (fun z331 => (z331.1 == z331.2))).map some else some none) fun x83 =>
          Option.bind (if x80 = false then x83.map some else some none) fun x84 =>
          let x85 := (if x84 = some true then some x74 else none)
          Option.bind (if x84 = some true then ((x85.bind (fun z332 => some (z332, (0 : Int)))).map (fun z334 => (decide (z334.1 < z334.2)))).map some else some none) fun x86 =>
          Option.bind (if x80 = false then (x84.bind (fun z335 => if z335 then x86 else some false)).map some else some none) fun x87 =>
          Option.bind (if x80 then some true else x87.map (fun z336 => z336)) fun x88 =>
          if x88 then (
            some (Sum.inr false))
          else (
            some (Sum.inl (x0, x1, x2, x3, x21, x22, l20, (), ()))))))) fun o =>
    match o with
    | Sum.inl p337 => (
      let x0 := p337.1
      let x1 := p337.2.1
      let x2 := p337.2.2.1
      let x3 := p337.2.2.2.1
      let x21 := p337.2.2.2.2.1
      let x22 := p337.2.2.2.2.2.1
      let l20 := p337.2.2.2.2.2.2.1
      let x89 := IntKind.i64.wrap (x22 + (1 : Int))
      some (Sum.inl (x0, x1, x2, x3, x21, x89, l20, (), ())))
    | Sum.inr q338 => (
      some (Sum.inr (Sum.inr q338))))
  else (
    some (Sum.inr (Sum.inl (()))))
noncomputable def law02_RateSums (a : Int × Int × Int × Int) : Option (Bool) :=
  let x0 := a.1
  let x1 := a.2.1
  let x2 := a.2.2.1
  let x3 := a.2.2.2
  Option.bind (law02_awake ()) fun x18 =>
  let x19 := (!x18)
  if x19 then (
    some false)
  else (
    let l20 := ([(1 : Int), (4 : Int)] : List (Int))
    let x21 := (l20.length : Int)
    Option.bind (iter law02_RateSums_loop1 (x0, x1, x2, x3, x21, (0 : Int), l20, (), ())) fun o =>
    match o with
    | Sum.inl p339 => (
      some true)
    | Sum.inr q340 => (
      some q340))
noncomputable def law02_RateExact (a : Int × Int × Int × Int × Int) : Option (Bool) :=
  let x0 := a.1
  let x1 := a.2.1
  let x2 := a.2.2.1
  let x3 := a.2.2.2.1
  let x4 := a.2.2.2.2
  Option.bind (law02_awake ()) fun x24 =>
  let x25 := (!x24)
  if x25 then (
    some false)
  else (
    let x27 := IntKind.i64.wrap x4
    Option.bind (if (5 : Int) = 0 then none else some (x27.tmod (5 : Int))) fun x28 =>
    let x30 := (decide (x2 ≤ (0 : Int)))
    let x32 := (if x30 = false then some x0 else none)
    Option.bind (if x30 = false then ((x32.map (fun z17 => z17)).bind (fun z18 => ref02_Fits z18)).map some else some none) fun x33 =>
    Option.bind (if x30 = false then (x33.map (fun z19 => (!z19))).map some else some none) fun x34 =>
    Option.bind (if x30 then some true else x34.map (fun z20 => z20)) fun x35 =>
    if x35 then (
      some true)
    else (
      let x37 := IntKind.i64.wrap x2
      Option.bind (rate_Part (x0, x37, x37, x28)) fun x43 =>
      Option.bind (rate_Part (x0, (0 : Int), x37, x28)) fun x50 =>
      let x54 := (x43.2 != (0 : Int))
      let x56 := (if x54 = false then some x50.2 else none)
      Option.bind (if x54 = false then ((x56.bind (fun z69 => some (z69, (0 : Int)))).map (fun z71 => (z71.1 != z71.2))).map some else some none) fun x57 =>
      Option.bind (if x54 then some true else x57.map (fun z72 => z72)) fun x58 =>
      let x60 := (if x58 = false then some x43.1 else none)
      let x61 := (if x58 = false then some x0 else none)
      Option.bind (if x58 = false then ((x60.bind (fun z73 => x61.map (fun z74 => (z73, z74)))).map (fun z75 => (z75.1 != z75.2))).map some else some none) fun x62 =>
      Option.bind (if x58 then some true else x62.map (fun z76 => z76)) fun x63 =>
      let x65 := (if x63 = false then some x50.1 else none)
      Option.bind (if x63 = false then ((x65.bind (fun z77 => some (z77, (0 : Int)))).map (fun z79 => (z79.1 != z79.2))).map some else some none) fun x66 =>
      Option.bind (if x63 then some true else x66.map (fun z80 => z80)) fun x67 =>
      if x67 then (
        some false)
      else (
        let x69 := IntKind.i64.wrap x3
        let x70 := IntKind.i64.wrap (x69 + (1 : Int))
        let x74 := IntKind.i64.wrap x1
        Option.bind (rate_Part (x0, x74, x37, x28)) fun x77 =>
        let x83 := IntKind.i64.wrap x1
        let x85 := IntKind.i64.wrap (x83 * x70)
        let x88 := IntKind.i64.wrap (x37 * x70)
        Option.bind (rate_Part (x0, x85, x88, x28)) fun x90 =>
        let x95 := (x77.1 != x90.1)
        let x97 := (if x95 = false then some x77.2 else none)
        let x98 := (if x95 = false then some x90.2 else none)
        Option.bind (if x95 = false then ((x97.bind (fun z97 => x98.map (fun z98 => (z97, z98)))).map (fun z99 => (z99.1 != z99.2))).map some else some none) fun x99 =>
        Option.bind (if x95 then some true else x99.map (fun z100 => z100)) fun x100 =>
        if x100 then (
          some false)
        else (
          let x103 := IntKind.i64.wrap x1
          let x106 := IntKind.i64.wrap (x70 * x37)
          Option.bind (rate_Part (x103, x106, x37, x28)) fun x109 =>
          let x113 := (x109.2 == (0 : Int))
          let x115 := (if x113 = true then some x109.1 else none)
          let x116 := (if x113 = true then some x1 else none)
          Option.bind (if x113 = true then (x116.map (fun z115 => IntKind.i64.wrap z115)).map some else some none) fun x117 =>
          let x118 := (if x113 = true then some x70 else none)
          Option.bind (if x113 = true then ((x117.bind (fun z116 => x118.map (fun z117 => (z116, z117)))).map (fun z118 => IntKind.i64.wrap (z118.1 * z118.2))).map some else some none) fun x119 =>
          Option.bind (if x113 = true then ((x115.bind (fun z119 => x119.map (fun z120 => (z119, z120)))).map (fun z121 => (z121.1 == z121.2))).map some else some none) fun x120 =>
          Option.bind (if x113 then x120 else some false) fun x121 =>
          some x121))))
noncomputable def ref02_digits_loop1 (s : (List UInt8) × (Int) × (Int) × Unit) : Option (((List UInt8) × (Int) × (Int) × Unit) ⊕ (((Int) × Unit))) :=
  let x0 := s.1
  let x1 := s.2.1
  let x5 := s.2.2.1
  let x8 := IntKind.i64.wrap (x1 + x5)
  let x10 := (x0.length : Int)
  let x11 := (decide (x8 < x10))
  let x13 := (if x11 = true then some x0 else none)
  let x14 := (if x11 = true then some x1 else none)
  let x15 := (if x11 = true then some x5 else none)
  Option.bind (if x11 = true then ((x14.bind (fun z217 => x15.map (fun z218 => (z217, z218)))).map (fun z219 => IntKind.i64.wrap (z219.1 + z219.2))).map some else some none) fun x16 =>
  Option.bind (if x11 = true then ((x13.bind (fun z220 => x16.map (fun z221 => (z220, z221)))).bind (fun z222 => sAt z222.1 z222.2)).map some else some none) fun x17 =>
  Option.bind (if x11 = true then ((x17.bind (fun z223 => some (z223, (48 : Int)))).map (fun z225 => (decide (z225.1 ≥ z225.2)))).map some else some none) fun x18 =>
  Option.bind (if x11 then x18 else some false) fun x19 =>
  let x21 := (if x19 = true then some x0 else none)
  let x22 := (if x19 = true then some x1 else none)
  let x23 := (if x19 = true then some x5 else none)
  Option.bind (if x19 = true then ((x22.bind (fun z226 => x23.map (fun z227 => (z226, z227)))).map (fun z228 => IntKind.i64.wrap (z228.1 + z228.2))).map some else some none) fun x24 =>
  Option.bind (if x19 = true then ((x21.bind (fun z229 => x24.map (fun z230 => (z229, z230)))).bind (fun z231 => sAt z231.1 z231.2)).map some else some none) fun x25 =>
  Option.bind (if x19 = true then ((x25.bind (fun z232 => some (z232, (57 : Int)))).map (fun z234 => (decide (z234.1 ≤ z234.2)))).map some else some none) fun x26 =>
  Option.bind (if x19 then x26 else some false) fun x27 =>
  if x27 then (
    let x29 := IntKind.i64.wrap (x5 + (1 : Int))
    some (Sum.inl (x0, x1, x29, ())))
  else (
    some (Sum.inr (x5, ())))
noncomputable def ref02_digits (a : (List UInt8) × Int) : Option (Int) :=
  let x0 := a.1
  let x1 := a.2
  Option.bind (iter ref02_digits_loop1 (x0, x1, (0 : Int), ())) fun o =>
  let x5 := o.1
  some x5
noncomputable def ref02_Parse_loop1 (s : (List UInt8) × (Int) × (Int) × (Int) × (Int) × (Int) × (Int) × Unit) : Option (((List UInt8) × (Int) × (Int) × (Int) × (Int) × (Int) × (Int) × Unit) ⊕ (((Int) × (Int) × Unit))) :=
  let x0 := s.1
  let x4 := s.2.1
  let x5 := s.2.2.1
  let x7 := s.2.2.2.1
  let x8 := s.2.2.2.2.1
  let x10 := s.2.2.2.2.2.1
  let x11 := s.2.2.2.2.2.2.1
  let x105 := IntKind.i64.wrap (x4 + x5)
  let x106 := IntKind.i64.wrap (x105 + (1 : Int))
  let x108 := IntKind.i64.wrap (x106 + x7)
  let x109 := (decide (x11 < x108))
  if x109 then (
    Option.bind (sAt x0 x11) fun x116 =>
    let x117 := IntKind.u64.wrap x116
    let x118 := IntKind.u64.wrap (x117 - (48 : Int))
    let x119 := IntKind.u64.wrap (x10 * x118)
    let x120 := IntKind.u64.wrap (x8 + x119)
    Option.bind (if (10 : Int) = 0 then none else some (IntKind.u64.wrap (x10.tdiv (10 : Int)))) fun x122 =>
    let x111 := IntKind.i64.wrap (x11 + (1 : Int))
    some (Sum.inl (x0, x4, x5, x7, x120, x122, x111, ())))
  else (
    some (Sum.inr (x4, x8, ())))
noncomputable def ref02_Parse_loop2 (s : (List UInt8) × (Int) × (Int) × (Int) × (Int) × (Int) × Unit) : Option (((List UInt8) × (Int) × (Int) × (Int) × (Int) × (Int) × Unit) ⊕ (((List UInt8) × (Int) × (Int) × (Int) × (Int) × Unit))) :=
  let x0 := s.1
  let x4 := s.2.1
  let x5 := s.2.2.1
  let x7 := s.2.2.2.1
  let x8 := s.2.2.2.2.1
  let x9 := s.2.2.2.2.2.1
  let x82 := IntKind.i64.wrap (x4 + x5)
  let x83 := (decide (x9 < x82))
  if x83 then (
    Option.bind (show Option (((List UInt8) × (Int) × (Int) × (Int) × (Int) × (Int) × Unit)) from (
      let x87 := (decide (x8 < (1000000 : Int)))
      if x87 then (
        let x89 := IntKind.u64.wrap ((10 : Int) * x8)
        Option.bind (sAt x0 x9) fun x92 =>
        let x93 := IntKind.u64.wrap x92
        let x94 := IntKind.u64.wrap (x89 + x93)
        let x95 := IntKind.u64.wrap (x94 - (48 : Int))
        some (x0, x4, x5, x7, x95, x9, ()))
      else (
        some (x0, x4, x5, x7, x8, x9, ())))) fun o =>
    let x0 := o.1
    let x4 := o.2.1
    let x5 := o.2.2.1
    let x7 := o.2.2.2.1
    let x8 := o.2.2.2.2.1
    let x9 := o.2.2.2.2.2.1
    let x85 := IntKind.i64.wrap (x9 + (1 : Int))
    some (Sum.inl (x0, x4, x5, x7, x8, x85, ())))
  else (
    some (Sum.inr (x0, x4, x5, x7, x8, ())))
noncomputable def ref02_Parse (a : (List UInt8)) : Option (Int × Int) :=
  let x0 := a
  let x13 := ((x0 == ([] : List UInt8)))
  if x13 then (
    some ((0 : Int), (10 : Int)))
  else (
    Option.bind (show Option (((List UInt8) × (Int) × Unit)) from (
      Option.bind (sAt x0 (0 : Int)) fun x15 =>
      let x16 := (x15 == (45 : Int))
      if x16 then (
        some (x0, (1 : Int), ()))
      else (
        some (x0, (0 : Int), ())))) fun o =>
    let x0 := o.1
    let x4 := o.2.1
    Option.bind (ref02_digits (x0, x4)) fun x19 =>
    let x21 := (x19 == (0 : Int))
    let x23 := (if x21 = false then some x19 else none)
    Option.bind (if x21 = false then ((x23.bind (fun z45 => some (z45, (1 : Int)))).map (fun z47 => (decide (z47.1 > z47.2)))).map some else some none) fun x24 =>
    Option.bind (if x21 = false then x24.map some else some none) fun x25 =>
    let x26 := (if x25 = some true then some x0 else none)
    let x27 := (if x25 = some true then some x4 else none)
    Option.bind (if x25 = some true then ((x26.bind (fun z48 => x27.map (fun z49 => (z48, z49)))).bind (fun z50 => sAt z50.1 z50.2)).map some else some none) fun x28 =>
    Option.bind (if x25 = some true then ((x28.bind (fun z51 => some (z51, (48 : Int)))).map (fun z53 => (z53.1 == z53.2))).map some else some none) fun x29 =>
    Option.bind (if x21 = false then (x25.bind (fun z54 => if z54 then x29 else some false)).map some else some none) fun x30 =>
    Option.bind (if x21 then some true else x30.map (fun z55 => z55)) fun x31 =>
    if x31 then (
      some ((0 : Int), (3 : Int)))
    else (
      let x34 := IntKind.i64.wrap (x4 + x19)
      Option.bind (show Option (((List UInt8) × (Int) × (Int) × (Int) × (Int) × Unit) ⊕ (Int × Int)) from (
        let x37 := (x0.length : Int)
        let x38 := (decide (x34 < x37))
        let x40 := (if x38 = true then some x0 else none)
        let x41 := (if x38 = true then some x34 else none)
        Option.bind (if x38 = true then ((x40.bind (fun z108 => x41.map (fun z109 => (z108, z109)))).bind (fun z110 => sAt z110.1 z110.2)).map some else some none) fun x42 =>
        Option.bind (if x38 = true then ((x42.bind (fun z111 => some (z111, (46 : Int)))).map (fun z113 => (z113.1 == z113.2))).map some else some none) fun x43 =>
        Option.bind (if x38 then x43 else some false) fun x44 =>
        if x44 then (
          let x47 := IntKind.i64.wrap (x34 + (1 : Int))
          Option.bind (ref02_digits (x0, x47)) fun x48 =>
          let x50 := (x48 == (0 : Int))
          let x52 := (if x50 = false then some x48 else none)
          Option.bind (if x50 = false then ((x52.bind (fun z170 => some (z170, (4 : Int)))).map (fun z172 => (decide (z172.1 > z172.2)))).map some else some none) fun x53 =>
          Option.bind (if x50 then some true else x53.map (fun z173 => z173)) fun x54 =>
          let x56 := (if x54 = false then some x0 else none)
          let x57 := (if x54 = false then some x34 else none)
          let x58 := (if x54 = false then some x48 else none)
          Option.bind (if x54 = false then ((x57.bind (fun z174 => x58.map (fun z175 => (z174, z175)))).map (fun z176 => IntKind.i64.wrap (z176.1 + z176.2))).map some else some none) fun x59 =>
          Option.bind (if x54 = false then ((x56.bind (fun z177 => x59.map (fun z178 => (z177, z178)))).bind (fun z179 => sAt z179.1 z179.2)).map some else some none) fun x60 =>
          Option.bind (if x54 = false then ((x60.bind (fun z180 => some (z180, (48 : Int)))).map (fun z182 => (z182.1 == z182.2))).map some else some none) fun x61 =>
          Option.bind (if x54 then some true else x61.map (fun z183 => z183)) fun x62 =>
          if x62 then (
            some (Sum.inr ((0 : Int), (3 : Int))))
          else (
            let x64 := IntKind.i64.wrap (x34 + (1 : Int))
            let x66 := IntKind.i64.wrap (x64 + x48)
            some (Sum.inl (x0, x4, x19, x66, x48, ()))))
        else (
          some (Sum.inl (x0, x4, x19, x34, (0 : Int), ()))))) fun o =>
      match o with
      | Sum.inl p184 => (
        let x0 := p184.1
        let x4 := p184.2.1
        let x5 := p184.2.2.1
        let x6 := p184.2.2.2.1
        let x7 := p184.2.2.2.2.1
        let x69 := (x0.length : Int)
        let x70 := IntKind.i64.wrap (x69 - (1 : Int))
        let x71 := (x6 != x70)
        let x73 := (if x71 = false then some x0 else none)
        let x74 := (if x71 = false then some x6 else none)
        Option.bind (if x71 = false then ((x73.bind (fun z214 => x74.map (fun z215 => (z214, z215)))).bind (fun z216 => sAt z216.1 z216.2)).map some else some none) fun x75 =>
        Option.bind (if x71 = false then ((x75.bind (fun z217 => some (z217, (37 : Int)))).map (fun z219 => (z219.1 != z219.2))).map some else some none) fun x76 =>
        Option.bind (if x71 then some true else x76.map (fun z220 => z220)) fun x77 =>
        if x77 then (
          some ((0 : Int), (3 : Int)))
        else (
          Option.bind (iter ref02_Parse_loop2 (x0, x4, x5, x7, (0 : Int), x4, ())) fun o =>
          let x0 := o.1
          let x4 := o.2.1
          let x5 := o.2.2.1
          let x7 := o.2.2.2.1
          let x8 := o.2.2.2.2.1
          let x97 := IntKind.u64.wrap ((10000 : Int) * x8)
          let x100 := IntKind.i64.wrap (x4 + x5)
          let x101 := IntKind.i64.wrap (x100 + (1 : Int))
          Option.bind (iter ref02_Parse_loop1 (x0, x4, x5, x7, x97, (1000 : Int), x101, ())) fun o =>
          let x4 := o.1
          let x8 := o.2.1
          let x124 := (x8 == (0 : Int))
          let x126 := (if x124 = true then some x4 else none)
          Option.bind (if x124 = true then ((x126.bind (fun z233 => some (z233, (1 : Int)))).map (fun z235 => (z235.1 == z235.2))).map some else some none) fun x127 =>
          Option.bind (if x124 then x127 else some false) fun x128 =>
          if x128 then (
            some ((0 : Int), (3 : Int)))
          else (
            let x130 := (decide (x8 > (1000000000 : Int)))
            if x130 then (
              some ((0 : Int), (2 : Int)))
            else (
              let x132 := (x4 == (1 : Int))
              if x132 then (
                let x134 := IntKind.i64.wrap x8
                let x135 := IntKind.i64.wrap (0 - x134)
                some (x135, (0 : Int)))
              else (
                let x137 := IntKind.i64.wrap x8
                some (x137, (0 : Int)))))))
      | Sum.inr q185 => (
        some q185)))
noncomputable def ref02_Right (a : Int) : Option (Bool) :=
  let x0 := a
  let x4 := (decide (x0 ≥ (-1000000000 : Int)))
  let x6 := (if x4 = true then some x0 else none)
  Option.bind (if x4 = true then ((x6.bind (fun z7 => some (z7, (1000000000 : Int)))).map (fun z9 => (decide (z9.1 ≤ z9.2)))).map some else some none) fun x7 =>
  Option.bind (if x4 then x7 else some false) fun x8 =>
  some x8
noncomputable def ref02_tens_loop1 (s : (Int) × (List UInt8) × Unit) : Option (((Int) × (List UInt8) × Unit) ⊕ (((Int) × (List UInt8) × Unit))) :=
  let x0 := s.1
  let x3 := s.2.1
  let x5 := (decide (x0 > (9 : Int)))
  if x5 then (
    Option.bind (if (10 : Int) = 0 then none else some (x0.tmod (10 : Int))) fun x7 =>
    let x8 := IntKind.u64.wrap ((48 : Int) + x7)
    let x9 := IntKind.u8.wrap x8
    let l10 := ([x9] : List (Int))
    let x11 := (l10.map fun n => UInt8.ofNat n.toNat)
    Option.bind (if x11.length + x3.length ≤ 4611686018427387904 then some (x11 ++ x3) else none) fun x13 =>
    Option.bind (if (10 : Int) = 0 then none else some (IntKind.u64.wrap (x0.tdiv (10 : Int)))) fun x15 =>
    some (Sum.inl (x15, x13, ())))
  else (
    some (Sum.inr (x0, x3, ())))
noncomputable def ref02_tens (a : Int) : Option (List UInt8) :=
  let x0 := a
  let x2 := ([] : List UInt8)
  let x3 := ([] : List UInt8)
  Option.bind (iter ref02_tens_loop1 (x0, x3, ())) fun o =>
  let x0 := o.1
  let x3 := o.2.1
  let x17 := IntKind.u64.wrap ((48 : Int) + x0)
  let x18 := IntKind.u8.wrap x17
  let l19 := ([x18] : List (Int))
  let x20 := (l19.map fun n => UInt8.ofNat n.toNat)
  Option.bind (if x20.length + x3.length ≤ 4611686018427387904 then some (x20 ++ x3) else none) fun x22 =>
  some x22
noncomputable def ref02_Text_loop1 (s : (List UInt8) × (List UInt8) × Unit) : Option (((List UInt8) × (List UInt8) × Unit) ⊕ (((List UInt8) × (List UInt8) × Unit))) :=
  let x4 := s.1
  let x6 := s.2.1
  let x29 := (x6.length : Int)
  let x30 := IntKind.i64.wrap (x29 - (1 : Int))
  Option.bind (sAt x6 x30) fun x31 =>
  let x32 := (x31 == (48 : Int))
  if x32 then (
    let x35 := (x6.length : Int)
    let x36 := IntKind.i64.wrap (x35 - (1 : Int))
    Option.bind (lSub x6 (0 : Int) x36) fun x37 =>
    some (Sum.inl (x4, x37, ())))
  else (
    some (Sum.inr (x4, x6, ())))
noncomputable def ref02_Text (a : Int) : Option (List UInt8) :=
  let x0 := a
  let x2 := ([] : List UInt8)
  Option.bind (ref02_Right x0) fun x8 =>
  let x9 := (!x8)
  if x9 then (
    let x2 := ([] : List UInt8)
    some x2)
  else (
    Option.bind (ref02_Abs x0) fun x11 =>
    Option.bind (if (10000 : Int) = 0 then none else some (IntKind.u64.wrap (x11.tdiv (10000 : Int)))) fun x13 =>
    Option.bind (ref02_tens x13) fun x14 =>
    Option.bind (show Option (((Int) × (List UInt8) × Unit)) from (
      let x16 := (decide (x0 < (0 : Int)))
      if x16 then (
        Option.bind (if ([45] : List UInt8).length + x14.length ≤ 4611686018427387904 then some (([45] : List UInt8) ++ x14) else none) fun x18 =>
        some (x11, x18, ()))
      else (
        some (x11, x14, ())))) fun o =>
    let x3 := o.1
    let x4 := o.2.1
    Option.bind (if (10000 : Int) = 0 then none else some (x3.tmod (10000 : Int))) fun x20 =>
    Option.bind (show Option (((List UInt8) × Unit)) from (
      let x22 := (decide (x20 > (0 : Int)))
      if x22 then (
        let x24 := IntKind.u64.wrap ((10000 : Int) + x20)
        Option.bind (ref02_tens x24) fun x25 =>
        Option.bind (lSub x25 (1 : Int) (x25.length : Int)) fun x26 =>
        Option.bind (iter ref02_Text_loop1 (x4, x26, ())) fun o =>
        let x4 := o.1
        let x6 := o.2.1
        Option.bind (if x4.length + ([46] : List UInt8).length ≤ 4611686018427387904 then some (x4 ++ ([46] : List UInt8)) else none) fun x39 =>
        Option.bind (if x39.length + x6.length ≤ 4611686018427387904 then some (x39 ++ x6) else none) fun x41 =>
        some (x41, ()))
      else (
        some (x4, ())))) fun o =>
    let x4 := o.1
    Option.bind (if x4.length + ([37] : List UInt8).length ≤ 4611686018427387904 then some (x4 ++ ([37] : List UInt8)) else none) fun x43 =>
    some x43)
noncomputable def law02_RateText (a : Int × (List UInt8)) : Option (Bool) :=
  let x0 := a.1
  let x1 := a.2
  Option.bind (law02_awake ()) fun x12 =>
  let x13 := (!x12)
  if x13 then (
    some false)
  else (
    let x15 := (x1.length : Int)
    let x16 := (decide (x15 > (3000 : Int)))
    if x16 then (
      some true)
    else (
      Option.bind (rate_Text x0) fun x18 =>
      Option.bind (rate_Parse x1) fun x21 =>
      Option.bind (ref02_Parse x1) fun x26 =>
      Option.bind (ref02_Text x0) fun x31 =>
      let x32 := (!(x18 == x31))
      let x34 := (if x32 = false then some x21.1 else none)
      let x35 := (if x32 = false then some x26.1 else none)
      Option.bind (if x32 = false then ((x34.bind (fun z73 => x35.map (fun z74 => (z73, z74)))).map (fun z75 => (z75.1 != z75.2))).map some else some none) fun x36 =>
      Option.bind (if x32 then some true else x36.map (fun z76 => z76)) fun x37 =>
      let x39 := (if x37 = false then some x21.2 else none)
      let x40 := (if x37 = false then some x26.2 else none)
      Option.bind (if x37 = false then ((x39.bind (fun z77 => x40.map (fun z78 => (z77, z78)))).map (fun z79 => (z79.1 != z79.2))).map some else some none) fun x41 =>
      Option.bind (if x37 then some true else x41.map (fun z80 => z80)) fun x42 =>
      let x44 := (if x42 = false then some x21.2 else none)
      Option.bind (if x42 = false then ((x44.bind (fun z81 => some (z81, (0 : Int)))).map (fun z83 => (z83.1 == z83.2))).map some else some none) fun x45 =>
      Option.bind (if x42 = false then x45.map some else some none) fun x46 =>
      let x47 := (if x46 = some true then some x21.1 else none)
      Option.bind (if x46 = some true then ((x47.map (fun z84 => z84)).bind (fun z85 => rate_Text z85)).map some else some none) fun x48 =>
      let x49 := (if x46 = some true then some x1 else none)
      Option.bind (if x46 = some true then ((x48.bind (fun z86 => x49.map (fun z87 => (z86, z87)))).map (fun z88 => (!(z88.1 == z88.2)))).map some else some none) fun x50 =>
      Option.bind (if x42 = false then (x46.bind (fun z89 => if z89 then x50 else some false)).map some else some none) fun x51 =>
      Option.bind (if x42 then some true else x51.map (fun z90 => z90)) fun x52 =>
      if x52 then (
        some false)
      else (
        Option.bind (rate_Parse x18) fun x55 =>
        Option.bind (ref02_Right x0) fun x59 =>
        let x60 := (!x59)
        if x60 then (
          let x62 := ((x18 == ([] : List UInt8)))
          let x64 := (if x62 = true then some x55.2 else none)
          Option.bind (if x62 = true then ((x64.bind (fun z103 => some (z103, (10 : Int)))).map (fun z105 => (z105.1 == z105.2))).map some else some none) fun x65 =>
          Option.bind (if x62 then x65 else some false) fun x66 =>
          some x66)
        else (
          let x68 := (x55.2 == (0 : Int))
          let x70 := (if x68 = true then some x55.1 else none)
          let x71 := (if x68 = true then some x0 else none)
          Option.bind (if x68 = true then ((x70.bind (fun z112 => x71.map (fun z113 => (z112, z113)))).map (fun z114 => (z114.1 == z114.2))).map some else some none) fun x72 =>
          Option.bind (if x68 then x72 else some false) fun x73 =>
          some x73))))
noncomputable def law02_RateRises (a : Int × Int × Int × Int × Int × Int) : Option (Bool) :=
  let x0 := a.1
  let x1 := a.2.1
  let x2 := a.2.2.1
  let x3 := a.2.2.2.1
  let x4 := a.2.2.2.2.1
  let x5 := a.2.2.2.2.2
  Option.bind (law02_awake ()) fun x20 =>
  let x21 := (!x20)
  if x21 then (
    some false)
  else (
    let x23 := (decide (x2 < (0 : Int)))
    let x25 := (if x23 = false then some x3 else none)
    let x26 := (if x23 = false then some x2 else none)
    Option.bind (if x23 = false then ((x25.bind (fun z33 => x26.map (fun z34 => (z33, z34)))).map (fun z35 => (decide (z35.1 < z35.2)))).map some else some none) fun x27 =>
    Option.bind (if x23 then some true else x27.map (fun z36 => z36)) fun x28 =>
    let x30 := (if x28 = false then some x1 else none)
    let x31 := (if x28 = false then some x0 else none)
    Option.bind (if x28 = false then ((x30.bind (fun z37 => x31.map (fun z38 => (z37, z38)))).map (fun z39 => (decide (z39.1 < z39.2)))).map some else some none) fun x32 =>
    Option.bind (if x28 then some true else x32.map (fun z40 => z40)) fun x33 =>
    if x33 then (
      some true)
    else (
      let x35 := IntKind.i64.wrap x5
      Option.bind (if (5 : Int) = 0 then none else some (x35.tmod (5 : Int))) fun x36 =>
      Option.bind (rate_Part (x0, x2, x4, x36)) fun x42 =>
      Option.bind (rate_Part (x1, x2, x4, x36)) fun x50 =>
      Option.bind (rate_Part (x0, x3, x4, x36)) fun x58 =>
      let x62 := (x42.2 != (0 : Int))
      if x62 then (
        let x64 := (x42.1 == (0 : Int))
        some x64)
      else (
        let x66 := (x50.2 != (0 : Int))
        let x68 := (if x66 = false then some x50.1 else none)
        let x69 := (if x66 = false then some x42.1 else none)
        Option.bind (if x66 = false then ((x68.bind (fun z75 => x69.map (fun z76 => (z75, z76)))).map (fun z77 => (decide (z77.1 ≥ z77.2)))).map some else some none) fun x70 =>
        Option.bind (if x66 then some true else x70.map (fun z78 => z78)) fun x71 =>
        let x73 := (if x71 = true then some x58.2 else none)
        Option.bind (if x71 = true then ((x73.bind (fun z79 => some (z79, (0 : Int)))).map (fun z81 => (z81.1 != z81.2))).map some else some none) fun x74 =>
        Option.bind (if x71 = true then x74.map some else some none) fun x75 =>
        let x76 := (if x75 = some false then some x0 else none)
        Option.bind (if x75 = some false then ((x76.bind (fun z82 => some (z82, (0 : Int)))).map (fun z84 => (decide (z84.1 < z84.2)))).map some else some none) fun x77 =>
        Option.bind (if x71 = true then (x75.bind (fun z86 => if z86 then some true else x77.map (fun z85 => z85))).map some else some none) fun x78 =>
        Option.bind (if x71 = true then x78.map some else some none) fun x79 =>
        let x80 := (if x79 = some false then some x58.1 else none)
        let x81 := (if x79 = some false then some x42.1 else none)
        Option.bind (if x79 = some false then ((x80.bind (fun z87 => x81.map (fun z88 => (z87, z88)))).map (fun z89 => (decide (z89.1 ≥ z89.2)))).map some else some none) fun x82 =>
        Option.bind (if x71 = true then (x79.bind (fun z91 => if z91 then some true else x82.map (fun z90 => z90))).map some else some none) fun x83 =>
        Option.bind (if x71 then x83 else some false) fun x84 =>
        some x84)))
noncomputable def law02_RateNear (a : Int × Int × Int) : Option (Bool) :=
  let x0 := a.1
  let x1 := a.2.1
  let x2 := a.2.2
  Option.bind (law02_awake ()) fun x13 =>
  let x14 := (!x13)
  if x14 then (
    some false)
  else (
    let x16 := (decide (x1 ≤ (0 : Int)))
    let x18 := (if x16 = false then some x2 else none)
    Option.bind (if x16 = false then ((x18.bind (fun z81 => some (z81, (0 : Int)))).map (fun z83 => (decide (z83.1 ≤ z83.2)))).map some else some none) fun x19 =>
    Option.bind (if x16 then some true else x19.map (fun z84 => z84)) fun x20 =>
    let x22 := (if x20 = false then some x1 else none)
    Option.bind (if x20 = false then ((x22.bind (fun z85 => some (z85, (1073741824 : Int)))).map (fun z87 => (decide (z87.1 > z87.2)))).map some else some none) fun x23 =>
    Option.bind (if x20 then some true else x23.map (fun z88 => z88)) fun x24 =>
    let x26 := (if x24 = false then some x2 else none)
    Option.bind (if x24 = false then ((x26.bind (fun z89 => some (z89, (1073741824 : Int)))).map (fun z91 => (decide (z91.1 > z91.2)))).map some else some none) fun x27 =>
    Option.bind (if x24 then some true else x27.map (fun z92 => z92)) fun x28 =>
    let x30 := (if x28 = false then some x0 else none)
    Option.bind (if x28 = false then ((x30.bind (fun z93 => some (z93, (1073741824 : Int)))).map (fun z95 => (decide (z95.1 > z95.2)))).map some else some none) fun x31 =>
    Option.bind (if x28 then some true else x31.map (fun z96 => z96)) fun x32 =>
    let x34 := (if x32 = false then some x0 else none)
    Option.bind (if x32 = false then ((x34.bind (fun z97 => some (z97, (-1073741824 : Int)))).map (fun z99 => (decide (z99.1 < z99.2)))).map some else some none) fun x35 =>
    Option.bind (if x32 then some true else x35.map (fun z100 => z100)) fun x36 =>
    if x36 then (
      some true)
    else (
      let x40 := IntKind.i64.wrap x1
      let x42 := IntKind.i64.wrap x2
      Option.bind (rate_Part (x0, x40, x42, (1 : Int))) fun x43 =>
      let x47 := (x43.2 != (0 : Int))
      if x47 then (
        some true)
      else (
        let x51 := IntKind.i64.wrap x2
        let x53 := IntKind.i64.wrap x1
        Option.bind (rate_Part (x43.1, x51, x53, (1 : Int))) fun x54 =>
        let x58 := (x54.2 != (0 : Int))
        if x58 then (
          some true)
        else (
          let x61 := IntKind.i64.wrap (x54.1 - x0)
          let x63 := IntKind.i64.wrap x2
          let x65 := IntKind.i64.wrap x1
          Option.bind (if x65 = 0 then none else some (IntKind.i64.wrap (x63.tdiv x65))) fun x66 =>
          let x67 := IntKind.i64.wrap (x66 + (2 : Int))
          let x70 := (decide (x61 ≤ x67))
          let x72 := (if x70 = true then some x61 else none)
          let x73 := (if x70 = true then some x67 else none)
          Option.bind (if x70 = true then (x73.map (fun z109 => IntKind.i64.wrap (0 - z109))).map some else some none) fun x74 =>
          Option.bind (if x70 = true then ((x72.bind (fun z110 => x74.map (fun z111 => (z110, z111)))).map (fun z112 => (decide (z112.1 ≥ z112.2)))).map some else some none) fun x75 =>
          Option.bind (if x70 then x75 else some false) fun x76 =>
          some x76))))
noncomputable def ref02_Of (a : Int × Int × Int) : Option (Int × Int) :=
  let x0 := a.1
  let x1 := a.2.1
  let x2 := a.2.2
  Option.bind (ref02_Fits x0) fun x9 =>
  let x10 := (!x9)
  let x12 := (if x10 = false then some x1 else none)
  Option.bind (if x10 = false then ((x12.map (fun z17 => z17)).bind (fun z18 => ref02_Right z18)).map some else some none) fun x13 =>
  Option.bind (if x10 = false then (x13.map (fun z19 => (!z19))).map some else some none) fun x14 =>
  Option.bind (if x10 then some true else x14.map (fun z20 => z20)) fun x15 =>
  if x15 then (
    some ((0 : Int), (2 : Int)))
  else (
    Option.bind (ref02_Part (x0, x1, (1000000 : Int), x2)) fun x19 =>
    some (x19.1, x19.2))
noncomputable def rate_Times (a : Int × Int) : Option (Int × Int) :=
  let x0 := a.1
  let x1 := a.2
  Option.bind (rate_right x0) fun x9 =>
  let x10 := (!x9)
  let x12 := (if x10 = false then some x1 else none)
  Option.bind (if x10 = false then ((x12.map (fun z17 => z17)).bind (fun z18 => rate_right z18)).map some else some none) fun x13 =>
  Option.bind (if x10 = false then (x13.map (fun z19 => (!z19))).map some else some none) fun x14 =>
  Option.bind (if x10 then some true else x14.map (fun z20 => z20)) fun x15 =>
  if x15 then (
    some ((0 : Int), (2 : Int)))
  else (
    Option.bind (rate_quotient (x0, x1, (1000000 : Int), (1000000000 : Int), (1 : Int))) fun x19 =>
    let x23 := (!x19.2)
    if x23 then (
      some ((0 : Int), (9 : Int)))
    else (
      some (x19.1, (0 : Int))))
noncomputable def ref02_Times (a : Int × Int) : Option (Int × Int) :=
  let x0 := a.1
  let x1 := a.2
  Option.bind (ref02_Right x0) fun x9 =>
  let x10 := (!x9)
  let x12 := (if x10 = false then some x1 else none)
  Option.bind (if x10 = false then ((x12.map (fun z17 => z17)).bind (fun z18 => ref02_Right z18)).map some else some none) fun x13 =>
  Option.bind (if x10 = false then (x13.map (fun z19 => (!z19))).map some else some none) fun x14 =>
  Option.bind (if x10 then some true else x14.map (fun z20 => z20)) fun x15 =>
  if x15 then (
    some ((0 : Int), (2 : Int)))
  else (
    Option.bind (ref02_Part (x0, x1, (1000000 : Int), (1 : Int))) fun x19 =>
    Option.bind (ref02_Right x19.1) fun x23 =>
    let x24 := (!x23)
    if x24 then (
      some ((0 : Int), (9 : Int)))
    else (
      some (x19.1, (0 : Int))))
noncomputable def law02_RateOf (a : Int × Int × Int × Int) : Option (Bool) :=
  let x0 := a.1
  let x1 := a.2.1
  let x2 := a.2.2.1
  let x3 := a.2.2.2
  Option.bind (law02_awake ()) fun x17 =>
  let x18 := (!x17)
  if x18 then (
    some false)
  else (
    Option.bind (rate_Of (x0, x1, x3)) fun x23 =>
    Option.bind (ref02_Of (x0, x1, x3)) fun x30 =>
    Option.bind (rate_Times (x1, x2)) fun x36 =>
    Option.bind (ref02_Times (x1, x2)) fun x42 =>
    let x47 := (x23.1 == x30.1)
    let x49 := (if x47 = true then some x23.2 else none)
    let x50 := (if x47 = true then some x30.2 else none)
    Option.bind (if x47 = true then ((x49.bind (fun z19 => x50.map (fun z20 => (z19, z20)))).map (fun z21 => (z21.1 == z21.2))).map some else some none) fun x51 =>
    Option.bind (if x47 then x51 else some false) fun x52 =>
    let x54 := (if x52 = true then some x36.1 else none)
    let x55 := (if x52 = true then some x42.1 else none)
    Option.bind (if x52 = true then ((x54.bind (fun z22 => x55.map (fun z23 => (z22, z23)))).map (fun z24 => (z24.1 == z24.2))).map some else some none) fun x56 =>
    Option.bind (if x52 then x56 else some false) fun x57 =>
    let x59 := (if x57 = true then some x36.2 else none)
    let x60 := (if x57 = true then some x42.2 else none)
    Option.bind (if x57 = true then ((x59.bind (fun z25 => x60.map (fun z26 => (z25, z26)))).map (fun z27 => (z27.1 == z27.2))).map some else some none) fun x61 =>
    Option.bind (if x57 then x61 else some false) fun x62 =>
    some x62)
noncomputable def law02_RateTimes (a : Int × Int) : Option (Bool) :=
  let x0 := a.1
  let x1 := a.2
  Option.bind (law02_awake ()) fun x15 =>
  let x16 := (!x15)
  if x16 then (
    some false)
  else (
    Option.bind (ref02_Right x0) fun x18 =>
    let x19 := (!x18)
    let x21 := (if x19 = false then some x1 else none)
    Option.bind (if x19 = false then ((x21.map (fun z23 => z23)).bind (fun z24 => ref02_Right z24)).map some else some none) fun x22 =>
    Option.bind (if x19 = false then (x22.map (fun z25 => (!z25))).map some else some none) fun x23 =>
    Option.bind (if x19 then some true else x23.map (fun z26 => z26)) fun x24 =>
    if x24 then (
      Option.bind (rate_Times (x0, x1)) fun x28 =>
      let x32 := (x28.1 == (0 : Int))
      let x34 := (if x32 = true then some x28.2 else none)
      Option.bind (if x32 = true then ((x34.bind (fun z33 => some (z33, (2 : Int)))).map (fun z35 => (z35.1 == z35.2))).map some else some none) fun x35 =>
      Option.bind (if x32 then x35 else some false) fun x36 =>
      some x36)
    else (
      Option.bind (rate_Times (x0, x1)) fun x40 =>
      Option.bind (rate_Times (x1, x0)) fun x46 =>
      Option.bind (rate_Times (x0, (1000000 : Int))) fun x51 =>
      let x56 := IntKind.i64.wrap (0 - x0)
      Option.bind (rate_Times (x56, x1)) fun x58 =>
      let x63 := (x40.1 == x46.1)
      let x65 := (if x63 = true then some x40.2 else none)
      let x66 := (if x63 = true then some x46.2 else none)
      Option.bind (if x63 = true then ((x65.bind (fun z68 => x66.map (fun z69 => (z68, z69)))).map (fun z70 => (z70.1 == z70.2))).map some else some none) fun x67 =>
      Option.bind (if x63 then x67 else some false) fun x68 =>
      let x70 := (if x68 = true then some x51.1 else none)
      let x71 := (if x68 = true then some x0 else none)
      Option.bind (if x68 = true then ((x70.bind (fun z71 => x71.map (fun z72 => (z71, z72)))).map (fun z73 => (z73.1 == z73.2))).map some else some none) fun x72 =>
      Option.bind (if x68 then x72 else some false) fun x73 =>
      let x75 := (if x73 = true then some x51.2 else none)
      Option.bind (if x73 = true then ((x75.bind (fun z74 => some (z74, (0 : Int)))).map (fun z76 => (z76.1 == z76.2))).map some else some none) fun x76 =>
      Option.bind (if x73 then x76 else some false) fun x77 =>
      let x79 := (if x77 = true then some x58.1 else none)
      let x80 := (if x77 = true then some x40.1 else none)
      Option.bind (if x77 = true then (x80.map (fun z77 => IntKind.i64.wrap (0 - z77))).map some else some none) fun x81 =>
      Option.bind (if x77 = true then ((x79.bind (fun z78 => x81.map (fun z79 => (z78, z79)))).map (fun z80 => (z80.1 == z80.2))).map some else some none) fun x82 =>
      Option.bind (if x77 then x82 else some false) fun x83 =>
      let x85 := (if x83 = true then some x58.2 else none)
      let x86 := (if x83 = true then some x40.2 else none)
      Option.bind (if x83 = true then ((x85.bind (fun z81 => x86.map (fun z82 => (z81, z82)))).map (fun z83 => (z83.1 == z83.2))).map some else some none) fun x87 =>
      Option.bind (if x83 then x87 else some false) fun x88 =>
      some x88))
end WB
namespace WB
open Go Go.RowKit

theorem Mul64_eq {n m : Nat} (hn : n < 18446744073709551616) (hm : m < 18446744073709551616) :
    math_bits_Mul64 ((n : Int), (m : Int)) = some (((n * m / 18446744073709551616 : Nat) : Int), ((n * m % 18446744073709551616 : Nat) : Int)) := by
  unfold math_bits_Mul64
  obtain ⟨h1, h2, h3, h4⟩ := Go.Lib.mul64_hi n m hn hm
  have l : ∀ {a : Nat}, a < 18446744073709551616 → IntKind.u64.wrap (a : Int) = (a : Int) := fun h => wu64 h
  have h6 : n * m / 18446744073709551616 < 18446744073709551616 := by
    rw [Nat.div_lt_iff_lt_mul (by decide)]
    exact Nat.mul_lt_mul'' hn hm
  have e1 := Int.natCast_mul (n % 4294967296) (m % 4294967296)
  have e2 := Int.natCast_mul (n / 4294967296) (m % 4294967296)
  have e3 := Int.natCast_mul (n % 4294967296) (m / 4294967296)
  have e4 := Int.natCast_mul (n / 4294967296) (m / 4294967296)
  have e5 := Int.natCast_mul n m
  dsimp only
  rw [shr32, bs, shr32, bs, mask32 hn, mask32 hm, ← e1, ← e2, ← e3, ← e4, ← e5]
  generalize n % 4294967296 * (m % 4294967296) = A at *
  generalize n / 4294967296 * (m % 4294967296) = B at *
  generalize n % 4294967296 * (m / 4294967296) = C at *
  generalize n / 4294967296 * (m / 4294967296) = E at *
  generalize n * m = F at *
  rw [wu64 h1, shr32, bs, wu64 (show B < 18446744073709551616 by omega), ← Int.natCast_add, wu64 h2, shr32, bs, mask32 h2, wu64 (show C < 18446744073709551616 by omega), ← Int.natCast_add, wu64 h3, shr32, bs, wu64 (show E < 18446744073709551616 by omega), ← Int.natCast_add, wu64 (show E + (B + A / 4294967296) / 4294967296 < 18446744073709551616 by omega), ← Int.natCast_add, h4, wu64 h6, wu64m]

theorem shrK (n k : Nat) (hk : k ≤ 64) : (if (k : Int) < 0 then none else some ((n : Int).fdiv (2 ^ (min (k : Int).toNat 64)))) = some ((n / 2 ^ k : Nat) : Int) := by
  rw [if_neg (by omega), Int.toNat_natCast, Nat.min_eq_left hk, Int.fdiv_eq_ediv_of_nonneg _ (Int.pow_nonneg (by decide))]
  congr 1
theorem shr16 (n : Nat) : (if (16 : Int) < 0 then none else some ((n : Int).fdiv (2 ^ (min (16 : Int).toNat 64)))) = some ((n / 65536 : Nat) : Int) := shrK n 16 (by decide)
theorem shr8 (n : Nat) : (if (8 : Int) < 0 then none else some ((n : Int).fdiv (2 ^ (min (8 : Int).toNat 64)))) = some ((n / 256 : Nat) : Int) := shrK n 8 (by decide)

theorem len8L : ∀ n : Fin 256, ([0, 1, 2, 2, 3, 3, 3, 3, 4, 4, 4, 4, 4, 4, 4, 4, 5, 5, 5, 5, 5, 5, 5, 5, 5, 5, 5, 5, 5, 5, 5, 5, 6, 6, 6, 6, 6, 6, 6, 6, 6, 6, 6, 6, 6, 6, 6, 6, 6, 6, 6, 6, 6, 6, 6, 6, 6, 6, 6, 6, 6, 6, 6, 6, 7, 7, 7, 7, 7, 7, 7, 7, 7, 7, 7, 7, 7, 7, 7, 7, 7, 7, 7, 7, 7, 7, 7, 7, 7, 7, 7, 7, 7, 7, 7, 7, 7, 7, 7, 7, 7, 7, 7, 7, 7, 7, 7, 7, 7, 7, 7, 7, 7, 7, 7, 7, 7, 7, 7, 7, 7, 7, 7, 7, 7, 7, 7, 7, 8, 8, 8, 8, 8, 8, 8, 8, 8, 8, 8, 8, 8, 8, 8, 8, 8, 8, 8, 8, 8, 8, 8, 8, 8, 8, 8, 8, 8, 8, 8, 8, 8, 8, 8, 8, 8, 8, 8, 8, 8, 8, 8, 8, 8, 8, 8, 8, 8, 8, 8, 8, 8, 8, 8, 8, 8, 8, 8, 8, 8, 8, 8, 8, 8, 8, 8, 8, 8, 8, 8, 8, 8, 8, 8, 8, 8, 8, 8, 8, 8, 8, 8, 8, 8, 8, 8, 8, 8, 8, 8, 8, 8, 8, 8, 8, 8, 8, 8, 8, 8, 8, 8, 8, 8, 8, 8, 8, 8, 8, 8, 8, 8, 8, 8, 8, 8, 8, 8, 8, 8, 8, 8, 8, 8, 8, 8, 8] : List UInt8)[n.val]? = some (UInt8.ofNat (Go.Lib.bitLen n.val)) := by decide +kernel

theorem Len64_eq {n : Nat} (hn : n < 18446744073709551616) : math_bits_Len64 (n : Int) = some (Go.Lib.bitLen n : Int) := by
  unfold math_bits_Len64
  have a1 : ∃ n1 k1 : Nat, n1 < 4294967296 ∧ k1 ≤ 32 ∧ Go.Lib.bitLen n = k1 + Go.Lib.bitLen n1 ∧ (if decide ((n : Int) ≥ (4294967296 : Int)) = true then
      Option.bind (if (32 : Int) < 0 then none else some ((n : Int).fdiv (2 ^ (min (32 : Int).toNat 64)))) fun x6 => some (x6, (32 : Int), ()) else some ((n : Int), (0 : Int), ())) = some ((n1 : Int), (k1 : Int), ()) := by
    by_cases h : 4294967296 ≤ n
    · refine ⟨n / 4294967296, 32, by omega, by omega, Go.Lib.bitLen_shift32 n h hn, ?_⟩
      rw [if_pos (by simpa using by omega), shr32]; rfl
    · refine ⟨n, 0, by omega, by omega, by omega, ?_⟩
      rw [if_neg (by simpa using by omega)]; rfl
  obtain ⟨n1, k1, hn1, hk1, hl1, he1⟩ := a1
  have a2 : ∃ n2 k2 : Nat, n2 < 65536 ∧ k2 ≤ 48 ∧ Go.Lib.bitLen n = k2 + Go.Lib.bitLen n2 ∧ (if decide ((n1 : Int) ≥ (65536 : Int)) = true then
      Option.bind (if (16 : Int) < 0 then none else some ((n1 : Int).fdiv (2 ^ (min (16 : Int).toNat 64)))) fun x6 => some (x6, IntKind.i64.wrap ((k1 : Int) + (16 : Int)), ()) else some ((n1 : Int), (k1 : Int), ())) = some ((n2 : Int), (k2 : Int), ()) := by
    by_cases h : 65536 ≤ n1
    · refine ⟨n1 / 65536, k1 + 16, by omega, by omega, by rw [hl1, Go.Lib.bitLen_shift16 n1 h (by omega)]; omega, ?_⟩
      rw [if_pos (by simpa using by omega), shr16, w64' (by omega) (by omega)]; rfl
    · refine ⟨n1, k1, by omega, by omega, by omega, ?_⟩
      rw [if_neg (by simpa using by omega)]
  obtain ⟨n2, k2, hn2, hk2, hl2, he2⟩ := a2
  have a3 : ∃ n3 k3 : Nat, n3 < 256 ∧ k3 ≤ 56 ∧ Go.Lib.bitLen n = k3 + Go.Lib.bitLen n3 ∧ (if decide ((n2 : Int) ≥ (256 : Int)) = true then
      Option.bind (if (8 : Int) < 0 then none else some ((n2 : Int).fdiv (2 ^ (min (8 : Int).toNat 64)))) fun x6 => some (x6, IntKind.i64.wrap ((k2 : Int) + (8 : Int)), ()) else some ((n2 : Int), (k2 : Int), ())) = some ((n3 : Int), (k3 : Int), ()) := by
    by_cases h : 256 ≤ n2
    · refine ⟨n2 / 256, k2 + 8, by omega, by omega, by rw [hl2, Go.Lib.bitLen_shift8 n2 h (by omega)]; omega, ?_⟩
      rw [if_pos (by simpa using by omega), shr8, w64' (by omega) (by omega)]; rfl
    · refine ⟨n2, k2, by omega, by omega, by omega, ?_⟩
      rw [if_neg (by simpa using by omega)]
  obtain ⟨n3, k3, hn3, hk3, hl3, he3⟩ := a3
  have h8 : Go.Lib.bitLen n3 ≤ 8 := Go.Lib.bitLen_le8 ⟨n3, hn3⟩
  dsimp only
  rw [he1, bs]
  dsimp only
  rw [he2, bs]
  dsimp only
  rw [he3, bs]
  dsimp only
  have hw : IntKind.u8.wrap (n3 : Int) = (n3 : Int) := by rw [IntKind.wrap_u8]; omega
  rw [hw, sAt_nat (len8L ⟨n3, hn3⟩), bs]
  have hb : ((UInt8.ofNat (Go.Lib.bitLen n3)).toNat) = Go.Lib.bitLen n3 := by rw [UInt8.toNat_ofNat']; omega
  rw [hb, w64' (n := (Go.Lib.bitLen n3 : Int)) (by omega) (by omega), w64' (by omega) (by omega), hl3]
  rfl
theorem LeadingZeros64_eq {n : Nat} (hn : n < 18446744073709551616) : math_bits_LeadingZeros64 (n : Int) = some (64 - (Go.Lib.bitLen n : Int)) := by
  unfold math_bits_LeadingZeros64
  have : Go.Lib.bitLen n ≤ 64 := Go.Lib.bitLen_le n 64 (by omega) hn
  dsimp only
  rw [Len64_eq hn, bs, w64' (by omega) (by omega)]
end WB
namespace WB
open Go Go.RowKit

theorem bitLen_bd : ∀ (n : Nat), n < 18446744073709551616 → n ≠ 0 → 2 ^ Go.Lib.bitLen n ≤ 2 * n ∧ n < 2 ^ Go.Lib.bitLen n := by
  intro n
  induction n using Nat.strongRecOn with
  | _ n ih =>
    intro h h0
    rw [Go.Lib.bitLen_half n h0 h]
    by_cases h1 : n / 2 = 0
    · have : n = 1 := by omega
      subst this
      decide
    · obtain ⟨a, b⟩ := ih (n / 2) (by omega) (by omega) h1
      rw [Nat.add_comm 1, Nat.pow_succ]
      omega

section
variable {p z u n : Nat}
/-- One turn of guessing: the guess is too great just if the test says so; what is left says whether to go on. -/
theorem kn_turn (hz : z < 4294967296) (hn : n < 4294967296) (hu : u < p * 4294967296 + z) {q r : Nat} (h : q * p + r = u) (hQ : (u * 4294967296 + n) / (p * 4294967296 + z) ≤ q) (hq : q ≤ 4294967297) (hr : r < 4294967296) :
    q * z < 18446744073709551616 ∧ 4294967296 * r + n < 18446744073709551616 ∧
    ((q < 4294967296 ∧ q * z ≤ 4294967296 * r + n → q = (u * 4294967296 + n) / (p * 4294967296 + z))
    ∧ (4294967296 ≤ q ∨ 4294967296 * r + n < q * z → 1 ≤ q ∧ (q - 1) * p + (r + p) = u ∧ (u * 4294967296 + n) / (p * 4294967296 + z) ≤ q - 1 ∧ (4294967296 ≤ r + p → q - 1 = (u * 4294967296 + n) / (p * 4294967296 + z)))) := by
  have hd : 0 < p * 4294967296 + z := by omega
  have h1 : q * z ≤ 4294967297 * 4294967295 := Nat.mul_le_mul hq (by omega)
  refine ⟨by omega, by omega, fun ⟨a, b⟩ => ?_, fun a => ?_⟩
  · refine Nat.le_antisymm ?_ hQ
    rw [Nat.le_div_iff_mul_le hd]
    have := (kn_test (b := 4294967296) (z := z) (n := n) h)
    omega
  · have hlt : (u * 4294967296 + n) / (p * 4294967296 + z) < q := by
      rcases a with a | a
      · exact Nat.lt_of_lt_of_le (kn_digit hn hu) a
      · exact (kn_lt hd).1 ((kn_test h).1 a)
    have h1 : 1 ≤ q := Nat.lt_of_le_of_lt (Nat.zero_le _) hlt
    have e : (q - 1) * p + (r + p) = u := by
      obtain ⟨k, rfl⟩ : ∃ k, q = k + 1 := ⟨q - 1, by omega⟩
      rw [Nat.add_mul] at h
      simp only [Nat.add_sub_cancel]
      omega
    refine ⟨h1, e, Nat.le_sub_one_of_lt hlt, fun hb => ?_⟩
    refine Nat.le_antisymm ?_ (Nat.le_sub_one_of_lt hlt)
    rw [Nat.le_div_iff_mul_le hd]
    exact kn_break hb (by omega) hz e

theorem Div64_loop1_eq (hp : 2147483648 ≤ p) (hp2 : p < 4294967296) (hz : z < 4294967296) (hn : n < 4294967296) (hu : u < p * 4294967296 + z) (y s n0 : Int) :
    iter math_bits_Div64_loop1 (y, s, (p : Int), (z : Int), (u : Int), (n : Int), n0, ((u / p : Nat) : Int), ((u % p : Nat) : Int), ()) = some (y, s, (p : Int), (z : Int), (u : Int), (n : Int), n0, (((u * 4294967296 + n) / (p * 4294967296 + z) : Nat) : Int), ()) := by
  obtain ⟨f1, f2⟩ := kn_first (b := 4294967296) (p := p) (by omega) (by omega) hz hn hu
  refine iter_inv (fun m st => ∃ q r : Nat, st = (y, s, (p : Int), (z : Int), (u : Int), (n : Int), n0, (q : Int), (r : Int), ()) ∧ q * p + r = u ∧ (u * 4294967296 + n) / (p * 4294967296 + z) ≤ q ∧ q ≤ 4294967297 ∧ r < 4294967296 ∧ m = q) ?_ (u / p) _ ⟨u / p, u % p, rfl, Nat.div_add_mod' u p, f1, by omega, Nat.lt_of_lt_of_le (Nat.mod_lt _ (by omega)) (by omega), rfl⟩
  rintro m st ⟨q, r, rfl, h1, h2, h3, h4, hm⟩
  obtain ⟨b1, b2, c1, c2⟩ := kn_turn hz hn hu h1 h2 h3 h4
  have w1 : IntKind.u64.wrap ((q : Int) * (z : Int)) = ((q * z : Nat) : Int) := by rw [← Int.natCast_mul]; exact wu64 b1
  have w2 : IntKind.u64.wrap ((4294967296 : Int) * (r : Int)) = ((4294967296 * r : Nat) : Int) := by rw [wu64' (by omega) (by omega)]; omega
  have w3 : IntKind.u64.wrap (((4294967296 * r : Nat) : Int) + (n : Int)) = ((4294967296 * r + n : Nat) : Int) := by rw [wu64' (by omega) (by omega)]; omega
  have w5 : IntKind.u64.wrap ((r : Int) + (p : Int)) = ((r + p : Nat) : Int) := by rw [wu64' (by omega) (by omega)]; omega
  have hT : ∃ t : Bool, (t = true ↔ (4294967296 ≤ q ∨ 4294967296 * r + n < q * z)) ∧ math_bits_Div64_loop1 (y, s, (p : Int), (z : Int), (u : Int), (n : Int), n0, (q : Int), (r : Int), ()) = (if t then (if 4294967296 ≤ r + p then some (Sum.inr (y, s, (p : Int), (z : Int), (u : Int), (n : Int), n0, IntKind.u64.wrap ((q : Int) - 1), ())) else some (Sum.inl (y, s, (p : Int), (z : Int), (u : Int), (n : Int), n0, IntKind.u64.wrap ((q : Int) - 1), ((r + p : Nat) : Int), ()))) else some (Sum.inr (y, s, (p : Int), (z : Int), (u : Int), (n : Int), n0, (q : Int), ()))) := by
    unfold math_bits_Div64_loop1
    dsimp only
    rw [w5]
    have g2 : decide (((r + p : Nat) : Int) ≥ 4294967296) = decide (4294967296 ≤ r + p) := by apply decide_eq_decide.2; omega
    rw [g2]
    by_cases hb : 4294967296 ≤ q
    · have g1 : decide ((q : Int) ≥ 4294967296) = true := by simpa using by omega
      refine ⟨true, by simp [hb], ?_⟩
      simp only [g1, Bool.true_eq_false, if_false, if_true, bs, decide_eq_true_eq]
    · have g1 : decide ((q : Int) ≥ 4294967296) = false := by simpa using by omega
      refine ⟨decide (4294967296 * r + n < q * z), by simp [hb], ?_⟩
      have g3 : decide (((q * z : Nat) : Int) > ((4294967296 * r + n : Nat) : Int)) = decide (4294967296 * r + n < q * z) := by apply decide_eq_decide.2; omega
      simp only [g1, if_true, bs, ms, w1, w2, w3, g3, Bool.false_eq_true, if_false, decide_eq_true_eq]
  obtain ⟨t, ht, e⟩ := hT
  rw [e]
  cases t with
  | false =>
    refine .inr ?_
    have := c1 (by have := mt ht.2 (by decide); omega)
    rw [if_neg (by decide), ← this]
  | true =>
    obtain ⟨d1, d2, d3, d4⟩ := c2 (ht.1 rfl)
    have w6 : IntKind.u64.wrap ((q : Int) - 1) = ((q - 1 : Nat) : Int) := by rw [wu64' (by omega) (by omega)]; omega
    rw [if_pos rfl, w6]
    by_cases hb : 4294967296 ≤ r + p
    · rw [if_pos hb, d4 hb]
      exact .inr rfl
    · rw [if_neg hb]
      exact .inl ⟨_, rfl, q - 1, by omega, q - 1, r + p, rfl, d2, d3, by omega, by omega, rfl⟩
theorem Div64_loop2_eq (hp : 2147483648 ≤ p) (hp2 : p < 4294967296) (hz : z < 4294967296) (hn : n < 4294967296) (hu : u < p * 4294967296 + z) (y s x15 x17 : Int) :
    iter math_bits_Div64_loop2 (y, s, (p : Int), (z : Int), (n : Int), x15, ((u % p : Nat) : Int), x17, ((u / p : Nat) : Int), ()) = some (y, s, (n : Int), x15, x17, (((u * 4294967296 + n) / (p * 4294967296 + z) : Nat) : Int), ()) := by
  obtain ⟨f1, f2⟩ := kn_first (b := 4294967296) (p := p) (by omega) (by omega) hz hn hu
  refine iter_inv (fun m st => ∃ q r : Nat, st = (y, s, (p : Int), (z : Int), (n : Int), x15, (r : Int), x17, (q : Int), ()) ∧ q * p + r = u ∧ (u * 4294967296 + n) / (p * 4294967296 + z) ≤ q ∧ q ≤ 4294967297 ∧ r < 4294967296 ∧ m = q) ?_ (u / p) _ ⟨u / p, u % p, rfl, Nat.div_add_mod' u p, f1, by omega, Nat.lt_of_lt_of_le (Nat.mod_lt _ (by omega)) (by omega), rfl⟩
  rintro m st ⟨q, r, rfl, h1, h2, h3, h4, hm⟩
  obtain ⟨b1, b2, c1, c2⟩ := kn_turn hz hn hu h1 h2 h3 h4
  have w1 : IntKind.u64.wrap ((q : Int) * (z : Int)) = ((q * z : Nat) : Int) := by rw [← Int.natCast_mul]; exact wu64 b1
  have w2 : IntKind.u64.wrap ((4294967296 : Int) * (r : Int)) = ((4294967296 * r : Nat) : Int) := by rw [wu64' (by omega) (by omega)]; omega
  have w3 : IntKind.u64.wrap (((4294967296 * r : Nat) : Int) + (n : Int)) = ((4294967296 * r + n : Nat) : Int) := by rw [wu64' (by omega) (by omega)]; omega
  have w5 : IntKind.u64.wrap ((r : Int) + (p : Int)) = ((r + p : Nat) : Int) := by rw [wu64' (by omega) (by omega)]; omega
  have hT : ∃ t : Bool, (t = true ↔ (4294967296 ≤ q ∨ 4294967296 * r + n < q * z)) ∧ math_bits_Div64_loop2 (y, s, (p : Int), (z : Int), (n : Int), x15, (r : Int), x17, (q : Int), ()) = (if t then (if 4294967296 ≤ r + p then some (Sum.inr (y, s, (n : Int), x15, x17, IntKind.u64.wrap ((q : Int) - 1), ())) else some (Sum.inl (y, s, (p : Int), (z : Int), (n : Int), x15, ((r + p : Nat) : Int), x17, IntKind.u64.wrap ((q : Int) - 1), ()))) else some (Sum.inr (y, s, (n : Int), x15, x17, (q : Int), ()))) := by
    unfold math_bits_Div64_loop2
    dsimp only
    rw [w5]
    have g2 : decide (((r + p : Nat) : Int) ≥ 4294967296) = decide (4294967296 ≤ r + p) := by apply decide_eq_decide.2; omega
    rw [g2]
    by_cases hb : 4294967296 ≤ q
    · have g1 : decide ((q : Int) ≥ 4294967296) = true := by simpa using by omega
      refine ⟨true, by simp [hb], ?_⟩
      simp only [g1, Bool.true_eq_false, if_false, if_true, bs, decide_eq_true_eq]
    · have g1 : decide ((q : Int) ≥ 4294967296) = false := by simpa using by omega
      refine ⟨decide (4294967296 * r + n < q * z), by simp [hb], ?_⟩
      have g3 : decide (((q * z : Nat) : Int) > ((4294967296 * r + n : Nat) : Int)) = decide (4294967296 * r + n < q * z) := by apply decide_eq_decide.2; omega
      simp only [g1, if_true, bs, ms, w1, w2, w3, g3, Bool.false_eq_true, if_false, decide_eq_true_eq]
  obtain ⟨t, ht, e⟩ := hT
  rw [e]
  cases t with
  | false =>
    refine .inr ?_
    have := c1 (by have := mt ht.2 (by decide); omega)
    rw [if_neg (by decide), ← this]
  | true =>
    obtain ⟨d1, d2, d3, d4⟩ := c2 (ht.1 rfl)
    have w6 : IntKind.u64.wrap ((q : Int) - 1) = ((q - 1 : Nat) : Int) := by rw [wu64' (by omega) (by omega)]; omega
    rw [if_pos rfl, w6]
    by_cases hb : 4294967296 ≤ r + p
    · rw [if_pos hb, d4 hb]
      exact .inr rfl
    · rw [if_neg hb]
      exact .inl ⟨_, rfl, q - 1, by omega, q - 1, r + p, rfl, d2, d3, by omega, by omega, rfl⟩
end
end WB
namespace WB
open Go Go.RowKit

theorem shlK (n k : Nat) (hk : k ≤ 64) : (if (k : Int) < 0 then none else some (IntKind.u64.wrap ((n : Int) * 2 ^ (min (k : Int).toNat 64)))) = some ((n * 2 ^ k % 18446744073709551616 : Nat) : Int) := by
  rw [if_neg (by omega), Int.toNat_natCast, Nat.min_eq_left hk]
  refine congrArg some ?_
  rw [show (n : Int) * 2 ^ k = ((n * 2 ^ k : Nat) : Int) by rw [Int.natCast_mul, Int.natCast_pow]; rfl]
  exact wu64m _
theorem orJ {x y k : Nat} (hx : x % 2 ^ k = 0) (hx1 : x < 18446744073709551616) (hy : y < 2 ^ k) (hy1 : y < 18446744073709551616) : bitZ .or .u64 (x : Int) (y : Int) = ((x + y : Nat) : Int) := by
  rw [bitZ_bits _ _ _ _ (.inr rfl)]
  have h := bits_join .u64 64 (by decide) (fun n h1 h2 => wu64' h1 (by simpa using h2)) k (x : Int) (y : Int) (by omega) (by
      have : ((x % 2 ^ k : Nat) : Int) = 0 := by rw [hx]; rfl
      rw [Int.natCast_emod, Int.natCast_pow] at this
      exact this) (by have : ((2 : Int) ^ 64) = 18446744073709551616 := by decide
                      omega) (by omega) (by
      have : (y : Int) < ((2 ^ k : Nat) : Int) := by omega
      rw [Int.natCast_pow] at this
      exact this) (by have : ((2 : Int) ^ 64) = 18446744073709551616 := by decide
                      omega)
  rw [h]; omega

theorem quoN {a b : Nat} (hb : b ≠ 0) (ha : a < 18446744073709551616) : (if (b : Int) = 0 then none else some (IntKind.u64.wrap ((a : Int).tdiv (b : Int)))) = some ((a / b : Nat) : Int) := by
  rw [if_neg (by omega)]
  congr 1
  rw [Int.tdiv_eq_ediv_of_nonneg (by omega), ← Int.natCast_ediv]
  exact wu64 (Nat.lt_of_le_of_lt (Nat.div_le_self _ _) ha)
theorem remN {a b : Nat} (hb : b ≠ 0) : (if (b : Int) = 0 then none else some ((a : Int).tmod (b : Int))) = some ((a % b : Nat) : Int) := by
  rw [if_neg (by omega)]
  congr 1
/-- What is left, with words that wrap. -/
theorem left64 {a b m q : Nat} (hd : 0 < m) (hm : m < 18446744073709551616) (h : q = (a * 4294967296 + b) / m) :
    IntKind.u64.wrap (IntKind.u64.wrap (IntKind.u64.wrap ((a : Int) * 4294967296) + (b : Int)) - IntKind.u64.wrap ((q : Int) * (m : Int))) = (((a * 4294967296 + b) % m : Nat) : Int) := by
  have h1 := Nat.div_add_mod (a * 4294967296 + b) m
  rw [← h] at h1
  have h2 := Nat.mod_lt (a * 4294967296 + b) hd
  generalize (a * 4294967296 + b) % m = r at *
  rw [← Int.natCast_mul, Nat.mul_comm q m]
  generalize m * q = t at *
  simp only [IntKind.wrap_u64]
  omega

theorem tot64 {u vh vl w A1 A0 r v : Nat} (h1 : A1 + w = u * 4294967296 + vh) (h2 : A0 + r = w * 4294967296 + vl) (h3 : vh * 4294967296 + vl = v) : u * 18446744073709551616 + v = A1 * 4294967296 + A0 + r := by
  have e : u * 18446744073709551616 = u * 4294967296 * 4294967296 := by rw [Nat.mul_assoc]
  rw [e, ← h3, ← Nat.add_assoc, ← Nat.add_mul, ← h1, Nat.add_mul, Nat.add_assoc, ← h2, Nat.add_assoc]
theorem Div64_eq {hi lo y : Nat} (hy : y < 18446744073709551616) (hlo : lo < 18446744073709551616) (hh : hi < y) :
    math_bits_Div64 ((hi : Int), (lo : Int), (y : Int)) = some ((((hi * 18446744073709551616 + lo) / y : Nat) : Int), (((hi * 18446744073709551616 + lo) % y : Nat) : Int)) := by
  have hy0 : y ≠ 0 := by omega
  have g1 : ((y : Int) == 0) = false := by simpa using by omega
  have g2 : decide ((y : Int) ≤ (hi : Int)) = false := by simpa using by omega
  by_cases h0 : hi = 0
  · subst h0
    unfold math_bits_Div64
    dsimp only
    rw [g1, g2, quoN hy0 hlo, remN hy0]
    simp
  obtain ⟨k1, k2⟩ := bitLen_bd y hy hy0
  have k3 : Go.Lib.bitLen y ≤ 64 := Go.Lib.bitLen_le y 64 (by omega) hy
  have k4 : 1 ≤ Go.Lib.bitLen y := by
    rcases Nat.eq_zero_or_pos (Go.Lib.bitLen y) with h | h
    · rw [h] at k2; omega
    · exact h
  -- the shift
  obtain ⟨s, hs⟩ : ∃ s, s = 64 - Go.Lib.bitLen y := ⟨_, rfl⟩
  have e64 : 2 ^ Go.Lib.bitLen y * 2 ^ s = 18446744073709551616 := by
    rw [← Nat.pow_add, show Go.Lib.bitLen y + s = 64 by omega]
  have ps : 0 < 2 ^ s := Nat.pow_pos (by decide)
  have n1 : 9223372036854775808 ≤ y * 2 ^ s := by
    have := Nat.mul_le_mul_right (2 ^ s) k1
    rw [Nat.mul_assoc] at this
    omega
  have n2 : y * 2 ^ s < 18446744073709551616 := by rw [← e64]; exact Nat.mul_lt_mul_of_pos_right k2 ps
  have n3 : hi * 2 ^ s + 2 ^ s ≤ y * 2 ^ s := by
    have := Nat.mul_le_mul_right (2 ^ s) (show hi + 1 ≤ y from hh)
    rwa [Nat.add_mul, Nat.one_mul] at this
  have n4 : lo / 2 ^ Go.Lib.bitLen y < 2 ^ s := by rw [Nat.div_lt_iff_lt_mul (Nat.pow_pos (by decide)), Nat.mul_comm, e64]; exact hlo
  have n5 : lo * 2 ^ s / 18446744073709551616 = lo / 2 ^ Go.Lib.bitLen y := by rw [← e64, Nat.mul_div_mul_right _ _ ps]
  have n6 := Nat.div_add_mod (lo * 2 ^ s) 18446744073709551616
  rw [n5] at n6
  have n7 : lo * 2 ^ s % 18446744073709551616 < 18446744073709551616 := Nat.mod_lt _ (by decide)
  have n8 : (hi * 18446744073709551616 + lo) * 2 ^ s = (hi * 2 ^ s + lo / 2 ^ Go.Lib.bitLen y) * 18446744073709551616 + lo * 2 ^ s % 18446744073709551616 := by
    rw [Nat.add_mul, Nat.add_mul, Nat.mul_right_comm]
    omega
  have o1 := orJ (x := hi * 2 ^ s) (y := lo / 2 ^ Go.Lib.bitLen y) (k := s) (Nat.mul_mod_left _ _) (by omega) n4 (by omega)
  unfold math_bits_Div64
  dsimp only
  have g3 : ((hi : Int) == 0) = false := by simpa using by omega
  have a0 : IntKind.u64.wrap (64 - (Go.Lib.bitLen y : Int)) = (s : Int) := by rw [wu64' (by omega) (by omega)]; omega
  have a1 : IntKind.u64.wrap (64 - (s : Int)) = (Go.Lib.bitLen y : Int) := by rw [wu64' (by omega) (by omega)]; omega
  rw [g1, g2, g3, LeadingZeros64_eq hy]
  simp only [Bool.false_eq_true, if_false]
  rw [bs, a0, a1, shlK y s (by omega), bs, shlK hi s (by omega), shlK lo s (by omega), Nat.mod_eq_of_lt n2, Nat.mod_eq_of_lt (show hi * 2 ^ s < 18446744073709551616 by omega), shrK lo _ k3]
  simp only [bs]
  rw [o1, mask32 n2, shr32, shr32, mask32 n7]
  simp only [bs]
  generalize hP : y * 2 ^ s = Y at *
  generalize hU : hi * 2 ^ s + lo / 2 ^ Go.Lib.bitLen y = u at *
  generalize hV : lo * 2 ^ s % 18446744073709551616 = v at *
  have eY : Y / 4294967296 * 4294967296 + Y % 4294967296 = Y := Nat.div_add_mod' Y 4294967296
  have eV : v / 4294967296 * 4294967296 + v % 4294967296 = v := Nat.div_add_mod' v 4294967296
  have hu : u < Y := by omega
  have hp0 : Y / 4294967296 ≠ 0 := by omega
  have qr (a : Nat) (ha : a < 18446744073709551616) : IntKind.u64.wrap ((a : Int) - IntKind.u64.wrap (((a / (Y / 4294967296) : Nat) : Int) * ((Y / 4294967296 : Nat) : Int))) = ((a % (Y / 4294967296) : Nat) : Int) := by
    have h1 := Nat.div_add_mod' a (Y / 4294967296)
    rw [← Int.natCast_mul]
    generalize a / (Y / 4294967296) * (Y / 4294967296) = t at *
    generalize a % (Y / 4294967296) = r at *
    rw [wu64 (show t < 18446744073709551616 by omega), wu64' (by omega) (by omega)]
    omega
  rw [quoN hp0 (show u < 18446744073709551616 by omega), bs, qr u (by omega)]
  rw [Div64_loop1_eq (by omega) (by omega) (by omega) (by omega) (by rw [eY]; exact hu), eY]
  simp only [bs]
  obtain ⟨q1, hq1⟩ : ∃ x, (u * 4294967296 + v / 4294967296) / Y = x := ⟨_, rfl⟩
  rw [hq1]
  have l1 := left64 (show 0 < Y by omega) n2 hq1.symm
  rw [l1]
  obtain ⟨w, hw⟩ : ∃ x, (u * 4294967296 + v / 4294967296) % Y = x := ⟨_, rfl⟩
  rw [hw]
  have hw1 : w < Y := by rw [← hw]; exact Nat.mod_lt _ (by omega)
  rw [quoN hp0 (show w < 18446744073709551616 by omega), bs, qr w (by omega)]
  rw [Div64_loop2_eq (by omega) (by omega) (by omega) (by omega) (by rw [eY]; exact hw1), eY]
  simp only [bs]
  obtain ⟨q0, hq0⟩ : ∃ x, (w * 4294967296 + v % 4294967296) / Y = x := ⟨_, rfl⟩
  rw [hq0]
  have l2 := left64 (show 0 < Y by omega) n2 hq0.symm
  rw [l2, shrK _ s (by omega), bs]
  have e1 := Nat.div_add_mod (u * 4294967296 + v / 4294967296) Y
  have e2 := Nat.div_add_mod (w * 4294967296 + v % 4294967296) Y
  have r1 : (w * 4294967296 + v % 4294967296) % Y < Y := Nat.mod_lt _ (by omega)
  rw [hq1, hw] at e1
  rw [hq0] at e2
  obtain ⟨r, hr0⟩ : ∃ x, (w * 4294967296 + v % 4294967296) % Y = x := ⟨_, rfl⟩
  rw [hr0] at e2 r1
  rw [hr0]
  -- put together
  have d0 : q0 < 4294967296 := by rw [← hq0, ← eY]; exact kn_digit (by omega) (by rw [eY]; exact hw1)
  have d1 : q1 < 4294967296 := by rw [← hq1]; conv => lhs; rw [← eY]
                                  exact kn_digit (by omega) (by rw [eY]; exact hu)
  have tot : (hi * 18446744073709551616 + lo) * 2 ^ s = y * (q1 * 4294967296 + q0) * 2 ^ s + r := by
    have h3 : Y * (q1 * 4294967296 + q0) = Y * q1 * 4294967296 + Y * q0 := by rw [Nat.mul_add, ← Nat.mul_assoc]
    rw [Nat.mul_right_comm y, hP, n8, h3]
    exact tot64 e1 e2 eV
  have rm : 2 ^ s ∣ r := by
    have h1 : 2 ^ s ∣ (hi * 18446744073709551616 + lo) * 2 ^ s := Nat.dvd_mul_left _ _
    rw [tot] at h1
    exact (Nat.dvd_add_right (Nat.dvd_mul_left _ _)).1 h1
  obtain ⟨c, hc⟩ := rm
  have hr : r / 2 ^ s = c := by rw [hc, Nat.mul_div_cancel_left _ ps]
  have tot2 : hi * 18446744073709551616 + lo = y * (q1 * 4294967296 + q0) + c := by
    rw [hc, Nat.mul_comm (2 ^ s) c, ← Nat.add_mul] at tot
    exact Nat.eq_of_mul_eq_mul_right ps tot
  have hcy : c < y := by
    rw [hc, ← hP, Nat.mul_comm] at r1
    exact Nat.lt_of_mul_lt_mul_right r1
  rw [tot2, Nat.mul_add_div (by omega), Nat.mul_add_mod, Nat.div_eq_of_lt hcy, Nat.mod_eq_of_lt hcy, hr, Nat.add_zero]
  have f1 : IntKind.u64.wrap (IntKind.u64.wrap ((q1 : Int) * 4294967296) + (q0 : Int)) = ((q1 * 4294967296 + q0 : Nat) : Int) := by
    simp only [IntKind.wrap_u64]; omega
  rw [f1]
end WB
namespace WB
open Go Go.RowKit

/-- Whether a quotient goes up. -/
def upS (neg : Bool) (q r d : Nat) (mode : Int) : Bool :=
  if mode = 4 then neg && decide (0 < r)
  else if mode = 3 then decide (0 < r)
  else if mode = 2 then (if r = d - r then q % 2 == 1 else decide (d - r ≤ r))
  else if mode = 1 then decide (d - r ≤ r)
  else false
/-- A part's size. -/
def sizeS (neg : Bool) (n d : Nat) (mode : Int) : Nat := n / d + (if upS neg (n / d) (n % d) d mode then 1 else 0)
def negS (c num : Int) : Bool := !(decide (c < 0) == decide (num < 0))
/-- A part of an amount, and the error's number. -/
def partS (c num den mode : Int) : Int × Int :=
  if ¬ (-1125899906842624 ≤ c ∧ c ≤ 1125899906842624) then (0, 2)
  else if den = 0 then (0, 22)
  else if den < 0 then (0, 2)
  else if mode < 0 ∨ 4 < mode then (0, 11)
  else if 1125899906842624 < sizeS (negS c num) (c.natAbs * num.natAbs) den.toNat mode then (0, 9)
  else (if negS c num then -(sizeS (negS c num) (c.natAbs * num.natAbs) den.toNat mode : Int) else (sizeS (negS c num) (c.natAbs * num.natAbs) den.toNat mode : Int), 0)

theorem amount_eq (c : Int) : rate_amount c = some (decide (-1125899906842624 ≤ c ∧ c ≤ 1125899906842624)) := by
  unfold rate_amount
  by_cases h1 : -1125899906842624 ≤ c
  · have g : decide (c ≥ -1125899906842624) = true := by simpa using h1
    simp only [g, if_true, bs, ms]
    simp [h1]
  · have g : decide (c ≥ -1125899906842624) = false := by simpa using h1
    simp only [g, Bool.false_eq_true, if_false, bs]
    simp [h1]
theorem rsize_eq {c : Int} (h1 : -9223372036854775808 ≤ c) (h2 : c ≤ 9223372036854775807) : rate_size c = some (c.natAbs : Int) := by
  unfold rate_size
  by_cases h : c < 0
  · have g : decide (c < 0) = true := by simpa using h
    simp only [g, if_true, IntKind.wrap_u64]
    refine congrArg some ?_
    omega
  · have g : decide (c < 0) = false := by simpa using h
    simp only [g, Bool.false_eq_true, if_false, IntKind.wrap_u64]
    refine congrArg some ?_
    omega
theorem up_eq {neg : Bool} {q r d : Nat} {mode : Int} (hd : d < 18446744073709551616) (hr : r < d) : rate_up (neg, (q : Int), (r : Int), (d : Int), mode) = some (upS neg q r d mode) := by
  have w : IntKind.u64.wrap ((d : Int) - (r : Int)) = ((d - r : Nat) : Int) := by rw [wu64' (by omega) (by omega)]; omega
  have c1 : decide ((r : Int) > 0) = decide (0 < r) := by apply decide_eq_decide.2; omega
  have c2 : decide ((r : Int) ≥ ((d - r : Nat) : Int)) = decide (d - r ≤ r) := by apply decide_eq_decide.2; omega
  have c3 : ((r : Int) == ((d - r : Nat) : Int)) = decide (r = d - r) := by
    rw [Bool.eq_iff_iff]; simp only [beq_iff_eq, decide_eq_true_eq]; omega
  have c4 : (if (2 : Int) = 0 then none else some ((q : Int).tmod 2)) = some ((q % 2 : Nat) : Int) := remN (b := 2) (by decide)
  have c5 : (((q % 2 : Nat) : Int) == 1) = (q % 2 == 1) := by
    rw [Bool.eq_iff_iff]; simp only [beq_iff_eq]; omega
  unfold rate_up upS
  dsimp only
  by_cases m4 : mode = 4
  · subst m4
    cases neg
    · rfl
    · simp only [beq_self_eq_true, if_true, Bool.not_true, Bool.false_eq_true, if_false, bs, Bool.true_and, c1]
  have m4' : (mode == 4) = false := by simpa using m4
  rw [m4', if_neg m4]
  by_cases m3 : mode = 3
  · subst m3
    simp only [beq_self_eq_true, if_true, Bool.false_eq_true, if_false, bs, c1]
  have m3' : (mode == 3) = false := by simpa using m3
  rw [m3', if_neg m3]
  by_cases m2 : mode = 2
  · subst m2
    by_cases e : r = d - r
    · have c3' : ((r : Int) == ((d - r : Nat) : Int)) = true := by rw [c3]; exact decide_eq_true e
      simp only [beq_self_eq_true, if_true, Bool.false_eq_true, if_false, bs, w, c3', c4, c5, if_pos e]
    · have c3' : ((r : Int) == ((d - r : Nat) : Int)) = false := by rw [c3]; exact decide_eq_false e
      simp only [beq_self_eq_true, if_true, Bool.false_eq_true, if_false, bs, w, c3', c2, if_neg e]
  have m2' : (mode == 2) = false := by simpa using m2
  rw [m2', if_neg m2]
  by_cases m1 : mode = 1
  · subst m1
    simp only [beq_self_eq_true, if_true, Bool.false_eq_true, if_false, bs, w, c2]
  have m1' : (mode == 1) = false := by simpa using m1
  rw [m1', if_neg m1]
  rfl
theorem quotient_eq {c num : Int} {d : Nat} {mode : Int} (c1 : -9223372036854775808 ≤ c) (c2 : c ≤ 9223372036854775807) (n1 : -9223372036854775808 ≤ num) (n2 : num ≤ 9223372036854775807) (hd : d < 18446744073709551616) (hd0 : 0 < d) {mx : Nat} (hmx : mx ≤ 1125899906842624) :
    rate_quotient (c, num, (d : Int), (mx : Int), mode) = some (if mx < sizeS (negS c num) (c.natAbs * num.natAbs) d mode then (0, false) else (if negS c num then -(sizeS (negS c num) (c.natAbs * num.natAbs) d mode : Int) else (sizeS (negS c num) (c.natAbs * num.natAbs) d mode : Int), true)) := by
  unfold rate_quotient
  dsimp only
  rw [rsize_eq c1 c2, rsize_eq n1 n2, show (!(decide (c < 0) == decide (num < 0))) = negS c num from rfl]
  simp only [bs]
  have a1 : c.natAbs < 18446744073709551616 := by omega
  have a2 : num.natAbs < 18446744073709551616 := by omega
  rw [Mul64_eq a1 a2]
  simp only [bs]
  generalize negS c num = neg
  generalize c.natAbs * num.natAbs = N
  have e : N / 18446744073709551616 * 18446744073709551616 + N % 18446744073709551616 = N := Nat.div_add_mod' N _
  by_cases h : d ≤ N / 18446744073709551616
  · have g : decide (((N / 18446744073709551616 : Nat) : Int) ≥ (d : Int)) = true := decide_eq_true (by omega)
    rw [g, if_pos rfl, if_pos]
    have : 18446744073709551616 ≤ N / d := by
      rw [Nat.le_div_iff_mul_le hd0, Nat.mul_comm, ← Nat.le_div_iff_mul_le (by decide)]
      exact h
    unfold sizeS
    omega
  · have g : decide (((N / 18446744073709551616 : Nat) : Int) ≥ (d : Int)) = false := decide_eq_false (by omega)
    rw [g, if_neg (by decide), Div64_eq hd (Nat.mod_lt _ (by decide)) (by omega), e]
    simp only [bs]
    have hr : N % d < d := Nat.mod_lt _ hd0
    have hq0 : (0 : Int) ≤ ((N / d : Nat) : Int) := Int.natCast_nonneg _
    by_cases hq : mx < N / d
    · have g : decide (((N / d : Nat) : Int) > (mx : Int)) = true := decide_eq_true (by omega)
      rw [g, if_pos rfl, if_pos (by unfold sizeS; omega)]
    · have g : decide (((N / d : Nat) : Int) > (mx : Int)) = false := decide_eq_false (by omega)
      rw [g, if_neg (by decide), up_eq hd hr]
      simp only [bs]
      have w : IntKind.u64.wrap (((N / d : Nat) : Int) + 1) = ((N / d + 1 : Nat) : Int) := by rw [wu64' (by omega) (by omega)]; omega
      rw [w]
      have s : ∀ k : Nat, k = sizeS neg N d mode → (Option.bind (some ((mx : Int), neg, (k : Int), ())) fun (o : Int × Bool × Int × Unit) => if decide (o.2.2.1 > o.1) then some ((0 : Int), false) else if o.2.1 then some (IntKind.i64.wrap (0 - IntKind.i64.wrap o.2.2.1), true) else some (IntKind.i64.wrap o.2.2.1, true)) = some (if mx < sizeS neg N d mode then (0, false) else (if neg then -(sizeS neg N d mode : Int) else (sizeS neg N d mode : Int), true)) := by
        intro k hk
        rw [← hk, bs]
        dsimp only
        by_cases h9 : mx < k
        · have g : decide ((k : Int) > (mx : Int)) = true := decide_eq_true (by omega)
          rw [g, if_pos rfl, if_pos h9]
        · have g : decide ((k : Int) > (mx : Int)) = false := decide_eq_false (by omega)
          rw [g, if_neg (by decide), if_neg h9, w64' (n := (k : Int)) (by omega) (by omega), w64' (by omega) (by omega)]
          cases neg
          · rfl
          · simp
      by_cases hu : upS neg (N / d) (N % d) d mode = true
      · rw [hu, if_pos rfl]
        exact s _ (by unfold sizeS; rw [if_pos hu])
      · rw [Bool.eq_false_iff.2 hu, if_neg (by decide)]
        exact s _ (by unfold sizeS; rw [if_neg hu]; rfl)
theorem rPart_eq {c num den mode : Int} (c1 : -9223372036854775808 ≤ c) (c2 : c ≤ 9223372036854775807) (n1 : -9223372036854775808 ≤ num) (n2 : num ≤ 9223372036854775807) (hd : den ≤ 9223372036854775807) : rate_Part (c, num, den, mode) = some (partS c num den mode) := by
  unfold rate_Part partS
  dsimp only
  rw [amount_eq, bs]
  by_cases h1 : -1125899906842624 ≤ c ∧ c ≤ 1125899906842624
  · rw [decide_eq_true h1, if_neg (show ¬((!true) = true) by decide), if_neg (show ¬¬(-1125899906842624 ≤ c ∧ c ≤ 1125899906842624) from fun k => k h1)]
    by_cases h2 : den = 0
    · subst h2; rfl
    have g : (den == 0) = false := by simpa using h2
    rw [g, if_neg (by decide), if_neg h2]
    by_cases h3 : den < 0
    · rw [decide_eq_true h3, if_pos rfl, if_pos h3]
    rw [decide_eq_false h3, if_neg (by decide), if_neg h3]
    have m : (Option.bind (if decide (mode < 0) = false then (((if decide (mode < 0) = false then some mode else none).bind (fun z17 => some (z17, (4 : Int)))).map (fun z19 => (decide (z19.1 > z19.2)))).map some else some none) fun x27 => (Option.bind (if decide (mode < 0) then some true else x27.map (fun z20 => z20)) some)) = some (decide (mode < 0 ∨ 4 < mode)) := by
      by_cases h4 : mode < 0
      · simp only [decide_eq_true h4, if_true, Bool.true_eq_false, if_false, bs]
        simp [h4]
      · simp only [decide_eq_false h4, if_true, Bool.false_eq_true, if_false, bs, ms]
        simp [h4]
    have k : ∀ {β : Type} (F : Bool → Option β), (Option.bind (if decide (mode < 0) = false then (((if decide (mode < 0) = false then some mode else none).bind (fun z17 => some (z17, (4 : Int)))).map (fun z19 => (decide (z19.1 > z19.2)))).map some else some none) fun x27 => (Option.bind (if decide (mode < 0) then some true else x27.map (fun z20 => z20)) F)) = F (decide (mode < 0 ∨ 4 < mode)) := by
      intro β F
      have := congrArg (fun o => Option.bind o F) m
      simp only [bs] at this
      rw [← this, Option.bind_assoc]
      congr 1
      funext x
      rw [Option.bind_assoc]
      rfl
    rw [k]
    by_cases h5 : mode < 0 ∨ 4 < mode
    · rw [decide_eq_true h5, if_pos rfl, if_pos h5]
    rw [decide_eq_false h5, if_neg (by decide), if_neg h5]
    obtain ⟨d, rfl⟩ := Int.eq_ofNat_of_zero_le (show 0 ≤ den by omega)
    rw [wu64 (show d < 18446744073709551616 by omega), show (1125899906842624 : Int) = ((1125899906842624 : Nat) : Int) from rfl, quotient_eq c1 c2 n1 n2 (by omega) (by omega) (Nat.le_refl _), bs, Int.toNat_natCast]
    by_cases h9 : 1125899906842624 < sizeS (negS c num) (c.natAbs * num.natAbs) d mode
    · rw [if_pos h9, if_pos h9]; rfl
    · rw [if_neg h9, if_neg h9]; rfl
  · rw [decide_eq_false h1, if_pos (by decide), if_pos h1]
end WB
namespace WB
open Go Go.RowKit

/-- What a list of binary digits is worth. -/
def valL : List Int → Int
  | [] => 0
  | a :: l => a + 2 * valL l
def isBits (l : List Int) : Prop := ∀ a ∈ l, a = 0 ∨ a = 1
theorem valL_set : ∀ {l : List Int} {k : Nat} {a : Int} (_ : l[k]? = some a) (v : Int), valL (l.set k v) = valL l + (v - a) * 2 ^ k
  | [], k, a, h, v => by simp at h
  | b :: l, 0, a, h, v => by
    simp only [List.getElem?_cons_zero, Option.some.injEq] at h
    subst h
    simp only [List.set_cons_zero, valL]
    omega
  | b :: l, k + 1, a, h, v => by
    simp only [List.getElem?_cons_succ] at h
    simp only [List.set_cons_succ, valL, valL_set h v, Int.pow_succ]
    have : 2 * ((v - a) * 2 ^ k) = (v - a) * (2 ^ k * 2) := by rw [Int.mul_left_comm, Int.mul_comm 2]
    omega
theorem valL_nonneg : ∀ {l : List Int}, isBits l → 0 ≤ valL l
  | [], _ => by simp [valL]
  | b :: l, h => by
    have h1 := h b (by simp)
    have h2 := valL_nonneg (l := l) fun a ha => h a (by simp [ha])
    simp only [valL]; omega
theorem valL_lt : ∀ {l : List Int}, isBits l → valL l < 2 ^ l.length
  | [], _ => by simp [valL]
  | b :: l, h => by
    have h1 := h b (by simp)
    have h2 := valL_lt (l := l) fun a ha => h a (by simp [ha])
    simp only [valL, List.length_cons, Int.pow_succ]; omega
theorem valL_get : ∀ {l : List Int} (_ : isBits l) {k : Nat} {a : Int} (_ : l[k]? = some a), a = valL l / 2 ^ k % 2
  | [], _, k, a, h => by simp at h
  | b :: l, hb, 0, a, h => by
    simp only [List.getElem?_cons_zero, Option.some.injEq] at h
    subst h
    have h1 := hb b (by simp)
    simp only [valL]; omega
  | b :: l, hb, k + 1, a, h => by
    simp only [List.getElem?_cons_succ] at h
    have h1 := hb b (by simp)
    have h2 := valL_get (l := l) (fun a ha => hb a (by simp [ha])) h
    have : valL (b :: l) / 2 = valL l := by simp only [valL]; omega
    rw [h2, Int.pow_succ, Int.mul_comm, ← Int.ediv_ediv_of_nonneg (by decide), this]
theorem isBits_set {l : List Int} (h : isBits l) {k : Nat} {v : Int} (hv : v = 0 ∨ v = 1) : isBits (l.set k v) := by
  intro a ha
  rcases List.mem_or_eq_of_mem_set ha with h1 | h1
  · exact h a h1
  · rw [h1]; exact hv
theorem valL_rep : ∀ n, valL (List.replicate n 0) = 0
  | 0 => rfl
  | n + 1 => by simp [List.replicate_succ, valL, valL_rep n]
theorem isBits_rep (n : Nat) : isBits (List.replicate n 0) := fun _ ha => .inl (List.eq_of_mem_replicate ha)
theorem valL_app : ∀ (l m : List Int), valL (l ++ m) = valL l + valL m * 2 ^ l.length
  | [], m => by simp [valL]
  | a :: l, m => by
    simp only [List.cons_append, valL, valL_app l m, List.length_cons, Int.pow_succ]
    rw [← Int.mul_assoc]; omega

theorem bit_eq {x : Nat} (hx : x < 18446744073709551616) {j : Nat} (hj : j ≤ 100) : ref02_bit ((x : Int), (j : Int)) = some ((x / 2 ^ j % 2 : Nat) : Int) := by
  unfold ref02_bit
  dsimp only
  rw [iter_inv (t := (((x / 2 ^ j : Nat) : Int), ())) (fun m st => ∃ k : Nat, k ≤ j ∧ st = (((x / 2 ^ k : Nat) : Int), (j : Int), (k : Int), ()) ∧ m = j - k) ?_ j _ ⟨0, by omega, by simp, by omega⟩]
  · rw [bs]
    dsimp only
    rw [show (if (2 : Int) = 0 then none else some (((x / 2 ^ j : Nat) : Int).tmod 2)) = some ((x / 2 ^ j % 2 : Nat) : Int) from remN (b := 2) (by decide)]
    rfl
  · rintro m st ⟨k, hk, rfl, hm⟩
    unfold ref02_bit_loop1
    dsimp only
    by_cases h : k < j
    · have g : decide ((k : Int) < (j : Int)) = true := decide_eq_true (by omega)
      have hl : x / 2 ^ k < 18446744073709551616 := Nat.lt_of_le_of_lt (Nat.div_le_self _ _) hx
      rw [g, if_pos rfl, show (if (2 : Int) = 0 then none else some (IntKind.u64.wrap (((x / 2 ^ k : Nat) : Int).tdiv 2))) = some ((x / 2 ^ k / 2 : Nat) : Int) from quoN (b := 2) (by decide) hl, bs]
      refine .inl ⟨_, rfl, j - (k + 1), by omega, k + 1, by omega, ?_, rfl⟩
      rw [w64' (by omega) (by omega), Nat.div_div_eq_div_mul, ← Nat.pow_succ]
      rfl
    · have : k = j := by omega
      subst this
      have g : decide ((k : Int) < (k : Int)) = false := decide_eq_false (by omega)
      rw [g, if_neg (by decide)]
      exact .inr rfl
theorem idxI {k n : Nat} (h : k < n) : (if 0 ≤ (k : Int) ∧ (k : Int) < (n : Int) then some (k : Int).toNat else none) = some k := by
  rw [if_pos ⟨by omega, by omega⟩]; rfl

/-- One digit: the sum's last bit stays, the others go on. -/
theorem digit_step {l : List Int} (hl : isBits l) {k : Nat} {a b c : Int} (ha : l[k]? = some a) (hb : b = 0 ∨ b = 1) (hc : c = 0 ∨ c = 1) :
    isBits (l.set k ((a + b + c) % 2)) ∧ ((a + b + c) / 2 = 0 ∨ (a + b + c) / 2 = 1) ∧ valL (l.set k ((a + b + c) % 2)) + (a + b + c) / 2 * 2 ^ (k + 1) = valL l + (b + c) * 2 ^ k := by
  have h1 := hl a (List.mem_of_getElem? ha)
  refine ⟨isBits_set hl (by omega), by omega, ?_⟩
  rw [valL_set ha, Int.pow_succ]
  have e : (a + b + c) % 2 = a + b + c - 2 * ((a + b + c) / 2) := by omega
  rw [e]
  generalize (a + b + c) / 2 = q
  generalize (2 : Int) ^ k = p
  rw [← Int.mul_assoc, Int.mul_comm (q * p) 2, ← Int.mul_assoc]
  have : (a + b + c - 2 * q - a) * p = (b + c) * p - 2 * q * p := by rw [← Int.sub_mul]; congr 1; omega
  omega
theorem carry_eq (x0 x1 x6 : Int) {V : Int} (hV : V < 340282366920938463463374607431768211456) {l0 : List Int} (hl0 : isBits l0) (h129 : l0.length = 129) {c0 : Int} (hc0 : c0 = 0 ∨ c0 = 1) {k0 : Nat} (hk0 : k0 ≤ 129) (hv0 : valL l0 + c0 * 2 ^ k0 = V) :
    ∃ l, iter ref02_product_loop1 (x0, x1, x6, c0, (k0 : Int), l0, (), ()) = some (x0, x1, x6, l, (), ()) ∧ isBits l ∧ l.length = 129 ∧ valL l = V := by
  suffices H : ∀ (n k : Nat) (c : Int) (l : List Int), n + k = 129 → isBits l → l.length = 129 → (c = 0 ∨ c = 1) → valL l + c * 2 ^ k = V → ∃ l', iter ref02_product_loop1 (x0, x1, x6, c, (k : Int), l, (), ()) = some (x0, x1, x6, l', (), ()) ∧ isBits l' ∧ l'.length = 129 ∧ valL l' = V from H (129 - k0) k0 c0 l0 (by omega) hl0 h129 hc0 hv0
  intro n
  induction n with
  | zero =>
    intro k c l hk hl h1 hc hv
    have : c = 0 := by
      rcases hc with h | h
      · exact h
      · have e : k = 129 := by omega
        subst e
        subst h
        have := valL_nonneg hl
        have e2 : (2 : Int) ^ 129 = 680564733841876926926749214863536422912 := by decide
        omega
    subst this
    refine ⟨l, ?_, hl, h1, by omega⟩
    rw [iter_eq]
    rfl
  | succ n ih =>
    intro k c l hk hl h1 hc hv
    rcases hc with h | h
    · subst h
      refine ⟨l, ?_, hl, h1, by omega⟩
      rw [iter_eq]
      rfl
    · subst h
      have hkl : k < l.length := by omega
      obtain ⟨a, ha⟩ : ∃ a, l[k]? = some a := ⟨_, List.getElem?_eq_getElem hkl⟩
      have hab := hl a (List.mem_of_getElem? ha)
      obtain ⟨d1, d2, d3⟩ := digit_step hl ha (b := 0) (c := 1) (.inl rfl) (.inr rfl)
      rw [Int.add_zero] at d1 d2 d3
      obtain ⟨l', e, r1, r2, r3⟩ := ih (k + 1) ((a + 1) / 2) (l.set k ((a + 1) % 2)) (by omega) d1 (by simpa using h1) d2 (by omega)
      refine ⟨l', ?_, r1, r2, r3⟩
      rw [iter_eq]
      have b : ref02_product_loop1 (x0, x1, x6, 1, (k : Int), l, (), ()) = some (.inl (x0, x1, x6, (a + 1) / 2, ((k + 1 : Nat) : Int), l.set k ((a + 1) % 2), (), ())) := by
        unfold ref02_product_loop1
        dsimp only
        rw [if_pos (by decide), idxI hkl, bs, ha, ms, bs]
        have w : IntKind.u64.wrap (a + 1) = a + 1 := wu64' (by omega) (by omega)
        have w1 : (if (2 : Int) = 0 then none else some ((a + 1).tmod 2)) = some ((a + 1) % 2) := by
          rw [if_neg (by decide), Int.tmod_eq_emod_of_nonneg (by omega)]
        have w2 : (if (2 : Int) = 0 then none else some (IntKind.u64.wrap ((a + 1).tdiv 2))) = some ((a + 1) / 2) := by
          rw [if_neg (by decide), Int.tdiv_eq_ediv_of_nonneg (by omega), wu64' (by omega) (by omega)]
        rw [w, w1, bs, bs, ha, ms, bs, w2, bs, w64' (by omega) (by omega)]
        rfl
      rw [b]
      exact e
theorem row_eq (x0 : Int) {y : Nat} (hy : y < 18446744073709551616) {i : Nat} (hi : i < 64) {l0 : List Int} (hl0 : isBits l0) (h129 : l0.length = 129) :
    ∃ l c, iter ref02_product_loop2 (x0, (y : Int), (i : Int), 0, 0, l0, (), ()) = some (x0, (y : Int), (i : Int), c, l, (), ()) ∧ isBits l ∧ l.length = 129 ∧ (c = 0 ∨ c = 1) ∧ valL l + c * 2 ^ (i + 64) = valL l0 + (y : Int) * 2 ^ i := by
  suffices H : ∀ (n j : Nat) (c : Int) (l : List Int), n + j = 64 → isBits l → l.length = 129 → (c = 0 ∨ c = 1) → valL l + c * 2 ^ (i + j) = valL l0 + ((y % 2 ^ j : Nat) : Int) * 2 ^ i → ∃ l' c', iter ref02_product_loop2 (x0, (y : Int), (i : Int), c, (j : Int), l, (), ()) = some (x0, (y : Int), (i : Int), c', l', (), ()) ∧ isBits l' ∧ l'.length = 129 ∧ (c' = 0 ∨ c' = 1) ∧ valL l' + c' * 2 ^ (i + 64) = valL l0 + (y : Int) * 2 ^ i from
    H 64 0 0 l0 rfl hl0 h129 (.inl rfl) (by simp [Nat.mod_one])
  intro n
  induction n with
  | zero =>
    intro j c l hj hl h1 hc hv
    have e : j = 64 := by omega
    subst e
    refine ⟨l, c, ?_, hl, h1, hc, ?_⟩
    · rw [iter_eq]; rfl
    · rw [hv, Nat.mod_eq_of_lt (show y < 2 ^ 64 from hy)]
  | succ n ih =>
    intro j c l hj hl h1 hc hv
    have hkl : i + j < l.length := by omega
    obtain ⟨a, ha⟩ : ∃ a, l[i + j]? = some a := ⟨_, List.getElem?_eq_getElem hkl⟩
    have hab := hl a (List.mem_of_getElem? ha)
    have hb : ((y / 2 ^ j % 2 : Nat) : Int) = 0 ∨ ((y / 2 ^ j % 2 : Nat) : Int) = 1 := by omega
    obtain ⟨d1, d2, d3⟩ := digit_step hl ha hb hc
    have hm : ((y % 2 ^ (j + 1) : Nat) : Int) * 2 ^ i = ((y % 2 ^ j : Nat) : Int) * 2 ^ i + ((y / 2 ^ j % 2 : Nat) : Int) * 2 ^ (i + j) := by
      have h1 : y % 2 ^ (j + 1) = y % 2 ^ j + 2 ^ j * (y / 2 ^ j % 2) := by rw [Nat.pow_succ, Nat.mod_mul]
      have h2 : ((2 ^ j : Nat) : Int) = (2 : Int) ^ j := by rw [Int.natCast_pow]; rfl
      rw [h1, Int.natCast_add, Int.natCast_mul, h2, Int.add_mul, Int.pow_add]
      congr 1
      rw [Int.mul_right_comm, Int.mul_comm ((2 : Int) ^ j * 2 ^ i), Int.mul_comm ((2 : Int) ^ j)]
    generalize hB : ((y / 2 ^ j % 2 : Nat) : Int) = B at *
    obtain ⟨l', c', e, r1, r2, r3, r4⟩ := ih (j + 1) ((a + B + c) / 2) (l.set (i + j) ((a + B + c) % 2)) (by omega) d1 (by simpa using h1) d2 (by
      rw [show i + (j + 1) = i + j + 1 by omega, d3, hm, Int.add_mul]; omega)
    refine ⟨l', c', ?_, r1, r2, r3, r4⟩
    rw [iter_eq]
    have b : ref02_product_loop2 (x0, (y : Int), (i : Int), c, (j : Int), l, (), ()) = some (.inl (x0, (y : Int), (i : Int), (a + B + c) / 2, ((j + 1 : Nat) : Int), l.set (i + j) ((a + B + c) % 2), (), ())) := by
      unfold ref02_product_loop2
      dsimp only
      have w0 : IntKind.i64.wrap ((i : Int) + (j : Int)) = ((i + j : Nat) : Int) := by rw [w64' (by omega) (by omega)]; omega
      have w : IntKind.u64.wrap (IntKind.u64.wrap (a + B) + c) = a + B + c := by rw [wu64' (n := a + B) (by omega) (by omega), wu64' (by omega) (by omega)]
      have w1 : (if (2 : Int) = 0 then none else some ((a + B + c).tmod 2)) = some ((a + B + c) % 2) := by
        rw [if_neg (by decide), Int.tmod_eq_emod_of_nonneg (by omega)]
      have w2 : (if (2 : Int) = 0 then none else some (IntKind.u64.wrap ((a + B + c).tdiv 2))) = some ((a + B + c) / 2) := by
        rw [if_neg (by decide), Int.tdiv_eq_ediv_of_nonneg (by omega), wu64' (by omega) (by omega)]
      rw [if_pos (decide_eq_true (by omega)), w0, idxI hkl, bs, ha, ms, bs, bit_eq hy (by omega), bs, hB, w, w1, bs, bs, ha, ms, bs, w2, bs, w64' (by omega) (by omega)]
      rfl
    rw [b]
    exact e
end WB
namespace WB
open Go Go.RowKit

theorem product_eq {x y : Nat} (hx : x < 18446744073709551616) (hy : y < 18446744073709551616) : ∃ l, ref02_product ((x : Int), (y : Int)) = some l ∧ isBits l ∧ l.length = 128 ∧ valL l = ((x * y : Nat) : Int) := by
  have hxy : x * y < 340282366920938463463374607431768211456 := Nat.mul_lt_mul'' hx hy
  have tot : ∃ l, iter ref02_product_loop3 ((x : Int), (y : Int), (0 : Int), List.replicate 129 0, (), ()) = some (l, (), ()) ∧ isBits l ∧ l.length = 129 ∧ valL l = ((x * y : Nat) : Int) := by
    suffices H : ∀ (n i : Nat) (l : List Int), n + i = 64 → isBits l → l.length = 129 → valL l = ((x % 2 ^ i * y : Nat) : Int) → ∃ l', iter ref02_product_loop3 ((x : Int), (y : Int), (i : Int), l, (), ()) = some (l', (), ()) ∧ isBits l' ∧ l'.length = 129 ∧ valL l' = ((x * y : Nat) : Int) from
      H 64 0 _ rfl (isBits_rep 129) List.length_replicate (by rw [valL_rep, Nat.pow_zero, Nat.mod_one, Nat.zero_mul]; rfl)
    intro n
    induction n with
    | zero =>
      intro i l hi hl h1 hv
      have e : i = 64 := by omega
      subst e
      refine ⟨l, ?_, hl, h1, ?_⟩
      · rw [iter_eq]; rfl
      · rw [hv, Nat.mod_eq_of_lt (show x < 2 ^ 64 from hx)]
    | succ n ih =>
      intro i l hi hl h1 hv
      have hm : x % 2 ^ (i + 1) = x % 2 ^ i + 2 ^ i * (x / 2 ^ i % 2) := by rw [Nat.pow_succ, Nat.mod_mul]
      have hle : x % 2 ^ (i + 1) * y ≤ x * y := Nat.mul_le_mul_right y (Nat.mod_le _ _)
      have g1 : decide ((i : Int) < 64) = true := decide_eq_true (by omega)
      have g2 : IntKind.i64.wrap ((i : Int) + 1) = ((i + 1 : Nat) : Int) := by rw [w64' (by omega) (by omega)]; omega
      have g3 : IntKind.i64.wrap ((i : Int) + 64) = ((i + 64 : Nat) : Int) := by rw [w64' (by omega) (by omega)]; omega
      rcases Nat.mod_two_eq_zero_or_one (x / 2 ^ i) with hb | hb
      · obtain ⟨l', e, r⟩ := ih (i + 1) l (by omega) hl h1 (by rw [hm, hb, Nat.mul_zero, Nat.add_zero]; exact hv)
        refine ⟨l', ?_, r⟩
        rw [iter_eq]
        have b : ref02_product_loop3 ((x : Int), (y : Int), (i : Int), l, (), ()) = some (.inl ((x : Int), (y : Int), ((i + 1 : Nat) : Int), l, (), ())) := by
          unfold ref02_product_loop3
          dsimp only
          rw [g1, if_pos rfl, bit_eq hx (by omega), hb, bs, if_pos (by decide), bs]
          dsimp only
          rw [g2]
        rw [b]
        exact e
      · obtain ⟨l1, c, e1, a1, a2, a3, a4⟩ := row_eq (x : Int) hy (show i < 64 by omega) hl h1
        have hV : valL l + (y : Int) * 2 ^ i = ((x % 2 ^ (i + 1) * y : Nat) : Int) := by
          have h2 : ((2 ^ i : Nat) : Int) = (2 : Int) ^ i := by rw [Int.natCast_pow]; rfl
          rw [hv, hm, hb, Nat.mul_one, Nat.add_mul, Int.natCast_add, Int.natCast_mul (2 ^ i) y, h2, Int.mul_comm (y : Int)]
        obtain ⟨l2, e2, b1, b2, b3⟩ := carry_eq (x : Int) (y : Int) (i : Int) (V := ((x % 2 ^ (i + 1) * y : Nat) : Int)) (by omega) a1 a2 a3 (show i + 64 ≤ 129 by omega) (by rw [a4, hV])
        obtain ⟨l', e, r⟩ := ih (i + 1) l2 (by omega) b1 b2 b3
        refine ⟨l', ?_, r⟩
        rw [iter_eq]
        have b : ref02_product_loop3 ((x : Int), (y : Int), (i : Int), l, (), ()) = some (.inl ((x : Int), (y : Int), ((i + 1 : Nat) : Int), l2, (), ())) := by
          unfold ref02_product_loop3
          dsimp only
          rw [g1, if_pos rfl, bit_eq hx (by omega), hb, bs, if_neg (by decide), e1, bs]
          dsimp only
          rw [g3, e2, bs]
          dsimp only
          rw [bs]
          dsimp only
          rw [g2]
        rw [b]
        exact e
  obtain ⟨l, e, h1, h2, h3⟩ := tot
  refine ⟨l.take 128, ?_, fun a ha => h1 a (List.mem_of_mem_take ha), by simp [h2], ?_⟩
  · unfold ref02_product
    dsimp only
    rw [if_pos (by decide), bs, show (129 : Int).toNat = 129 from rfl, e, bs]
    dsimp only
    rw [show ((0 : Int)) = ((0 : Nat) : Int) from rfl, show ((128 : Int)) = ((128 : Nat) : Int) from rfl, lSub_nat (by omega) (by omega), bs, List.drop_zero]
  · have h4 : valL l = valL (l.take 128) + valL (l.drop 128) * 2 ^ 128 := by
      conv => lhs; rw [← List.take_append_drop 128 l]
      rw [valL_app, List.length_take, h2]; rfl
    have h5 := valL_nonneg (l := l.drop 128) fun a ha => h1 a (List.mem_of_mem_drop ha)
    have h6 := valL_nonneg (l := l.take 128) fun a ha => h1 a (List.mem_of_mem_take ha)
    have h7 : (2 : Int) ^ 128 = 340282366920938463463374607431768211456 := by decide
    rw [h7] at h4
    omega

theorem Divided_eq {x y d : Nat} (hx : x < 18446744073709551616) (hy : y < 18446744073709551616) (hd0 : 0 < d) (hd : d < 9223372036854775808) :
    ∃ (q : Int) (ok : Bool), ref02_Divided ((x : Int), (y : Int), (d : Int)) = some (q, ((x * y % d : Nat) : Int), ok) ∧ (ok = true → q = ((x * y / d : Nat) : Int) ∧ x * y / d < 4611686018427387904) ∧ (ok = false → 2305843009213693952 ≤ x * y / d) := by
  obtain ⟨l, e, hl, h128, hv⟩ := product_eq hx hy
  have hxy : x * y < 340282366920938463463374607431768211456 := Nat.mul_lt_mul'' hx hy
  generalize x * y = N at *
  have tot : ∃ (q : Int) (ok : Bool), iter ref02_Divided_loop1 ((d : Int), l, 0, 0, true, 127, ()) = some (q, ((N % d : Nat) : Int), ok, ()) ∧ (ok = true → q = ((N / d : Nat) : Int) ∧ N / d < 4611686018427387904) ∧ (ok = false → 2305843009213693952 ≤ N / d) := by
    suffices H : ∀ (i : Nat) (q : Int) (ok : Bool), i ≤ 128 → (ok = true → q = ((N / 2 ^ i / d : Nat) : Int) ∧ N / 2 ^ i / d < 4611686018427387904) → (ok = false → 2305843009213693952 ≤ N / 2 ^ i / d) → ∃ (q' : Int) (ok' : Bool), iter ref02_Divided_loop1 ((d : Int), l, q, ((N / 2 ^ i % d : Nat) : Int), ok, (i : Int) - 1, ()) = some (q', ((N % d : Nat) : Int), ok', ()) ∧ (ok' = true → q' = ((N / d : Nat) : Int) ∧ N / d < 4611686018427387904) ∧ (ok' = false → 2305843009213693952 ≤ N / d) by
      have z : N / 2 ^ 128 = 0 := Nat.div_eq_of_lt hxy
      have := H 128 0 true (by omega) (fun _ => by rw [z]; simp) (by intro h; cases h)
      rw [z] at this
      simpa using this
    intro i
    induction i with
    | zero =>
      intro q ok _ h1 h2
      refine ⟨q, ok, ?_, by simpa using h1, by simpa using h2⟩
      rw [iter_eq]
      have b : ref02_Divided_loop1 ((d : Int), l, q, ((N / 2 ^ 0 % d : Nat) : Int), ok, ((0 : Nat) : Int) - 1, ()) = some (.inr (q, ((N % d : Nat) : Int), ok, ())) := by
        unfold ref02_Divided_loop1
        dsimp only
        rw [if_neg (by decide), Nat.pow_zero, Nat.div_one]
      rw [b]
      rfl
    | succ i ih =>
      intro q ok hi h1 h2
      have hP : N / 2 ^ i = 2 * (N / 2 ^ (i + 1)) + N / 2 ^ i % 2 := by
        rw [Nat.pow_succ, ← Nat.div_div_eq_div_mul]; omega
      obtain ⟨a, ha⟩ : ∃ a, l[i]? = some a := ⟨_, List.getElem?_eq_getElem (by omega)⟩
      have hav : a = ((N / 2 ^ i % 2 : Nat) : Int) := by
        rw [valL_get hl ha, hv, Int.natCast_emod, Int.natCast_ediv, Int.natCast_pow]; rfl
      have hr : N / 2 ^ (i + 1) % d < d := Nat.mod_lt _ hd0
      have hdm := Nat.div_add_mod (N / 2 ^ (i + 1)) d
      generalize hM : N / 2 ^ (i + 1) = M at *
      generalize hb : N / 2 ^ i % 2 = b at *
      have hb1 : b ≤ 1 := by omega
      -- the next rest and quotient
      have key : (N / 2 ^ i % d, N / 2 ^ i / d) = if d ≤ 2 * (M % d) + b then (2 * (M % d) + b - d, 2 * (M / d) + 1) else (2 * (M % d) + b, 2 * (M / d)) := by
        have e1 : N / 2 ^ i = d * (2 * (M / d)) + (2 * (M % d) + b) := by
          rw [hP, Nat.mul_left_comm]; omega
        by_cases h : d ≤ 2 * (M % d) + b
        · rw [if_pos h]
          have e2 : N / 2 ^ i = d * (2 * (M / d) + 1) + (2 * (M % d) + b - d) := by rw [e1, Nat.mul_add]; omega
          rw [e2, Nat.mul_add_mod, Nat.mul_add_div hd0, Nat.mod_eq_of_lt (show 2 * (M % d) + b - d < d by omega), Nat.div_eq_of_lt (show 2 * (M % d) + b - d < d by omega), Nat.add_zero]
        · rw [if_neg h, e1, Nat.mul_add_mod, Nat.mul_add_div hd0, Nat.mod_eq_of_lt (show 2 * (M % d) + b < d by omega), Nat.div_eq_of_lt (show 2 * (M % d) + b < d by omega), Nat.add_zero]
      generalize M % d = r at *
      generalize M / d = Q at *
      have w1 : IntKind.u64.wrap (IntKind.u64.wrap (2 * (r : Int)) + a) = ((2 * r + b : Nat) : Int) := by
        rw [wu64' (n := 2 * (r : Int)) (by omega) (by omega), wu64' (by omega) (by omega)]; omega
      have w2 : IntKind.i64.wrap ((i : Int) - 1) = (i : Int) - 1 := by rw [w64' (by omega) (by omega)]
      have g1 : decide (((i + 1 : Nat) : Int) - 1 ≥ 0) = true := decide_eq_true (by omega)
      have g2 : (((i + 1 : Nat) : Int) - 1) = (i : Int) := by omega
      have fk : ∀ {β : Type} (F : Bool → Option β), (Option.bind (if ok = true then (((if ok = true then some q else none).bind (fun z37 => some (z37, (2305843009213693952 : Int)))).map (fun z39 => (decide (z39.1 < z39.2)))).map some else some none) fun x31 => Option.bind (if ok then x31 else some false) F) = F (ok && decide (q < 2305843009213693952)) := by
        intro β F
        cases ok
        · simp only [Bool.false_eq_true, if_false, bs, Bool.false_and]
        · simp only [if_true, bs, ms, Bool.true_and]
      have bd : ref02_Divided_loop1 ((d : Int), l, q, (r : Int), ok, ((i + 1 : Nat) : Int) - 1, ()) = some (.inl ((d : Int), l, if d ≤ 2 * r + b then IntKind.u64.wrap (IntKind.u64.wrap (2 * q) + 1) else IntKind.u64.wrap (2 * q), ((N / 2 ^ i % d : Nat) : Int), ok && decide (q < 2305843009213693952), (i : Int) - 1, ())) := by
        unfold ref02_Divided_loop1
        dsimp only
        rw [g1, if_pos rfl, g2, lAt_nat ha, ms, bs, fk, w1]
        by_cases h : d ≤ 2 * r + b
        · rw [if_pos h] at key ⊢
          have k1 := congrArg Prod.fst key
          dsimp only at k1
          have g3 : decide (((2 * r + b : Nat) : Int) ≥ (d : Int)) = true := decide_eq_true (by omega)
          have w3 : IntKind.u64.wrap (((2 * r + b : Nat) : Int) - (d : Int)) = ((2 * r + b - d : Nat) : Int) := by rw [wu64' (by omega) (by omega)]; omega
          rw [g3, if_pos rfl, w3, bs]
          dsimp only
          rw [w2, k1]
        · rw [if_neg h] at key ⊢
          have k1 := congrArg Prod.fst key
          dsimp only at k1
          have g3 : decide (((2 * r + b : Nat) : Int) ≥ (d : Int)) = false := decide_eq_false (by omega)
          rw [g3, if_neg (by decide), bs]
          dsimp only
          rw [w2, k1]
      have k2 := congrArg Prod.snd key
      dsimp only at k2
      have k3 : N / 2 ^ i / d = if d ≤ 2 * r + b then 2 * Q + 1 else 2 * Q := by rw [k2]; split <;> rfl
      rw [iter_eq, bd]
      refine ih _ _ (by omega) ?_ ?_
      · intro ho
        simp only [Bool.and_eq_true, decide_eq_true_eq] at ho
        obtain ⟨q1, q2⟩ := h1 ho.1
        subst q1
        have w4 : IntKind.u64.wrap (2 * (Q : Int)) = ((2 * Q : Nat) : Int) := by rw [wu64' (by omega) (by omega)]; omega
        have w5 : IntKind.u64.wrap (((2 * Q : Nat) : Int) + 1) = ((2 * Q + 1 : Nat) : Int) := by rw [wu64' (by omega) (by omega)]; omega
        rw [k3, w4, w5]
        constructor
        · split <;> rfl
        · split <;> omega
      · intro ho
        have : 2305843009213693952 ≤ Q := by
          cases ok
          · exact h2 rfl
          · obtain ⟨q1, q2⟩ := h1 rfl
            simp only [Bool.true_and, decide_eq_false_iff_not] at ho
            omega
        rw [k3]
        split <;> omega
  obtain ⟨q, ok, e2, r⟩ := tot
  refine ⟨q, ok, ?_, r⟩
  unfold ref02_Divided
  dsimp only
  rw [e, bs, e2, bs]
end WB
namespace WB
open Go Go.RowKit

theorem Rounded_eq {neg : Bool} {q : Int} {r d : Nat} {mode : Int} (hd : d < 18446744073709551616) (hr : r < d) :
    ∃ u : Bool, ref02_Rounded (q, (r : Int), (d : Int), neg, mode) = some (if u then IntKind.u64.wrap (q + 1) else q) ∧ ∀ Q : Nat, q = (Q : Int) → u = upS neg Q r d mode := by
  have w : IntKind.u64.wrap ((d : Int) - (r : Int)) = ((d - r : Nat) : Int) := by rw [wu64' (by omega) (by omega)]; omega
  have c1 : decide ((r : Int) > 0) = decide (0 < r) := by apply decide_eq_decide.2; omega
  have c2 : decide ((r : Int) ≥ ((d - r : Nat) : Int)) = decide (d - r ≤ r) := by apply decide_eq_decide.2; omega
  have c3 : ((r : Int) == ((d - r : Nat) : Int)) = decide (r = d - r) := by
    rw [Bool.eq_iff_iff]; simp only [beq_iff_eq, decide_eq_true_eq]; omega
  have c6 : decide ((r : Int) > ((d - r : Nat) : Int)) = decide (d - r < r) := by apply decide_eq_decide.2; omega
  have fin : ∀ u : Bool, (if u = true then some (IntKind.u64.wrap (q + 1)) else some q) = some (if u then IntKind.u64.wrap (q + 1) else q) := by intro u; cases u <;> rfl
  unfold ref02_Rounded upS
  dsimp only
  by_cases m1 : mode = 1
  · subst m1
    refine ⟨decide (d - r ≤ r), ?_, fun Q hQ => by simp⟩
    simp only [beq_self_eq_true, if_true, bs, w, c2]
    exact fin _
  have m1' : (mode == 1) = false := by simpa using m1
  by_cases m2 : mode = 2
  · subst m2
    by_cases e : d - r < r
    · refine ⟨true, ?_, fun Q hQ => ?_⟩
      · simp only [m1', beq_self_eq_true, if_true, Bool.false_eq_true, if_false, bs, w, c6, decide_eq_true e, Bool.true_eq_false, reduceCtorEq]
      · have h1 : ¬(r = d - r) := by omega
        simp [h1]; omega
    · by_cases e2 : r = d - r
      · have c3' : ((r : Int) == ((d - r : Nat) : Int)) = true := by rw [c3]; exact decide_eq_true e2
        refine ⟨q.tmod 2 == 1, ?_, fun Q hQ => ?_⟩
        · simp only [m1', beq_self_eq_true, if_true, Bool.false_eq_true, if_false, bs, ms, w, c6, decide_eq_false e, c3', show ¬((2 : Int) = 0) by decide]
          exact fin _
        · subst hQ
          have c5 : ((Q : Int).tmod 2 == 1) = (Q % 2 == 1) := by
            rw [Bool.eq_iff_iff]; simp only [beq_iff_eq]; rw [Int.tmod_eq_emod_of_nonneg (by omega)]; omega
          rw [c5, if_neg (by decide), if_neg (by decide), if_pos rfl, if_pos e2]
      · have c3' : ((r : Int) == ((d - r : Nat) : Int)) = false := by rw [c3]; exact decide_eq_false e2
        refine ⟨false, ?_, fun Q hQ => ?_⟩
        · simp only [m1', beq_self_eq_true, if_true, Bool.false_eq_true, if_false, bs, ms, w, c6, decide_eq_false e, c3', Option.some.injEq]
        · rw [if_neg (by decide), if_neg (by decide), if_pos rfl, if_neg e2]
          exact (decide_eq_false (by omega)).symm
  have m2' : (mode == 2) = false := by simpa using m2
  by_cases m3 : mode = 3
  · subst m3
    refine ⟨decide (0 < r), ?_, fun Q hQ => by simp⟩
    simp only [m1', m2', beq_self_eq_true, if_true, Bool.false_eq_true, if_false, bs, c1]
    exact fin _
  have m3' : (mode == 3) = false := by simpa using m3
  by_cases m4 : mode = 4
  · subst m4
    refine ⟨decide (0 < r) && neg, ?_, fun Q hQ => by simp [Bool.and_comm]⟩
    simp only [m1', m2', m3', beq_self_eq_true, if_true, Bool.false_eq_true, if_false, c1]
    by_cases h : 0 < r
    · simp only [decide_eq_true h, if_true, bs, Bool.true_and]
      exact fin _
    · simp only [decide_eq_false h, Bool.false_eq_true, if_false, bs, Bool.false_and]
  have m4' : (mode == 4) = false := by simpa using m4
  refine ⟨false, ?_, fun Q hQ => by simp [m1, m2, m3, m4]⟩
  simp only [m1', m2', m3', m4', Bool.false_eq_true, if_false, bs]
theorem Fits_eq (c : Int) : ref02_Fits c = some (decide (-1125899906842624 ≤ c ∧ c ≤ 1125899906842624)) := amount_eq c
theorem Abs_eq {c : Int} (h1 : -9223372036854775808 ≤ c) (h2 : c ≤ 9223372036854775807) : ref02_Abs c = some (c.natAbs : Int) := rsize_eq h1 h2
theorem modeK (mode : Int) {β : Type} (F : Bool → Option β) : (Option.bind (if decide (mode < 0) = false then (((if decide (mode < 0) = false then some mode else none).bind (fun z17 => some (z17, (4 : Int)))).map (fun z19 => (decide (z19.1 > z19.2)))).map some else some none) fun x27 => (Option.bind (if decide (mode < 0) then some true else x27.map (fun z20 => z20)) F)) = F (decide (mode < 0 ∨ 4 < mode)) := by
  by_cases h4 : mode < 0
  · simp only [decide_eq_true h4, if_true, Bool.true_eq_false, if_false, bs]
    simp [h4]
  · simp only [decide_eq_false h4, if_true, Bool.false_eq_true, if_false, bs, ms]
    simp [h4]
theorem dPart_eq {c num den mode : Int} (c1 : -9223372036854775808 ≤ c) (c2 : c ≤ 9223372036854775807) (n1 : -9223372036854775808 ≤ num) (n2 : num ≤ 9223372036854775807) (hd : den ≤ 9223372036854775807) : ref02_Part (c, num, den, mode) = some (partS c num den mode) := by
  unfold ref02_Part partS
  dsimp only
  rw [Fits_eq, bs]
  by_cases h1 : -1125899906842624 ≤ c ∧ c ≤ 1125899906842624
  · rw [decide_eq_true h1, if_neg (show ¬((!true) = true) by decide), if_neg (show ¬¬(-1125899906842624 ≤ c ∧ c ≤ 1125899906842624) from fun k => k h1)]
    by_cases h2 : den = 0
    · subst h2; rfl
    have g : (den == 0) = false := by simpa using h2
    rw [g, if_neg (by decide), if_neg h2]
    by_cases h3 : den < 0
    · rw [decide_eq_true h3, if_pos rfl, if_pos h3]
    rw [decide_eq_false h3, if_neg (by decide), if_neg h3, modeK]
    by_cases h5 : mode < 0 ∨ 4 < mode
    · rw [decide_eq_true h5, if_pos rfl, if_pos h5]
    rw [decide_eq_false h5, if_neg (by decide), if_neg h5, Abs_eq c1 c2, Abs_eq n1 n2, show (!(decide (c < 0) == decide (num < 0))) = negS c num from rfl]
    simp only [bs]
    generalize negS c num = neg
    obtain ⟨d, rfl⟩ := Int.eq_ofNat_of_zero_le (show 0 ≤ den by omega)
    rw [wu64 (show d < 18446744073709551616 by omega), Int.toNat_natCast]
    obtain ⟨q, ok, e, k1, k2⟩ := Divided_eq (x := c.natAbs) (y := num.natAbs) (d := d) (by omega) (by omega) (by omega) (by omega)
    generalize c.natAbs * num.natAbs = N at *
    rw [e]
    simp only [bs]
    have hr : N % d < d := Nat.mod_lt _ (by omega)
    obtain ⟨u, e2, k3⟩ := Rounded_eq (neg := neg) (q := q) (mode := mode) (show d < 18446744073709551616 by omega) hr
    rw [e2]
    simp only [bs]
    cases ok with
    | false =>
      have := k2 rfl
      have hs : 1125899906842624 < sizeS neg N d mode := by unfold sizeS; omega
      rw [if_pos hs]
      rfl
    | true =>
      obtain ⟨k4, k5⟩ := k1 rfl
      have k6 := k3 _ k4
      have hq0 : (0 : Int) ≤ ((N / d : Nat) : Int) := Int.natCast_nonneg _
      have hv : (if u = true then IntKind.u64.wrap (q + 1) else q) = (sizeS neg N d mode : Int) := by
        unfold sizeS
        rw [← k6, k4]
        cases u
        · simp
        · rw [if_pos rfl, if_pos rfl, wu64' (by omega) (by omega)]; omega
      have hb : sizeS neg N d mode ≤ N / d + 1 := by unfold sizeS; split <;> omega
      rw [hv]
      generalize sizeS neg N d mode = S at *
      by_cases h9 : 1125899906842624 < S
      · have g : decide ((S : Int) > 1125899906842624) = true := decide_eq_true (by omega)
        simp only [g, if_pos h9, Bool.not_true, if_true, bs, ms, Bool.false_eq_true, if_false]
      · have g : decide ((S : Int) > 1125899906842624) = false := decide_eq_false (by omega)
        have w1 : IntKind.i64.wrap (S : Int) = (S : Int) := w64' (by omega) (by omega)
        have w2 : IntKind.i64.wrap (0 - (S : Int)) = -(S : Int) := by rw [w64' (by omega) (by omega)]; omega
        simp only [g, if_neg h9, Bool.not_true, if_true, bs, ms, Bool.false_eq_true, if_false, w1, w2]
        cases neg <;> rfl
  · rw [decide_eq_false h1, if_pos (by decide), if_pos h1]
end WB
namespace WB
open Go Go.RowKit

/-- A product, divided and rounded. -/
def rnd (mode : Int) (d : Nat) (P : Int) : Int := if P < 0 then -(sizeS true P.natAbs d mode : Int) else (sizeS false P.natAbs d mode : Int)
theorem up0 (neg : Bool) (q d : Nat) (mode : Int) (hd : 0 < d) : upS neg q 0 d mode = false := by
  unfold upS
  have h1 : ¬(0 = d) := by omega
  have h2 : ¬(d = 0) := by omega
  simp [h1, h2]
theorem sizeS0 (neg : Bool) (d : Nat) (mode : Int) (hd : 0 < d) : sizeS neg 0 d mode = 0 := by
  unfold sizeS
  rw [Nat.zero_mod, up0 _ _ _ _ hd]
  simp
theorem partS_ok {c num mode : Int} {d : Nat} (hc : -1125899906842624 ≤ c ∧ c ≤ 1125899906842624) (hd : 0 < d) (hm : 0 ≤ mode ∧ mode ≤ 4) :
    partS c num (d : Int) mode = if 1125899906842624 < (rnd mode d (c * num)).natAbs then (0, 9) else (rnd mode d (c * num), 0) := by
  unfold partS
  rw [if_neg (show ¬¬(-1125899906842624 ≤ c ∧ c ≤ 1125899906842624) from fun k => k hc), if_neg (by omega), if_neg (by omega), if_neg (by omega), Int.toNat_natCast, ← Int.natAbs_mul]
  have key : (if negS c num = true then -(sizeS (negS c num) (c * num).natAbs d mode : Int) else (sizeS (negS c num) (c * num).natAbs d mode : Int)) = rnd mode d (c * num) ∧ sizeS (negS c num) (c * num).natAbs d mode = (rnd mode d (c * num)).natAbs := by
    by_cases h0 : c * num = 0
    · unfold rnd
      rw [h0]
      simp [sizeS0 _ d mode hd]
    · have hn : negS c num = decide (c * num < 0) := by
        unfold negS
        have hc0 : c ≠ 0 := fun h => h0 (by rw [h, Int.zero_mul])
        have hn0 : num ≠ 0 := fun h => h0 (by rw [h, Int.mul_zero])
        by_cases h1 : c < 0
        · by_cases h2 : num < 0
          · have := Int.mul_pos_of_neg_of_neg h1 h2
            simp [h1, h2]; omega
          · have := Int.mul_neg_of_neg_of_pos h1 (show 0 < num by omega)
            simp [h1, h2]; omega
        · by_cases h2 : num < 0
          · have := Int.mul_neg_of_pos_of_neg (show 0 < c by omega) h2
            simp [h1, h2]; omega
          · have := Int.mul_pos (show 0 < c by omega) (show 0 < num by omega)
            simp [h1, h2]; omega
      rw [hn]
      unfold rnd
      by_cases h : c * num < 0
      · simp [h]
      · simp [h]
  rw [key.1, key.2]
theorem sizeS_mono (neg : Bool) {n n' d : Nat} (hd : 0 < d) (mode : Int) (h : n ≤ n') : sizeS neg n d mode ≤ sizeS neg n' d mode := by
  have h1 : n / d ≤ n' / d := Nat.div_le_div_right h
  unfold sizeS
  by_cases e : n / d = n' / d
  · have e1 := Nat.div_add_mod n d
    have e2 := Nat.div_add_mod n' d
    rw [e] at e1 ⊢
    have hr : n % d ≤ n' % d := by omega
    have hr' := Nat.mod_lt n' hd
    generalize n' / d = q at *
    generalize n % d = r at *
    generalize n' % d = r' at *
    have : upS neg q r d mode = true → upS neg q r' d mode = true := by
      unfold upS
      split
      · simp only [Bool.and_eq_true, decide_eq_true_eq]; rintro ⟨a, b⟩; exact ⟨a, by omega⟩
      · split
        · simp only [decide_eq_true_eq]; omega
        · split
          · by_cases x : r = d - r
            · rw [if_pos x]
              intro hq
              by_cases y : r' = d - r'
              · rw [if_pos y]; exact hq
              · rw [if_neg y]; simp only [decide_eq_true_eq]; omega
            · rw [if_neg x]
              simp only [decide_eq_true_eq]
              intro hq
              rw [if_neg (by omega)]
              simp only [decide_eq_true_eq]; omega
          · split
            · simp only [decide_eq_true_eq]; omega
            · exact id
    by_cases hu : upS neg q r d mode = true
    · rw [if_pos hu, if_pos (this hu)]; exact Nat.le_refl _
    · rw [if_neg hu]; omega
  · split <;> split <;> omega
theorem rnd_mono {mode : Int} {d : Nat} (hd : 0 < d) {P Q : Int} (h : P ≤ Q) : rnd mode d P ≤ rnd mode d Q := by
  unfold rnd
  by_cases h1 : P < 0
  · rw [if_pos h1]
    by_cases h2 : Q < 0
    · rw [if_pos h2]
      have := sizeS_mono true hd mode (show Q.natAbs ≤ P.natAbs by omega)
      omega
    · rw [if_neg h2]; omega
  · rw [if_neg h1, if_neg (by omega)]
    have := sizeS_mono false hd mode (show P.natAbs ≤ Q.natAbs by omega)
    omega
theorem rnd_exact {mode : Int} {d : Nat} (hd : 0 < d) (c : Int) : rnd mode d (c * (d : Int)) = c := by
  have e : (c * (d : Int)).natAbs = c.natAbs * d := by rw [Int.natAbs_mul, Int.natAbs_natCast]
  have s : ∀ neg, sizeS neg (c.natAbs * d) d mode = c.natAbs := by
    intro neg
    unfold sizeS
    rw [Nat.mul_mod_left, Nat.mul_div_cancel _ hd, up0 _ _ _ _ hd]
    rfl
  unfold rnd
  rw [e, s, s]
  by_cases h : c < 0
  · have := Int.mul_neg_of_neg_of_pos h (show (0 : Int) < d by omega)
    rw [if_pos this]; omega
  · have := Int.mul_nonneg (show 0 ≤ c by omega) (show (0 : Int) ≤ d by omega)
    rw [if_neg (by omega)]; omega
theorem rnd_many {mode : Int} {d k : Nat} (hk : 0 < k) (P : Int) : rnd mode (d * k) (P * (k : Int)) = rnd mode d P := by
  have e : (P * (k : Int)).natAbs = P.natAbs * k := by rw [Int.natAbs_mul, Int.natAbs_natCast]
  have s : ∀ neg n, sizeS neg (n * k) (d * k) mode = sizeS neg n d mode := by
    intro neg n
    unfold sizeS
    rw [Nat.mul_mod_mul_right, Nat.mul_div_mul_right _ _ hk]
    have u : upS neg (n / d) (n % d * k) (d * k) mode = upS neg (n / d) (n % d) d mode := by
      generalize n % d = r
      have h1 : (0 < r * k) ↔ 0 < r := ⟨fun h => Nat.pos_of_mul_pos_right h, fun h => Nat.mul_pos h hk⟩
      have h2 : r * k = d * k - r * k ↔ r = d - r := by
        rw [← Nat.sub_mul]
        exact ⟨fun h => Nat.eq_of_mul_eq_mul_right hk h, fun h => congrArg (· * k) h⟩
      have h3 : d * k - r * k ≤ r * k ↔ d - r ≤ r := by
        rw [← Nat.sub_mul]
        exact ⟨fun h => Nat.le_of_mul_le_mul_right h hk, fun h => Nat.mul_le_mul_right k h⟩
      unfold upS
      simp only [h1, h2, h3]
    rw [u]
  unfold rnd
  rw [e, s, s]
  have : P * (k : Int) < 0 ↔ P < 0 := by
    constructor
    · intro h
      apply Int.not_le.1
      intro h2
      have := Int.mul_nonneg h2 (show (0 : Int) ≤ k by omega)
      omega
    · intro h
      exact Int.mul_neg_of_neg_of_pos h (by omega)
  simp only [this]
/-- Rounded as Half does: not farther than half. -/
theorem rnd_half {d : Nat} (hd : 0 < d) (P : Int) : -(d : Int) ≤ 2 * (d * rnd 1 d P) - 2 * P ∧ 2 * (d * rnd 1 d P) - 2 * P ≤ d := by
  have s : ∀ neg n, 2 * n ≤ 2 * (d * sizeS neg n d 1) + d ∧ 2 * (d * sizeS neg n d 1) ≤ 2 * n + d := by
    intro neg n
    have e := Nat.div_add_mod n d
    have hr := Nat.mod_lt n hd
    unfold sizeS upS
    generalize n / d = q at *
    generalize n % d = r at *
    simp only [show ¬((1 : Int) = 4) by decide, show ¬((1 : Int) = 3) by decide, show ¬((1 : Int) = 2) by decide, if_false, if_true, decide_eq_true_eq]
    rw [Nat.mul_add]
    split
    · rw [Nat.mul_one]; omega
    · rw [Nat.mul_zero]; omega
  unfold rnd
  by_cases h : P < 0
  · obtain ⟨a, b⟩ := s true P.natAbs
    rw [if_pos h, Int.mul_neg, ← Int.natCast_mul]
    omega
  · obtain ⟨a, b⟩ := s false P.natAbs
    rw [if_neg h, ← Int.natCast_mul]
    omega
/-- Rounded as Floor does: the greatest below. -/
theorem rnd_floor {d : Nat} (hd : 0 < d) (P : Int) : d * rnd 4 d P ≤ P ∧ P < d * rnd 4 d P + d := by
  unfold rnd sizeS upS
  have e := Nat.div_add_mod P.natAbs d
  have hr := Nat.mod_lt P.natAbs hd
  generalize P.natAbs / d = q at *
  generalize P.natAbs % d = r at *
  simp only [if_true, Bool.true_and, Bool.false_and, Bool.false_eq_true, if_false, decide_eq_true_eq]
  have e2 : ((d * q : Nat) : Int) = d * q := Int.natCast_mul d q
  by_cases h : P < 0
  · rw [if_pos h]
    split
    · have : (d : Int) * -((q + 1 : Nat) : Int) = -((d : Int) * q) - d := by rw [Int.natCast_add, Int.mul_neg, Int.mul_add]; omega
      rw [this]; omega
    · have : (d : Int) * -((q + 0 : Nat) : Int) = -((d : Int) * q) := by rw [Nat.add_zero, Int.mul_neg]
      rw [this]; omega
  · rw [if_neg h, Nat.add_zero]; omega
end WB
namespace WB
open Go Go.RowKit

theorem law_RatePart (ha : law02_awake () = some true) {c num den mode : Int} (c1 : -9223372036854775808 ≤ c) (c2 : c ≤ 9223372036854775807) (n1 : -9223372036854775808 ≤ num) (n2 : num ≤ 9223372036854775807) (hd : den ≤ 9223372036854775807) : law02_RatePart (c, num, den, mode) = some true := by
  unfold law02_RatePart
  dsimp only
  rw [ha, bs, if_neg (by decide), rPart_eq c1 c2 n1 n2 hd, bs, dPart_eq c1 c2 n1 n2 hd, bs]
  simp only [beq_self_eq_true, if_true, bs, ms]

theorem right_eq (c : Int) : rate_right c = some (decide (-1000000000 ≤ c ∧ c ≤ 1000000000)) := by
  unfold rate_right
  by_cases h1 : -1000000000 ≤ c
  · have g : decide (c ≥ -1000000000) = true := by simpa using h1
    simp only [g, if_true, bs, ms]
    simp [h1]
  · have g : decide (c ≥ -1000000000) = false := by simpa using h1
    simp only [g, Bool.false_eq_true, if_false, bs]
    simp [h1]
theorem Right_eq (c : Int) : ref02_Right c = some (decide (-1000000000 ≤ c ∧ c ≤ 1000000000)) := right_eq c
/-- Two are asked, one behind the other. -/
theorem orK {β : Type} (a b : Bool) (x : Int) (G : Int → Option Bool) (hG : a = true → G x = some b) (F : Bool → Option β) :
    (Option.bind (if (!a) = false then (((if (!a) = false then some x else none).map (fun z17 => z17)).bind (fun z18 => G z18)).map some else some none) fun x13 => Option.bind (if (!a) = false then (x13.map (fun z19 => (!z19))).map some else some none) fun x14 => Option.bind (if (!a) then some true else x14.map (fun z20 => z20)) F) = F (!(a && b)) := by
  cases a
  · rfl
  · simp only [Bool.not_true, if_true, bs, ms, hG rfl, Bool.false_eq_true, if_false, Bool.true_and]
def ofS (c r mode : Int) : Int × Int := if (-1125899906842624 ≤ c ∧ c ≤ 1125899906842624) ∧ (-1000000000 ≤ r ∧ r ≤ 1000000000) then partS c r 1000000 mode else (0, 2)
theorem rOf_eq {c r mode : Int} (c1 : -9223372036854775808 ≤ c) (c2 : c ≤ 9223372036854775807) : rate_Of (c, r, mode) = some (ofS c r mode) := by
  unfold rate_Of ofS
  dsimp only
  rw [amount_eq, bs, orK _ _ _ _ (fun _ => right_eq r)]
  by_cases h : (-1125899906842624 ≤ c ∧ c ≤ 1125899906842624) ∧ (-1000000000 ≤ r ∧ r ≤ 1000000000)
  · rw [if_pos h, decide_eq_true h.1, decide_eq_true h.2, if_neg (by decide), rPart_eq c1 c2 (by omega) (by omega) (by omega)]
    rfl
  · rw [if_neg h, if_pos]
    rw [← Bool.decide_and, decide_eq_false h]
    rfl
theorem dOf_eq {c r mode : Int} (c1 : -9223372036854775808 ≤ c) (c2 : c ≤ 9223372036854775807) : ref02_Of (c, r, mode) = some (ofS c r mode) := by
  unfold ref02_Of ofS
  dsimp only
  rw [Fits_eq, bs, orK _ _ _ _ (fun _ => Right_eq r)]
  by_cases h : (-1125899906842624 ≤ c ∧ c ≤ 1125899906842624) ∧ (-1000000000 ≤ r ∧ r ≤ 1000000000)
  · rw [if_pos h, decide_eq_true h.1, decide_eq_true h.2, if_neg (by decide), dPart_eq c1 c2 (by omega) (by omega) (by omega)]
    rfl
  · rw [if_neg h, if_pos]
    rw [← Bool.decide_and, decide_eq_false h]
    rfl
def timesS (x y : Int) : Int × Int := if (-1000000000 ≤ x ∧ x ≤ 1000000000) ∧ (-1000000000 ≤ y ∧ y ≤ 1000000000) then (if 1000000000 < (rnd 1 1000000 (x * y)).natAbs then (0, 9) else (rnd 1 1000000 (x * y), 0)) else (0, 2)
theorem val_rnd {c num mode : Int} {d : Nat} (hd : 0 < d) : (if negS c num = true then -(sizeS (negS c num) (c.natAbs * num.natAbs) d mode : Int) else (sizeS (negS c num) (c.natAbs * num.natAbs) d mode : Int)) = rnd mode d (c * num) ∧ sizeS (negS c num) (c.natAbs * num.natAbs) d mode = (rnd mode d (c * num)).natAbs := by
  rw [← Int.natAbs_mul]
  by_cases h0 : c * num = 0
  · unfold rnd
    rw [h0]
    simp [sizeS0 _ d mode hd]
  · have hn : negS c num = decide (c * num < 0) := by
      unfold negS
      have hc0 : c ≠ 0 := fun h => h0 (by rw [h, Int.zero_mul])
      have hn0 : num ≠ 0 := fun h => h0 (by rw [h, Int.mul_zero])
      by_cases h1 : c < 0
      · by_cases h2 : num < 0
        · have := Int.mul_pos_of_neg_of_neg h1 h2
          simp [h1, h2]; omega
        · have := Int.mul_neg_of_neg_of_pos h1 (show 0 < num by omega)
          simp [h1, h2]; omega
      · by_cases h2 : num < 0
        · have := Int.mul_neg_of_pos_of_neg (show 0 < c by omega) h2
          simp [h1, h2]; omega
        · have := Int.mul_pos (show 0 < c by omega) (show 0 < num by omega)
          simp [h1, h2]; omega
    rw [hn]
    unfold rnd
    by_cases h : c * num < 0
    · simp [h]
    · simp [h]
theorem rTimes_eq (x y : Int) : rate_Times (x, y) = some (timesS x y) := by
  unfold rate_Times timesS
  dsimp only
  rw [right_eq, bs, orK _ _ _ _ (fun _ => right_eq y)]
  by_cases h : (-1000000000 ≤ x ∧ x ≤ 1000000000) ∧ (-1000000000 ≤ y ∧ y ≤ 1000000000)
  · rw [if_pos h, decide_eq_true h.1, decide_eq_true h.2, if_neg (by decide), show (1000000 : Int) = ((1000000 : Nat) : Int) from rfl, show (1000000000 : Int) = ((1000000000 : Nat) : Int) from rfl,
      quotient_eq (by omega) (by omega) (by omega) (by omega) (by omega) (by omega) (by omega), bs, (val_rnd (by omega)).1, (val_rnd (by omega)).2]
    by_cases h9 : 1000000000 < (rnd 1 1000000 (x * y)).natAbs
    · rw [if_pos h9, if_pos h9]; rfl
    · rw [if_neg h9, if_neg h9]; rfl
  · rw [if_neg h, if_pos]
    rw [← Bool.decide_and, decide_eq_false h]
    rfl
theorem times_small {x y : Int} (hx : -1000000000 ≤ x ∧ x ≤ 1000000000) (hy : -1000000000 ≤ y ∧ y ≤ 1000000000) : (rnd 1 1000000 (x * y)).natAbs ≤ 1000000000001 := by
  obtain ⟨a, b⟩ := rnd_half (d := 1000000) (by decide) (x * y)
  have h1 : (x * y).natAbs ≤ 1000000000 * 1000000000 := by rw [Int.natAbs_mul]; exact Nat.mul_le_mul (by omega) (by omega)
  omega
theorem dTimes_eq (x y : Int) : ref02_Times (x, y) = some (timesS x y) := by
  unfold ref02_Times timesS
  dsimp only
  rw [Right_eq, bs, orK _ _ _ _ (fun _ => Right_eq y)]
  by_cases h : (-1000000000 ≤ x ∧ x ≤ 1000000000) ∧ (-1000000000 ≤ y ∧ y ≤ 1000000000)
  · have hs := times_small h.1 h.2
    rw [if_pos h, decide_eq_true h.1, decide_eq_true h.2, if_neg (by decide), dPart_eq (by omega) (by omega) (by omega) (by omega) (by omega), bs, show (1000000 : Int) = ((1000000 : Nat) : Int) from rfl,
      partS_ok ⟨by omega, by omega⟩ (by omega) ⟨by omega, by omega⟩, if_neg (by omega), Right_eq, bs]
    by_cases h9 : 1000000000 < (rnd 1 1000000 (x * y)).natAbs
    · rw [if_pos h9, decide_eq_false (by dsimp only; omega)]; rfl
    · rw [if_neg h9, decide_eq_true (by dsimp only; omega)]; rfl
  · rw [if_neg h, if_pos]
    rw [← Bool.decide_and, decide_eq_false h]
    rfl
theorem law_RateOf (ha : law02_awake () = some true) {c r s mode : Int} (c1 : -9223372036854775808 ≤ c) (c2 : c ≤ 9223372036854775807) : law02_RateOf (c, r, s, mode) = some true := by
  unfold law02_RateOf
  dsimp only
  rw [ha, bs, if_neg (by decide), rOf_eq c1 c2, bs, dOf_eq c1 c2, bs, rTimes_eq, bs, dTimes_eq, bs]
  simp only [beq_self_eq_true, if_true, bs, ms]
end WB
namespace WB
open Go Go.RowKit

/-- Two bits, the second one asked only behind the first. -/
theorem andK {β : Type} (a b : Bool) (F : Bool → Option β) : (Option.bind (if a then some b else some false) F) = F (a && b) := by cases a <;> rfl

theorem rnd_neg (mode : Int) (d : Nat) (P : Int) (h : mode = 1) (hd : 0 < d) : rnd mode d (-P) = -rnd mode d P := by
  subst h
  have s : ∀ n, sizeS true n d 1 = sizeS false n d 1 := fun n => rfl
  unfold rnd
  rw [Int.natAbs_neg, s]
  by_cases h : P < 0
  · rw [if_pos h, if_neg (by omega)]; omega
  · by_cases h0 : P = 0
    · subst h0
      simp [sizeS0 _ d 1 hd]
    · rw [if_neg h, if_pos (by omega)]
theorem law_RateTimes (ha : law02_awake () = some true) (x y : Int) (x1 : -9223372036854775808 ≤ x) (x2 : x ≤ 9223372036854775807) : law02_RateTimes (x, y) = some true := by
  unfold law02_RateTimes
  dsimp only
  rw [ha, bs, if_neg (by decide), Right_eq, bs, orK _ _ _ _ (fun _ => Right_eq y)]
  by_cases h : (-1000000000 ≤ x ∧ x ≤ 1000000000) ∧ (-1000000000 ≤ y ∧ y ≤ 1000000000)
  · rw [decide_eq_true h.1, decide_eq_true h.2, if_neg (by decide), rTimes_eq, bs, rTimes_eq, bs, rTimes_eq, bs, w64' (show -9223372036854775808 ≤ 0 - x by omega) (by omega), rTimes_eq, bs]
    have e1 : timesS y x = timesS x y := by
      unfold timesS
      rw [if_pos ⟨h.2, h.1⟩, if_pos h, Int.mul_comm y x]
    have e2 : timesS x 1000000 = (x, 0) := by
      unfold timesS
      rw [if_pos ⟨h.1, by omega⟩, show (1000000 : Int) = ((1000000 : Nat) : Int) from rfl, rnd_exact (by decide), if_neg (by omega)]
    have e3 : timesS (0 - x) y = (-(timesS x y).1, (timesS x y).2) := by
      unfold timesS
      rw [if_pos ⟨⟨by omega, by omega⟩, h.2⟩, if_pos h, Int.zero_sub, Int.neg_mul, rnd_neg 1 _ _ rfl (by decide), Int.natAbs_neg]
      split <;> rfl
    have e4 : IntKind.i64.wrap (0 - (timesS x y).1) = -(timesS x y).1 := by
      have hs := times_small h.1 h.2
      have : -1000000000001 ≤ (timesS x y).1 ∧ (timesS x y).1 ≤ 1000000000001 := by
        unfold timesS
        rw [if_pos h]
        split <;> constructor <;> dsimp only <;> omega
      rw [w64' (by omega) (by omega)]; omega
    rw [e1, e2, e3]
    simp only [beq_self_eq_true, if_true, bs, ms, e4]
  · have e : timesS x y = (0, 2) := by unfold timesS; rw [if_neg h]
    rw [if_pos (by rw [← Bool.decide_and, decide_eq_false h]; rfl), rTimes_eq, bs, e]
    rfl
/-- What a part is, or that there is none. -/
theorem part_cases {c num den mode : Int} (c1 : -9223372036854775808 ≤ c) (c2 : c ≤ 9223372036854775807) (n1 : -9223372036854775808 ≤ num) (n2 : num ≤ 9223372036854775807) (hd : den ≤ 9223372036854775807) :
    (∃ e, e ≠ 0 ∧ rate_Part (c, num, den, mode) = some (0, e)) ∨ ∃ d : Nat, den = d ∧ 0 < d ∧ (-1125899906842624 ≤ c ∧ c ≤ 1125899906842624) ∧ (0 ≤ mode ∧ mode ≤ 4) ∧ (rnd mode d (c * num)).natAbs ≤ 1125899906842624 ∧ rate_Part (c, num, den, mode) = some (rnd mode d (c * num), 0) := by
  rw [rPart_eq c1 c2 n1 n2 hd]
  by_cases h1 : -1125899906842624 ≤ c ∧ c ≤ 1125899906842624
  · by_cases h2 : den = 0
    · exact .inl ⟨22, by decide, by unfold partS; rw [if_neg (fun k => k h1), if_pos h2]⟩
    by_cases h3 : den < 0
    · exact .inl ⟨2, by decide, by unfold partS; rw [if_neg (fun k => k h1), if_neg h2, if_pos h3]⟩
    by_cases h4 : mode < 0 ∨ 4 < mode
    · exact .inl ⟨11, by decide, by unfold partS; rw [if_neg (fun k => k h1), if_neg h2, if_neg h3, if_pos h4]⟩
    obtain ⟨d, rfl⟩ := Int.eq_ofNat_of_zero_le (show 0 ≤ den by omega)
    rw [partS_ok h1 (by omega) (by omega)]
    by_cases h9 : 1125899906842624 < (rnd mode d (c * num)).natAbs
    · exact .inl ⟨9, by decide, by rw [if_pos h9]⟩
    · exact .inr ⟨d, rfl, by omega, h1, by omega, by omega, by rw [if_neg h9]⟩
  · exact .inl ⟨2, by decide, by unfold partS; rw [if_pos h1]⟩
theorem law_RateRises (ha : law02_awake () = some true) {x0 x1 x2 x3 x4 x5 : Int} (a1 : -9223372036854775808 ≤ x0) (a2 : x0 ≤ 9223372036854775807) (b1 : -9223372036854775808 ≤ x1) (b2 : x1 ≤ 9223372036854775807) (n1 : -9223372036854775808 ≤ x2) (n2 : x2 ≤ 9223372036854775807) (m1 : -9223372036854775808 ≤ x3) (m2 : x3 ≤ 9223372036854775807) (hd : x4 ≤ 9223372036854775807) (h5 : 0 ≤ x5) (h6 : x5 ≤ 255) : law02_RateRises (x0, x1, x2, x3, x4, x5) = some true := by
  unfold law02_RateRises
  dsimp only
  rw [ha, bs, if_neg (by decide)]
  by_cases g1 : x2 < 0
  · simp only [decide_eq_true g1, if_true, bs, Bool.true_eq_false, if_false]
  by_cases g2 : x3 < x2
  · simp only [decide_eq_false g1, decide_eq_true g2, if_true, bs, ms, Bool.true_eq_false, Bool.false_eq_true, if_false]
  by_cases g3 : x1 < x0
  · simp only [decide_eq_false g1, decide_eq_false g2, decide_eq_true g3, if_true, bs, ms, Bool.false_eq_true, if_false]
  have w : (if (5 : Int) = 0 then none else some ((IntKind.i64.wrap x5).tmod 5)) = some (x5 % 5) := by
    rw [if_neg (by decide), w64' (by omega) (by omega), Int.tmod_eq_emod_of_nonneg h5]
  simp only [decide_eq_false g1, decide_eq_false g2, decide_eq_false g3, if_true, bs, ms, Bool.false_eq_true, if_false, w]
  generalize x5 % 5 = m
  rcases part_cases (c := x0) (num := x2) (den := x4) (mode := m) a1 a2 n1 n2 hd with ⟨e, he, p1⟩ | ⟨d, hd1, hd0, hc, hm, hr, p1⟩
  · have : (e != 0) = true := by simpa using he
    simp only [p1, bs, this, if_true]
    rcases part_cases (c := x1) (num := x2) (den := x4) (mode := m) b1 b2 n1 n2 hd with ⟨e2, he2, p2⟩ | ⟨d2, _, _, _, _, _, p2⟩ <;>
    rcases part_cases (c := x0) (num := x3) (den := x4) (mode := m) a1 a2 m1 m2 hd with ⟨e3, he3, p3⟩ | ⟨d3, _, _, _, _, _, p3⟩ <;>
    · rw [p2, bs, p3, bs]; rfl
  · have z : ((0 : Int) != 0) = false := rfl
    have k1 : x0 * x2 ≤ x1 * x2 := Int.mul_le_mul_of_nonneg_right (by omega) (by omega)
    have k2 : ¬ x0 < 0 → x0 * x2 ≤ x0 * x3 := fun h => Int.mul_le_mul_of_nonneg_left (by omega) (by omega)
    subst hd1
    rw [p1, bs]
    -- the second part
    have q2 : ∃ y : Int × Int, rate_Part (x1, x2, (d : Int), m) = some y ∧ (y.2 = 0 → rnd m d (x0 * x2) ≤ y.1) := by
      rcases part_cases (c := x1) (num := x2) (den := (d : Int)) (mode := m) b1 b2 n1 n2 hd with ⟨e2, he2, p2⟩ | ⟨d2, hdd, _, _, _, _, p2⟩
      · exact ⟨_, p2, fun h => absurd h he2⟩
      · have : d2 = d := by omega
        subst this
        exact ⟨_, p2, fun _ => rnd_mono hd0 k1⟩
    have q3 : ∃ y : Int × Int, rate_Part (x0, x3, (d : Int), m) = some y ∧ (y.2 = 0 → ¬ x0 < 0 → rnd m d (x0 * x2) ≤ y.1) := by
      rcases part_cases (c := x0) (num := x3) (den := (d : Int)) (mode := m) a1 a2 m1 m2 hd with ⟨e2, he2, p2⟩ | ⟨d2, hdd, _, _, _, _, p2⟩
      · exact ⟨_, p2, fun h => absurd h he2⟩
      · have : d2 = d := by omega
        subst this
        exact ⟨_, p2, fun _ h => rnd_mono hd0 (k2 h)⟩
    obtain ⟨⟨v2, e2⟩, r2, l2⟩ := q2
    obtain ⟨⟨v3, e3⟩, r3, l3⟩ := q3
    rw [r2, bs, r3, bs]
    dsimp only at l2 l3 ⊢
    generalize rnd m d (x0 * x2) = V at *
    rw [z]
    simp only [Bool.false_eq_true, if_false]
    have s2 : (if (e2 != 0) = false then (((if (e2 != 0) = false then some v2 else none).bind (fun z75 => (if (e2 != 0) = false then some V else none).map (fun z76 => (z75, z76)))).map (fun z77 => (decide (z77.1 ≥ z77.2)))).map some else some none) = some (if (e2 != 0) = false then some true else none) := by
      by_cases h : e2 = 0
      · have : (e2 != 0) = false := by simpa using h
        simp only [this, if_true, bs, ms, decide_eq_true (show v2 ≥ V from l2 h)]
      · have : (e2 != 0) = true := by simpa using h
        simp only [this, Bool.true_eq_false, if_false]
    have s3 : (if e2 != 0 then some true else (if (e2 != 0) = false then some true else none).map (fun z78 => (z78 : Bool))) = some true := by
      cases (e2 != 0) <;> rfl
    rw [s2, bs, s3]
    simp only [bs, ms, if_true]
    by_cases h : e3 = 0
    · have t1 : (e3 != 0) = false := by simpa using h
      by_cases hx : x0 < 0
      · simp only [t1, decide_eq_true hx, if_true, bs, ms, Option.some.injEq, Bool.true_eq_false, if_false, Bool.false_eq_true]
      · simp only [t1, decide_eq_false hx, if_true, bs, ms, Bool.false_eq_true, if_false, decide_eq_true (show v3 ≥ V from l3 h hx)]
    · have t1 : (e3 != 0) = true := by simpa using h
      simp only [t1, if_true, bs, ms, Option.some.injEq, Bool.true_eq_false, if_false]
end WB
