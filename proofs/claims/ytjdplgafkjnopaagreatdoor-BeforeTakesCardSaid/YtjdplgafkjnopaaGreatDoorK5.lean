/-
  OWN TEXTS, MERGED (wip/merge.py): Piter, Pgd, Pu64, Pknuth, PG, PrA, PrB, PrC, PrD, Pof. No condition of their own.
-/
import Derived.Test.YtjdplgafkjnopaaGreatDoorK4
import Derived.Lib.Mul64
import Derived.Laws.Bits64b
import Derived.Laws.BitsLemmas
import Derived.Lib.BitFns
set_option linter.unusedVariables false
set_option linter.unusedSimpArgs false
namespace WB
open Go Go.RowKit

/-- Kept from simp's eye as no equation by reckoning (great bounds in a goal send the kernel deep). -/
theorem bs {α β : Type} (a : α) (f : α → Option β) : (some a).bind f = f a := (Option.bind_some a f).trans (Eq.refl _)
theorem ms {α β : Type} (a : α) (f : α → β) : (some a).map f = some (f a) := (Option.map_some (f := f) (a := a)).trans (Eq.refl _)

/-- A loop by an invariant with a measure. -/
theorem iter_inv {S T : Type} {b : S → Option (S ⊕ T)} {t : T} (I : Nat → S → Prop) (h : ∀ n s, I n s → (∃ s', b s = some (.inl s') ∧ ∃ m, m < n ∧ I m s') ∨ b s = some (.inr t)) : ∀ n s, I n s → iter b s = some t := by
  intro n
  induction n using Nat.strongRecOn with
  | _ n ih =>
    intro s hs
    rw [iter_eq]
    rcases h n s hs with ⟨s', h1, m, hm, h2⟩ | h1
    · rw [h1]; exact ih m hm s' h2
    · rw [h1]; rfl

theorem lAt_nat {α : Type} {xs : List α} {i : Nat} {a : α} (h : xs[i]? = some a) : lAt xs (i : Int) = some a := by
  have := (List.getElem?_eq_some_iff.1 h).1
  unfold lAt
  rw [if_pos ⟨by omega, by omega⟩]
  simpa using h
theorem sAt_nat {s : List UInt8} {i : Nat} {b : UInt8} (h : s[i]? = some b) : sAt s (i : Int) = some (b.toNat : Int) := by
  have := (List.getElem?_eq_some_iff.1 h).1
  unfold sAt
  rw [if_pos ⟨by omega, by omega⟩]
  simp [h]
theorem lSub_nat {α : Type} {xs : List α} {i j : Nat} (h1 : i ≤ j) (h2 : j ≤ xs.length) : lSub xs (i : Int) (j : Int) = some ((xs.take j).drop i) := by
  unfold lSub
  rw [if_pos ⟨by omega, by omega, by omega⟩]
  simp
theorem w64' {n : Int} (h1 : -9223372036854775808 ≤ n) (h2 : n ≤ 9223372036854775807) : IntKind.i64.wrap n = n := Go.IntWalk.i64_in n ⟨h1, h2⟩
theorem alGet_put {α β : Type} {eq : α → α → Bool} (he : ∀ a b, eq a b = true ↔ a = b) (z : β) (k k' : α) [Decidable (k = k')] (v : β) : ∀ (m : List (α × β)), alGet eq z k (alPut eq k' v m) = if k = k' then (v, true) else alGet eq z k m
  | [] => by
    unfold alPut alGet
    by_cases h : k = k'
    · subst h; simp [(he k k).2 rfl]
    · have : eq k k' = false := by
        cases hh : eq k k' with
        | false => rfl
        | true => exact absurd ((he _ _).1 hh) h
      simp [this, h, alGet]
  | p :: m => by
    unfold alPut
    by_cases hp : eq k' p.1 = true
    · rw [if_pos hp]
      have e := (he _ _).1 hp
      unfold alGet
      by_cases h : k = k'
      · subst h; simp [hp]
      · have : eq k p.1 = false := by
          cases hh : eq k p.1 with
          | false => rfl
          | true => exact absurd (((he _ _).1 hh).trans e.symm) h
        simp [this, h]
    · rw [if_neg hp]
      unfold alGet
      by_cases hq : eq k p.1 = true
      · have e := (he _ _).1 hq
        have : k ≠ k' := fun h => hp ((he _ _).2 (h.symm.trans e))
        simp [hq, this]
      · simp only [hq, Bool.false_eq_true, if_false]
        exact alGet_put he z k k' v m
theorem app1 {α : Type} {xs ys : List α} {k : Int} (hx : xs.length ≤ 1000000) (hy : ys.length ≤ 1000000) (hk : 0 ≤ k ∧ k ≤ 1000) :
    (if ((xs.length : Int) + (ys.length : Int)) * k ≤ 140737488355328 ∧ (xs.length : Int) + (ys.length : Int) ≤ 4611686018427387904 then some (xs ++ ys) else none) = some (xs ++ ys) := by
  rw [if_pos]
  refine ⟨?_, by omega⟩
  have h1 : ((xs.length : Int) + (ys.length : Int)) * k ≤ 2000000 * 1000 := Int.mul_le_mul (by omega) hk.2 hk.1 (by omega)
  omega
end WB
namespace WB
open Go Go.RowKit

section
variable {α β γ δ : Type} {p : Prop} [Decidable p]
theorem gPb (X : Option α) (f : α → Option β) : (if p then X else none).bind f = if p then X.bind f else none := by by_cases h : p <;> simp [h]
theorem gPm (X : Option α) (f : α → β) : (if p then X else none).map f = if p then X.map f else none := by by_cases h : p <;> simp [h]
theorem gPs (Y Z : Option β) (W : Option β) : (if p then (if p then Z else W) else Y) = if p then Z else Y := by by_cases h : p <;> simp [h]
theorem gPsm (Z W : Option α) (Y : Option (Option α)) : (if p then (if p then Z else W).map some else Y) = if p then Z.map some else Y := by by_cases h : p <;> simp [h]
theorem gM (A : Option α) (B : Option α → Option β) (K : Option β → Option γ) : (Option.bind (if p then A.map some else some none) fun x => Option.bind (if p then (B x).map some else some none) K) = Option.bind (if p then (A.bind fun v => B (some v)).map some else some none) K := by by_cases h : p <;> cases A <;> simp [h]
theorem gM2 (A : Option α) (B : Option α → Option β) (C : Option α → Option β → Option γ) (K : Option γ → Option δ) : (Option.bind (if p then A.map some else some none) fun x => Option.bind (if p then (B x).map some else some none) fun y => Option.bind (if p then (C x y).map some else some none) K) = Option.bind (if p then (A.bind fun v => (B (some v)).bind fun w => C (some v) (some w)).map some else some none) K := by
  by_cases h : p
  · cases A with
    | none => simp [h]
    | some v => simp only [h, if_true, Option.map_some, Option.bind_some]; cases B (some v) <;> simp
  · simp [h]
/-- The ends: and, or. -/
theorem gAnd (c : Bool) (A : Option α) (B : Option α → Option Bool) (K : Bool → Option β) : (Option.bind (if c = true then A.map some else some none) fun x => Option.bind (if c = true then B x else some false) K) = Option.bind (if c = true then A.bind fun v => B (some v) else some false) K := by cases c <;> cases A <;> simp
theorem gOr (c : Bool) (A : Option α) (B : Option α → Option Bool) (K : Bool → Option β) : (Option.bind (if c = false then A.map some else some none) fun x => Option.bind (if c = true then some true else B x) K) = Option.bind (if c = true then some true else A.bind fun v => B (some v)) K := by cases c <;> cases A <;> simp
/-- An and, or an or, within a guarded chain. -/
theorem gAndI (A B : Option Bool) (K : Option Bool → Option β) : (Option.bind (if p then A.map some else some none) fun g => Option.bind (if g = some true then B.map some else some none) fun x => Option.bind (if p then (g.bind fun z => if z = true then x else some false).map some else some none) K) = Option.bind (if p then (A.bind fun z => if z = true then B else some false).map some else some none) K := by
  by_cases h : p
  · cases A with
    | none => simp [h]
    | some v => cases v <;> cases B <;> simp [h]
  · simp [h]
theorem gOrI (A B : Option Bool) (K : Option Bool → Option β) : (Option.bind (if p then A.map some else some none) fun g => Option.bind (if g = some false then B.map some else some none) fun x => Option.bind (if p then (g.bind fun z => if z = true then some true else x).map some else some none) K) = Option.bind (if p then (A.bind fun z => if z = true then some true else B).map some else some none) K := by
  by_cases h : p
  · cases A with
    | none => simp [h]
    | some v => cases v <;> cases B <;> simp [h]
  · simp [h]
theorem gAA (c : Bool) (A : Option Bool) (B : Option α) (C : Option α → Option Bool) (K : Bool → Option β) : (Option.bind (if c = true then A.map some else some none) fun g => Option.bind (if g = some true then B.map some else some none) fun x => Option.bind (if c = true then g.bind fun z => if z = true then C x else some false else some false) K) = Option.bind (if c = true then A.bind fun z => if z = true then B.bind fun v => C (some v) else some false else some false) K := by
  cases c <;> cases A <;> first | (simp; done) | (rename_i v; cases v <;> cases B <;> simp)
theorem gAO (c : Bool) (A : Option Bool) (B : Option α) (C : Option α → Option Bool) (K : Bool → Option β) : (Option.bind (if c = false then A.map some else some none) fun g => Option.bind (if g = some true then B.map some else some none) fun x => Option.bind (if c = true then some true else g.bind fun z => if z = true then C x else some false) K) = Option.bind (if c = true then some true else A.bind fun z => if z = true then B.bind fun v => C (some v) else some false) K := by
  cases c <;> cases A <;> first | (simp; done) | (rename_i v; cases v <;> cases B <;> simp)
theorem gOA (c : Bool) (A : Option Bool) (B : Option α) (C : Option α → Option Bool) (K : Bool → Option β) : (Option.bind (if c = true then A.map some else some none) fun g => Option.bind (if g = some false then B.map some else some none) fun x => Option.bind (if c = true then g.bind fun z => if z = true then some true else C x else some false) K) = Option.bind (if c = true then A.bind fun z => if z = true then some true else B.bind fun v => C (some v) else some false) K := by
  cases c <;> cases A <;> first | (simp; done) | (rename_i v; cases v <;> cases B <;> simp)
theorem gOO (c : Bool) (A : Option Bool) (B : Option α) (C : Option α → Option Bool) (K : Bool → Option β) : (Option.bind (if c = false then A.map some else some none) fun g => Option.bind (if g = some false then B.map some else some none) fun x => Option.bind (if c = true then some true else g.bind fun z => if z = true then some true else C x) K) = Option.bind (if c = true then some true else A.bind fun z => if z = true then some true else B.bind fun v => C (some v)) K := by
  cases c <;> cases A <;> first | (simp; done) | (rename_i v; cases v <;> cases B <;> simp)
theorem gAAf (c : Bool) (A : Option Bool) (B : Option α) (C : Option α → Option Bool) (F : Bool → Option Bool) (K : Bool → Option β) : (Option.bind (if c = true then A.map some else some none) fun g => Option.bind (if g = some true then B.map some else some none) fun x => Option.bind (if c = true then (g.bind fun z => if z = true then C x else some false).bind F else some false) K) = Option.bind (if c = true then (A.bind fun z => if z = true then B.bind fun v => C (some v) else some false).bind F else some false) K := by
  cases c <;> cases A <;> first | (simp ; done) | (rename_i v; cases v <;> cases B <;> simp )
theorem gAOf (c : Bool) (A : Option Bool) (B : Option α) (C : Option α → Option Bool) (F : Bool → Option Bool) (K : Bool → Option β) : (Option.bind (if c = false then A.map some else some none) fun g => Option.bind (if g = some true then B.map some else some none) fun x => Option.bind (if c = true then some true else (g.bind fun z => if z = true then C x else some false).bind F) K) = Option.bind (if c = true then some true else (A.bind fun z => if z = true then B.bind fun v => C (some v) else some false).bind F) K := by
  cases c <;> cases A <;> first | (simp ; done) | (rename_i v; cases v <;> cases B <;> simp )
theorem gOAf (c : Bool) (A : Option Bool) (B : Option α) (C : Option α → Option Bool) (F : Bool → Option Bool) (K : Bool → Option β) : (Option.bind (if c = true then A.map some else some none) fun g => Option.bind (if g = some false then B.map some else some none) fun x => Option.bind (if c = true then (g.bind fun z => if z = true then some true else C x).bind F else some false) K) = Option.bind (if c = true then (A.bind fun z => if z = true then some true else B.bind fun v => C (some v)).bind F else some false) K := by
  cases c <;> cases A <;> first | (simp ; done) | (rename_i v; cases v <;> cases B <;> simp )
theorem gOOf (c : Bool) (A : Option Bool) (B : Option α) (C : Option α → Option Bool) (F : Bool → Option Bool) (K : Bool → Option β) : (Option.bind (if c = false then A.map some else some none) fun g => Option.bind (if g = some false then B.map some else some none) fun x => Option.bind (if c = true then some true else (g.bind fun z => if z = true then some true else C x).bind F) K) = Option.bind (if c = true then some true else (A.bind fun z => if z = true then some true else B.bind fun v => C (some v)).bind F) K := by
  cases c <;> cases A <;> first | (simp ; done) | (rename_i v; cases v <;> cases B <;> simp )
theorem gAMf (A : Option Bool) (B : Option α) (C : Option α → Option Bool) (F : Bool → Option γ) (K : Option γ → Option β) : (Option.bind (if p then A.map some else some none) fun g => Option.bind (if g = some true then B.map some else some none) fun x => Option.bind (if p then ((g.bind fun z => if z = true then C x else some false).bind F).map some else some none) K) = Option.bind (if p then ((A.bind fun z => if z = true then B.bind fun v => C (some v) else some false).bind F).map some else some none) K := by
  by_cases h : p <;> cases A <;> first | (simp [h]; done) | (rename_i v; cases v <;> cases B <;> simp [h])
theorem gOMf (A : Option Bool) (B : Option α) (C : Option α → Option Bool) (F : Bool → Option γ) (K : Option γ → Option β) : (Option.bind (if p then A.map some else some none) fun g => Option.bind (if g = some false then B.map some else some none) fun x => Option.bind (if p then ((g.bind fun z => if z = true then some true else C x).bind F).map some else some none) K) = Option.bind (if p then ((A.bind fun z => if z = true then some true else B.bind fun v => C (some v)).bind F).map some else some none) K := by
  by_cases h : p <;> cases A <;> first | (simp [h]; done) | (rename_i v; cases v <;> cases B <;> simp [h])
theorem gIn1 (A : Option α) (X Y : α → Option β) (R : α → β → Option γ) (Z : Option γ) : (if p then (A.bind fun v => (if p then X v else Y v).bind (R v)) else Z) = if p then (A.bind fun v => (X v).bind (R v)) else Z := by by_cases h : p <;> simp [h]
theorem gIn2 (A : Option α) (X Y : α → Option β) (R : α → β → γ) (Z : Option γ) : (if p then (A.bind fun v => (if p then X v else Y v).map (R v)) else Z) = if p then (A.bind fun v => (X v).map (R v)) else Z := by by_cases h : p <;> simp [h]
theorem gIn3 (X Y : Option β) (R : β → Option γ) (Z : Option γ) : (if p then ((if p then X else Y).bind R) else Z) = if p then (X.bind R) else Z := by by_cases h : p <;> simp [h]
theorem gIn4 (X Y : Option β) (R : β → γ) (Z : Option γ) : (if p then ((if p then X else Y).map R) else Z) = if p then (X.map R) else Z := by by_cases h : p <;> simp [h]
theorem gIn5 (c : Bool) (X Y : Option β) (R : β → Option γ) (Z : Option γ) : (if c = true then Z else ((if c = false then X else Y).bind R)) = if c = true then Z else X.bind R := by cases c <;> simp
theorem gIn6 (c : Bool) (A : Option α) (X Y : α → Option β) (R : α → β → Option γ) (Z : Option γ) : (if c = true then Z else (A.bind fun v => (if c = false then X v else Y v).bind (R v))) = if c = true then Z else (A.bind fun v => (X v).bind (R v)) := by cases c <;> simp
theorem gIn7 (c : Bool) (A : Option α) (X Y : α → Option β) (R : α → β → γ) (Z : Option γ) : (if c = true then Z else (A.bind fun v => (if c = false then X v else Y v).map (R v))) = if c = true then Z else (A.bind fun v => (X v).map (R v)) := by cases c <;> simp
theorem gIn8 (c : Bool) (X Y : Option β) (R : β → γ) (Z : Option γ) : (if c = true then Z else ((if c = false then X else Y).map R)) = if c = true then Z else X.map R := by cases c <;> simp
theorem gPi (X : Option α) (Y W : α → Option β) (Z : Option β) : (if p then (X.bind fun z => if p then Y z else W z) else Z) = if p then X.bind Y else Z := by by_cases h : p <;> simp [h]
theorem gSS (v : α) (Z : Option (Option α)) : (if p then some (some v) else Z) = if p then (some v).map some else Z := rfl
theorem gId (X : Option α) : X.map (fun z => z) = X := by cases X <;> rfl
theorem gIdF (X : Option α) : (X.bind fun z => some z) = X := by cases X <;> rfl
theorem gMb (X : Option α) (f : α → β) (g : β → Option γ) : (X.map f).bind g = X.bind fun v => g (f v) := by cases X <;> rfl
theorem gMm (X : Option α) (f : α → β) (g : β → γ) : (X.map f).map g = X.map fun v => g (f v) := by cases X <;> rfl
theorem gBm (X : Option α) (f : α → Option β) (g : β → γ) : (X.bind f).map g = X.bind fun v => (f v).map g := by cases X <;> rfl
theorem gBb (X : Option α) (f : α → Option β) (g : β → Option γ) : (X.bind f).bind g = X.bind fun v => (f v).bind g := by cases X <;> rfl
end
end WB
namespace WB
open Go Go.RowKit

theorem wu64 {n : Nat} (h : n < 18446744073709551616) : IntKind.u64.wrap (n : Int) = (n : Int) := by rw [IntKind.wrap_u64]; omega
theorem wu64' {n : Int} (h1 : 0 ≤ n) (h2 : n < 18446744073709551616) : IntKind.u64.wrap n = n := by rw [IntKind.wrap_u64]; omega
theorem wu64m (n : Nat) : IntKind.u64.wrap (n : Int) = ((n % 18446744073709551616 : Nat) : Int) := by rw [IntKind.wrap_u64]; omega
theorem bitZ_bits (op : BinOp) (k : IntKind) (x y : Int) (h : op = .and ∨ op = .or) : bitZ op k x y = bits op k x y := by
  rcases h with rfl | rfl <;> rfl
theorem mask32 {n : Nat} (h : n < 18446744073709551616) : bitZ .and .u64 (n : Int) 4294967295 = ((n % 4294967296 : Nat) : Int) := by
  rw [bitZ_bits _ _ _ _ (.inl rfl)]
  have h1 := bits_and_u64_nat n 4294967295 h (by omega)
  have e : n &&& 4294967295 = n % 4294967296 := Nat.and_two_pow_sub_one_eq_mod n 32
  rw [e] at h1
  exact h1
theorem shr32 (n : Nat) : (if (32 : Int) < 0 then none else some ((n : Int).fdiv (2 ^ (min (32 : Int).toNat 64)))) = some ((n / 4294967296 : Nat) : Int) := by
  rw [if_neg (by decide)]
  have e : (2 : Int) ^ (min (32 : Int).toNat 64) = 4294967296 := by decide
  rw [e, Int.fdiv_eq_ediv_of_nonneg _ (by decide)]
  congr 1
end WB
namespace WB

section
variable {b p z u n q r : Nat}

/-- A guess that is too great shows itself. -/
theorem kn_test (h : q * p + r = u) : b * r + n < q * z ↔ u * b + n < q * (p * b + z) := by
  have e1 : q * (p * b + z) = q * p * b + q * z := by rw [Nat.mul_add, Nat.mul_assoc]
  have e2 : u * b = q * p * b + b * r := by rw [← h, Nat.add_mul, Nat.mul_comm r b]
  omega
theorem kn_lt {d N : Nat} (hd : 0 < d) : N < q * d ↔ N / d < q := (Nat.div_lt_iff_lt_mul hd).symm
/-- The true quotient is one digit. -/
theorem kn_digit (hn : n < b) (hu : u < p * b + z) : (u * b + n) / (p * b + z) < b := by
  have hd : 0 < p * b + z := by omega
  rw [Nat.div_lt_iff_lt_mul hd]
  have : (u + 1) * b ≤ (p * b + z) * b := Nat.mul_le_mul_right b hu
  rw [Nat.add_mul] at this
  rw [Nat.mul_comm b]
  omega
/-- The first guess isn't too small, nor much too great. -/
theorem kn_first (hb : b ≤ 2 * p) (hp : 0 < p) (hz : z < b) (hn : n < b) (hu : u < p * b + z) : (u * b + n) / (p * b + z) ≤ u / p ∧ u / p ≤ b + 1 := by
  have hd : 0 < p * b + z := by omega
  constructor
  · rw [Nat.le_div_iff_mul_le hp]
    have h1 : (u * b + n) / (p * b + z) * (p * b + z) ≤ u * b + n := Nat.div_mul_le_self _ _
    generalize (u * b + n) / (p * b + z) = Q at h1
    have e1 : Q * (p * b + z) = Q * p * b + Q * z := by rw [Nat.mul_add, Nat.mul_assoc]
    have h2 : Q * p * b < (u + 1) * b := by rw [Nat.add_mul]; omega
    have := Nat.lt_of_mul_lt_mul_right h2
    omega
  · rw [← Nat.lt_succ_iff, Nat.div_lt_iff_lt_mul hp]
    have : (b + 1 + 1) * p = b * p + 2 * p := by rw [show b + 1 + 1 = b + 2 by omega, Nat.add_mul]
    rw [Nat.succ_eq_add_one, this, Nat.mul_comm b p]
    omega
/-- Where the rest has grown past a digit, the guess is right. -/
theorem kn_break (hr : b ≤ r) (hq : q ≤ b) (hz : z < b) (h : q * p + r = u) : q * (p * b + z) ≤ u * b + n := by
  have e1 : q * (p * b + z) = q * p * b + q * z := by rw [Nat.mul_add, Nat.mul_assoc]
  have e2 : u * b = q * p * b + r * b := by rw [← h, Nat.add_mul]
  have h1 : q * z ≤ b * b := Nat.mul_le_mul hq (by omega)
  have h2 : b * b ≤ r * b := Nat.mul_le_mul_right b hr
  omega
end
end WB
namespace WB
open Go Go.RowKit
set_option linter.unusedVariables false
noncomputable def law25_great (a : (Int × (List ((List UInt8) × Int)) × (List ((List UInt8) × Int)) × (List ((List UInt8) × Int × Int)))) : Option (Bool) :=
  let x0 := a
  let x5 := (x0.2.1.length : Int)
  let x6 := (decide (x5 > (80 : Int)))
  let x8 := (if x6 = false then some () else none)
  Option.bind (if x6 = false then (x8.map (fun z25 => x0.2.2.1)).map some else some none) fun x9 =>
  Option.bind (if x6 = false then (x9.map (fun z26 => (z26.length : Int))).map some else some none) fun x10 =>
  Option.bind (if x6 = false then ((x10.bind (fun z27 => some (z27, (80 : Int)))).map (fun z29 => (decide (z29.1 > z29.2)))).map some else some none) fun x11 =>
  Option.bind (if x6 then some true else x11.map (fun z30 => z30)) fun x12 =>
  let x14 := (if x12 = false then some () else none)
  Option.bind (if x12 = false then (x14.map (fun z31 => x0.2.2.2)).map some else some none) fun x15 =>
  Option.bind (if x12 = false then (x15.map (fun z32 => (z32.length : Int))).map some else some none) fun x16 =>
  Option.bind (if x12 = false then ((x16.bind (fun z33 => some (z33, (80 : Int)))).map (fun z35 => (decide (z35.1 > z35.2)))).map some else some none) fun x17 =>
  Option.bind (if x12 then some true else x17.map (fun z36 => z36)) fun x18 =>
  some x18
noncomputable def cents_Fits (a : Int) : Option (Bool) :=
  let x0 := a
  let x4 := (decide (x0 ≥ (-1125899906842624 : Int)))
  let x6 := (if x4 = true then some x0 else none)
  Option.bind (if x4 = true then ((x6.bind (fun z7 => some (z7, (1125899906842624 : Int)))).map (fun z9 => (decide (z9.1 ≤ z9.2)))).map some else some none) fun x7 =>
  Option.bind (if x4 then x7 else some false) fun x8 =>
  some x8
noncomputable def fact_known (a : Int) : Option (Bool) :=
  let x0 := a
  let x4 := (decide (x0 ≥ (1 : Int)))
  let x6 := (if x4 = true then some x0 else none)
  Option.bind (if x4 = true then ((x6.bind (fun z7 => some (z7, (18 : Int)))).map (fun z9 => (decide (z9.1 ≤ z9.2)))).map some else some none) fun x7 =>
  Option.bind (if x4 then x7 else some false) fun x8 =>
  some x8
noncomputable def fact_isName_loop1 (s : (List UInt8) × (Int) × (Int) × Unit) : Option (((List UInt8) × (Int) × (Int) × Unit) ⊕ (((List UInt8) × Unit) ⊕ (Bool))) :=
  let x0 := s.1
  let x6 := s.2.1
  let x7 := s.2.2.1
  let x8 := (decide (x7 < x6))
  if x8 then (
    Option.bind (sAt x0 x7) fun x12 =>
    let x14 := (decide (x12 < (97 : Int)))
    let x16 := (if x14 = false then some x12 else none)
    Option.bind (if x14 = false then ((x16.bind (fun z253 => some (z253, (122 : Int)))).map (fun z255 => (decide (z255.1 > z255.2)))).map some else some none) fun x17 =>
    Option.bind (if x14 then some true else x17.map (fun z256 => z256)) fun x18 =>
    let x20 := (if x18 = true then some x12 else none)
    Option.bind (if x18 = true then ((x20.bind (fun z257 => some (z257, (48 : Int)))).map (fun z259 => (decide (z259.1 < z259.2)))).map some else some none) fun x21 =>
    Option.bind (if x18 = true then x21.map some else some none) fun x22 =>
    let x23 := (if x22 = some false then some x12 else none)
    Option.bind (if x22 = some false then ((x23.bind (fun z260 => some (z260, (57 : Int)))).map (fun z262 => (decide (z262.1 > z262.2)))).map some else some none) fun x24 =>
    Option.bind (if x18 = true then (x22.bind (fun z264 => if z264 then some true else x24.map (fun z263 => z263))).map some else some none) fun x25 =>
    Option.bind (if x18 then x25 else some false) fun x26 =>
    let x28 := (if x26 = true then some x12 else none)
    Option.bind (if x26 = true then ((x28.bind (fun z265 => some (z265, (46 : Int)))).map (fun z267 => (z267.1 != z267.2))).map some else some none) fun x29 =>
    Option.bind (if x26 then x29 else some false) fun x30 =>
    let x32 := (if x30 = true then some x12 else none)
    Option.bind (if x30 = true then ((x32.bind (fun z268 => some (z268, (95 : Int)))).map (fun z270 => (z270.1 != z270.2))).map some else some none) fun x33 =>
    Option.bind (if x30 then x33 else some false) fun x34 =>
    let x36 := (if x34 = true then some x12 else none)
    Option.bind (if x34 = true then ((x36.bind (fun z271 => some (z271, (45 : Int)))).map (fun z273 => (z273.1 != z273.2))).map some else some none) fun x37 =>
    Option.bind (if x34 then x37 else some false) fun x38 =>
    if x38 then (
      some (Sum.inr (Sum.inr false)))
    else (
      let x39 := IntKind.i64.wrap (x7 + (1 : Int))
      some (Sum.inl (x0, x6, x39, ()))))
  else (
    some (Sum.inr (Sum.inl (x0, ()))))
noncomputable def fact_isName (a : (List UInt8)) : Option (Bool) :=
  let x0 := a
  let x6 := (x0.length : Int)
  Option.bind (iter fact_isName_loop1 (x0, x6, (0 : Int), ())) fun o =>
  match o with
  | Sum.inl p274 => (
    let x0 := p274.1
    let x41 := (!(x0 == ([] : List UInt8)))
    let x43 := (if x41 = true then some x0 else none)
    Option.bind (if x41 = true then ((x43.bind (fun z290 => some (z290, ([45] : List UInt8)))).map (fun z292 => (!(z292.1 == z292.2)))).map some else some none) fun x44 =>
    Option.bind (if x41 then x44 else some false) fun x45 =>
    let x47 := (if x45 = true then some x0 else none)
    Option.bind (if x45 = true then (x47.map (fun z293 => (z293.length : Int))).map some else some none) fun x48 =>
    Option.bind (if x45 = true then ((x48.bind (fun z294 => some (z294, (32 : Int)))).map (fun z296 => (decide (z296.1 ≤ z296.2)))).map some else some none) fun x49 =>
    Option.bind (if x45 then x49 else some false) fun x50 =>
    some x50)
  | Sum.inr q275 => (
    some q275)
noncomputable def fact_rules_1 (a : (List UInt8)) : Option (Bool) :=
  let x0 := a
  let x4 := ((x0 == ([] : List UInt8)))
  let x6 := (if x4 = false then some x0 else none)
  Option.bind (if x4 = false then ((x6.map (fun z7 => z7)).bind (fun z8 => fact_isName z8)).map some else some none) fun x7 =>
  Option.bind (if x4 then some true else x7.map (fun z9 => z9)) fun x8 =>
  some x8
noncomputable def fact_rules_2 (a : (Int × Int × Int × Int × Int × (List UInt8) × Int × (List UInt8))) : Option (Bool) :=
  let x0 := a
  Option.bind (fact_isName x0.2.2.2.2.2.2.2) fun x5 =>
  some x5
noncomputable def fact_plain_loop1 (s : (List UInt8) × (Int) × (Int) × Unit) : Option (((List UInt8) × (Int) × (Int) × Unit) ⊕ ((Unit) ⊕ (Bool))) :=
  let x0 := s.1
  let x5 := s.2.1
  let x6 := s.2.2.1
  let x7 := (decide (x6 < x5))
  if x7 then (
    Option.bind (sAt x0 x6) fun x11 =>
    let x12 := (decide (x11 < (32 : Int)))
    let x14 := (if x12 = false then some x0 else none)
    let x15 := (if x12 = false then some x6 else none)
    Option.bind (if x12 = false then ((x14.bind (fun z85 => x15.map (fun z86 => (z85, z86)))).bind (fun z87 => sAt z87.1 z87.2)).map some else some none) fun x16 =>
    Option.bind (if x12 = false then ((x16.bind (fun z88 => some (z88, (126 : Int)))).map (fun z90 => (decide (z90.1 > z90.2)))).map some else some none) fun x17 =>
    Option.bind (if x12 then some true else x17.map (fun z91 => z91)) fun x18 =>
    if x18 then (
      some (Sum.inr (Sum.inr false)))
    else (
      let x19 := IntKind.i64.wrap (x6 + (1 : Int))
      some (Sum.inl (x0, x5, x19, ()))))
  else (
    some (Sum.inr (Sum.inl (()))))
noncomputable def fact_plain (a : (List UInt8)) : Option (Bool) :=
  let x0 := a
  let x5 := (x0.length : Int)
  Option.bind (iter fact_plain_loop1 (x0, x5, (0 : Int), ())) fun o =>
  match o with
  | Sum.inl p92 => (
    some true)
  | Sum.inr q93 => (
    some q93)
noncomputable def fact_rules_3 (a : (Int × Int × Int × Int × Int × (List UInt8) × Int × (List UInt8))) : Option (Bool) :=
  let x0 := a
  Option.bind (fact_plain x0.2.2.2.2.2.2.2) fun x5 =>
  some x5
noncomputable def fact_rules_4 (a : (Int × Int × Int × Int × Int × (List UInt8) × Int × (List UInt8))) : Option (Bool) :=
  let x0 := a
  let x5 := (!(x0.2.2.2.2.2.2.2 == ([] : List UInt8)))
  let x7 := (if x5 = true then some () else none)
  Option.bind (if x5 = true then (x7.map (fun z7 => x0.2.2.2.2.2.2.2)).map some else some none) fun x8 =>
  Option.bind (if x5 = true then ((x8.map (fun z8 => z8)).bind (fun z9 => fact_plain z9)).map some else some none) fun x9 =>
  Option.bind (if x5 then x9 else some false) fun x10 =>
  some x10
noncomputable def fact_empty (a : (List UInt8)) : Option (Bool) :=
  let x0 := a
  let x4 := ((x0 == ([] : List UInt8)))
  some x4
noncomputable def fact_silent (a : (Int × Int × Int × Int × Int × (List UInt8) × Int × (List UInt8))) : Option (Bool) :=
  let x0 := a
  let x5 := ((x0.2.2.2.2.2.2.2 == ([] : List UInt8)))
  some x5
noncomputable def fact_weekly (a : (Int × Int × Int × Int × Int × (List UInt8) × Int × (List UInt8))) : Option (Bool) :=
  let x0 := a
  none
noncomputable def fact_rules_5 (a : (Int × Int × Int × Int × Int × (List UInt8) × Int × (List UInt8))) : Option (Bool) :=
  let x0 := a
  none
noncomputable def fact_night (a : (Int × Int × Int × Int × Int × (List UInt8) × Int × (List UInt8))) : Option (Bool) :=
  let x0 := a
  none
noncomputable def fact_absence (a : (List UInt8)) : Option (Bool) :=
  let x0 := a
  none
noncomputable def fact_rules_6 (a : (Int × Int × Int × Int × Int × (List UInt8) × Int × (List UInt8))) : Option (Bool) :=
  let x0 := a
  none
noncomputable def fact_rules (a : Unit) : Option ((List UInt8) × Bool × Bool × (((Unit) ⊕ (((Unit) ⊕ (((Unit) ⊕ (((Unit) ⊕ (Unit))))))))) × Int × Int × (((Unit) ⊕ (((Unit) ⊕ (((Unit) ⊕ (((Unit) ⊕ (((Unit) ⊕ (((Unit) ⊕ (((Unit) ⊕ (((Unit) ⊕ (Unit))))))))))))))))) × (List UInt8) × Bool × Bool × (((Unit) ⊕ (((Unit) ⊕ (((Unit) ⊕ (((Unit) ⊕ (Unit))))))))) × Int × Int × (((Unit) ⊕ (((Unit) ⊕ (((Unit) ⊕ (((Unit) ⊕ (((Unit) ⊕ (((Unit) ⊕ (((Unit) ⊕ (((Unit) ⊕ (Unit))))))))))))))))) × (List UInt8) × Bool × Bool × (((Unit) ⊕ (((Unit) ⊕ (((Unit) ⊕ (((Unit) ⊕ (Unit))))))))) × Int × Int × (((Unit) ⊕ (((Unit) ⊕ (((Unit) ⊕ (((Unit) ⊕ (((Unit) ⊕ (((Unit) ⊕ (((Unit) ⊕ (((Unit) ⊕ (Unit))))))))))))))))) × (List UInt8) × Bool × Bool × (((Unit) ⊕ (((Unit) ⊕ (((Unit) ⊕ (((Unit) ⊕ (Unit))))))))) × Int × Int × (((Unit) ⊕ (((Unit) ⊕ (((Unit) ⊕ (((Unit) ⊕ (((Unit) ⊕ (((Unit) ⊕ (((Unit) ⊕ (((Unit) ⊕ (Unit))))))))))))))))) × (List UInt8) × Bool × Bool × (((Unit) ⊕ (((Unit) ⊕ (((Unit) ⊕ (((Unit) ⊕ (Unit))))))))) × Int × Int × (((Unit) ⊕ (((Unit) ⊕ (((Unit) ⊕ (((Unit) ⊕ (((Unit) ⊕ (((Unit) ⊕ (((Unit) ⊕ (((Unit) ⊕ (Unit))))))))))))))))) × (List UInt8) × Bool × Bool × (((Unit) ⊕ (((Unit) ⊕ (((Unit) ⊕ (((Unit) ⊕ (Unit))))))))) × Int × Int × (((Unit) ⊕ (((Unit) ⊕ (((Unit) ⊕ (((Unit) ⊕ (((Unit) ⊕ (((Unit) ⊕ (((Unit) ⊕ (((Unit) ⊕ (Unit))))))))))))))))) × (List UInt8) × Bool × Bool × (((Unit) ⊕ (((Unit) ⊕ (((Unit) ⊕ (((Unit) ⊕ (Unit))))))))) × Int × Int × (((Unit) ⊕ (((Unit) ⊕ (((Unit) ⊕ (((Unit) ⊕ (((Unit) ⊕ (((Unit) ⊕ (((Unit) ⊕ (((Unit) ⊕ (Unit))))))))))))))))) × (List UInt8) × Bool × Bool × (((Unit) ⊕ (((Unit) ⊕ (((Unit) ⊕ (((Unit) ⊕ (Unit))))))))) × Int × Int × (((Unit) ⊕ (((Unit) ⊕ (((Unit) ⊕ (((Unit) ⊕ (((Unit) ⊕ (((Unit) ⊕ (((Unit) ⊕ (((Unit) ⊕ (Unit))))))))))))))))) × (List UInt8) × Bool × Bool × (((Unit) ⊕ (((Unit) ⊕ (((Unit) ⊕ (((Unit) ⊕ (Unit))))))))) × Int × Int × (((Unit) ⊕ (((Unit) ⊕ (((Unit) ⊕ (((Unit) ⊕ (((Unit) ⊕ (((Unit) ⊕ (((Unit) ⊕ (((Unit) ⊕ (Unit))))))))))))))))) × (List UInt8) × Bool × Bool × (((Unit) ⊕ (((Unit) ⊕ (((Unit) ⊕ (((Unit) ⊕ (Unit))))))))) × Int × Int × (((Unit) ⊕ (((Unit) ⊕ (((Unit) ⊕ (((Unit) ⊕ (((Unit) ⊕ (((Unit) ⊕ (((Unit) ⊕ (((Unit) ⊕ (Unit))))))))))))))))) × (List UInt8) × Bool × Bool × (((Unit) ⊕ (((Unit) ⊕ (((Unit) ⊕ (((Unit) ⊕ (Unit))))))))) × Int × Int × (((Unit) ⊕ (((Unit) ⊕ (((Unit) ⊕ (((Unit) ⊕ (((Unit) ⊕ (((Unit) ⊕ (((Unit) ⊕ (((Unit) ⊕ (Unit))))))))))))))))) × (List UInt8) × Bool × Bool × (((Unit) ⊕ (((Unit) ⊕ (((Unit) ⊕ (((Unit) ⊕ (Unit))))))))) × Int × Int × (((Unit) ⊕ (((Unit) ⊕ (((Unit) ⊕ (((Unit) ⊕ (((Unit) ⊕ (((Unit) ⊕ (((Unit) ⊕ (((Unit) ⊕ (Unit))))))))))))))))) × (List UInt8) × Bool × Bool × (((Unit) ⊕ (((Unit) ⊕ (((Unit) ⊕ (((Unit) ⊕ (Unit))))))))) × Int × Int × (((Unit) ⊕ (((Unit) ⊕ (((Unit) ⊕ (((Unit) ⊕ (((Unit) ⊕ (((Unit) ⊕ (((Unit) ⊕ (((Unit) ⊕ (Unit))))))))))))))))) × (List UInt8) × Bool × Bool × (((Unit) ⊕ (((Unit) ⊕ (((Unit) ⊕ (((Unit) ⊕ (Unit))))))))) × Int × Int × (((Unit) ⊕ (((Unit) ⊕ (((Unit) ⊕ (((Unit) ⊕ (((Unit) ⊕ (((Unit) ⊕ (((Unit) ⊕ (((Unit) ⊕ (Unit))))))))))))))))) × (List UInt8) × Bool × Bool × (((Unit) ⊕ (((Unit) ⊕ (((Unit) ⊕ (((Unit) ⊕ (Unit))))))))) × Int × Int × (((Unit) ⊕ (((Unit) ⊕ (((Unit) ⊕ (((Unit) ⊕ (((Unit) ⊕ (((Unit) ⊕ (((Unit) ⊕ (((Unit) ⊕ (Unit))))))))))))))))) × (List UInt8) × Bool × Bool × (((Unit) ⊕ (((Unit) ⊕ (((Unit) ⊕ (((Unit) ⊕ (Unit))))))))) × Int × Int × (((Unit) ⊕ (((Unit) ⊕ (((Unit) ⊕ (((Unit) ⊕ (((Unit) ⊕ (((Unit) ⊕ (((Unit) ⊕ (((Unit) ⊕ (Unit))))))))))))))))) × (List UInt8) × Bool × Bool × (((Unit) ⊕ (((Unit) ⊕ (((Unit) ⊕ (((Unit) ⊕ (Unit))))))))) × Int × Int × (((Unit) ⊕ (((Unit) ⊕ (((Unit) ⊕ (((Unit) ⊕ (((Unit) ⊕ (((Unit) ⊕ (((Unit) ⊕ (((Unit) ⊕ (Unit))))))))))))))))) × (List UInt8) × Bool × Bool × (((Unit) ⊕ (((Unit) ⊕ (((Unit) ⊕ (((Unit) ⊕ (Unit))))))))) × Int × Int × (((Unit) ⊕ (((Unit) ⊕ (((Unit) ⊕ (((Unit) ⊕ (((Unit) ⊕ (((Unit) ⊕ (((Unit) ⊕ (((Unit) ⊕ (Unit))))))))))))))))) × (List UInt8) × Bool × Bool × (((Unit) ⊕ (((Unit) ⊕ (((Unit) ⊕ (((Unit) ⊕ (Unit))))))))) × Int × Int × (((Unit) ⊕ (((Unit) ⊕ (((Unit) ⊕ (((Unit) ⊕ (((Unit) ⊕ (((Unit) ⊕ (((Unit) ⊕ (((Unit) ⊕ (Unit)))))))))))))))))) :=
  let x1 := ()
  let x2 := ()
  let x3 := ()
  let x4 := ()
  some (([] : List UInt8), false, false, (Sum.inr (Sum.inr (Sum.inr (Sum.inr ()))) : ((Unit) ⊕ (((Unit) ⊕ (((Unit) ⊕ (((Unit) ⊕ (Unit))))))))), (0 : Int), (0 : Int), (Sum.inr (Sum.inr (Sum.inr (Sum.inr (Sum.inr (Sum.inr (Sum.inr (Sum.inr ()))))))) : ((Unit) ⊕ (((Unit) ⊕ (((Unit) ⊕ (((Unit) ⊕ (((Unit) ⊕ (((Unit) ⊕ (((Unit) ⊕ (((Unit) ⊕ (Unit))))))))))))))))), ([101, 109, 112, 108, 111, 121] : List UInt8), false, true, (Sum.inl () : ((Unit) ⊕ (((Unit) ⊕ (((Unit) ⊕ (((Unit) ⊕ (Unit))))))))), (0 : Int), (1 : Int), (Sum.inl () : ((Unit) ⊕ (((Unit) ⊕ (((Unit) ⊕ (((Unit) ⊕ (((Unit) ⊕ (((Unit) ⊕ (((Unit) ⊕ (((Unit) ⊕ (Unit))))))))))))))))), ([115, 97, 108, 97, 114, 121] : List UInt8), false, true, (Sum.inl () : ((Unit) ⊕ (((Unit) ⊕ (((Unit) ⊕ (((Unit) ⊕ (Unit))))))))), (0 : Int), (1125899906842624 : Int), (Sum.inl () : ((Unit) ⊕ (((Unit) ⊕ (((Unit) ⊕ (((Unit) ⊕ (((Unit) ⊕ (((Unit) ⊕ (((Unit) ⊕ (((Unit) ⊕ (Unit))))))))))))))))), ([112, 97, 114, 116] : List UInt8), false, true, (Sum.inl () : ((Unit) ⊕ (((Unit) ⊕ (((Unit) ⊕ (((Unit) ⊕ (Unit))))))))), (0 : Int), (1000000 : Int), (Sum.inl () : ((Unit) ⊕ (((Unit) ⊕ (((Unit) ⊕ (((Unit) ⊕ (((Unit) ⊕ (((Unit) ⊕ (((Unit) ⊕ (((Unit) ⊕ (Unit))))))))))))))))), ([104, 111, 117, 114, 115] : List UInt8), false, true, (Sum.inl () : ((Unit) ⊕ (((Unit) ⊕ (((Unit) ⊕ (((Unit) ⊕ (Unit))))))))), (0 : Int), (0 : Int), (Sum.inr (Sum.inl ()) : ((Unit) ⊕ (((Unit) ⊕ (((Unit) ⊕ (((Unit) ⊕ (((Unit) ⊕ (((Unit) ⊕ (((Unit) ⊕ (((Unit) ⊕ (Unit))))))))))))))))), ([99, 111, 115, 116] : List UInt8), false, true, (Sum.inl () : ((Unit) ⊕ (((Unit) ⊕ (((Unit) ⊕ (((Unit) ⊕ (Unit))))))))), (0 : Int), (0 : Int), (Sum.inr (Sum.inr (Sum.inl ())) : ((Unit) ⊕ (((Unit) ⊕ (((Unit) ⊕ (((Unit) ⊕ (((Unit) ⊕ (((Unit) ⊕ (((Unit) ⊕ (((Unit) ⊕ (Unit))))))))))))))))), ([115, 104, 101, 101, 116] : List UInt8), false, false, (Sum.inr (Sum.inl x1) : ((Unit) ⊕ (((Unit) ⊕ (((Unit) ⊕ (((Unit) ⊕ (Unit))))))))), (0 : Int), (1440 : Int), (Sum.inr (Sum.inr (Sum.inr (Sum.inl ()))) : ((Unit) ⊕ (((Unit) ⊕ (((Unit) ⊕ (((Unit) ⊕ (((Unit) ⊕ (((Unit) ⊕ (((Unit) ⊕ (((Unit) ⊕ (Unit))))))))))))))))), ([97, 98, 115, 101, 110, 116] : List UInt8), false, true, (Sum.inr (Sum.inr (Sum.inl ())) : ((Unit) ⊕ (((Unit) ⊕ (((Unit) ⊕ (((Unit) ⊕ (Unit))))))))), (0 : Int), (1000000 : Int), (Sum.inl () : ((Unit) ⊕ (((Unit) ⊕ (((Unit) ⊕ (((Unit) ⊕ (((Unit) ⊕ (((Unit) ⊕ (((Unit) ⊕ (((Unit) ⊕ (Unit))))))))))))))))), ([98, 111, 110, 117, 115] : List UInt8), false, false, (Sum.inr (Sum.inr (Sum.inr (Sum.inl ()))) : ((Unit) ⊕ (((Unit) ⊕ (((Unit) ⊕ (((Unit) ⊕ (Unit))))))))), (-1125899906842624 : Int), (1125899906842624 : Int), (Sum.inl () : ((Unit) ⊕ (((Unit) ⊕ (((Unit) ⊕ (((Unit) ⊕ (((Unit) ⊕ (((Unit) ⊕ (((Unit) ⊕ (((Unit) ⊕ (Unit))))))))))))))))), ([101, 110, 114, 111, 108] : List UInt8), false, true, (Sum.inr (Sum.inr (Sum.inr (Sum.inl ()))) : ((Unit) ⊕ (((Unit) ⊕ (((Unit) ⊕ (((Unit) ⊕ (Unit))))))))), (0 : Int), (1125899906842624 : Int), (Sum.inl () : ((Unit) ⊕ (((Unit) ⊕ (((Unit) ⊕ (((Unit) ⊕ (((Unit) ⊕ (((Unit) ⊕ (((Unit) ⊕ (((Unit) ⊕ (Unit))))))))))))))))), ([100, 101, 100, 117, 99, 116] : List UInt8), false, true, (Sum.inr (Sum.inr (Sum.inr (Sum.inl ()))) : ((Unit) ⊕ (((Unit) ⊕ (((Unit) ⊕ (((Unit) ⊕ (Unit))))))))), (0 : Int), (1125899906842624 : Int), (Sum.inl () : ((Unit) ⊕ (((Unit) ⊕ (((Unit) ⊕ (((Unit) ⊕ (((Unit) ⊕ (((Unit) ⊕ (((Unit) ⊕ (((Unit) ⊕ (Unit))))))))))))))))), ([99, 97, 114, 100] : List UInt8), false, true, (Sum.inl () : ((Unit) ⊕ (((Unit) ⊕ (((Unit) ⊕ (((Unit) ⊕ (Unit))))))))), (0 : Int), (1125899906842624 : Int), (Sum.inr (Sum.inr (Sum.inr (Sum.inr (Sum.inl x2)))) : ((Unit) ⊕ (((Unit) ⊕ (((Unit) ⊕ (((Unit) ⊕ (((Unit) ⊕ (((Unit) ⊕ (((Unit) ⊕ (((Unit) ⊕ (Unit))))))))))))))))), ([97, 116, 116, 97, 99, 104] : List UInt8), false, true, (Sum.inr (Sum.inr (Sum.inr (Sum.inl ()))) : ((Unit) ⊕ (((Unit) ⊕ (((Unit) ⊕ (((Unit) ⊕ (Unit))))))))), (0 : Int), (1125899906842624 : Int), (Sum.inr (Sum.inr (Sum.inr (Sum.inr (Sum.inr (Sum.inl ()))))) : ((Unit) ⊕ (((Unit) ⊕ (((Unit) ⊕ (((Unit) ⊕ (((Unit) ⊕ (((Unit) ⊕ (((Unit) ⊕ (((Unit) ⊕ (Unit))))))))))))))))), ([98, 97, 110, 107] : List UInt8), false, true, (Sum.inl () : ((Unit) ⊕ (((Unit) ⊕ (((Unit) ⊕ (((Unit) ⊕ (Unit))))))))), (0 : Int), (0 : Int), (Sum.inr (Sum.inr (Sum.inr (Sum.inr (Sum.inl x2)))) : ((Unit) ⊕ (((Unit) ⊕ (((Unit) ⊕ (((Unit) ⊕ (((Unit) ⊕ (((Unit) ⊕ (((Unit) ⊕ (((Unit) ⊕ (Unit))))))))))))))))), ([114, 117, 108, 101] : List UInt8), true, true, (Sum.inr (Sum.inr (Sum.inr (Sum.inl ()))) : ((Unit) ⊕ (((Unit) ⊕ (((Unit) ⊕ (((Unit) ⊕ (Unit))))))))), (-1125899906842624 : Int), (1125899906842624 : Int), (Sum.inr (Sum.inr (Sum.inr (Sum.inr (Sum.inr (Sum.inr (Sum.inl x3)))))) : ((Unit) ⊕ (((Unit) ⊕ (((Unit) ⊕ (((Unit) ⊕ (((Unit) ⊕ (((Unit) ⊕ (((Unit) ⊕ (((Unit) ⊕ (Unit))))))))))))))))), ([101, 108, 101, 109, 101, 110, 116] : List UInt8), true, true, (Sum.inr (Sum.inr (Sum.inr (Sum.inl ()))) : ((Unit) ⊕ (((Unit) ⊕ (((Unit) ⊕ (((Unit) ⊕ (Unit))))))))), (0 : Int), (0 : Int), (Sum.inr (Sum.inr (Sum.inr (Sum.inr (Sum.inr (Sum.inr (Sum.inr (Sum.inl x4))))))) : ((Unit) ⊕ (((Unit) ⊕ (((Unit) ⊕ (((Unit) ⊕ (((Unit) ⊕ (((Unit) ⊕ (((Unit) ⊕ (((Unit) ⊕ (Unit))))))))))))))))), ([104, 111, 108, 105, 100, 97, 121] : List UInt8), true, false, (Sum.inl () : ((Unit) ⊕ (((Unit) ⊕ (((Unit) ⊕ (((Unit) ⊕ (Unit))))))))), (0 : Int), (0 : Int), (Sum.inl () : ((Unit) ⊕ (((Unit) ⊕ (((Unit) ⊕ (((Unit) ⊕ (((Unit) ⊕ (((Unit) ⊕ (((Unit) ⊕ (((Unit) ⊕ (Unit))))))))))))))))), ([103, 114, 97, 110, 116] : List UInt8), false, false, (Sum.inl () : ((Unit) ⊕ (((Unit) ⊕ (((Unit) ⊕ (((Unit) ⊕ (Unit))))))))), (0 : Int), (100000 : Int), (Sum.inl () : ((Unit) ⊕ (((Unit) ⊕ (((Unit) ⊕ (((Unit) ⊕ (((Unit) ⊕ (((Unit) ⊕ (((Unit) ⊕ (((Unit) ⊕ (Unit))))))))))))))))), ([99, 97, 110, 99, 101, 108] : List UInt8), true, false, (Sum.inl () : ((Unit) ⊕ (((Unit) ⊕ (((Unit) ⊕ (((Unit) ⊕ (Unit))))))))), (1 : Int), (4096 : Int), (Sum.inl () : ((Unit) ⊕ (((Unit) ⊕ (((Unit) ⊕ (((Unit) ⊕ (((Unit) ⊕ (((Unit) ⊕ (((Unit) ⊕ (((Unit) ⊕ (Unit))))))))))))))))))
noncomputable def fact_Fact_days (a : (Int × Int × Int × Int × Int × (List UInt8) × Int × (List UInt8)) × ((List UInt8) × Bool × Bool × (((Unit) ⊕ (((Unit) ⊕ (((Unit) ⊕ (((Unit) ⊕ (Unit))))))))) × Int × Int × (((Unit) ⊕ (((Unit) ⊕ (((Unit) ⊕ (((Unit) ⊕ (((Unit) ⊕ (((Unit) ⊕ (((Unit) ⊕ (((Unit) ⊕ (Unit))))))))))))))))))) : Option (Int) :=
  let x0 := a.1
  let x1 := a.2
  Option.bind (show Option (((Bool) × (Int) × (Int) × (Int) × (Int) × (Int) × (List UInt8) × (Int) × (List UInt8) × (List UInt8) × (Bool) × (Bool) × (((Unit) ⊕ (((Unit) ⊕ (((Unit) ⊕ (((Unit) ⊕ (Unit))))))))) × (Int) × (Int) × (((Unit) ⊕ (((Unit) ⊕ (((Unit) ⊕ (((Unit) ⊕ (((Unit) ⊕ (((Unit) ⊕ (((Unit) ⊕ (((Unit) ⊕ (Unit))))))))))))))))) × (Unit) × (Unit) × (Unit) × (Unit) × Unit)) from (
    let x8 := (x0.2.2.1 == (18 : Int))
    let x10 := (if x8 = true then some () else none)
    Option.bind (if x8 = true then (x10.map (fun z63 => x0.2.2.2.1)).map some else some none) fun x11 =>
    Option.bind (if x8 = true then ((x11.bind (fun z64 => some (z64, (0 : Int)))).map (fun z66 => (z66.1 != z66.2))).map some else some none) fun x12 =>
    Option.bind (if x8 then x12 else some false) fun x13 =>
    if x13 then (
      some (x13, x0.1, x0.2.1, x0.2.2.1, x0.2.2.2.1, x0.2.2.2.2.1, x0.2.2.2.2.2.1, x0.2.2.2.2.2.2.1, x0.2.2.2.2.2.2.2, x1.1, x1.2.1, x1.2.2.1, x1.2.2.2.1, x1.2.2.2.2.1, x1.2.2.2.2.2.1, x1.2.2.2.2.2.2, (), (), (), (), ()))
    else (
      let x16 := (decide (x0.2.2.2.1 < (-25567 : Int)))
      let x18 := (if x16 = false then some () else none)
      Option.bind (if x16 = false then (x18.map (fun z72 => x0.2.2.2.1)).map some else some none) fun x19 =>
      Option.bind (if x16 = false then ((x19.bind (fun z73 => some (z73, (84005 : Int)))).map (fun z75 => (decide (z75.1 > z75.2)))).map some else some none) fun x20 =>
      Option.bind (if x16 then some true else x20.map (fun z76 => z76)) fun x21 =>
      some (x21, x0.1, x0.2.1, x0.2.2.1, x0.2.2.2.1, x0.2.2.2.2.1, x0.2.2.2.2.2.1, x0.2.2.2.2.2.2.1, x0.2.2.2.2.2.2.2, x1.1, x1.2.1, x1.2.2.1, x1.2.2.2.1, x1.2.2.2.2.1, x1.2.2.2.2.2.1, x1.2.2.2.2.2.2, (), (), (), (), ())))) fun o =>
  let x5 := o.1
  let c2_0 := o.2.1
  let c2_1 := o.2.2.1
  let c2_2 := o.2.2.2.1
  let c2_3 := o.2.2.2.2.1
  let c2_4 := o.2.2.2.2.2.1
  let c2_5 := o.2.2.2.2.2.2.1
  let c2_6 := o.2.2.2.2.2.2.2.1
  let c2_7 := o.2.2.2.2.2.2.2.2.1
  let c3_0 := o.2.2.2.2.2.2.2.2.2.1
  let c3_1 := o.2.2.2.2.2.2.2.2.2.2.1
  let c3_2 := o.2.2.2.2.2.2.2.2.2.2.2.1
  let c3_3 := o.2.2.2.2.2.2.2.2.2.2.2.2.1
  let c3_4 := o.2.2.2.2.2.2.2.2.2.2.2.2.2.1
  let c3_5 := o.2.2.2.2.2.2.2.2.2.2.2.2.2.2.1
  let c3_6 := o.2.2.2.2.2.2.2.2.2.2.2.2.2.2.2.1
  if x5 then (
    some (15 : Int))
  else (
    let x25 := (c2_4 != (0 : Int))
    let x27 := (if x25 = true then some () else none)
    Option.bind (if x25 = true then (x27.map (fun z95 => c3_2)).map some else some none) fun x28 =>
    Option.bind (if x25 = true then (x28.map (fun z96 => (!z96))).map some else some none) fun x29 =>
    Option.bind (if x25 = true then x29.map some else some none) fun x30 =>
    let x31 := (if x30 = some false then some () else none)
    Option.bind (if x30 = some false then (x31.map (fun z97 => c2_4)).map some else some none) fun x32 =>
    let x33 := (if x30 = some false then some () else none)
    Option.bind (if x30 = some false then (x33.map (fun z98 => c2_3)).map some else some none) fun x34 =>
    Option.bind (if x30 = some false then ((x32.bind (fun z99 => x34.map (fun z100 => (z99, z100)))).map (fun z101 => (decide (z101.1 ≤ z101.2)))).map some else some none) fun x35 =>
    Option.bind (if x25 = true then (x30.bind (fun z103 => if z103 then some true else x35.map (fun z102 => z102))).map some else some none) fun x36 =>
    Option.bind (if x25 then x36 else some false) fun x37 =>
    if x37 then (
      some (24 : Int))
    else (
      let x41 := (decide (c2_4 > (84006 : Int)))
      if x41 then (
        some (15 : Int))
      else (
        some (0 : Int))))
noncomputable def fact_Fact_Check (a : (Int × Int × Int × Int × Int × (List UInt8) × Int × (List UInt8))) : Option (Int) :=
  let x0 := a
  Option.bind (fact_known x0.2.2.1) fun x7 =>
  let x8 := (!x7)
  if x8 then (
    some (11 : Int))
  else (
    Option.bind (fact_rules ()) fun x9 =>
    Option.bind (lAt ([(x9.1, x9.2.1, x9.2.2.1, x9.2.2.2.1, x9.2.2.2.2.1, x9.2.2.2.2.2.1, x9.2.2.2.2.2.2.1), (x9.2.2.2.2.2.2.2.1, x9.2.2.2.2.2.2.2.2.1, x9.2.2.2.2.2.2.2.2.2.1, x9.2.2.2.2.2.2.2.2.2.2.1, x9.2.2.2.2.2.2.2.2.2.2.2.1, x9.2.2.2.2.2.2.2.2.2.2.2.2.1, x9.2.2.2.2.2.2.2.2.2.2.2.2.2.1), (x9.2.2.2.2.2.2.2.2.2.2.2.2.2.2.1, x9.2.2.2.2.2.2.2.2.2.2.2.2.2.2.2.1, x9.2.2.2.2.2.2.2.2.2.2.2.2.2.2.2.2.1, x9.2.2.2.2.2.2.2.2.2.2.2.2.2.2.2.2.2.1, x9.2.2.2.2.2.2.2.2.2.2.2.2.2.2.2.2.2.2.1, x9.2.2.2.2.2.2.2.2.2.2.2.2.2.2.2.2.2.2.2.1, x9.2.2.2.2.2.2.2.2.2.2.2.2.2.2.2.2.2.2.2.2.1), (x9.2.2.2.2.2.2.2.2.2.2.2.2.2.2.2.2.2.2.2.2.2.1, x9.2.2.2.2.2.2.2.2.2.2.2.2.2.2.2.2.2.2.2.2.2.2.1, x9.2.2.2.2.2.2.2.2.2.2.2.2.2.2.2.2.2.2.2.2.2.2.2.1, x9.2.2.2.2.2.2.2.2.2.2.2.2.2.2.2.2.2.2.2.2.2.2.2.2.1, x9.2.2.2.2.2.2.2.2.2.2.2.2.2.2.2.2.2.2.2.2.2.2.2.2.2.1, x9.2.2.2.2.2.2.2.2.2.2.2.2.2.2.2.2.2.2.2.2.2.2.2.2.2.2.1, x9.2.2.2.2.2.2.2.2.2.2.2.2.2.2.2.2.2.2.2.2.2.2.2.2.2.2.2.1), (x9.2.2.2.2.2.2.2.2.2.2.2.2.2.2.2.2.2.2.2.2.2.2.2.2.2.2.2.2.1, x9.2.2.2.2.2.2.2.2.2.2.2.2.2.2.2.2.2.2.2.2.2.2.2.2.2.2.2.2.2.1, x9.2.2.2.2.2.2.2.2.2.2.2.2.2.2.2.2.2.2.2.2.2.2.2.2.2.2.2.2.2.2.1, x9.2.2.2.2.2.2.2.2.2.2.2.2.2.2.2.2.2.2.2.2.2.2.2.2.2.2.2.2.2.2.2.1, x9.2.2.2.2.2.2.2.2.2.2.2.2.2.2.2.2.2.2.2.2.2.2.2.2.2.2.2.2.2.2.2.2.1, x9.2.2.2.2.2.2.2.2.2.2.2.2.2.2.2.2.2.2.2.2.2.2.2.2.2.2.2.2.2.2.2.2.2.1, x9.2.2.2.2.2.2.2.2.2.2.2.2.2.2.2.2.2.2.2.2.2.2.2.2.2.2.2.2.2.2.2.2.2.2.1), (x9.2.2.2.2.2.2.2.2.2.2.2.2.2.2.2.2.2.2.2.2.2.2.2.2.2.2.2.2.2.2.2.2.2.2.2.1, x9.2.2.2.2.2.2.2.2.2.2.2.2.2.2.2.2.2.2.2.2.2.2.2.2.2.2.2.2.2.2.2.2.2.2.2.2.1, x9.2.2.2.2.2.2.2.2.2.2.2.2.2.2.2.2.2.2.2.2.2.2.2.2.2.2.2.2.2.2.2.2.2.2.2.2.2.1, x9.2.2.2.2.2.2.2.2.2.2.2.2.2.2.2.2.2.2.2.2.2.2.2.2.2.2.2.2.2.2.2.2.2.2.2.2.2.2.1, x9.2.2.2.2.2.2.2.2.2.2.2.2.2.2.2.2.2.2.2.2.2.2.2.2.2.2.2.2.2.2.2.2.2.2.2.2.2.2.2.1, x9.2.2.2.2.2.2.2.2.2.2.2.2.2.2.2.2.2.2.2.2.2.2.2.2.2.2.2.2.2.2.2.2.2.2.2.2.2.2.2.2.1, x9.2.2.2.2.2.2.2.2.2.2.2.2.2.2.2.2.2.2.2.2.2.2.2.2.2.2.2.2.2.2.2.2.2.2.2.2.2.2.2.2.2.1), (x9.2.2.2.2.2.2.2.2.2.2.2.2.2.2.2.2.2.2.2.2.2.2.2.2.2.2.2.2.2.2.2.2.2.2.2.2.2.2.2.2.2.2.1, x9.2.2.2.2.2.2.2.2.2.2.2.2.2.2.2.2.2.2.2.2.2.2.2.2.2.2.2.2.2.2.2.2.2.2.2.2.2.2.2.2.2.2.2.1, x9.2.2.2.2.2.2.2.2.2.2.2.2.2.2.2.2.2.2.2.2.2.2.2.2.2.2.2.2.2.2.2.2.2.2.2.2.2.2.2.2.2.2.2.2.1, x9.2.2.2.2.2.2.2.2.2.2.2.2.2.2.2.2.2.2.2.2.2.2.2.2.2.2.2.2.2.2.2.2.2.2.2.2.2.2.2.2.2.2.2.2.2.1, x9.2.2.2.2.2.2.2.2.2.2.2.2.2.2.2.2.2.2.2.2.2.2.2.2.2.2.2.2.2.2.2.2.2.2.2.2.2.2.2.2.2.2.2.2.2.2.1, x9.2.2.2.2.2.2.2.2.2.2.2.2.2.2.2.2.2.2.2.2.2.2.2.2.2.2.2.2.2.2.2.2.2.2.2.2.2.2.2.2.2.2.2.2.2.2.2.1, x9.2.2.2.2.2.2.2.2.2.2.2.2.2.2.2.2.2.2.2.2.2.2.2.2.2.2.2.2.2.2.2.2.2.2.2.2.2.2.2.2.2.2.2.2.2.2.2.2.1), (x9.2.2.2.2.2.2.2.2.2.2.2.2.2.2.2.2.2.2.2.2.2.2.2.2.2.2.2.2.2.2.2.2.2.2.2.2.2.2.2.2.2.2.2.2.2.2.2.2.2.1, x9.2.2.2.2.2.2.2.2.2.2.2.2.2.2.2.2.2.2.2.2.2.2.2.2.2.2.2.2.2.2.2.2.2.2.2.2.2.2.2.2.2.2.2.2.2.2.2.2.2.2.1, x9.2.2.2.2.2.2.2.2.2.2.2.2.2.2.2.2.2.2.2.2.2.2.2.2.2.2.2.2.2.2.2.2.2.2.2.2.2.2.2.2.2.2.2.2.2.2.2.2.2.2.2.1, x9.2.2.2.2.2.2.2.2.2.2.2.2.2.2.2.2.2.2.2.2.2.2.2.2.2.2.2.2.2.2.2.2.2.2.2.2.2.2.2.2.2.2.2.2.2.2.2.2.2.2.2.2.1, x9.2.2.2.2.2.2.2.2.2.2.2.2.2.2.2.2.2.2.2.2.2.2.2.2.2.2.2.2.2.2.2.2.2.2.2.2.2.2.2.2.2.2.2.2.2.2.2.2.2.2.2.2.2.1, x9.2.2.2.2.2.2.2.2.2.2.2.2.2.2.2.2.2.2.2.2.2.2.2.2.2.2.2.2.2.2.2.2.2.2.2.2.2.2.2.2.2.2.2.2.2.2.2.2.2.2.2.2.2.2.1, x9.2.2.2.2.2.2.2.2.2.2.2.2.2.2.2.2.2.2.2.2.2.2.2.2.2.2.2.2.2.2.2.2.2.2.2.2.2.2.2.2.2.2.2.2.2.2.2.2.2.2.2.2.2.2.2.1), (x9.2.2.2.2.2.2.2.2.2.2.2.2.2.2.2.2.2.2.2.2.2.2.2.2.2.2.2.2.2.2.2.2.2.2.2.2.2.2.2.2.2.2.2.2.2.2.2.2.2.2.2.2.2.2.2.2.1, x9.2.2.2.2.2.2.2.2.2.2.2.2.2.2.2.2.2.2.2.2.2.2.2.2.2.2.2.2.2.2.2.2.2.2.2.2.2.2.2.2.2.2.2.2.2.2.2.2.2.2.2.2.2.2.2.2.2.1, x9.2.2.2.2.2.2.2.2.2.2.2.2.2.2.2.2.2.2.2.2.2.2.2.2.2.2.2.2.2.2.2.2.2.2.2.2.2.2.2.2.2.2.2.2.2.2.2.2.2.2.2.2.2.2.2.2.2.2.1, x9.2.2.2.2.2.2.2.2.2.2.2.2.2.2.2.2.2.2.2.2.2.2.2.2.2.2.2.2.2.2.2.2.2.2.2.2.2.2.2.2.2.2.2.2.2.2.2.2.2.2.2.2.2.2.2.2.2.2.2.1, x9.2.2.2.2.2.2.2.2.2.2.2.2.2.2.2.2.2.2.2.2.2.2.2.2.2.2.2.2.2.2.2.2.2.2.2.2.2.2.2.2.2.2.2.2.2.2.2.2.2.2.2.2.2.2.2.2.2.2.2.2.1, x9.2.2.2.2.2.2.2.2.2.2.2.2.2.2.2.2.2.2.2.2.2.2.2.2.2.2.2.2.2.2.2.2.2.2.2.2.2.2.2.2.2.2.2.2.2.2.2.2.2.2.2.2.2.2.2.2.2.2.2.2.2.1, x9.2.2.2.2.2.2.2.2.2.2.2.2.2.2.2.2.2.2.2.2.2.2.2.2.2.2.2.2.2.2.2.2.2.2.2.2.2.2.2.2.2.2.2.2.2.2.2.2.2.2.2.2.2.2.2.2.2.2.2.2.2.2.1), (x9.2.2.2.2.2.2.2.2.2.2.2.2.2.2.2.2.2.2.2.2.2.2.2.2.2.2.2.2.2.2.2.2.2.2.2.2.2.2.2.2.2.2.2.2.2.2.2.2.2.2.2.2.2.2.2.2.2.2.2.2.2.2.2.1, x9.2.2.2.2.2.2.2.2.2.2.2.2.2.2.2.2.2.2.2.2.2.2.2.2.2.2.2.2.2.2.2.2.2.2.2.2.2.2.2.2.2.2.2.2.2.2.2.2.2.2.2.2.2.2.2.2.2.2.2.2.2.2.2.2.1, x9.2.2.2.2.2.2.2.2.2.2.2.2.2.2.2.2.2.2.2.2.2.2.2.2.2.2.2.2.2.2.2.2.2.2.2.2.2.2.2.2.2.2.2.2.2.2.2.2.2.2.2.2.2.2.2.2.2.2.2.2.2.2.2.2.2.1, x9.2.2.2.2.2.2.2.2.2.2.2.2.2.2.2.2.2.2.2.2.2.2.2.2.2.2.2.2.2.2.2.2.2.2.2.2.2.2.2.2.2.2.2.2.2.2.2.2.2.2.2.2.2.2.2.2.2.2.2.2.2.2.2.2.2.2.1, x9.2.2.2.2.2.2.2.2.2.2.2.2.2.2.2.2.2.2.2.2.2.2.2.2.2.2.2.2.2.2.2.2.2.2.2.2.2.2.2.2.2.2.2.2.2.2.2.2.2.2.2.2.2.2.2.2.2.2.2.2.2.2.2.2.2.2.2.1, x9.2.2.2.2.2.2.2.2.2.2.2.2.2.2.2.2.2.2.2.2.2.2.2.2.2.2.2.2.2.2.2.2.2.2.2.2.2.2.2.2.2.2.2.2.2.2.2.2.2.2.2.2.2.2.2.2.2.2.2.2.2.2.2.2.2.2.2.2.1, x9.2.2.2.2.2.2.2.2.2.2.2.2.2.2.2.2.2.2.2.2.2.2.2.2.2.2.2.2.2.2.2.2.2.2.2.2.2.2.2.2.2.2.2.2.2.2.2.2.2.2.2.2.2.2.2.2.2.2.2.2.2.2.2.2.2.2.2.2.2.1), (x9.2.2.2.2.2.2.2.2.2.2.2.2.2.2.2.2.2.2.2.2.2.2.2.2.2.2.2.2.2.2.2.2.2.2.2.2.2.2.2.2.2.2.2.2.2.2.2.2.2.2.2.2.2.2.2.2.2.2.2.2.2.2.2.2.2.2.2.2.2.2.1, x9.2.2.2.2.2.2.2.2.2.2.2.2.2.2.2.2.2.2.2.2.2.2.2.2.2.2.2.2.2.2.2.2.2.2.2.2.2.2.2.2.2.2.2.2.2.2.2.2.2.2.2.2.2.2.2.2.2.2.2.2.2.2.2.2.2.2.2.2.2.2.2.1, x9.2.2.2.2.2.2.2.2.2.2.2.2.2.2.2.2.2.2.2.2.2.2.2.2.2.2.2.2.2.2.2.2.2.2.2.2.2.2.2.2.2.2.2.2.2.2.2.2.2.2.2.2.2.2.2.2.2.2.2.2.2.2.2.2.2.2.2.2.2.2.2.2.1, x9.2.2.2.2.2.2.2.2.2.2.2.2.2.2.2.2.2.2.2.2.2.2.2.2.2.2.2.2.2.2.2.2.2.2.2.2.2.2.2.2.2.2.2.2.2.2.2.2.2.2.2.2.2.2.2.2.2.2.2.2.2.2.2.2.2.2.2.2.2.2.2.2.2.1, x9.2.2.2.2.2.2.2.2.2.2.2.2.2.2.2.2.2.2.2.2.2.2.2.2.2.2.2.2.2.2.2.2.2.2.2.2.2.2.2.2.2.2.2.2.2.2.2.2.2.2.2.2.2.2.2.2.2.2.2.2.2.2.2.2.2.2.2.2.2.2.2.2.2.2.1, x9.2.2.2.2.2.2.2.2.2.2.2.2.2.2.2.2.2.2.2.2.2.2.2.2.2.2.2.2.2.2.2.2.2.2.2.2.2.2.2.2.2.2.2.2.2.2.2.2.2.2.2.2.2.2.2.2.2.2.2.2.2.2.2.2.2.2.2.2.2.2.2.2.2.2.2.1, x9.2.2.2.2.2.2.2.2.2.2.2.2.2.2.2.2.2.2.2.2.2.2.2.2.2.2.2.2.2.2.2.2.2.2.2.2.2.2.2.2.2.2.2.2.2.2.2.2.2.2.2.2.2.2.2.2.2.2.2.2.2.2.2.2.2.2.2.2.2.2.2.2.2.2.2.2.1), (x9.2.2.2.2.2.2.2.2.2.2.2.2.2.2.2.2.2.2.2.2.2.2.2.2.2.2.2.2.2.2.2.2.2.2.2.2.2.2.2.2.2.2.2.2.2.2.2.2.2.2.2.2.2.2.2.2.2.2.2.2.2.2.2.2.2.2.2.2.2.2.2.2.2.2.2.2.2.1, x9.2.2.2.2.2.2.2.2.2.2.2.2.2.2.2.2.2.2.2.2.2.2.2.2.2.2.2.2.2.2.2.2.2.2.2.2.2.2.2.2.2.2.2.2.2.2.2.2.2.2.2.2.2.2.2.2.2.2.2.2.2.2.2.2.2.2.2.2.2.2.2.2.2.2.2.2.2.2.1, x9.2.2.2.2.2.2.2.2.2.2.2.2.2.2.2.2.2.2.2.2.2.2.2.2.2.2.2.2.2.2.2.2.2.2.2.2.2.2.2.2.2.2.2.2.2.2.2.2.2.2.2.2.2.2.2.2.2.2.2.2.2.2.2.2.2.2.2.2.2.2.2.2.2.2.2.2.2.2.2.1, x9.2.2.2.2.2.2.2.2.2.2.2.2.2.2.2.2.2.2.2.2.2.2.2.2.2.2.2.2.2.2.2.2.2.2.2.2.2.2.2.2.2.2.2.2.2.2.2.2.2.2.2.2.2.2.2.2.2.2.2.2.2.2.2.2.2.2.2.2.2.2.2.2.2.2.2.2.2.2.2.2.1, x9.2.2.2.2.2.2.2.2.2.2.2.2.2.2.2.2.2.2.2.2.2.2.2.2.2.2.2.2.2.2.2.2.2.2.2.2.2.2.2.2.2.2.2.2.2.2.2.2.2.2.2.2.2.2.2.2.2.2.2.2.2.2.2.2.2.2.2.2.2.2.2.2.2.2.2.2.2.2.2.2.2.1, x9.2.2.2.2.2.2.2.2.2.2.2.2.2.2.2.2.2.2.2.2.2.2.2.2.2.2.2.2.2.2.2.2.2.2.2.2.2.2.2.2.2.2.2.2.2.2.2.2.2.2.2.2.2.2.2.2.2.2.2.2.2.2.2.2.2.2.2.2.2.2.2.2.2.2.2.2.2.2.2.2.2.2.1, x9.2.2.2.2.2.2.2.2.2.2.2.2.2.2.2.2.2.2.2.2.2.2.2.2.2.2.2.2.2.2.2.2.2.2.2.2.2.2.2.2.2.2.2.2.2.2.2.2.2.2.2.2.2.2.2.2.2.2.2.2.2.2.2.2.2.2.2.2.2.2.2.2.2.2.2.2.2.2.2.2.2.2.2.1), (x9.2.2.2.2.2.2.2.2.2.2.2.2.2.2.2.2.2.2.2.2.2.2.2.2.2.2.2.2.2.2.2.2.2.2.2.2.2.2.2.2.2.2.2.2.2.2.2.2.2.2.2.2.2.2.2.2.2.2.2.2.2.2.2.2.2.2.2.2.2.2.2.2.2.2.2.2.2.2.2.2.2.2.2.2.1, x9.2.2.2.2.2.2.2.2.2.2.2.2.2.2.2.2.2.2.2.2.2.2.2.2.2.2.2.2.2.2.2.2.2.2.2.2.2.2.2.2.2.2.2.2.2.2.2.2.2.2.2.2.2.2.2.2.2.2.2.2.2.2.2.2.2.2.2.2.2.2.2.2.2.2.2.2.2.2.2.2.2.2.2.2.2.1, x9.2.2.2.2.2.2.2.2.2.2.2.2.2.2.2.2.2.2.2.2.2.2.2.2.2.2.2.2.2.2.2.2.2.2.2.2.2.2.2.2.2.2.2.2.2.2.2.2.2.2.2.2.2.2.2.2.2.2.2.2.2.2.2.2.2.2.2.2.2.2.2.2.2.2.2.2.2.2.2.2.2.2.2.2.2.2.1, x9.2.2.2.2.2.2.2.2.2.2.2.2.2.2.2.2.2.2.2.2.2.2.2.2.2.2.2.2.2.2.2.2.2.2.2.2.2.2.2.2.2.2.2.2.2.2.2.2.2.2.2.2.2.2.2.2.2.2.2.2.2.2.2.2.2.2.2.2.2.2.2.2.2.2.2.2.2.2.2.2.2.2.2.2.2.2.2.1, x9.2.2.2.2.2.2.2.2.2.2.2.2.2.2.2.2.2.2.2.2.2.2.2.2.2.2.2.2.2.2.2.2.2.2.2.2.2.2.2.2.2.2.2.2.2.2.2.2.2.2.2.2.2.2.2.2.2.2.2.2.2.2.2.2.2.2.2.2.2.2.2.2.2.2.2.2.2.2.2.2.2.2.2.2.2.2.2.2.1, x9.2.2.2.2.2.2.2.2.2.2.2.2.2.2.2.2.2.2.2.2.2.2.2.2.2.2.2.2.2.2.2.2.2.2.2.2.2.2.2.2.2.2.2.2.2.2.2.2.2.2.2.2.2.2.2.2.2.2.2.2.2.2.2.2.2.2.2.2.2.2.2.2.2.2.2.2.2.2.2.2.2.2.2.2.2.2.2.2.2.1, x9.2.2.2.2.2.2.2.2.2.2.2.2.2.2.2.2.2.2.2.2.2.2.2.2.2.2.2.2.2.2.2.2.2.2.2.2.2.2.2.2.2.2.2.2.2.2.2.2.2.2.2.2.2.2.2.2.2.2.2.2.2.2.2.2.2.2.2.2.2.2.2.2.2.2.2.2.2.2.2.2.2.2.2.2.2.2.2.2.2.2.1), (x9.2.2.2.2.2.2.2.2.2.2.2.2.2.2.2.2.2.2.2.2.2.2.2.2.2.2.2.2.2.2.2.2.2.2.2.2.2.2.2.2.2.2.2.2.2.2.2.2.2.2.2.2.2.2.2.2.2.2.2.2.2.2.2.2.2.2.2.2.2.2.2.2.2.2.2.2.2.2.2.2.2.2.2.2.2.2.2.2.2.2.2.1, x9.2.2.2.2.2.2.2.2.2.2.2.2.2.2.2.2.2.2.2.2.2.2.2.2.2.2.2.2.2.2.2.2.2.2.2.2.2.2.2.2.2.2.2.2.2.2.2.2.2.2.2.2.2.2.2.2.2.2.2.2.2.2.2.2.2.2.2.2.2.2.2.2.2.2.2.2.2.2.2.2.2.2.2.2.2.2.2.2.2.2.2.2.1, x9.2.2.2.2.2.2.2.2.2.2.2.2.2.2.2.2.2.2.2.2.2.2.2.2.2.2.2.2.2.2.2.2.2.2.2.2.2.2.2.2.2.2.2.2.2.2.2.2.2.2.2.2.2.2.2.2.2.2.2.2.2.2.2.2.2.2.2.2.2.2.2.2.2.2.2.2.2.2.2.2.2.2.2.2.2.2.2.2.2.2.2.2.2.1, x9.2.2.2.2.2.2.2.2.2.2.2.2.2.2.2.2.2.2.2.2.2.2.2.2.2.2.2.2.2.2.2.2.2.2.2.2.2.2.2.2.2.2.2.2.2.2.2.2.2.2.2.2.2.2.2.2.2.2.2.2.2.2.2.2.2.2.2.2.2.2.2.2.2.2.2.2.2.2.2.2.2.2.2.2.2.2.2.2.2.2.2.2.2.2.1, x9.2.2.2.2.2.2.2.2.2.2.2.2.2.2.2.2.2.2.2.2.2.2.2.2.2.2.2.2.2.2.2.2.2.2.2.2.2.2.2.2.2.2.2.2.2.2.2.2.2.2.2.2.2.2.2.2.2.2.2.2.2.2.2.2.2.2.2.2.2.2.2.2.2.2.2.2.2.2.2.2.2.2.2.2.2.2.2.2.2.2.2.2.2.2.2.1, x9.2.2.2.2.2.2.2.2.2.2.2.2.2.2.2.2.2.2.2.2.2.2.2.2.2.2.2.2.2.2.2.2.2.2.2.2.2.2.2.2.2.2.2.2.2.2.2.2.2.2.2.2.2.2.2.2.2.2.2.2.2.2.2.2.2.2.2.2.2.2.2.2.2.2.2.2.2.2.2.2.2.2.2.2.2.2.2.2.2.2.2.2.2.2.2.2.1, x9.2.2.2.2.2.2.2.2.2.2.2.2.2.2.2.2.2.2.2.2.2.2.2.2.2.2.2.2.2.2.2.2.2.2.2.2.2.2.2.2.2.2.2.2.2.2.2.2.2.2.2.2.2.2.2.2.2.2.2.2.2.2.2.2.2.2.2.2.2.2.2.2.2.2.2.2.2.2.2.2.2.2.2.2.2.2.2.2.2.2.2.2.2.2.2.2.2.1), (x9.2.2.2.2.2.2.2.2.2.2.2.2.2.2.2.2.2.2.2.2.2.2.2.2.2.2.2.2.2.2.2.2.2.2.2.2.2.2.2.2.2.2.2.2.2.2.2.2.2.2.2.2.2.2.2.2.2.2.2.2.2.2.2.2.2.2.2.2.2.2.2.2.2.2.2.2.2.2.2.2.2.2.2.2.2.2.2.2.2.2.2.2.2.2.2.2.2.2.1, x9.2.2.2.2.2.2.2.2.2.2.2.2.2.2.2.2.2.2.2.2.2.2.2.2.2.2.2.2.2.2.2.2.2.2.2.2.2.2.2.2.2.2.2.2.2.2.2.2.2.2.2.2.2.2.2.2.2.2.2.2.2.2.2.2.2.2.2.2.2.2.2.2.2.2.2.2.2.2.2.2.2.2.2.2.2.2.2.2.2.2.2.2.2.2.2.2.2.2.2.1, x9.2.2.2.2.2.2.2.2.2.2.2.2.2.2.2.2.2.2.2.2.2.2.2.2.2.2.2.2.2.2.2.2.2.2.2.2.2.2.2.2.2.2.2.2.2.2.2.2.2.2.2.2.2.2.2.2.2.2.2.2.2.2.2.2.2.2.2.2.2.2.2.2.2.2.2.2.2.2.2.2.2.2.2.2.2.2.2.2.2.2.2.2.2.2.2.2.2.2.2.2.1, x9.2.2.2.2.2.2.2.2.2.2.2.2.2.2.2.2.2.2.2.2.2.2.2.2.2.2.2.2.2.2.2.2.2.2.2.2.2.2.2.2.2.2.2.2.2.2.2.2.2.2.2.2.2.2.2.2.2.2.2.2.2.2.2.2.2.2.2.2.2.2.2.2.2.2.2.2.2.2.2.2.2.2.2.2.2.2.2.2.2.2.2.2.2.2.2.2.2.2.2.2.2.1, x9.2.2.2.2.2.2.2.2.2.2.2.2.2.2.2.2.2.2.2.2.2.2.2.2.2.2.2.2.2.2.2.2.2.2.2.2.2.2.2.2.2.2.2.2.2.2.2.2.2.2.2.2.2.2.2.2.2.2.2.2.2.2.2.2.2.2.2.2.2.2.2.2.2.2.2.2.2.2.2.2.2.2.2.2.2.2.2.2.2.2.2.2.2.2.2.2.2.2.2.2.2.2.1, x9.2.2.2.2.2.2.2.2.2.2.2.2.2.2.2.2.2.2.2.2.2.2.2.2.2.2.2.2.2.2.2.2.2.2.2.2.2.2.2.2.2.2.2.2.2.2.2.2.2.2.2.2.2.2.2.2.2.2.2.2.2.2.2.2.2.2.2.2.2.2.2.2.2.2.2.2.2.2.2.2.2.2.2.2.2.2.2.2.2.2.2.2.2.2.2.2.2.2.2.2.2.2.2.1, x9.2.2.2.2.2.2.2.2.2.2.2.2.2.2.2.2.2.2.2.2.2.2.2.2.2.2.2.2.2.2.2.2.2.2.2.2.2.2.2.2.2.2.2.2.2.2.2.2.2.2.2.2.2.2.2.2.2.2.2.2.2.2.2.2.2.2.2.2.2.2.2.2.2.2.2.2.2.2.2.2.2.2.2.2.2.2.2.2.2.2.2.2.2.2.2.2.2.2.2.2.2.2.2.2.1), (x9.2.2.2.2.2.2.2.2.2.2.2.2.2.2.2.2.2.2.2.2.2.2.2.2.2.2.2.2.2.2.2.2.2.2.2.2.2.2.2.2.2.2.2.2.2.2.2.2.2.2.2.2.2.2.2.2.2.2.2.2.2.2.2.2.2.2.2.2.2.2.2.2.2.2.2.2.2.2.2.2.2.2.2.2.2.2.2.2.2.2.2.2.2.2.2.2.2.2.2.2.2.2.2.2.2.1, x9.2.2.2.2.2.2.2.2.2.2.2.2.2.2.2.2.2.2.2.2.2.2.2.2.2.2.2.2.2.2.2.2.2.2.2.2.2.2.2.2.2.2.2.2.2.2.2.2.2.2.2.2.2.2.2.2.2.2.2.2.2.2.2.2.2.2.2.2.2.2.2.2.2.2.2.2.2.2.2.2.2.2.2.2.2.2.2.2.2.2.2.2.2.2.2.2.2.2.2.2.2.2.2.2.2.2.1, x9.2.2.2.2.2.2.2.2.2.2.2.2.2.2.2.2.2.2.2.2.2.2.2.2.2.2.2.2.2.2.2.2.2.2.2.2.2.2.2.2.2.2.2.2.2.2.2.2.2.2.2.2.2.2.2.2.2.2.2.2.2.2.2.2.2.2.2.2.2.2.2.2.2.2.2.2.2.2.2.2.2.2.2.2.2.2.2.2.2.2.2.2.2.2.2.2.2.2.2.2.2.2.2.2.2.2.2.1, x9.2.2.2.2.2.2.2.2.2.2.2.2.2.2.2.2.2.2.2.2.2.2.2.2.2.2.2.2.2.2.2.2.2.2.2.2.2.2.2.2.2.2.2.2.2.2.2.2.2.2.2.2.2.2.2.2.2.2.2.2.2.2.2.2.2.2.2.2.2.2.2.2.2.2.2.2.2.2.2.2.2.2.2.2.2.2.2.2.2.2.2.2.2.2.2.2.2.2.2.2.2.2.2.2.2.2.2.2.1, x9.2.2.2.2.2.2.2.2.2.2.2.2.2.2.2.2.2.2.2.2.2.2.2.2.2.2.2.2.2.2.2.2.2.2.2.2.2.2.2.2.2.2.2.2.2.2.2.2.2.2.2.2.2.2.2.2.2.2.2.2.2.2.2.2.2.2.2.2.2.2.2.2.2.2.2.2.2.2.2.2.2.2.2.2.2.2.2.2.2.2.2.2.2.2.2.2.2.2.2.2.2.2.2.2.2.2.2.2.2.1, x9.2.2.2.2.2.2.2.2.2.2.2.2.2.2.2.2.2.2.2.2.2.2.2.2.2.2.2.2.2.2.2.2.2.2.2.2.2.2.2.2.2.2.2.2.2.2.2.2.2.2.2.2.2.2.2.2.2.2.2.2.2.2.2.2.2.2.2.2.2.2.2.2.2.2.2.2.2.2.2.2.2.2.2.2.2.2.2.2.2.2.2.2.2.2.2.2.2.2.2.2.2.2.2.2.2.2.2.2.2.2.1, x9.2.2.2.2.2.2.2.2.2.2.2.2.2.2.2.2.2.2.2.2.2.2.2.2.2.2.2.2.2.2.2.2.2.2.2.2.2.2.2.2.2.2.2.2.2.2.2.2.2.2.2.2.2.2.2.2.2.2.2.2.2.2.2.2.2.2.2.2.2.2.2.2.2.2.2.2.2.2.2.2.2.2.2.2.2.2.2.2.2.2.2.2.2.2.2.2.2.2.2.2.2.2.2.2.2.2.2.2.2.2.2.1), (x9.2.2.2.2.2.2.2.2.2.2.2.2.2.2.2.2.2.2.2.2.2.2.2.2.2.2.2.2.2.2.2.2.2.2.2.2.2.2.2.2.2.2.2.2.2.2.2.2.2.2.2.2.2.2.2.2.2.2.2.2.2.2.2.2.2.2.2.2.2.2.2.2.2.2.2.2.2.2.2.2.2.2.2.2.2.2.2.2.2.2.2.2.2.2.2.2.2.2.2.2.2.2.2.2.2.2.2.2.2.2.2.2.1, x9.2.2.2.2.2.2.2.2.2.2.2.2.2.2.2.2.2.2.2.2.2.2.2.2.2.2.2.2.2.2.2.2.2.2.2.2.2.2.2.2.2.2.2.2.2.2.2.2.2.2.2.2.2.2.2.2.2.2.2.2.2.2.2.2.2.2.2.2.2.2.2.2.2.2.2.2.2.2.2.2.2.2.2.2.2.2.2.2.2.2.2.2.2.2.2.2.2.2.2.2.2.2.2.2.2.2.2.2.2.2.2.2.2.1, x9.2.2.2.2.2.2.2.2.2.2.2.2.2.2.2.2.2.2.2.2.2.2.2.2.2.2.2.2.2.2.2.2.2.2.2.2.2.2.2.2.2.2.2.2.2.2.2.2.2.2.2.2.2.2.2.2.2.2.2.2.2.2.2.2.2.2.2.2.2.2.2.2.2.2.2.2.2.2.2.2.2.2.2.2.2.2.2.2.2.2.2.2.2.2.2.2.2.2.2.2.2.2.2.2.2.2.2.2.2.2.2.2.2.2.1, x9.2.2.2.2.2.2.2.2.2.2.2.2.2.2.2.2.2.2.2.2.2.2.2.2.2.2.2.2.2.2.2.2.2.2.2.2.2.2.2.2.2.2.2.2.2.2.2.2.2.2.2.2.2.2.2.2.2.2.2.2.2.2.2.2.2.2.2.2.2.2.2.2.2.2.2.2.2.2.2.2.2.2.2.2.2.2.2.2.2.2.2.2.2.2.2.2.2.2.2.2.2.2.2.2.2.2.2.2.2.2.2.2.2.2.2.1, x9.2.2.2.2.2.2.2.2.2.2.2.2.2.2.2.2.2.2.2.2.2.2.2.2.2.2.2.2.2.2.2.2.2.2.2.2.2.2.2.2.2.2.2.2.2.2.2.2.2.2.2.2.2.2.2.2.2.2.2.2.2.2.2.2.2.2.2.2.2.2.2.2.2.2.2.2.2.2.2.2.2.2.2.2.2.2.2.2.2.2.2.2.2.2.2.2.2.2.2.2.2.2.2.2.2.2.2.2.2.2.2.2.2.2.2.2.1, x9.2.2.2.2.2.2.2.2.2.2.2.2.2.2.2.2.2.2.2.2.2.2.2.2.2.2.2.2.2.2.2.2.2.2.2.2.2.2.2.2.2.2.2.2.2.2.2.2.2.2.2.2.2.2.2.2.2.2.2.2.2.2.2.2.2.2.2.2.2.2.2.2.2.2.2.2.2.2.2.2.2.2.2.2.2.2.2.2.2.2.2.2.2.2.2.2.2.2.2.2.2.2.2.2.2.2.2.2.2.2.2.2.2.2.2.2.2.1, x9.2.2.2.2.2.2.2.2.2.2.2.2.2.2.2.2.2.2.2.2.2.2.2.2.2.2.2.2.2.2.2.2.2.2.2.2.2.2.2.2.2.2.2.2.2.2.2.2.2.2.2.2.2.2.2.2.2.2.2.2.2.2.2.2.2.2.2.2.2.2.2.2.2.2.2.2.2.2.2.2.2.2.2.2.2.2.2.2.2.2.2.2.2.2.2.2.2.2.2.2.2.2.2.2.2.2.2.2.2.2.2.2.2.2.2.2.2.2.1), (x9.2.2.2.2.2.2.2.2.2.2.2.2.2.2.2.2.2.2.2.2.2.2.2.2.2.2.2.2.2.2.2.2.2.2.2.2.2.2.2.2.2.2.2.2.2.2.2.2.2.2.2.2.2.2.2.2.2.2.2.2.2.2.2.2.2.2.2.2.2.2.2.2.2.2.2.2.2.2.2.2.2.2.2.2.2.2.2.2.2.2.2.2.2.2.2.2.2.2.2.2.2.2.2.2.2.2.2.2.2.2.2.2.2.2.2.2.2.2.2.1, x9.2.2.2.2.2.2.2.2.2.2.2.2.2.2.2.2.2.2.2.2.2.2.2.2.2.2.2.2.2.2.2.2.2.2.2.2.2.2.2.2.2.2.2.2.2.2.2.2.2.2.2.2.2.2.2.2.2.2.2.2.2.2.2.2.2.2.2.2.2.2.2.2.2.2.2.2.2.2.2.2.2.2.2.2.2.2.2.2.2.2.2.2.2.2.2.2.2.2.2.2.2.2.2.2.2.2.2.2.2.2.2.2.2.2.2.2.2.2.2.2.1, x9.2.2.2.2.2.2.2.2.2.2.2.2.2.2.2.2.2.2.2.2.2.2.2.2.2.2.2.2.2.2.2.2.2.2.2.2.2.2.2.2.2.2.2.2.2.2.2.2.2.2.2.2.2.2.2.2.2.2.2.2.2.2.2.2.2.2.2.2.2.2.2.2.2.2.2.2.2.2.2.2.2.2.2.2.2.2.2.2.2.2.2.2.2.2.2.2.2.2.2.2.2.2.2.2.2.2.2.2.2.2.2.2.2.2.2.2.2.2.2.2.2.1, x9.2.2.2.2.2.2.2.2.2.2.2.2.2.2.2.2.2.2.2.2.2.2.2.2.2.2.2.2.2.2.2.2.2.2.2.2.2.2.2.2.2.2.2.2.2.2.2.2.2.2.2.2.2.2.2.2.2.2.2.2.2.2.2.2.2.2.2.2.2.2.2.2.2.2.2.2.2.2.2.2.2.2.2.2.2.2.2.2.2.2.2.2.2.2.2.2.2.2.2.2.2.2.2.2.2.2.2.2.2.2.2.2.2.2.2.2.2.2.2.2.2.2.1, x9.2.2.2.2.2.2.2.2.2.2.2.2.2.2.2.2.2.2.2.2.2.2.2.2.2.2.2.2.2.2.2.2.2.2.2.2.2.2.2.2.2.2.2.2.2.2.2.2.2.2.2.2.2.2.2.2.2.2.2.2.2.2.2.2.2.2.2.2.2.2.2.2.2.2.2.2.2.2.2.2.2.2.2.2.2.2.2.2.2.2.2.2.2.2.2.2.2.2.2.2.2.2.2.2.2.2.2.2.2.2.2.2.2.2.2.2.2.2.2.2.2.2.2.1, x9.2.2.2.2.2.2.2.2.2.2.2.2.2.2.2.2.2.2.2.2.2.2.2.2.2.2.2.2.2.2.2.2.2.2.2.2.2.2.2.2.2.2.2.2.2.2.2.2.2.2.2.2.2.2.2.2.2.2.2.2.2.2.2.2.2.2.2.2.2.2.2.2.2.2.2.2.2.2.2.2.2.2.2.2.2.2.2.2.2.2.2.2.2.2.2.2.2.2.2.2.2.2.2.2.2.2.2.2.2.2.2.2.2.2.2.2.2.2.2.2.2.2.2.2.1, x9.2.2.2.2.2.2.2.2.2.2.2.2.2.2.2.2.2.2.2.2.2.2.2.2.2.2.2.2.2.2.2.2.2.2.2.2.2.2.2.2.2.2.2.2.2.2.2.2.2.2.2.2.2.2.2.2.2.2.2.2.2.2.2.2.2.2.2.2.2.2.2.2.2.2.2.2.2.2.2.2.2.2.2.2.2.2.2.2.2.2.2.2.2.2.2.2.2.2.2.2.2.2.2.2.2.2.2.2.2.2.2.2.2.2.2.2.2.2.2.2.2.2.2.2.2.1), (x9.2.2.2.2.2.2.2.2.2.2.2.2.2.2.2.2.2.2.2.2.2.2.2.2.2.2.2.2.2.2.2.2.2.2.2.2.2.2.2.2.2.2.2.2.2.2.2.2.2.2.2.2.2.2.2.2.2.2.2.2.2.2.2.2.2.2.2.2.2.2.2.2.2.2.2.2.2.2.2.2.2.2.2.2.2.2.2.2.2.2.2.2.2.2.2.2.2.2.2.2.2.2.2.2.2.2.2.2.2.2.2.2.2.2.2.2.2.2.2.2.2.2.2.2.2.2.1, x9.2.2.2.2.2.2.2.2.2.2.2.2.2.2.2.2.2.2.2.2.2.2.2.2.2.2.2.2.2.2.2.2.2.2.2.2.2.2.2.2.2.2.2.2.2.2.2.2.2.2.2.2.2.2.2.2.2.2.2.2.2.2.2.2.2.2.2.2.2.2.2.2.2.2.2.2.2.2.2.2.2.2.2.2.2.2.2.2.2.2.2.2.2.2.2.2.2.2.2.2.2.2.2.2.2.2.2.2.2.2.2.2.2.2.2.2.2.2.2.2.2.2.2.2.2.2.2.1, x9.2.2.2.2.2.2.2.2.2.2.2.2.2.2.2.2.2.2.2.2.2.2.2.2.2.2.2.2.2.2.2.2.2.2.2.2.2.2.2.2.2.2.2.2.2.2.2.2.2.2.2.2.2.2.2.2.2.2.2.2.2.2.2.2.2.2.2.2.2.2.2.2.2.2.2.2.2.2.2.2.2.2.2.2.2.2.2.2.2.2.2.2.2.2.2.2.2.2.2.2.2.2.2.2.2.2.2.2.2.2.2.2.2.2.2.2.2.2.2.2.2.2.2.2.2.2.2.2.1, x9.2.2.2.2.2.2.2.2.2.2.2.2.2.2.2.2.2.2.2.2.2.2.2.2.2.2.2.2.2.2.2.2.2.2.2.2.2.2.2.2.2.2.2.2.2.2.2.2.2.2.2.2.2.2.2.2.2.2.2.2.2.2.2.2.2.2.2.2.2.2.2.2.2.2.2.2.2.2.2.2.2.2.2.2.2.2.2.2.2.2.2.2.2.2.2.2.2.2.2.2.2.2.2.2.2.2.2.2.2.2.2.2.2.2.2.2.2.2.2.2.2.2.2.2.2.2.2.2.2.1, x9.2.2.2.2.2.2.2.2.2.2.2.2.2.2.2.2.2.2.2.2.2.2.2.2.2.2.2.2.2.2.2.2.2.2.2.2.2.2.2.2.2.2.2.2.2.2.2.2.2.2.2.2.2.2.2.2.2.2.2.2.2.2.2.2.2.2.2.2.2.2.2.2.2.2.2.2.2.2.2.2.2.2.2.2.2.2.2.2.2.2.2.2.2.2.2.2.2.2.2.2.2.2.2.2.2.2.2.2.2.2.2.2.2.2.2.2.2.2.2.2.2.2.2.2.2.2.2.2.2.2.1, x9.2.2.2.2.2.2.2.2.2.2.2.2.2.2.2.2.2.2.2.2.2.2.2.2.2.2.2.2.2.2.2.2.2.2.2.2.2.2.2.2.2.2.2.2.2.2.2.2.2.2.2.2.2.2.2.2.2.2.2.2.2.2.2.2.2.2.2.2.2.2.2.2.2.2.2.2.2.2.2.2.2.2.2.2.2.2.2.2.2.2.2.2.2.2.2.2.2.2.2.2.2.2.2.2.2.2.2.2.2.2.2.2.2.2.2.2.2.2.2.2.2.2.2.2.2.2.2.2.2.2.2.1, x9.2.2.2.2.2.2.2.2.2.2.2.2.2.2.2.2.2.2.2.2.2.2.2.2.2.2.2.2.2.2.2.2.2.2.2.2.2.2.2.2.2.2.2.2.2.2.2.2.2.2.2.2.2.2.2.2.2.2.2.2.2.2.2.2.2.2.2.2.2.2.2.2.2.2.2.2.2.2.2.2.2.2.2.2.2.2.2.2.2.2.2.2.2.2.2.2.2.2.2.2.2.2.2.2.2.2.2.2.2.2.2.2.2.2.2.2.2.2.2.2.2.2.2.2.2.2.2.2.2.2.2.2)] : List ((List UInt8) × Bool × Bool × (((Unit) ⊕ (((Unit) ⊕ (((Unit) ⊕ (((Unit) ⊕ (Unit))))))))) × Int × Int × (((Unit) ⊕ (((Unit) ⊕ (((Unit) ⊕ (((Unit) ⊕ (((Unit) ⊕ (((Unit) ⊕ (((Unit) ⊕ (((Unit) ⊕ (Unit))))))))))))))))))) x0.2.2.1) fun x12 =>
    let x17 := (x0.2.1 == (0 : Int))
    let x18 := (!(x12.2.1 == x17))
    if x18 then (
      some (2 : Int))
    else (
      Option.bind (fact_Fact_days ((x0.1, x0.2.1, x0.2.2.1, x0.2.2.2.1, x0.2.2.2.2.1, x0.2.2.2.2.2.1, x0.2.2.2.2.2.2.1, x0.2.2.2.2.2.2.2), (x12.1, x12.2.1, x12.2.2.1, x12.2.2.2.1, x12.2.2.2.2.1, x12.2.2.2.2.2.1, x12.2.2.2.2.2.2))) fun x21 =>
      let x23 := (x21 != (0 : Int))
      if x23 then (
        some x21)
      else (
        Option.bind (match x12.2.2.2.1 with | Sum.inl c110 => (fact_empty x0.2.2.2.2.2.1).map (fun v109 => v109) | Sum.inr c111 => (match c111 with | Sum.inl c113 => (fact_rules_1 x0.2.2.2.2.2.1).map (fun v112 => v112) | Sum.inr c114 => (match c114 with | Sum.inl c116 => (fact_absence x0.2.2.2.2.2.1).map (fun v115 => v115) | Sum.inr c117 => (match c117 with | Sum.inl c119 => (fact_isName x0.2.2.2.2.2.1).map (fun v118 => v118) | Sum.inr c120 => (none))))) fun x30 =>
        let x31 := (!x30)
        if x31 then (
          some (12 : Int))
        else (
          let x37 := (decide (x0.2.2.2.2.2.2.1 < x12.2.2.2.2.1))
          let x39 := (if x37 = false then some () else none)
          Option.bind (if x37 = false then (x39.map (fun z133 => x0.2.2.2.2.2.2.1)).map some else some none) fun x40 =>
          let x41 := (if x37 = false then some () else none)
          Option.bind (if x37 = false then (x41.map (fun z134 => x12.2.2.2.2.2.1)).map some else some none) fun x42 =>
          Option.bind (if x37 = false then ((x40.bind (fun z135 => x42.map (fun z136 => (z135, z136)))).map (fun z137 => (decide (z137.1 > z137.2)))).map some else some none) fun x43 =>
          Option.bind (if x37 then some true else x43.map (fun z138 => z138)) fun x44 =>
          if x44 then (
            some (2 : Int))
          else (
            let x48 := (x0.2.2.2.2.2.2.2.length : Int)
            let x49 := (decide (x48 > (4096 : Int)))
            if x49 then (
              some (4 : Int))
            else (
              Option.bind (match x12.2.2.2.2.2.2 with | Sum.inl c188 => (fact_silent (x0.1, x0.2.1, x0.2.2.1, x0.2.2.2.1, x0.2.2.2.2.1, x0.2.2.2.2.2.1, x0.2.2.2.2.2.2.1, x0.2.2.2.2.2.2.2)).map (fun v187 => v187) | Sum.inr c189 => (match c189 with | Sum.inl c191 => (fact_weekly (x0.1, x0.2.1, x0.2.2.1, x0.2.2.2.1, x0.2.2.2.2.1, x0.2.2.2.2.2.1, x0.2.2.2.2.2.2.1, x0.2.2.2.2.2.2.2)).map (fun v190 => v190) | Sum.inr c192 => (match c192 with | Sum.inl c194 => (fact_rules_5 (x0.1, x0.2.1, x0.2.2.1, x0.2.2.2.1, x0.2.2.2.2.1, x0.2.2.2.2.2.1, x0.2.2.2.2.2.2.1, x0.2.2.2.2.2.2.2)).map (fun v193 => v193) | Sum.inr c195 => (match c195 with | Sum.inl c197 => (fact_night (x0.1, x0.2.1, x0.2.2.1, x0.2.2.2.1, x0.2.2.2.2.1, x0.2.2.2.2.2.1, x0.2.2.2.2.2.2.1, x0.2.2.2.2.2.2.2)).map (fun v196 => v196) | Sum.inr c198 => (match c198 with | Sum.inl c200 => (fact_rules_2 (x0.1, x0.2.1, x0.2.2.1, x0.2.2.2.1, x0.2.2.2.2.1, x0.2.2.2.2.2.1, x0.2.2.2.2.2.2.1, x0.2.2.2.2.2.2.2)).map (fun v199 => v199) | Sum.inr c201 => (match c201 with | Sum.inl c203 => (fact_rules_6 (x0.1, x0.2.1, x0.2.2.1, x0.2.2.2.1, x0.2.2.2.2.1, x0.2.2.2.2.2.1, x0.2.2.2.2.2.2.1, x0.2.2.2.2.2.2.2)).map (fun v202 => v202) | Sum.inr c204 => (match c204 with | Sum.inl c206 => (fact_rules_3 (x0.1, x0.2.1, x0.2.2.1, x0.2.2.2.1, x0.2.2.2.2.1, x0.2.2.2.2.2.1, x0.2.2.2.2.2.2.1, x0.2.2.2.2.2.2.2)).map (fun v205 => v205) | Sum.inr c207 => (match c207 with | Sum.inl c209 => (fact_rules_4 (x0.1, x0.2.1, x0.2.2.1, x0.2.2.2.1, x0.2.2.2.2.1, x0.2.2.2.2.2.1, x0.2.2.2.2.2.2.1, x0.2.2.2.2.2.2.2)).map (fun v208 => v208) | Sum.inr c210 => (none))))))))) fun x54 =>
              let x55 := (!x54)
              if x55 then (
                some (3 : Int))
              else (
                some (0 : Int))))))))
noncomputable def before_name (a : (List UInt8)) : Option (Bool) :=
  let x0 := a
  Option.bind (fact_Fact_Check ((0 : Int), (1 : Int), (13 : Int), (0 : Int), (0 : Int), ([] : List UInt8), (0 : Int), x0)) fun x5 =>
  let x6 := (x5 == (0 : Int))
  some x6
noncomputable def before_right (a : Int) : Option (Bool) :=
  let x0 := a
  let x4 := (decide (x0 ≥ (0 : Int)))
  let x6 := (if x4 = true then some x0 else none)
  Option.bind (if x4 = true then ((x6.bind (fun z7 => some (z7, (1125899906842624 : Int)))).map (fun z9 => (decide (z9.1 ≤ z9.2)))).map some else some none) fun x7 =>
  Option.bind (if x4 then x7 else some false) fun x8 =>
  some x8
noncomputable def before_bounds_loop1 (s : (List ((List UInt8) × Int × Int)) × (Int) × (Int) × (List ((List UInt8) × ((List UInt8) × Int × Int))) × (Unit) × Unit) : Option (((List ((List UInt8) × Int × Int)) × (Int) × (Int) × (List ((List UInt8) × ((List UInt8) × Int × Int))) × (Unit) × Unit) ⊕ (((List ((List UInt8) × ((List UInt8) × Int × Int))) × (Unit) × Unit) ⊕ ((List ((List UInt8) × ((List UInt8) × Int × Int))) × Int))) :=
  let x13 := s.1
  let x14 := s.2.1
  let x15 := s.2.2.1
  let l12 := s.2.2.2.1
  let x16 := (decide (x15 < x14))
  if x16 then (
    Option.bind ((lAt x13 x15).map (fun y => y)) fun x17 =>
    let x23 := alGet (eqZ .str) (zeroT (.agg (.cons .str (.cons (.int .i64) (.one (.int .i64)))))) x17.1 l12
    Option.bind (before_name x17.1) fun x29 =>
    let x30 := (!x29)
    if x30 then (
      some (Sum.inr (Sum.inr (([] : List ((List UInt8) × ((List UInt8) × Int × Int))), (12 : Int)))))
    else (
      if x23.2 then (
        some (Sum.inr (Sum.inr (([] : List ((List UInt8) × ((List UInt8) × Int × Int))), (7 : Int)))))
      else (
        Option.bind (show Option (((List ((List UInt8) × Int × Int)) × (Int) × (Int) × (Bool) × (List UInt8) × (Int) × (Int) × (List ((List UInt8) × ((List UInt8) × Int × Int))) × (Unit) × (Unit) × (Unit) × Unit)) from (
          let x36 := (decide (x17.2.1 < (0 : Int)))
          if x36 then (
            some (x13, x14, x15, x36, x17.1, x17.2.1, x17.2.2, l12, (), (), (), ()))
          else (
            let x39 := (decide (x17.2.1 > (1000000 : Int)))
            if x39 then (
              some (x13, x14, x15, x39, x17.1, x17.2.1, x17.2.2, l12, (), (), (), ()))
            else (
              Option.bind (before_right x17.2.2) fun x42 =>
              let x43 := (!x42)
              some (x13, x14, x15, x43, x17.1, x17.2.1, x17.2.2, l12, (), (), (), ()))))) fun o =>
        let x13 := o.1
        let x14 := o.2.1
        let x15 := o.2.2.1
        let x33 := o.2.2.2.1
        let c6_0 := o.2.2.2.2.1
        let c6_1 := o.2.2.2.2.2.1
        let c6_2 := o.2.2.2.2.2.2.1
        let l12 := o.2.2.2.2.2.2.2.1
        if x33 then (
          some (Sum.inr (Sum.inr (([] : List ((List UInt8) × ((List UInt8) × Int × Int))), (2 : Int)))))
        else (
          let l12 := alPut (eqZ .str) c6_0 (c6_0, c6_1, c6_2) l12
          let x48 := IntKind.i64.wrap (x15 + (1 : Int))
          some (Sum.inl (x13, x14, x48, l12, (), ()))))))
  else (
    some (Sum.inr (Sum.inl (l12, (), ()))))
noncomputable def before_bounds (a : (List ((List UInt8) × Int × Int))) : Option ((List ((List UInt8) × ((List UInt8) × Int × Int))) × Int) :=
  let x0 := a
  let x10 := (x0.length : Int)
  let x11 := (decide (x10 > (64 : Int)))
  if x11 then (
    some (([] : List ((List UInt8) × ((List UInt8) × Int × Int))), (5 : Int)))
  else (
    let x14 := (x0.length : Int)
    Option.bind (iter before_bounds_loop1 (x0, x14, (0 : Int), ([] : List ((List UInt8) × ((List UInt8) × Int × Int))), (), ())) fun o =>
    match o with
    | Sum.inl p1 => (
      let l12 := p1.1
      some (l12, (0 : Int)))
    | Sum.inr q2 => (
      some q2))
noncomputable def cents_Greatest (a : Int × Int) : Option (Int) :=
  let x0 := a.1
  let x1 := a.2
  let x7 := (max x0 x1)
  some x7
noncomputable def cents_Least (a : Int × Int) : Option (Int) :=
  let x0 := a.1
  let x1 := a.2
  let x7 := (min x0 x1)
  some x7
noncomputable def rate_amount (a : Int) : Option (Bool) :=
  let x0 := a
  let x4 := (decide (x0 ≥ (-1125899906842624 : Int)))
  let x6 := (if x4 = true then some x0 else none)
  Option.bind (if x4 = true then ((x6.bind (fun z7 => some (z7, (1125899906842624 : Int)))).map (fun z9 => (decide (z9.1 ≤ z9.2)))).map some else some none) fun x7 =>
  Option.bind (if x4 then x7 else some false) fun x8 =>
  some x8
noncomputable def rate_right (a : Int) : Option (Bool) :=
  let x0 := a
  let x4 := (decide (x0 ≥ (-1000000000 : Int)))
  let x6 := (if x4 = true then some x0 else none)
  Option.bind (if x4 = true then ((x6.bind (fun z7 => some (z7, (1000000000 : Int)))).map (fun z9 => (decide (z9.1 ≤ z9.2)))).map some else some none) fun x7 =>
  Option.bind (if x4 then x7 else some false) fun x8 =>
  some x8
noncomputable def rate_size (a : Int) : Option (Int) :=
  let x0 := a
  let x4 := (decide (x0 < (0 : Int)))
  if x4 then (
    let x6 := IntKind.u64.wrap x0
    let x7 := IntKind.u64.wrap (0 - x6)
    some x7)
  else (
    let x9 := IntKind.u64.wrap x0
    some x9)
noncomputable def math_bits_Mul64 (a : Int × Int) : Option (Int × Int) :=
  let x0 := a.1
  let x1 := a.2
  let x15 := bitZ .and .u64 x0 (4294967295 : Int)
  Option.bind (if (32 : Int) < 0 then none else some (x0.fdiv (2 ^ (min (32 : Int).toNat 64)))) fun x17 =>
  let x19 := bitZ .and .u64 x1 (4294967295 : Int)
  Option.bind (if (32 : Int) < 0 then none else some (x1.fdiv (2 ^ (min (32 : Int).toNat 64)))) fun x21 =>
  let x24 := IntKind.u64.wrap (x15 * x19)
  let x27 := IntKind.u64.wrap (x17 * x19)
  Option.bind (if (32 : Int) < 0 then none else some (x24.fdiv (2 ^ (min (32 : Int).toNat 64)))) fun x29 =>
  let x30 := IntKind.u64.wrap (x27 + x29)
  let x32 := bitZ .and .u64 x30 (4294967295 : Int)
  Option.bind (if (32 : Int) < 0 then none else some (x30.fdiv (2 ^ (min (32 : Int).toNat 64)))) fun x34 =>
  let x38 := IntKind.u64.wrap (x15 * x21)
  let x39 := IntKind.u64.wrap (x32 + x38)
  let x42 := IntKind.u64.wrap (x17 * x21)
  let x44 := IntKind.u64.wrap (x42 + x34)
  Option.bind (if (32 : Int) < 0 then none else some (x39.fdiv (2 ^ (min (32 : Int).toNat 64)))) fun x46 =>
  let x47 := IntKind.u64.wrap (x44 + x46)
  let x50 := IntKind.u64.wrap (x0 * x1)
  some (x47, x50)
noncomputable def math_bits_Len64 (a : Int) : Option (Int) :=
  let x0 := a
  Option.bind (show Option (((Int) × (Int) × Unit)) from (
    let x4 := (decide (x0 ≥ (4294967296 : Int)))
    if x4 then (
      Option.bind (if (32 : Int) < 0 then none else some (x0.fdiv (2 ^ (min (32 : Int).toNat 64)))) fun x6 =>
      some (x6, (32 : Int), ()))
    else (
      some (x0, (0 : Int), ())))) fun o =>
  let x0 := o.1
  let x2 := o.2.1
  Option.bind (show Option (((Int) × (Int) × Unit)) from (
    let x8 := (decide (x0 ≥ (65536 : Int)))
    if x8 then (
      Option.bind (if (16 : Int) < 0 then none else some (x0.fdiv (2 ^ (min (16 : Int).toNat 64)))) fun x10 =>
      let x12 := IntKind.i64.wrap (x2 + (16 : Int))
      some (x10, x12, ()))
    else (
      some (x0, x2, ())))) fun o =>
  let x0 := o.1
  let x2 := o.2.1
  Option.bind (show Option (((Int) × (Int) × Unit)) from (
    let x14 := (decide (x0 ≥ (256 : Int)))
    if x14 then (
      Option.bind (if (8 : Int) < 0 then none else some (x0.fdiv (2 ^ (min (8 : Int).toNat 64)))) fun x16 =>
      let x18 := IntKind.i64.wrap (x2 + (8 : Int))
      some (x16, x18, ()))
    else (
      some (x0, x2, ())))) fun o =>
  let x0 := o.1
  let x2 := o.2.1
  let x21 := IntKind.u8.wrap x0
  Option.bind (sAt ([0, 1, 2, 2, 3, 3, 3, 3, 4, 4, 4, 4, 4, 4, 4, 4, 5, 5, 5, 5, 5, 5, 5, 5, 5, 5, 5, 5, 5, 5, 5, 5, 6, 6, 6, 6, 6, 6, 6, 6, 6, 6, 6, 6, 6, 6, 6, 6, 6, 6, 6, 6, 6, 6, 6, 6, 6, 6, 6, 6, 6, 6, 6, 6, 7, 7, 7, 7, 7, 7, 7, 7, 7, 7, 7, 7, 7, 7, 7, 7, 7, 7, 7, 7, 7, 7, 7, 7, 7, 7, 7, 7, 7, 7, 7, 7, 7, 7, 7, 7, 7, 7, 7, 7, 7, 7, 7, 7, 7, 7, 7, 7, 7, 7, 7, 7, 7, 7, 7, 7, 7, 7, 7, 7, 7, 7, 7, 7, 8, 8, 8, 8, 8, 8, 8, 8, 8, 8, 8, 8, 8, 8, 8, 8, 8, 8, 8, 8, 8, 8, 8, 8, 8, 8, 8, 8, 8, 8, 8, 8, 8, 8, 8, 8, 8, 8, 8, 8, 8, 8, 8, 8, 8, 8, 8, 8, 8, 8, 8, 8, 8, 8, 8, 8, 8, 8, 8, 8, 8, 8, 8, 8, 8, 8, 8, 8, 8, 8, 8, 8, 8, 8, 8, 8, 8, 8, 8, 8, 8, 8, 8, 8, 8, 8, 8, 8, 8, 8, 8, 8, 8, 8, 8, 8, 8, 8, 8, 8, 8, 8, 8, 8, 8, 8, 8, 8, 8, 8, 8, 8, 8, 8, 8, 8, 8, 8, 8, 8, 8, 8, 8, 8, 8, 8, 8, 8] : List UInt8) x21) fun x22 =>
  let x23 := IntKind.i64.wrap x22
  let x24 := IntKind.i64.wrap (x2 + x23)
  some x24
noncomputable def math_bits_LeadingZeros64 (a : Int) : Option (Int) :=
  let x0 := a
  Option.bind (math_bits_Len64 x0) fun x4 =>
  let x5 := IntKind.i64.wrap ((64 : Int) - x4)
  some x5
noncomputable def math_bits_Div64_loop1 (s : (Int) × (Int) × (Int) × (Int) × (Int) × (Int) × (Int) × (Int) × (Int) × Unit) : Option (((Int) × (Int) × (Int) × (Int) × (Int) × (Int) × (Int) × (Int) × (Int) × Unit) ⊕ (((Int) × (Int) × (Int) × (Int) × (Int) × (Int) × (Int) × (Int) × Unit))) :=
  let x2 := s.1
  let x8 := s.2.1
  let x9 := s.2.2.1
  let x10 := s.2.2.2.1
  let x11 := s.2.2.2.2.1
  let x13 := s.2.2.2.2.2.1
  let x14 := s.2.2.2.2.2.2.1
  let x15 := s.2.2.2.2.2.2.2.1
  let x16 := s.2.2.2.2.2.2.2.2.1
  let x68 := (decide (x15 ≥ (4294967296 : Int)))
  let x70 := (if x68 = false then some x15 else none)
  let x71 := (if x68 = false then some x10 else none)
  Option.bind (if x68 = false then ((x70.bind (fun z157 => x71.map (fun z158 => (z157, z158)))).map (fun z159 => IntKind.u64.wrap (z159.1 * z159.2))).map some else some none) fun x72 =>
  let x73 := (if x68 = false then some x16 else none)
  Option.bind (if x68 = false then ((x73.map (fun z161 => ((4294967296 : Int), z161))).map (fun z162 => IntKind.u64.wrap (z162.1 * z162.2))).map some else some none) fun x74 =>
  let x75 := (if x68 = false then some x13 else none)
  Option.bind (if x68 = false then ((x74.bind (fun z163 => x75.map (fun z164 => (z163, z164)))).map (fun z165 => IntKind.u64.wrap (z165.1 + z165.2))).map some else some none) fun x76 =>
  Option.bind (if x68 = false then ((x72.bind (fun z166 => x76.map (fun z167 => (z166, z167)))).map (fun z168 => (decide (z168.1 > z168.2)))).map some else some none) fun x77 =>
  Option.bind (if x68 then some true else x77.map (fun z169 => z169)) fun x78 =>
  if x78 then (
    let x80 := IntKind.u64.wrap (x15 - (1 : Int))
    let x83 := IntKind.u64.wrap (x16 + x9)
    let x85 := (decide (x83 ≥ (4294967296 : Int)))
    if x85 then (
      some (Sum.inr (x2, x8, x9, x10, x11, x13, x14, x80, ())))
    else (
      some (Sum.inl (x2, x8, x9, x10, x11, x13, x14, x80, x83, ()))))
  else (
    some (Sum.inr (x2, x8, x9, x10, x11, x13, x14, x15, ())))
noncomputable def math_bits_Div64_loop2 (s : (Int) × (Int) × (Int) × (Int) × (Int) × (Int) × (Int) × (Int) × (Int) × Unit) : Option (((Int) × (Int) × (Int) × (Int) × (Int) × (Int) × (Int) × (Int) × (Int) × Unit) ⊕ (((Int) × (Int) × (Int) × (Int) × (Int) × (Int) × Unit))) :=
  let x2 := s.1
  let x8 := s.2.1
  let x9 := s.2.2.1
  let x10 := s.2.2.2.1
  let x14 := s.2.2.2.2.1
  let x15 := s.2.2.2.2.2.1
  let x16 := s.2.2.2.2.2.2.1
  let x17 := s.2.2.2.2.2.2.2.1
  let x18 := s.2.2.2.2.2.2.2.2.1
  let x103 := (decide (x18 ≥ (4294967296 : Int)))
  let x105 := (if x103 = false then some x18 else none)
  let x106 := (if x103 = false then some x10 else none)
  Option.bind (if x103 = false then ((x105.bind (fun z326 => x106.map (fun z327 => (z326, z327)))).map (fun z328 => IntKind.u64.wrap (z328.1 * z328.2))).map some else some none) fun x107 =>
  let x108 := (if x103 = false then some x16 else none)
  Option.bind (if x103 = false then ((x108.map (fun z330 => ((4294967296 : Int), z330))).map (fun z331 => IntKind.u64.wrap (z331.1 * z331.2))).map some else some none) fun x109 =>
  let x110 := (if x103 = false then some x14 else none)
  Option.bind (if x103 = false then ((x109.bind (fun z332 => x110.map (fun z333 => (z332, z333)))).map (fun z334 => IntKind.u64.wrap (z334.1 + z334.2))).map some else some none) fun x111 =>
  Option.bind (if x103 = false then ((x107.bind (fun z335 => x111.map (fun z336 => (z335, z336)))).map (fun z337 => (decide (z337.1 > z337.2)))).map some else some none) fun x112 =>
  Option.bind (if x103 then some true else x112.map (fun z338 => z338)) fun x113 =>
  if x113 then (
    let x115 := IntKind.u64.wrap (x18 - (1 : Int))
    let x118 := IntKind.u64.wrap (x16 + x9)
    let x120 := (decide (x118 ≥ (4294967296 : Int)))
    if x120 then (
      some (Sum.inr (x2, x8, x14, x15, x17, x115, ())))
    else (
      some (Sum.inl (x2, x8, x9, x10, x14, x15, x118, x17, x115, ()))))
  else (
    some (Sum.inr (x2, x8, x14, x15, x17, x18, ())))
noncomputable def math_bits_Div64 (a : Int × Int × Int) : Option (Int × Int) :=
  let x0 := a.1
  let x1 := a.2.1
  let x2 := a.2.2
  let x20 := (x2 == (0 : Int))
  if x20 then (
    none)
  else (
    let x24 := (decide (x2 ≤ x0))
    if x24 then (
      none)
    else (
      let x27 := (x0 == (0 : Int))
      if x27 then (
        Option.bind (if x2 = 0 then none else some (IntKind.u64.wrap (x1.tdiv x2))) fun x30 =>
        Option.bind (if x2 = 0 then none else some (x1.tmod x2)) fun x33 =>
        some (x30, x33))
      else (
        Option.bind (math_bits_LeadingZeros64 x2) fun x35 =>
        let x36 := IntKind.u64.wrap x35
        Option.bind (if x36 < 0 then none else some (IntKind.u64.wrap (x2 * 2 ^ (min x36.toNat 64)))) fun x39 =>
        Option.bind (if (32 : Int) < 0 then none else some (x39.fdiv (2 ^ (min (32 : Int).toNat 64)))) fun x41 =>
        let x43 := bitZ .and .u64 x39 (4294967295 : Int)
        Option.bind (if x36 < 0 then none else some (IntKind.u64.wrap (x0 * 2 ^ (min x36.toNat 64)))) fun x46 =>
        let x49 := IntKind.u64.wrap ((64 : Int) - x36)
        Option.bind (if x49 < 0 then none else some (x1.fdiv (2 ^ (min x49.toNat 64)))) fun x50 =>
        let x51 := bitZ .or .u64 x46 x50
        Option.bind (if x36 < 0 then none else some (IntKind.u64.wrap (x1 * 2 ^ (min x36.toNat 64)))) fun x54 =>
        Option.bind (if (32 : Int) < 0 then none else some (x54.fdiv (2 ^ (min (32 : Int).toNat 64)))) fun x56 =>
        let x58 := bitZ .and .u64 x54 (4294967295 : Int)
        Option.bind (if x41 = 0 then none else some (IntKind.u64.wrap (x51.tdiv x41))) fun x61 =>
        let x65 := IntKind.u64.wrap (x61 * x41)
        let x66 := IntKind.u64.wrap (x51 - x65)
        Option.bind (show Option (((Int) × (Int) × (Int) × (Int) × (Int) × (Int) × (Int) × (Int) × Unit)) from (
          Option.bind (iter math_bits_Div64_loop1 (x39, x36, x41, x43, x51, x56, x58, x61, x66, ())) fun o =>
          let x2 := o.1
          let x8 := o.2.1
          let x9 := o.2.2.1
          let x10 := o.2.2.2.1
          let x11 := o.2.2.2.2.1
          let x13 := o.2.2.2.2.2.1
          let x14 := o.2.2.2.2.2.2.1
          let x15 := o.2.2.2.2.2.2.2.1
          some (x2, x8, x9, x10, x11, x13, x14, x15, ()))) fun o =>
        let x2 := o.1
        let x8 := o.2.1
        let x9 := o.2.2.1
        let x10 := o.2.2.2.1
        let x11 := o.2.2.2.2.1
        let x13 := o.2.2.2.2.2.1
        let x14 := o.2.2.2.2.2.2.1
        let x15 := o.2.2.2.2.2.2.2.1
        let x87 := IntKind.u64.wrap (x11 * (4294967296 : Int))
        let x89 := IntKind.u64.wrap (x87 + x13)
        let x92 := IntKind.u64.wrap (x15 * x2)
        let x93 := IntKind.u64.wrap (x89 - x92)
        Option.bind (if x9 = 0 then none else some (IntKind.u64.wrap (x93.tdiv x9))) fun x96 =>
        let x100 := IntKind.u64.wrap (x96 * x9)
        let x101 := IntKind.u64.wrap (x93 - x100)
        Option.bind (show Option (((Int) × (Int) × (Int) × (Int) × (Int) × (Int) × Unit)) from (
          Option.bind (iter math_bits_Div64_loop2 (x2, x8, x9, x10, x14, x15, x101, x93, x96, ())) fun o =>
          let x2 := o.1
          let x8 := o.2.1
          let x14 := o.2.2.1
          let x15 := o.2.2.2.1
          let x17 := o.2.2.2.2.1
          let x18 := o.2.2.2.2.2.1
          some (x2, x8, x14, x15, x17, x18, ()))) fun o =>
        let x2 := o.1
        let x8 := o.2.1
        let x14 := o.2.2.1
        let x15 := o.2.2.2.1
        let x17 := o.2.2.2.2.1
        let x18 := o.2.2.2.2.2.1
        let x122 := IntKind.u64.wrap (x15 * (4294967296 : Int))
        let x124 := IntKind.u64.wrap (x122 + x18)
        let x126 := IntKind.u64.wrap (x17 * (4294967296 : Int))
        let x128 := IntKind.u64.wrap (x126 + x14)
        let x131 := IntKind.u64.wrap (x18 * x2)
        let x132 := IntKind.u64.wrap (x128 - x131)
        Option.bind (if x8 < 0 then none else some (x132.fdiv (2 ^ (min x8.toNat 64)))) fun x134 =>
        some (x124, x134))))
noncomputable def rate_up (a : Bool × Int × Int × Int × Int) : Option (Bool) :=
  let x0 := a.1
  let x1 := a.2.1
  let x2 := a.2.2.1
  let x3 := a.2.2.2.1
  let x4 := a.2.2.2.2
  Option.bind (show Option (((Bool) × Unit)) from (
    Option.bind (show Option (((Int) × (Int) × Unit) ⊕ ((Bool) × Unit)) from (
      Option.bind (show Option (((Int) × Unit) ⊕ ((Int) × (Int) × (Int) × Unit) ⊕ ((Int) × (Int) × Unit) ⊕ ((Bool) × Unit)) from (
        let x14 := (x4 == (4 : Int))
        if x14 then (
          let x22 := (!x0)
          if x22 then (
            some (Sum.inr (Sum.inr (Sum.inr (false, ())))))
          else (
            some (Sum.inl (x2, ()))))
        else (
          let x16 := (x4 == (3 : Int))
          if x16 then (
            some (Sum.inl (x2, ())))
          else (
            let x18 := (x4 == (2 : Int))
            if x18 then (
              some (Sum.inr (Sum.inl (x1, x2, x3, ()))))
            else (
              let x20 := (x4 == (1 : Int))
              if x20 then (
                some (Sum.inr (Sum.inr (Sum.inl (x2, x3, ())))))
              else (
                some (Sum.inr (Sum.inr (Sum.inr (false, ())))))))))) fun o =>
      match o with
      | Sum.inl p1 => (
        let x2 := p1.1
        let x24 := (decide (x2 > (0 : Int)))
        some (Sum.inr (x24, ())))
      | Sum.inr q2 => (
        match q2 with
        | Sum.inl p3 => (
          let x1 := p3.1
          let x2 := p3.2.1
          let x3 := p3.2.2.1
          let x28 := IntKind.u64.wrap (x3 - x2)
          let x29 := (x2 == x28)
          if x29 then (
            Option.bind (if (2 : Int) = 0 then none else some (x1.tmod (2 : Int))) fun x31 =>
            let x32 := (x31 == (1 : Int))
            some (Sum.inr (x32, ())))
          else (
            some (Sum.inl (x2, x3, ()))))
        | Sum.inr q4 => (
          match q4 with
          | Sum.inl p5 => (
            let x2 := p5.1
            let x3 := p5.2.1
            some (Sum.inl (x2, x3, ())))
          | Sum.inr q6 => (
            let x11 := q6.1
            some (Sum.inr (x11, ()))))))) fun o =>
    match o with
    | Sum.inl p7 => (
      let x2 := p7.1
      let x3 := p7.2.1
      let x36 := IntKind.u64.wrap (x3 - x2)
      let x37 := (decide (x2 ≥ x36))
      some (x37, ()))
    | Sum.inr q8 => (
      let x11 := q8.1
      some (x11, ())))) fun o =>
  let x11 := o.1
  some x11
noncomputable def rate_quotient (a : Int × Int × Int × Int × Int) : Option (Int × Bool) :=
  let x0 := a.1
  let x1 := a.2.1
  let x2 := a.2.2.1
  let x3 := a.2.2.2.1
  let x4 := a.2.2.2.2
  let x18 := (decide (x0 < (0 : Int)))
  let x20 := (decide (x1 < (0 : Int)))
  let x21 := (!(x18 == x20))
  Option.bind (rate_size x0) fun x24 =>
  Option.bind (rate_size x1) fun x26 =>
  Option.bind (math_bits_Mul64 (x24, x26)) fun x27 =>
  let x32 := (decide (x27.1 ≥ x2))
  if x32 then (
    some ((0 : Int), false))
  else (
    Option.bind (math_bits_Div64 (x27.1, x27.2, x2)) fun x37 =>
    let x42 := (decide (x37.1 > x3))
    if x42 then (
      some ((0 : Int), false))
    else (
      Option.bind (show Option (((Int) × (Bool) × (Int) × Unit)) from (
        Option.bind (rate_up (x21, x37.1, x37.2, x2, x4)) fun x48 =>
        if x48 then (
          let x50 := IntKind.u64.wrap (x37.1 + (1 : Int))
          some (x3, x21, x50, ()))
        else (
          some (x3, x21, x37.1, ())))) fun o =>
      let x3 := o.1
      let x12 := o.2.1
      let x15 := o.2.2.1
      let x53 := (decide (x15 > x3))
      if x53 then (
        some ((0 : Int), false))
      else (
        if x12 then (
          let x56 := IntKind.i64.wrap x15
          let x57 := IntKind.i64.wrap (0 - x56)
          some (x57, true))
        else (
          let x59 := IntKind.i64.wrap x15
          some (x59, true)))))
noncomputable def rate_Part (a : Int × Int × Int × Int) : Option (Int × Int) :=
  let x0 := a.1
  let x1 := a.2.1
  let x2 := a.2.2.1
  let x3 := a.2.2.2
  Option.bind (rate_amount x0) fun x14 =>
  let x15 := (!x14)
  if x15 then (
    some ((0 : Int), (2 : Int)))
  else (
    let x18 := (x2 == (0 : Int))
    if x18 then (
      some ((0 : Int), (22 : Int)))
    else (
      let x21 := (decide (x2 < (0 : Int)))
      if x21 then (
        some ((0 : Int), (2 : Int)))
      else (
        let x24 := (decide (x3 < (0 : Int)))
        let x26 := (if x24 = false then some x3 else none)
        Option.bind (if x24 = false then ((x26.bind (fun z17 => some (z17, (4 : Int)))).map (fun z19 => (decide (z19.1 > z19.2)))).map some else some none) fun x27 =>
        Option.bind (if x24 then some true else x27.map (fun z20 => z20)) fun x28 =>
        if x28 then (
          some ((0 : Int), (11 : Int)))
        else (
          let x33 := IntKind.u64.wrap x2
          Option.bind (rate_quotient (x0, x1, x33, (1125899906842624 : Int), x3)) fun x35 =>
          let x39 := (!x35.2)
          if x39 then (
            some ((0 : Int), (9 : Int)))
          else (
            some (x35.1, (0 : Int)))))))
noncomputable def rate_Of (a : Int × Int × Int) : Option (Int × Int) :=
  let x0 := a.1
  let x1 := a.2.1
  let x2 := a.2.2
  Option.bind (rate_amount x0) fun x9 =>
  let x10 := (!x9)
  let x12 := (if x10 = false then some x1 else none)
  Option.bind (if x10 = false then ((x12.map (fun z17 => z17)).bind (fun z18 => rate_right z18)).map some else some none) fun x13 =>
  Option.bind (if x10 = false then (x13.map (fun z19 => (!z19))).map some else some none) fun x14 =>
  Option.bind (if x10 then some true else x14.map (fun z20 => z20)) fun x15 =>
  if x15 then (
    some ((0 : Int), (2 : Int)))
  else (
    Option.bind (rate_Part (x0, x1, (1000000 : Int), x2)) fun x19 =>
    some (x19.1, x19.2))
noncomputable def before_room (a : Int × ((List UInt8) × Int × Int) × Int × Int) : Option (Int) :=
  let x0 := a.1
  let x1 := a.2.1
  let x2 := a.2.2.1
  let x3 := a.2.2.2
  Option.bind (show Option (((Int) × (Int) × (List UInt8) × (Int) × (Int) × (Unit) × (Unit) × Unit)) from (
    let x15 := (x1.2.1 != (1000000 : Int))
    if x15 then (
      Option.bind (rate_Of (x0, x1.2.1, (1 : Int))) fun x20 =>
      let x26 := IntKind.i64.wrap (x20.1 - x2)
      Option.bind (cents_Least (x0, x26)) fun x27 =>
      some (x3, x27, x1.1, x1.2.1, x1.2.2, (), (), ()))
    else (
      some (x3, x0, x1.1, x1.2.1, x1.2.2, (), (), ())))) fun o =>
  let x3 := o.1
  let x9 := o.2.1
  let c5_0 := o.2.2.1
  let c5_1 := o.2.2.2.1
  let c5_2 := o.2.2.2.2.1
  Option.bind (show Option (((Int) × Unit)) from (
    let x30 := (c5_2 != (0 : Int))
    if x30 then (
      let x35 := IntKind.i64.wrap (c5_2 - x3)
      Option.bind (cents_Least (x9, x35)) fun x36 =>
      some (x36, ()))
    else (
      some (x9, ())))) fun o =>
  let x9 := o.1
  Option.bind (cents_Greatest (x9, (0 : Int))) fun x38 =>
  some x38
noncomputable def before_Take_loop1 (s : (Int) × (List ((List UInt8) × (Int))) × (List ((List UInt8) × ((List UInt8) × Int × Int))) × (Int) × (List ((List UInt8) × Int)) × (Int) × (Int) × (List ((List UInt8) × (Int))) × (List ((List UInt8) × (Int))) × (List ((List UInt8) × Int)) × (Unit) × (Unit) × (Unit) × Unit) : Option (((Int) × (List ((List UInt8) × (Int))) × (List ((List UInt8) × ((List UInt8) × Int × Int))) × (Int) × (List ((List UInt8) × Int)) × (Int) × (Int) × (List ((List UInt8) × (Int))) × (List ((List UInt8) × (Int))) × (List ((List UInt8) × Int)) × (Unit) × (Unit) × (Unit) × Unit) ⊕ (((List ((List UInt8) × (Int))) × (List ((List UInt8) × Int)) × (Unit) × (Unit) × Unit) ⊕ ((List ((List UInt8) × Int)) × (List ((List UInt8) × (Int))) × Int))) :=
  let x0 := s.1
  let x1 := s.2.1
  let x11 := s.2.2.1
  let x14 := s.2.2.2.1
  let x45 := s.2.2.2.2.1
  let x46 := s.2.2.2.2.2.1
  let x47 := s.2.2.2.2.2.2.1
  let l40 := s.2.2.2.2.2.2.2.1
  let l41 := s.2.2.2.2.2.2.2.2.1
  let l1013 := s.2.2.2.2.2.2.2.2.2.1
  let x48 := (decide (x47 < x46))
  if x48 then (
    Option.bind (show Option (((Int) × (List ((List UInt8) × (Int))) × (List ((List UInt8) × ((List UInt8) × Int × Int))) × (Int) × (List ((List UInt8) × Int)) × (Int) × (Int) × (List ((List UInt8) × (Int))) × (List ((List UInt8) × (Int))) × (List ((List UInt8) × Int)) × (Unit) × (Unit) × (Unit) × Unit) ⊕ ((List ((List UInt8) × Int)) × (List ((List UInt8) × (Int))) × Int)) from (
      Option.bind ((lAt x45 x47).map (fun y => y)) fun x49 =>
      Option.bind (before_name x49.1) fun x54 =>
      let x55 := (!x54)
      if x55 then (
        some (Sum.inr (([] : List ((List UInt8) × Int)), ([] : List ((List UInt8) × (Int))), (12 : Int))))
      else (
        Option.bind (show Option (((Int) × (List ((List UInt8) × (Int))) × (List ((List UInt8) × ((List UInt8) × Int × Int))) × (Int) × (List ((List UInt8) × Int)) × (Int) × (Int) × (Bool) × (List UInt8) × (Int) × (List ((List UInt8) × (Int))) × (List ((List UInt8) × (Int))) × (List ((List UInt8) × Int)) × (Unit) × (Unit) × (Unit) × (Unit) × (Unit) × Unit)) from (
          Option.bind (before_right x49.2) fun x59 =>
          let x60 := (!x59)
          if x60 then (
            some (x0, x1, x11, x14, x45, x46, x47, x60, x49.1, x49.2, l40, l41, l1013, (), (), (), (), (), ()))
          else (
            let x64 := (alGet (eqZ .str) (zeroT (.int .i64)) x49.1 x1).1
            Option.bind (before_right x64) fun x65 =>
            let x66 := (!x65)
            some (x0, x1, x11, x14, x45, x46, x47, x66, x49.1, x49.2, l40, l41, l1013, (), (), (), (), (), ())))) fun o =>
        let x0 := o.1
        let x1 := o.2.1
        let x11 := o.2.2.1
        let x14 := o.2.2.2.1
        let x45 := o.2.2.2.2.1
        let x46 := o.2.2.2.2.2.1
        let x47 := o.2.2.2.2.2.2.1
        let x56 := o.2.2.2.2.2.2.2.1
        let c18_0 := o.2.2.2.2.2.2.2.2.1
        let c18_1 := o.2.2.2.2.2.2.2.2.2.1
        let l40 := o.2.2.2.2.2.2.2.2.2.2.1
        let l41 := o.2.2.2.2.2.2.2.2.2.2.2.1
        let l1013 := o.2.2.2.2.2.2.2.2.2.2.2.2.1
        if x56 then (
          some (Sum.inr (([] : List ((List UInt8) × Int)), ([] : List ((List UInt8) × (Int))), (2 : Int))))
        else (
          Option.bind (cents_Least (c18_1, x14)) fun x70 =>
          Option.bind (show Option (((Int) × (List ((List UInt8) × (Int))) × (List ((List UInt8) × ((List UInt8) × Int × Int))) × (Int) × (Int) × (List ((List UInt8) × Int)) × (Int) × (Int) × (List UInt8) × (Int) × (List ((List UInt8) × (Int))) × (List ((List UInt8) × (Int))) × (List ((List UInt8) × Int)) × (Unit) × (Unit) × (Unit) × (Unit) × (Unit) × Unit)) from (
            let x75 := alGet (eqZ .str) (zeroT (.agg (.cons .str (.cons (.int .i64) (.one (.int .i64)))))) c18_0 x11
            if x75.2 then (
              Option.bind (cents_Greatest (x0, (0 : Int))) fun x81 =>
              let x86 := (alGet (eqZ .str) (zeroT (.int .i64)) c18_0 l40).1
              let x90 := (alGet (eqZ .str) (zeroT (.int .i64)) c18_0 l41).1
              Option.bind (before_room (x81, (x75.1.1, x75.1.2.1, x75.1.2.2), x86, x90)) fun x91 =>
              Option.bind (cents_Least (x70, x91)) fun x92 =>
              some (x0, x1, x11, x14, x92, x45, x46, x47, c18_0, c18_1, l40, l41, l1013, (), (), (), (), (), ()))
            else (
              some (x0, x1, x11, x14, x70, x45, x46, x47, c18_0, c18_1, l40, l41, l1013, (), (), (), (), (), ())))) fun o =>
          let x0 := o.1
          let x1 := o.2.1
          let x11 := o.2.2.1
          let x14 := o.2.2.2.1
          let x19 := o.2.2.2.2.1
          let x45 := o.2.2.2.2.2.1
          let x46 := o.2.2.2.2.2.2.1
          let x47 := o.2.2.2.2.2.2.2.1
          let c18_0 := o.2.2.2.2.2.2.2.2.1
          let c18_1 := o.2.2.2.2.2.2.2.2.2.1
          let l40 := o.2.2.2.2.2.2.2.2.2.2.1
          let l41 := o.2.2.2.2.2.2.2.2.2.2.2.1
          let l1013 := o.2.2.2.2.2.2.2.2.2.2.2.2.1
          let x96 := (alGet (eqZ .str) (zeroT (.int .i64)) c18_0 l41).1
          let x98 := IntKind.i64.wrap (x96 + x19)
          Option.bind (before_right x98) fun x99 =>
          let x100 := (!x99)
          if x100 then (
            some (Sum.inr (([] : List ((List UInt8) × Int)), ([] : List ((List UInt8) × (Int))), (9 : Int))))
          else (
            let x103 := IntKind.i64.wrap (x14 - x19)
            let x107 := (alGet (eqZ .str) (zeroT (.int .i64)) c18_0 l40).1
            let x109 := IntKind.i64.wrap (x107 + x19)
            let l40 := alPut (eqZ .str) c18_0 x109 l40
            let x113 := (alGet (eqZ .str) (zeroT (.int .i64)) c18_0 l41).1
            let x115 := IntKind.i64.wrap (x113 + x19)
            let l41 := alPut (eqZ .str) c18_0 x115 l41
            let x117 := (decide (x19 > (0 : Int)))
            if x117 then (
              let l123 := ([(c18_0, x19)] : List ((List UInt8) × Int))
              Option.bind (if ((l1013.length : Int) + (l123.length : Int)) * (24 : Int) ≤ 140737488355328 ∧ (l1013.length : Int) + (l123.length : Int) ≤ 4611686018427387904 then some (l1013 ++ l123) else none) fun l1013 =>
              some (Sum.inl (x0, x1, x11, x103, x45, x46, x47, l40, l41, l1013, (), (), (), ())))
            else (
              some (Sum.inl (x0, x1, x11, x103, x45, x46, x47, l40, l41, l1013, (), (), (), ())))))))) fun o =>
    match o with
    | Sum.inl p1 => (
      let x0 := p1.1
      let x1 := p1.2.1
      let x11 := p1.2.2.1
      let x14 := p1.2.2.2.1
      let x45 := p1.2.2.2.2.1
      let x46 := p1.2.2.2.2.2.1
      let x47 := p1.2.2.2.2.2.2.1
      let l40 := p1.2.2.2.2.2.2.2.1
      let l41 := p1.2.2.2.2.2.2.2.2.1
      let l1013 := p1.2.2.2.2.2.2.2.2.2.1
      let x125 := IntKind.i64.wrap (x47 + (1 : Int))
      some (Sum.inl (x0, x1, x11, x14, x45, x46, x125, l40, l41, l1013, (), (), (), ())))
    | Sum.inr q2 => (
      some (Sum.inr (Sum.inr q2))))
  else (
    some (Sum.inr (Sum.inl (l41, l1013, (), (), ()))))
noncomputable def before_Take (a : Int × (List ((List UInt8) × (Int))) × (List ((List UInt8) × Int)) × (List ((List UInt8) × Int × Int))) : Option ((List ((List UInt8) × Int)) × (List ((List UInt8) × (Int))) × Int) :=
  let x0 := a.1
  let x1 := a.2.1
  let x2 := a.2.2.1
  let x3 := a.2.2.2
  Option.bind (cents_Fits x0) fun x23 =>
  let x24 := (!x23)
  if x24 then (
    some (([] : List ((List UInt8) × Int)), ([] : List ((List UInt8) × (Int))), (2 : Int)))
  else (
    Option.bind (before_bounds x3) fun x27 =>
    let x32 := (x27.2 != (0 : Int))
    if x32 then (
      some (([] : List ((List UInt8) × Int)), ([] : List ((List UInt8) × (Int))), x27.2))
    else (
      let x36 := (x2.length : Int)
      let x37 := (decide (x36 > (64 : Int)))
      if x37 then (
        some (([] : List ((List UInt8) × Int)), ([] : List ((List UInt8) × (Int))), (5 : Int)))
      else (
        Option.bind (cents_Greatest (x0, (0 : Int))) fun x39 =>
        Option.bind (mcopyP ([] : List ((List UInt8) × (Int))) x1) fun l41 =>
        let x46 := (x2.length : Int)
        Option.bind (iter before_Take_loop1 (x0, x1, x27.1, x39, x2, x46, (0 : Int), ([] : List ((List UInt8) × (Int))), l41, ([] : List ((List UInt8) × Int)), (), (), (), ())) fun o =>
        match o with
        | Sum.inl p3 => (
          let l41 := p3.1
          let l1013 := p3.2.1
          some (l1013, l41, (0 : Int)))
        | Sum.inr q4 => (
          some q4))))
noncomputable def before_After_loop1 (s : (Int) × (List ((List UInt8) × Int)) × (Int) × (Int) × (List ((List UInt8) × Int)) × (Unit) × Unit) : Option (((Int) × (List ((List UInt8) × Int)) × (Int) × (Int) × (List ((List UInt8) × Int)) × (Unit) × Unit) ⊕ (((Int) × (List ((List UInt8) × Int)) × (Unit) × Unit))) :=
  let x0 := s.1
  let x10 := s.2.1
  let x11 := s.2.2.1
  let x12 := s.2.2.2.1
  let l1006 := s.2.2.2.2.1
  let x13 := (decide (x12 < x11))
  if x13 then (
    Option.bind (show Option (((Int) × (List ((List UInt8) × Int)) × (Int) × (Int) × (List ((List UInt8) × Int)) × (Unit) × Unit)) from (
      Option.bind ((lAt x10 x12).map (fun y => y)) fun x14 =>
      Option.bind (cents_Least (x14.2, x0)) fun x19 =>
      let x21 := (decide (x19 > (0 : Int)))
      if x21 then (
        let l27 := ([(x14.1, x19)] : List ((List UInt8) × Int))
        Option.bind (if ((l1006.length : Int) + (l27.length : Int)) * (24 : Int) ≤ 140737488355328 ∧ (l1006.length : Int) + (l27.length : Int) ≤ 4611686018427387904 then some (l1006 ++ l27) else none) fun l1006 =>
        let x31 := IntKind.i64.wrap (x0 - x19)
        some (x31, x10, x11, x12, l1006, (), ()))
      else (
        some (x0, x10, x11, x12, l1006, (), ())))) fun o =>
    let x0 := o.1
    let x10 := o.2.1
    let x11 := o.2.2.1
    let x12 := o.2.2.2.1
    let l1006 := o.2.2.2.2.1
    let x32 := IntKind.i64.wrap (x12 + (1 : Int))
    some (Sum.inl (x0, x10, x11, x32, l1006, (), ())))
  else (
    some (Sum.inr (x0, l1006, (), ())))
noncomputable def before_After (a : Int × (List ((List UInt8) × Int))) : Option ((List ((List UInt8) × Int)) × Int) :=
  let x0 := a.1
  let x1 := a.2
  let x11 := (x1.length : Int)
  Option.bind (iter before_After_loop1 (x0, x1, x11, (0 : Int), ([] : List ((List UInt8) × Int)), (), ())) fun o =>
  let x0 := o.1
  let l1006 := o.2.1
  some (l1006, x0)
noncomputable def law25_awake (a : Unit) : Option (Bool) :=
  let l8 := ([(([112, 101, 110, 115, 105, 111, 110] : List UInt8), (30000 : Int))] : List ((List UInt8) × Int))
  let l10 := ([(([112, 101, 110, 115, 105, 111, 110] : List UInt8), (100000 : Int), (0 : Int))] : List ((List UInt8) × Int × Int))
  Option.bind (before_Take ((100000 : Int), ([] : List ((List UInt8) × (Int))), l8, l10)) fun x11 =>
  let l18 := ([(([97] : List UInt8), (3000 : Int)), (([98] : List UInt8), (3000 : Int))] : List ((List UInt8) × Int))
  Option.bind (before_After ((5000 : Int), l18)) fun x19 =>
  let x23 := (x11.2.2 == (0 : Int))
  let x25 := (if x23 = true then some x11.1 else none)
  Option.bind (if x23 = true then (x25.map (fun z67 => (z67.length : Int))).map some else some none) fun x26 =>
  Option.bind (if x23 = true then ((x26.bind (fun z68 => some (z68, (1 : Int)))).map (fun z70 => (z70.1 == z70.2))).map some else some none) fun x27 =>
  Option.bind (if x23 then x27 else some false) fun x28 =>
  let x30 := (if x28 = true then some x11.1 else none)
  Option.bind (if x28 = true then ((x30.bind (fun z71 => some (z71, (0 : Int)))).bind (fun z73 => (lAt z73.1 z73.2).map (fun y => y))).map some else some none) fun x31 =>
  Option.bind (if x28 = true then (x31.map (fun z74 => z74.2)).map some else some none) fun x32 =>
  Option.bind (if x28 = true then (x32.map (fun z75 => z75)).map some else some none) fun x33 =>
  Option.bind (if x28 = true then ((x33.bind (fun z76 => some (z76, (10000 : Int)))).map (fun z78 => (z78.1 == z78.2))).map some else some none) fun x34 =>
  Option.bind (if x28 then x34 else some false) fun x35 =>
  let x37 := (if x35 = true then some x11.2.1 else none)
  Option.bind (if x35 = true then ((x37.bind (fun z79 => some (z79, ([112, 101, 110, 115, 105, 111, 110] : List UInt8)))).map (fun z81 => (alGet (eqZ .str) (zeroT (.int .i64)) z81.2 z81.1).1)).map some else some none) fun x38 =>
  Option.bind (if x35 = true then ((x38.bind (fun z82 => some (z82, (10000 : Int)))).map (fun z84 => (z84.1 == z84.2))).map some else some none) fun x39 =>
  Option.bind (if x35 then x39 else some false) fun x40 =>
  let x42 := (if x40 = true then some x19.1 else none)
  Option.bind (if x40 = true then (x42.map (fun z85 => (z85.length : Int))).map some else some none) fun x43 =>
  Option.bind (if x40 = true then ((x43.bind (fun z86 => some (z86, (2 : Int)))).map (fun z88 => (z88.1 == z88.2))).map some else some none) fun x44 =>
  Option.bind (if x40 then x44 else some false) fun x45 =>
  let x47 := (if x45 = true then some x19.1 else none)
  Option.bind (if x45 = true then ((x47.bind (fun z89 => some (z89, (1 : Int)))).bind (fun z91 => (lAt z91.1 z91.2).map (fun y => y))).map some else some none) fun x48 =>
  Option.bind (if x45 = true then (x48.map (fun z92 => z92.2)).map some else some none) fun x49 =>
  Option.bind (if x45 = true then (x49.map (fun z93 => z93)).map some else some none) fun x50 =>
  Option.bind (if x45 = true then ((x50.bind (fun z94 => some (z94, (2000 : Int)))).map (fun z96 => (z96.1 == z96.2))).map some else some none) fun x51 =>
  Option.bind (if x45 then x51 else some false) fun x52 =>
  let x54 := (if x52 = true then some x19.2 else none)
  Option.bind (if x52 = true then ((x54.bind (fun z97 => some (z97, (0 : Int)))).map (fun z99 => (z99.1 == z99.2))).map some else some none) fun x55 =>
  Option.bind (if x52 then x55 else some false) fun x56 =>
  some x56
noncomputable def law25_table_loop1 (s : (List ((List UInt8) × Int)) × (Int) × (List ((List UInt8) × (Int))) × (List ((List UInt8) × Int)) × (Unit) × (Unit) × Unit) : Option (((List ((List UInt8) × Int)) × (Int) × (List ((List UInt8) × (Int))) × (List ((List UInt8) × Int)) × (Unit) × (Unit) × Unit) ⊕ (((List ((List UInt8) × (Int))) × (List ((List UInt8) × Int)) × (Unit) × (Unit) × Unit))) :=
  let x0 := s.1
  let x6 := s.2.1
  let l9 := s.2.2.1
  let l1005 := s.2.2.2.1
  let x12 := (x0.length : Int)
  let x13 := (decide (x6 < x12))
  if x13 then (
    Option.bind (show Option (((List ((List UInt8) × Int)) × (Int) × (List ((List UInt8) × (Int))) × (List ((List UInt8) × Int)) × (Unit) × (Unit) × Unit)) from (
      Option.bind ((lAt x0 x6).map (fun y => y)) fun x20 =>
      let x23 := alGet (eqZ .str) (zeroT (.int .i64)) x20.1 l9
      let x27 := (!x23.2)
      if x27 then (
        Option.bind ((lAt x0 x6).map (fun y => y)) fun x31 =>
        Option.bind ((lAt x0 x6).map (fun y => y)) fun x36 =>
        let l9 := alPut (eqZ .str) x31.1 x36.2 l9
        Option.bind ((lAt x0 x6).map (fun y => y)) fun x42 =>
        let l44 := ([x42] : List ((List UInt8) × Int))
        Option.bind (if ((l1005.length : Int) + (l44.length : Int)) * (24 : Int) ≤ 140737488355328 ∧ (l1005.length : Int) + (l44.length : Int) ≤ 4611686018427387904 then some (l1005 ++ l44) else none) fun l1005 =>
        some (x0, x6, l9, l1005, (), (), ()))
      else (
        some (x0, x6, l9, l1005, (), (), ())))) fun o =>
    let x0 := o.1
    let x6 := o.2.1
    let l9 := o.2.2.1
    let l1005 := o.2.2.2.1
    let x15 := IntKind.i64.wrap (x6 + (1 : Int))
    some (Sum.inl (x0, x15, l9, l1005, (), (), ())))
  else (
    some (Sum.inr (l9, l1005, (), (), ())))
noncomputable def law25_table (a : (List ((List UInt8) × Int))) : Option ((List ((List UInt8) × (Int))) × (List ((List UInt8) × Int))) :=
  let x0 := a
  Option.bind (iter law25_table_loop1 (x0, (0 : Int), ([] : List ((List UInt8) × (Int))), ([] : List ((List UInt8) × Int)), (), (), ())) fun o =>
  let l9 := o.1
  let l1005 := o.2.1
  some (l9, l1005)
noncomputable def ref25_Name_loop1 (s : (List UInt8) × (Int) × Unit) : Option (((List UInt8) × (Int) × Unit) ⊕ ((Unit) ⊕ (Bool))) :=
  let x0 := s.1
  let x3 := s.2.1
  let x17 := (x0.length : Int)
  let x18 := (decide (x3 < x17))
  if x18 then (
    Option.bind (sAt x0 x3) fun x23 =>
    let x24 := (decide (x23 ≥ (97 : Int)))
    let x26 := (if x24 = true then some x0 else none)
    let x27 := (if x24 = true then some x3 else none)
    Option.bind (if x24 = true then ((x26.bind (fun z538 => x27.map (fun z539 => (z538, z539)))).bind (fun z540 => sAt z540.1 z540.2)).map some else some none) fun x28 =>
    Option.bind (if x24 = true then ((x28.bind (fun z541 => some (z541, (122 : Int)))).map (fun z543 => (decide (z543.1 ≤ z543.2)))).map some else some none) fun x29 =>
    Option.bind (if x24 then x29 else some false) fun x30 =>
    let x32 := (if x30 = false then some x0 else none)
    let x33 := (if x30 = false then some x3 else none)
    Option.bind (if x30 = false then ((x32.bind (fun z544 => x33.map (fun z545 => (z544, z545)))).bind (fun z546 => sAt z546.1 z546.2)).map some else some none) fun x34 =>
    Option.bind (if x30 = false then ((x34.bind (fun z547 => some (z547, (48 : Int)))).map (fun z549 => (decide (z549.1 ≥ z549.2)))).map some else some none) fun x35 =>
    Option.bind (if x30 = false then x35.map some else some none) fun x36 =>
    let x37 := (if x36 = some true then some x0 else none)
    let x38 := (if x36 = some true then some x3 else none)
    Option.bind (if x36 = some true then ((x37.bind (fun z550 => x38.map (fun z551 => (z550, z551)))).bind (fun z552 => sAt z552.1 z552.2)).map some else some none) fun x39 =>
    Option.bind (if x36 = some true then ((x39.bind (fun z553 => some (z553, (57 : Int)))).map (fun z555 => (decide (z555.1 ≤ z555.2)))).map some else some none) fun x40 =>
    Option.bind (if x30 = false then (x36.bind (fun z556 => if z556 then x40 else some false)).map some else some none) fun x41 =>
    Option.bind (if x30 then some true else x41.map (fun z557 => z557)) fun x42 =>
    let x44 := (if x42 = false then some x0 else none)
    let x45 := (if x42 = false then some x3 else none)
    Option.bind (if x42 = false then ((x44.bind (fun z558 => x45.map (fun z559 => (z558, z559)))).bind (fun z560 => sAt z560.1 z560.2)).map some else some none) fun x46 =>
    Option.bind (if x42 = false then ((x46.bind (fun z561 => some (z561, (46 : Int)))).map (fun z563 => (z563.1 == z563.2))).map some else some none) fun x47 =>
    Option.bind (if x42 then some true else x47.map (fun z564 => z564)) fun x48 =>
    let x50 := (if x48 = false then some x0 else none)
    let x51 := (if x48 = false then some x3 else none)
    Option.bind (if x48 = false then ((x50.bind (fun z565 => x51.map (fun z566 => (z565, z566)))).bind (fun z567 => sAt z567.1 z567.2)).map some else some none) fun x52 =>
    Option.bind (if x48 = false then ((x52.bind (fun z568 => some (z568, (95 : Int)))).map (fun z570 => (z570.1 == z570.2))).map some else some none) fun x53 =>
    Option.bind (if x48 then some true else x53.map (fun z571 => z571)) fun x54 =>
    let x56 := (if x54 = false then some x0 else none)
    let x57 := (if x54 = false then some x3 else none)
    Option.bind (if x54 = false then ((x56.bind (fun z572 => x57.map (fun z573 => (z572, z573)))).bind (fun z574 => sAt z574.1 z574.2)).map some else some none) fun x58 =>
    Option.bind (if x54 = false then ((x58.bind (fun z575 => some (z575, (45 : Int)))).map (fun z577 => (z577.1 == z577.2))).map some else some none) fun x59 =>
    Option.bind (if x54 then some true else x59.map (fun z578 => z578)) fun x60 =>
    let x61 := (!x60)
    if x61 then (
      some (Sum.inr (Sum.inr false)))
    else (
      let x20 := IntKind.i64.wrap (x3 + (1 : Int))
      some (Sum.inl (x0, x20, ()))))
  else (
    some (Sum.inr (Sum.inl (()))))
noncomputable def ref25_Name (a : (List UInt8)) : Option (Bool) :=
  let x0 := a
  let x5 := ((x0 == ([] : List UInt8)))
  let x7 := (if x5 = false then some x0 else none)
  Option.bind (if x5 = false then ((x7.bind (fun z37 => some (z37, ([45] : List UInt8)))).map (fun z39 => ((z39.1 == z39.2)))).map some else some none) fun x8 =>
  Option.bind (if x5 then some true else x8.map (fun z40 => z40)) fun x9 =>
  let x11 := (if x9 = false then some x0 else none)
  Option.bind (if x9 = false then (x11.map (fun z41 => (z41.length : Int))).map some else some none) fun x12 =>
  Option.bind (if x9 = false then ((x12.bind (fun z42 => some (z42, (32 : Int)))).map (fun z44 => (decide (z44.1 > z44.2)))).map some else some none) fun x13 =>
  Option.bind (if x9 then some true else x13.map (fun z45 => z45)) fun x14 =>
  if x14 then (
    some false)
  else (
    Option.bind (iter ref25_Name_loop1 (x0, (0 : Int), ())) fun o =>
    match o with
    | Sum.inl p579 => (
      some true)
    | Sum.inr q580 => (
      some q580))
noncomputable def ref25_Check_loop1 (s : (List ((List UInt8) × Int × Int)) × (Int) × (Int) × (List UInt8) × (Int) × (Int) × (Unit) × (Unit) × Unit) : Option (((List ((List UInt8) × Int × Int)) × (Int) × (Int) × (List UInt8) × (Int) × (Int) × (Unit) × (Unit) × Unit) ⊕ (((List ((List UInt8) × Int × Int)) × (Int) × (List UInt8) × (Int) × (Int) × (Unit) × (Unit) × Unit) ⊕ (Int))) :=
  let x0 := s.1
  let x3 := s.2.1
  let x5 := s.2.2.1
  let c4_0 := s.2.2.2.1
  let c4_1 := s.2.2.2.2.1
  let c4_2 := s.2.2.2.2.2.1
  let x25 := (decide (x5 < x3))
  if x25 then (
    Option.bind ((lAt x0 x5).map (fun y => y)) fun x30 =>
    let x35 := ((x30.1 == c4_0))
    if x35 then (
      some (Sum.inr (Sum.inr (7 : Int))))
    else (
      let x27 := IntKind.i64.wrap (x5 + (1 : Int))
      some (Sum.inl (x0, x3, x27, c4_0, c4_1, c4_2, (), (), ()))))
  else (
    some (Sum.inr (Sum.inl (x0, x3, c4_0, c4_1, c4_2, (), (), ()))))
noncomputable def ref25_Check_loop2 (s : (List ((List UInt8) × Int × Int)) × (Int) × Unit) : Option (((List ((List UInt8) × Int × Int)) × (Int) × Unit) ⊕ ((Unit) ⊕ (Int))) :=
  let x0 := s.1
  let x3 := s.2.1
  let x11 := (x0.length : Int)
  let x12 := (decide (x3 < x11))
  if x12 then (
    Option.bind ((lAt x0 x3).map (fun y => y)) fun x17 =>
    Option.bind (ref25_Name x17.1) fun x21 =>
    let x22 := (!x21)
    if x22 then (
      some (Sum.inr (Sum.inr (12 : Int))))
    else (
      Option.bind (iter ref25_Check_loop1 (x0, x3, (0 : Int), x17.1, x17.2.1, x17.2.2, (), (), ())) fun o =>
      match o with
      | Sum.inl p151 => (
        let x0 := p151.1
        let x3 := p151.2.1
        let c4_0 := p151.2.2.1
        let c4_1 := p151.2.2.2.1
        let c4_2 := p151.2.2.2.2.1
        let x38 := (decide (c4_1 < (0 : Int)))
        let x40 := (if x38 = false then some () else none)
        Option.bind (if x38 = false then (x40.map (fun z183 => c4_1)).map some else some none) fun x41 =>
        Option.bind (if x38 = false then ((x41.bind (fun z184 => some (z184, (1000000 : Int)))).map (fun z186 => (decide (z186.1 > z186.2)))).map some else some none) fun x42 =>
        Option.bind (if x38 then some true else x42.map (fun z187 => z187)) fun x43 =>
        let x45 := (if x43 = false then some () else none)
        Option.bind (if x43 = false then (x45.map (fun z188 => c4_2)).map some else some none) fun x46 =>
        Option.bind (if x43 = false then ((x46.bind (fun z189 => some (z189, (0 : Int)))).map (fun z191 => (decide (z191.1 < z191.2)))).map some else some none) fun x47 =>
        Option.bind (if x43 then some true else x47.map (fun z192 => z192)) fun x48 =>
        let x50 := (if x48 = false then some () else none)
        Option.bind (if x48 = false then (x50.map (fun z193 => c4_2)).map some else some none) fun x51 =>
        Option.bind (if x48 = false then ((x51.bind (fun z194 => some (z194, (1125899906842624 : Int)))).map (fun z196 => (decide (z196.1 > z196.2)))).map some else some none) fun x52 =>
        Option.bind (if x48 then some true else x52.map (fun z197 => z197)) fun x53 =>
        if x53 then (
          some (Sum.inr (Sum.inr (2 : Int))))
        else (
          let x14 := IntKind.i64.wrap (x3 + (1 : Int))
          some (Sum.inl (x0, x14, ()))))
      | Sum.inr q152 => (
        some (Sum.inr (Sum.inr q152)))))
  else (
    some (Sum.inr (Sum.inl (()))))
noncomputable def ref25_Check (a : (List ((List UInt8) × Int × Int))) : Option (Int) :=
  let x0 := a
  let x7 := (x0.length : Int)
  let x8 := (decide (x7 > (64 : Int)))
  if x8 then (
    some (5 : Int))
  else (
    Option.bind (iter ref25_Check_loop2 (x0, (0 : Int), ())) fun o =>
    match o with
    | Sum.inl p198 => (
      some (0 : Int))
    | Sum.inr q199 => (
      some q199))
noncomputable def ref25_At_loop1 (s : (List ((List UInt8) × Int)) × (List UInt8) × (Int) × Unit) : Option (((List ((List UInt8) × Int)) × (List UInt8) × (Int) × Unit) ⊕ ((Unit) ⊕ (Int))) :=
  let x0 := s.1
  let x1 := s.2.1
  let x5 := s.2.2.1
  let x8 := (x0.length : Int)
  let x9 := (decide (x5 < x8))
  if x9 then (
    Option.bind ((lAt x0 x5).map (fun y => y)) fun x14 =>
    let x18 := ((x14.1 == x1))
    if x18 then (
      Option.bind ((lAt x0 x5).map (fun y => y)) fun x21 =>
      some (Sum.inr (Sum.inr x21.2)))
    else (
      let x11 := IntKind.i64.wrap (x5 + (1 : Int))
      some (Sum.inl (x0, x1, x11, ()))))
  else (
    some (Sum.inr (Sum.inl (()))))
noncomputable def ref25_At (a : (List ((List UInt8) × Int)) × (List UInt8)) : Option (Int) :=
  let x0 := a.1
  let x1 := a.2
  Option.bind (iter ref25_At_loop1 (x0, x1, (0 : Int), ())) fun o =>
  match o with
  | Sum.inl p1 => (
    some (0 : Int))
  | Sum.inr q2 => (
    some q2)
noncomputable def ref25_part (a : Int × Int) : Option (Int) :=
  let x0 := a.1
  let x1 := a.2
  Option.bind (if (1000000 : Int) = 0 then none else some (IntKind.i64.wrap (x0.tdiv (1000000 : Int)))) fun x10 =>
  Option.bind (if (1000000 : Int) = 0 then none else some (x0.tmod (1000000 : Int))) fun x12 =>
  let x15 := IntKind.i64.wrap (x12 * x1)
  let x18 := IntKind.i64.wrap (x10 * x1)
  Option.bind (if (1000000 : Int) = 0 then none else some (IntKind.i64.wrap (x15.tdiv (1000000 : Int)))) fun x20 =>
  let x21 := IntKind.i64.wrap (x18 + x20)
  Option.bind (show Option (((Int) × Unit)) from (
    Option.bind (if (1000000 : Int) = 0 then none else some (x15.tmod (1000000 : Int))) fun x23 =>
    let x24 := IntKind.i64.wrap ((2 : Int) * x23)
    let x25 := (decide (x24 ≥ (1000000 : Int)))
    if x25 then (
      let x27 := IntKind.i64.wrap (x21 + (1 : Int))
      some (x27, ()))
    else (
      some (x21, ())))) fun o =>
  let x8 := o.1
  some x8
noncomputable def ref25_Set_loop1 (s : (List ((List UInt8) × Int)) × (List UInt8) × (Int) × (Int) × (List ((List UInt8) × Int)) × (Unit) × Unit) : Option (((List ((List UInt8) × Int)) × (List UInt8) × (Int) × (Int) × (List ((List UInt8) × Int)) × (Unit) × Unit) ⊕ (((List UInt8) × (Int) × (List ((List UInt8) × Int)) × (Unit) × Unit))) :=
  let x0 := s.1
  let x1 := s.2.1
  let x2 := s.2.2.1
  let x8 := s.2.2.2.1
  let l1007 := s.2.2.2.2.1
  let x11 := (x0.length : Int)
  let x12 := (decide (x8 < x11))
  if x12 then (
    Option.bind (show Option (((List ((List UInt8) × Int)) × (List UInt8) × (Int) × (Int) × (List ((List UInt8) × Int)) × (Unit) × Unit)) from (
      Option.bind ((lAt x0 x8).map (fun y => y)) fun x17 =>
      let x21 := (!(x17.1 == x1))
      if x21 then (
        Option.bind ((lAt x0 x8).map (fun y => y)) fun x25 =>
        let l27 := ([x25] : List ((List UInt8) × Int))
        Option.bind (if ((l1007.length : Int) + (l27.length : Int)) * (24 : Int) ≤ 140737488355328 ∧ (l1007.length : Int) + (l27.length : Int) ≤ 4611686018427387904 then some (l1007 ++ l27) else none) fun l1007 =>
        some (x0, x1, x2, x8, l1007, (), ()))
      else (
        some (x0, x1, x2, x8, l1007, (), ())))) fun o =>
    let x0 := o.1
    let x1 := o.2.1
    let x2 := o.2.2.1
    let x8 := o.2.2.2.1
    let l1007 := o.2.2.2.2.1
    let x14 := IntKind.i64.wrap (x8 + (1 : Int))
    some (Sum.inl (x0, x1, x2, x14, l1007, (), ())))
  else (
    some (Sum.inr (x1, x2, l1007, (), ())))
noncomputable def ref25_Set (a : (List ((List UInt8) × Int)) × (List UInt8) × Int) : Option (List ((List UInt8) × Int)) :=
  let x0 := a.1
  let x1 := a.2.1
  let x2 := a.2.2
  Option.bind (iter ref25_Set_loop1 (x0, x1, x2, (0 : Int), ([] : List ((List UInt8) × Int)), (), ())) fun o =>
  let x1 := o.1
  let x2 := o.2.1
  let l1007 := o.2.2.1
  let l33 := ([(x1, x2)] : List ((List UInt8) × Int))
  Option.bind (if ((l1007.length : Int) + (l33.length : Int)) * (24 : Int) ≤ 140737488355328 ∧ (l1007.length : Int) + (l33.length : Int) ≤ 4611686018427387904 then some (l1007 ++ l33) else none) fun l1007 =>
  some l1007
noncomputable def ref25_Take_loop1 (s : (Int) × (List ((List UInt8) × Int)) × (List ((List UInt8) × Int)) × (List ((List UInt8) × Int × Int)) × (List ((List UInt8) × Int)) × (Int) × (Int) × (Int) × (Int) × (Int) × (Int) × (List UInt8) × (Int) × (List ((List UInt8) × Int)) × (Unit) × (Unit) × (Unit) × Unit) : Option (((Int) × (List ((List UInt8) × Int)) × (List ((List UInt8) × Int)) × (List ((List UInt8) × Int × Int)) × (List ((List UInt8) × Int)) × (Int) × (Int) × (Int) × (Int) × (Int) × (Int) × (List UInt8) × (Int) × (List ((List UInt8) × Int)) × (Unit) × (Unit) × (Unit) × Unit) ⊕ (((Int) × (List ((List UInt8) × Int)) × (List ((List UInt8) × Int)) × (List ((List UInt8) × Int × Int)) × (List ((List UInt8) × Int)) × (Int) × (Int) × (Int) × (Int) × (Int) × (List UInt8) × (Int) × (List ((List UInt8) × Int)) × (Unit) × (Unit) × (Unit) × Unit))) :=
  let x0 := s.1
  let x1 := s.2.1
  let x2 := s.2.2.1
  let x3 := s.2.2.2.1
  let x13 := s.2.2.2.2.1
  let x14 := s.2.2.2.2.2.1
  let x15 := s.2.2.2.2.2.2.1
  let x17 := s.2.2.2.2.2.2.2.1
  let x18 := s.2.2.2.2.2.2.2.2.1
  let x19 := s.2.2.2.2.2.2.2.2.2.1
  let x20 := s.2.2.2.2.2.2.2.2.2.2.1
  let c16_0 := s.2.2.2.2.2.2.2.2.2.2.2.1
  let c16_1 := s.2.2.2.2.2.2.2.2.2.2.2.2.1
  let l1012 := s.2.2.2.2.2.2.2.2.2.2.2.2.2.1
  let x82 := (x3.length : Int)
  let x83 := (decide (x20 < x82))
  if x83 then (
    Option.bind (show Option (((Int) × (List ((List UInt8) × Int)) × (List ((List UInt8) × Int)) × (List ((List UInt8) × Int × Int)) × (List ((List UInt8) × Int)) × (Int) × (Int) × (Int) × (Int) × (Int) × (Int) × (List UInt8) × (Int) × (List ((List UInt8) × Int)) × (Unit) × (Unit) × (Unit) × Unit)) from (
      Option.bind ((lAt x3 x20).map (fun y => y)) fun x88 =>
      let x93 := (!(x88.1 == c16_0))
      if x93 then (
        some (x0, x1, x2, x3, x13, x14, x15, x17, x18, x19, x20, c16_0, c16_1, l1012, (), (), (), ()))
      else (
        Option.bind (show Option (((Int) × (List ((List UInt8) × Int)) × (List ((List UInt8) × Int)) × (List ((List UInt8) × Int × Int)) × (List ((List UInt8) × Int)) × (Int) × (Int) × (Int) × (Int) × (Int) × (Int) × (List UInt8) × (Int) × (List ((List UInt8) × Int)) × (Unit) × (Unit) × (Unit) × Unit)) from (
          Option.bind ((lAt x3 x20).map (fun y => y)) fun x96 =>
          let x99 := (x96.2.1 != (1000000 : Int))
          if x99 then (
            let x102 := (max (0 : Int) x0)
            Option.bind ((lAt x3 x20).map (fun y => y)) fun x105 =>
            Option.bind (ref25_part (x102, x105.2.1)) fun x108 =>
            let x110 := IntKind.i64.wrap (x108 - x18)
            let x111 := (max (0 : Int) x110)
            let x112 := (min x19 x111)
            some (x0, x1, x2, x3, x13, x14, x15, x17, x18, x112, x20, c16_0, c16_1, l1012, (), (), (), ()))
          else (
            some (x0, x1, x2, x3, x13, x14, x15, x17, x18, x19, x20, c16_0, c16_1, l1012, (), (), (), ())))) fun o =>
        let x0 := o.1
        let x1 := o.2.1
        let x2 := o.2.2.1
        let x3 := o.2.2.2.1
        let x13 := o.2.2.2.2.1
        let x14 := o.2.2.2.2.2.1
        let x15 := o.2.2.2.2.2.2.1
        let x17 := o.2.2.2.2.2.2.2.1
        let x18 := o.2.2.2.2.2.2.2.2.1
        let x19 := o.2.2.2.2.2.2.2.2.2.1
        let x20 := o.2.2.2.2.2.2.2.2.2.2.1
        let c16_0 := o.2.2.2.2.2.2.2.2.2.2.2.1
        let c16_1 := o.2.2.2.2.2.2.2.2.2.2.2.2.1
        let l1012 := o.2.2.2.2.2.2.2.2.2.2.2.2.2.1
        Option.bind ((lAt x3 x20).map (fun y => y)) fun x115 =>
        let x118 := (x115.2.2 != (0 : Int))
        if x118 then (
          Option.bind ((lAt x3 x20).map (fun y => y)) fun x122 =>
          let x126 := IntKind.i64.wrap (x122.2.2 - x17)
          let x128 := IntKind.i64.wrap (x126 - x18)
          let x129 := (max (0 : Int) x128)
          let x130 := (min x19 x129)
          some (x0, x1, x2, x3, x13, x14, x15, x17, x18, x130, x20, c16_0, c16_1, l1012, (), (), (), ()))
        else (
          some (x0, x1, x2, x3, x13, x14, x15, x17, x18, x19, x20, c16_0, c16_1, l1012, (), (), (), ()))))) fun o =>
    let x0 := o.1
    let x1 := o.2.1
    let x2 := o.2.2.1
    let x3 := o.2.2.2.1
    let x13 := o.2.2.2.2.1
    let x14 := o.2.2.2.2.2.1
    let x15 := o.2.2.2.2.2.2.1
    let x17 := o.2.2.2.2.2.2.2.1
    let x18 := o.2.2.2.2.2.2.2.2.1
    let x19 := o.2.2.2.2.2.2.2.2.2.1
    let x20 := o.2.2.2.2.2.2.2.2.2.2.1
    let c16_0 := o.2.2.2.2.2.2.2.2.2.2.2.1
    let c16_1 := o.2.2.2.2.2.2.2.2.2.2.2.2.1
    let l1012 := o.2.2.2.2.2.2.2.2.2.2.2.2.2.1
    let x85 := IntKind.i64.wrap (x20 + (1 : Int))
    some (Sum.inl (x0, x1, x2, x3, x13, x14, x15, x17, x18, x19, x85, c16_0, c16_1, l1012, (), (), (), ())))
  else (
    some (Sum.inr (x0, x1, x2, x3, x13, x14, x15, x17, x18, x19, c16_0, c16_1, l1012, (), (), (), ())))
noncomputable def ref25_Take_loop2 (s : (List ((List UInt8) × Int)) × (List ((List UInt8) × Int)) × (Int) × (List ((List UInt8) × Int)) × (Unit) × Unit) : Option (((List ((List UInt8) × Int)) × (List ((List UInt8) × Int)) × (Int) × (List ((List UInt8) × Int)) × (Unit) × Unit) ⊕ (((List ((List UInt8) × Int)) × (List ((List UInt8) × Int)) × (Unit) × Unit))) :=
  let x1 := s.1
  let x13 := s.2.1
  let x21 := s.2.2.1
  let l1012 := s.2.2.2.1
  let x158 := (x13.length : Int)
  let x159 := (decide (x21 < x158))
  if x159 then (
    Option.bind ((lAt x13 x21).map (fun y => y)) fun x165 =>
    Option.bind ((lAt x13 x21).map (fun y => y)) fun x171 =>
    Option.bind (ref25_At (x1, x171.1)) fun x174 =>
    Option.bind ((lAt x13 x21).map (fun y => y)) fun x177 =>
    let x180 := IntKind.i64.wrap (x174 + x177.2)
    Option.bind (ref25_Set (x1, x165.1, x180)) fun x181 =>
    let x161 := IntKind.i64.wrap (x21 + (1 : Int))
    some (Sum.inl (x181, x13, x161, l1012, (), ())))
  else (
    some (Sum.inr (x1, l1012, (), ())))
noncomputable def ref25_Take_loop3 (s : (Int) × (List ((List UInt8) × Int)) × (List ((List UInt8) × Int)) × (List ((List UInt8) × Int × Int)) × (List ((List UInt8) × Int)) × (Int) × (Int) × (List ((List UInt8) × Int)) × (Unit) × Unit) : Option (((Int) × (List ((List UInt8) × Int)) × (List ((List UInt8) × Int)) × (List ((List UInt8) × Int × Int)) × (List ((List UInt8) × Int)) × (Int) × (Int) × (List ((List UInt8) × Int)) × (Unit) × Unit) ⊕ (((List ((List UInt8) × Int)) × (List ((List UInt8) × Int)) × (List ((List UInt8) × Int)) × (Unit) × Unit) ⊕ ((List ((List UInt8) × Int)) × (List ((List UInt8) × Int)) × Int))) :=
  let x0 := s.1
  let x1 := s.2.1
  let x2 := s.2.2.1
  let x3 := s.2.2.2.1
  let x13 := s.2.2.2.2.1
  let x14 := s.2.2.2.2.2.1
  let x15 := s.2.2.2.2.2.2.1
  let l1012 := s.2.2.2.2.2.2.2.1
  let x39 := (x2.length : Int)
  let x40 := (decide (x15 < x39))
  if x40 then (
    Option.bind (show Option (((Int) × (List ((List UInt8) × Int)) × (List ((List UInt8) × Int)) × (List ((List UInt8) × Int × Int)) × (List ((List UInt8) × Int)) × (Int) × (Int) × (List ((List UInt8) × Int)) × (Unit) × Unit) ⊕ ((List ((List UInt8) × Int)) × (List ((List UInt8) × Int)) × Int)) from (
      Option.bind ((lAt x2 x15).map (fun y => y)) fun x45 =>
      Option.bind (ref25_At (x1, x45.1)) fun x50 =>
      Option.bind (ref25_Name x45.1) fun x53 =>
      let x54 := (!x53)
      if x54 then (
        some (Sum.inr (([] : List ((List UInt8) × Int)), ([] : List ((List UInt8) × Int)), (12 : Int))))
      else (
        let x57 := (decide (x45.2 < (0 : Int)))
        let x59 := (if x57 = false then some () else none)
        Option.bind (if x57 = false then (x59.map (fun z255 => x45.2)).map some else some none) fun x60 =>
        Option.bind (if x57 = false then ((x60.bind (fun z256 => some (z256, (1125899906842624 : Int)))).map (fun z258 => (decide (z258.1 > z258.2)))).map some else some none) fun x61 =>
        Option.bind (if x57 then some true else x61.map (fun z259 => z259)) fun x62 =>
        let x64 := (if x62 = false then some x50 else none)
        Option.bind (if x62 = false then ((x64.bind (fun z260 => some (z260, (0 : Int)))).map (fun z262 => (decide (z262.1 < z262.2)))).map some else some none) fun x65 =>
        Option.bind (if x62 then some true else x65.map (fun z263 => z263)) fun x66 =>
        let x68 := (if x66 = false then some x50 else none)
        Option.bind (if x66 = false then ((x68.bind (fun z264 => some (z264, (1125899906842624 : Int)))).map (fun z266 => (decide (z266.1 > z266.2)))).map some else some none) fun x69 =>
        Option.bind (if x66 then some true else x69.map (fun z267 => z267)) fun x70 =>
        if x70 then (
          some (Sum.inr (([] : List ((List UInt8) × Int)), ([] : List ((List UInt8) × Int)), (2 : Int))))
        else (
          Option.bind (ref25_At (x13, x45.1)) fun x74 =>
          let x78 := (min x45.2 x14)
          let x79 := (max (0 : Int) x78)
          Option.bind (iter ref25_Take_loop1 (x0, x1, x2, x3, x13, x14, x15, x50, x74, x79, (0 : Int), x45.1, x45.2, l1012, (), (), (), ())) fun o =>
          let x0 := o.1
          let x1 := o.2.1
          let x2 := o.2.2.1
          let x3 := o.2.2.2.1
          let x13 := o.2.2.2.2.1
          let x14 := o.2.2.2.2.2.1
          let x15 := o.2.2.2.2.2.2.1
          let x17 := o.2.2.2.2.2.2.2.1
          let x18 := o.2.2.2.2.2.2.2.2.1
          let x19 := o.2.2.2.2.2.2.2.2.2.1
          let c16_0 := o.2.2.2.2.2.2.2.2.2.2.1
          let c16_1 := o.2.2.2.2.2.2.2.2.2.2.2.1
          let l1012 := o.2.2.2.2.2.2.2.2.2.2.2.2.1
          let x133 := IntKind.i64.wrap ((1125899906842624 : Int) - x18)
          let x135 := IntKind.i64.wrap (x133 - x19)
          let x136 := (decide (x17 > x135))
          if x136 then (
            some (Sum.inr (([] : List ((List UInt8) × Int)), ([] : List ((List UInt8) × Int)), (9 : Int))))
          else (
            let x142 := IntKind.i64.wrap (x18 + x19)
            Option.bind (ref25_Set (x13, c16_0, x142)) fun x143 =>
            let x146 := IntKind.i64.wrap (x14 - x19)
            let x148 := (decide (x19 > (0 : Int)))
            if x148 then (
              let l154 := ([(c16_0, x19)] : List ((List UInt8) × Int))
              Option.bind (if ((l1012.length : Int) + (l154.length : Int)) * (24 : Int) ≤ 140737488355328 ∧ (l1012.length : Int) + (l154.length : Int) ≤ 4611686018427387904 then some (l1012 ++ l154) else none) fun l1012 =>
              some (Sum.inl (x0, x1, x2, x3, x143, x146, x15, l1012, (), ())))
            else (
              some (Sum.inl (x0, x1, x2, x3, x143, x146, x15, l1012, (), ())))))))) fun o =>
    match o with
    | Sum.inl p268 => (
      let x0 := p268.1
      let x1 := p268.2.1
      let x2 := p268.2.2.1
      let x3 := p268.2.2.2.1
      let x13 := p268.2.2.2.2.1
      let x14 := p268.2.2.2.2.2.1
      let x15 := p268.2.2.2.2.2.2.1
      let l1012 := p268.2.2.2.2.2.2.2.1
      let x42 := IntKind.i64.wrap (x15 + (1 : Int))
      some (Sum.inl (x0, x1, x2, x3, x13, x14, x42, l1012, (), ())))
    | Sum.inr q269 => (
      some (Sum.inr (Sum.inr q269))))
  else (
    some (Sum.inr (Sum.inl (x1, x13, l1012, (), ()))))
noncomputable def ref25_Take (a : Int × (List ((List UInt8) × Int)) × (List ((List UInt8) × Int)) × (List ((List UInt8) × Int × Int))) : Option ((List ((List UInt8) × Int)) × (List ((List UInt8) × Int)) × Int) :=
  let x0 := a.1
  let x1 := a.2.1
  let x2 := a.2.2.1
  let x3 := a.2.2.2
  let x23 := (decide (x0 > (1125899906842624 : Int)))
  let x25 := (if x23 = false then some x0 else none)
  Option.bind (if x23 = false then ((x25.bind (fun z17 => some (z17, (-1125899906842624 : Int)))).map (fun z19 => (decide (z19.1 < z19.2)))).map some else some none) fun x26 =>
  Option.bind (if x23 then some true else x26.map (fun z20 => z20)) fun x27 =>
  if x27 then (
    some (([] : List ((List UInt8) × Int)), ([] : List ((List UInt8) × Int)), (2 : Int)))
  else (
    Option.bind (ref25_Check x3) fun x29 =>
    let x31 := (x29 != (0 : Int))
    if x31 then (
      some (([] : List ((List UInt8) × Int)), ([] : List ((List UInt8) × Int)), x29))
    else (
      let x34 := (x2.length : Int)
      let x35 := (decide (x34 > (64 : Int)))
      if x35 then (
        some (([] : List ((List UInt8) × Int)), ([] : List ((List UInt8) × Int)), (5 : Int)))
      else (
        Option.bind (iter ref25_Take_loop3 (x0, x1, x2, x3, ([] : List ((List UInt8) × Int)), x0, (0 : Int), ([] : List ((List UInt8) × Int)), (), ())) fun o =>
        match o with
        | Sum.inl p270 => (
          let x1 := p270.1
          let x13 := p270.2.1
          let l1012 := p270.2.2.1
          Option.bind (iter ref25_Take_loop2 (x1, x13, (0 : Int), l1012, (), ())) fun o =>
          let x1 := o.1
          let l1012 := o.2.1
          some (l1012, x1, (0 : Int)))
        | Sum.inr q271 => (
          some q271))))
noncomputable def ref25_Same_loop1 (s : (List ((List UInt8) × Int)) × (List ((List UInt8) × Int)) × (Int) × Unit) : Option (((List ((List UInt8) × Int)) × (List ((List UInt8) × Int)) × (Int) × Unit) ⊕ ((Unit) ⊕ (Bool))) :=
  let x0 := s.1
  let x1 := s.2.1
  let x5 := s.2.2.1
  let x13 := (x0.length : Int)
  let x14 := (decide (x5 < x13))
  if x14 then (
    Option.bind ((lAt x0 x5).map (fun y => y)) fun x19 =>
    Option.bind ((lAt x1 x5).map (fun y => y)) fun x23 =>
    let x25 := (!((x19.1 == x23.1) && (x19.2 == x23.2)))
    if x25 then (
      some (Sum.inr (Sum.inr false)))
    else (
      let x16 := IntKind.i64.wrap (x5 + (1 : Int))
      some (Sum.inl (x0, x1, x16, ()))))
  else (
    some (Sum.inr (Sum.inl (()))))
noncomputable def ref25_Same (a : (List ((List UInt8) × Int)) × (List ((List UInt8) × Int))) : Option (Bool) :=
  let x0 := a.1
  let x1 := a.2
  let x7 := (x0.length : Int)
  let x9 := (x1.length : Int)
  let x10 := (x7 != x9)
  if x10 then (
    some false)
  else (
    Option.bind (iter ref25_Same_loop1 (x0, x1, (0 : Int), ())) fun o =>
    match o with
    | Sum.inl p1 => (
      some true)
    | Sum.inr q2 => (
      some q2))
noncomputable def law25_alike_loop1 (s : (List ((List UInt8) × (Int))) × (List ((List UInt8) × Int)) × (Int) × Unit) : Option (((List ((List UInt8) × (Int))) × (List ((List UInt8) × Int)) × (Int) × Unit) ⊕ ((Unit) ⊕ (Bool))) :=
  let x0 := s.1
  let x1 := s.2.1
  let x5 := s.2.2.1
  let x15 := (x1.length : Int)
  let x16 := (decide (x5 < x15))
  if x16 then (
    Option.bind ((lAt x1 x5).map (fun y => y)) fun x23 =>
    let x26 := alGet (eqZ .str) (zeroT (.int .i64)) x23.1 x0
    let x30 := (!x26.2)
    let x32 := (if x30 = false then some x26.1 else none)
    let x33 := (if x30 = false then some x1 else none)
    let x34 := (if x30 = false then some x5 else none)
    Option.bind (if x30 = false then ((x33.bind (fun z109 => x34.map (fun z110 => (z109, z110)))).bind (fun z111 => (lAt z111.1 z111.2).map (fun y => y))).map some else some none) fun x35 =>
    Option.bind (if x30 = false then (x35.map (fun z112 => z112.2)).map some else some none) fun x36 =>
    Option.bind (if x30 = false then (x36.map (fun z113 => z113)).map some else some none) fun x37 =>
    Option.bind (if x30 = false then ((x32.bind (fun z114 => x37.map (fun z115 => (z114, z115)))).map (fun z116 => (z116.1 != z116.2))).map some else some none) fun x38 =>
    Option.bind (if x30 then some true else x38.map (fun z117 => z117)) fun x39 =>
    if x39 then (
      some (Sum.inr (Sum.inr false)))
    else (
      let x18 := IntKind.i64.wrap (x5 + (1 : Int))
      some (Sum.inl (x0, x1, x18, ()))))
  else (
    some (Sum.inr (Sum.inl (()))))
noncomputable def law25_alike (a : (List ((List UInt8) × (Int))) × (List ((List UInt8) × Int))) : Option (Bool) :=
  let x0 := a.1
  let x1 := a.2
  let x9 := (x0.length : Int)
  let x11 := (x1.length : Int)
  let x12 := (x9 != x11)
  if x12 then (
    some false)
  else (
    Option.bind (iter law25_alike_loop1 (x0, x1, (0 : Int), ())) fun o =>
    match o with
    | Sum.inl p118 => (
      some true)
    | Sum.inr q119 => (
      some q119))
noncomputable def law25_BeforeTakes (a : (Int × (List ((List UInt8) × Int)) × (List ((List UInt8) × Int)) × (List ((List UInt8) × Int × Int)))) : Option (Bool) :=
  let x0 := a
  Option.bind (law25_great (x0.1, x0.2.1, x0.2.2.1, x0.2.2.2)) fun x12 =>
  if x12 then (
    Option.bind (law25_awake ()) fun x13 =>
    some x13)
  else (
    Option.bind (law25_table x0.2.1) fun x17 =>
    Option.bind (before_Take (x0.1, x17.1, x0.2.2.1, x0.2.2.2)) fun x28 =>
    Option.bind (ref25_Take (x0.1, x17.2, x0.2.2.1, x0.2.2.2)) fun x40 =>
    let x46 := (x28.2.2 != x40.2.2)
    let x48 := (if x46 = false then some x28.1 else none)
    let x49 := (if x46 = false then some x40.1 else none)
    Option.bind (if x46 = false then (((x48.bind (fun z49 => x49.map (fun z50 => (z49, z50)))).map (fun z51 => (z51.1, z51.2))).bind (fun z52 => ref25_Same z52)).map some else some none) fun x50 =>
    Option.bind (if x46 = false then (x50.map (fun z53 => (!z53))).map some else some none) fun x51 =>
    Option.bind (if x46 then some true else x51.map (fun z54 => z54)) fun x52 =>
    let x54 := (if x52 = false then some x17.1 else none)
    let x55 := (if x52 = false then some x17.2 else none)
    Option.bind (if x52 = false then (((x54.bind (fun z55 => x55.map (fun z56 => (z55, z56)))).map (fun z57 => (z57.1, z57.2))).bind (fun z58 => law25_alike z58)).map some else some none) fun x56 =>
    Option.bind (if x52 = false then (x56.map (fun z59 => (!z59))).map some else some none) fun x57 =>
    Option.bind (if x52 then some true else x57.map (fun z60 => z60)) fun x58 =>
    if x58 then (
      some false)
    else (
      let x60 := (x40.2.2 != (0 : Int))
      let x62 := (if x60 = true then some x28.2.1 else none)
      Option.bind (if x60 = true then (x62.map (fun z87 => (z87.length : Int))).map some else some none) fun x63 =>
      Option.bind (if x60 = true then ((x63.bind (fun z88 => some (z88, (0 : Int)))).map (fun z90 => (z90.1 == z90.2))).map some else some none) fun x64 =>
      Option.bind (if x60 then x64 else some false) fun x65 =>
      let x67 := (if x65 = false then some x40.2.2 else none)
      Option.bind (if x65 = false then ((x67.bind (fun z91 => some (z91, (0 : Int)))).map (fun z93 => (z93.1 == z93.2))).map some else some none) fun x68 =>
      Option.bind (if x65 = false then x68.map some else some none) fun x69 =>
      let x70 := (if x69 = some true then some x28.2.1 else none)
      let x71 := (if x69 = some true then some x40.2.1 else none)
      Option.bind (if x69 = some true then (((x70.bind (fun z94 => x71.map (fun z95 => (z94, z95)))).map (fun z96 => (z96.1, z96.2))).bind (fun z97 => law25_alike z97)).map some else some none) fun x72 =>
      Option.bind (if x65 = false then (x69.bind (fun z98 => if z98 then x72 else some false)).map some else some none) fun x73 =>
      Option.bind (if x65 then some true else x73.map (fun z99 => z99)) fun x74 =>
      Option.bind (if x74 = true then (law25_awake ()).map some else some none) fun x76 =>
      Option.bind (if x74 then x76 else some false) fun x77 =>
      some x77))
noncomputable def law25_BeforeYears_loop1 (s : (List (Int)) × (Int) × (Int) × (List ((List UInt8) × (Int))) × (Int) × (Int) × (Int) × (List ((List UInt8) × Int)) × (Int) × Unit) : Option (((List (Int)) × (Int) × (Int) × (List ((List UInt8) × (Int))) × (Int) × (Int) × (Int) × (List ((List UInt8) × Int)) × (Int) × Unit) ⊕ (((List (Int)) × (Int) × (Int) × (List ((List UInt8) × (Int))) × (Int) × (Int) × (Int) × Unit))) :=
  let x0 := s.1
  let x1 := s.2.1
  let x2 := s.2.2.1
  let x7 := s.2.2.2.1
  let x8 := s.2.2.2.2.1
  let x9 := s.2.2.2.2.2.1
  let x10 := s.2.2.2.2.2.2.1
  let x11 := s.2.2.2.2.2.2.2.1
  let x14 := s.2.2.2.2.2.2.2.2.1
  let x50 := (x11.length : Int)
  let x51 := (decide (x14 < x50))
  if x51 then (
    Option.bind ((lAt x11 x14).map (fun y => y)) fun x57 =>
    let x60 := IntKind.i64.wrap (x8 + x57.2)
    let x53 := IntKind.i64.wrap (x14 + (1 : Int))
    some (Sum.inl (x0, x1, x2, x7, x60, x9, x10, x11, x53, ())))
  else (
    some (Sum.inr (x0, x1, x2, x7, x8, x9, x10, ())))
noncomputable def law25_BeforeYears_loop2 (s : (List (Int)) × (Int) × (Int) × (List ((List UInt8) × (Int))) × (Int) × (Int) × (Int) × Unit) : Option (((List (Int)) × (Int) × (Int) × (List ((List UInt8) × (Int))) × (Int) × (Int) × (Int) × Unit) ⊕ ((Unit) ⊕ (Bool))) :=
  let x0 := s.1
  let x1 := s.2.1
  let x2 := s.2.2.1
  let x7 := s.2.2.2.1
  let x8 := s.2.2.2.2.1
  let x9 := s.2.2.2.2.2.1
  let x10 := s.2.2.2.2.2.2.1
  let x22 := (x0.length : Int)
  let x23 := (decide (x10 < x22))
  if x23 then (
    Option.bind ((lAt x0 x10).map (fun y => y)) fun x29 =>
    let x31 := IntKind.i64.wrap x29
    let x34 := IntKind.i64.wrap x1
    let l36 := ([(([120] : List UInt8), x34)] : List ((List UInt8) × Int))
    let x38 := IntKind.i64.wrap x2
    let l40 := ([(([120] : List UInt8), (1000000 : Int), x38)] : List ((List UInt8) × Int × Int))
    Option.bind (before_Take (x31, x7, l36, l40)) fun x41 =>
    let x46 := (x41.2.2 != (0 : Int))
    if x46 then (
      some (Sum.inr (Sum.inr false)))
    else (
      Option.bind (iter law25_BeforeYears_loop1 (x0, x1, x2, x41.2.1, x8, x9, x10, x41.1, (0 : Int), ())) fun o =>
      let x0 := o.1
      let x1 := o.2.1
      let x2 := o.2.2.1
      let x7 := o.2.2.2.1
      let x8 := o.2.2.2.2.1
      let x9 := o.2.2.2.2.2.1
      let x10 := o.2.2.2.2.2.2.1
      Option.bind ((lAt x0 x10).map (fun y => y)) fun x64 =>
      let x66 := IntKind.i64.wrap x64
      let x68 := IntKind.i64.wrap x1
      let x69 := (min x66 x68)
      let x70 := IntKind.i64.wrap (x9 + x69)
      Option.bind (show Option (((List (Int)) × (Int) × (Int) × (List ((List UInt8) × (Int))) × (Int) × (Int) × (Int) × (Int) × Unit)) from (
        let x73 := (decide (x2 > (0 : Int)))
        if x73 then (
          let x76 := IntKind.i64.wrap x2
          let x77 := (min x70 x76)
          some (x0, x1, x2, x7, x8, x70, x10, x77, ()))
        else (
          some (x0, x1, x2, x7, x8, x70, x10, x70, ())))) fun o =>
      let x0 := o.1
      let x1 := o.2.1
      let x2 := o.2.2.1
      let x7 := o.2.2.2.1
      let x8 := o.2.2.2.2.1
      let x9 := o.2.2.2.2.2.1
      let x10 := o.2.2.2.2.2.2.1
      let x15 := o.2.2.2.2.2.2.2.1
      let x80 := (x8 != x15)
      let x82 := (if x80 = false then some x7 else none)
      Option.bind (if x80 = false then ((x82.bind (fun z113 => some (z113, ([120] : List UInt8)))).map (fun z115 => (alGet (eqZ .str) (zeroT (.int .i64)) z115.2 z115.1).1)).map some else some none) fun x83 =>
      let x84 := (if x80 = false then some x8 else none)
      Option.bind (if x80 = false then ((x83.bind (fun z116 => x84.map (fun z117 => (z116, z117)))).map (fun z118 => (z118.1 != z118.2))).map some else some none) fun x85 =>
      Option.bind (if x80 then some true else x85.map (fun z119 => z119)) fun x86 =>
      if x86 then (
        some (Sum.inr (Sum.inr false)))
      else (
        let x25 := IntKind.i64.wrap (x10 + (1 : Int))
        some (Sum.inl (x0, x1, x2, x7, x8, x9, x25, ())))))
  else (
    some (Sum.inr (Sum.inl (()))))
noncomputable def law25_BeforeYears (a : (List (Int)) × Int × Int) : Option (Bool) :=
  let x0 := a.1
  let x1 := a.2.1
  let x2 := a.2.2
  let x17 := (x0.length : Int)
  let x18 := (decide (x17 > (60 : Int)))
  if x18 then (
    Option.bind (law25_awake ()) fun x19 =>
    some x19)
  else (
    Option.bind (iter law25_BeforeYears_loop2 (x0, x1, x2, ([] : List ((List UInt8) × (Int))), (0 : Int), (0 : Int), (0 : Int), ())) fun o =>
    match o with
    | Sum.inl p120 => (
      Option.bind (law25_awake ()) fun x87 =>
      some x87)
    | Sum.inr q121 => (
      some q121))
noncomputable def ref25_After_loop1 (s : (Int) × (List ((List UInt8) × Int)) × (Int) × (List ((List UInt8) × Int)) × (Unit) × Unit) : Option (((Int) × (List ((List UInt8) × Int)) × (Int) × (List ((List UInt8) × Int)) × (Unit) × Unit) ⊕ (((Int) × (List ((List UInt8) × Int)) × (Unit) × Unit))) :=
  let x0 := s.1
  let x1 := s.2.1
  let x7 := s.2.2.1
  let l1006 := s.2.2.2.1
  let x11 := (x1.length : Int)
  let x12 := (decide (x7 < x11))
  if x12 then (
    Option.bind (show Option (((Int) × (List ((List UInt8) × Int)) × (Int) × (List ((List UInt8) × Int)) × (Unit) × Unit)) from (
      Option.bind ((lAt x1 x7).map (fun y => y)) fun x17 =>
      let x21 := (min x17.2 x0)
      let x23 := (decide (x21 > (0 : Int)))
      if x23 then (
        Option.bind ((lAt x1 x7).map (fun y => y)) fun x27 =>
        let l32 := ([(x27.1, x21)] : List ((List UInt8) × Int))
        Option.bind (if ((l1006.length : Int) + (l32.length : Int)) * (24 : Int) ≤ 140737488355328 ∧ (l1006.length : Int) + (l32.length : Int) ≤ 4611686018427387904 then some (l1006 ++ l32) else none) fun l1006 =>
        let x36 := IntKind.i64.wrap (x0 - x21)
        some (x36, x1, x7, l1006, (), ()))
      else (
        some (x0, x1, x7, l1006, (), ())))) fun o =>
    let x0 := o.1
    let x1 := o.2.1
    let x7 := o.2.2.1
    let l1006 := o.2.2.2.1
    let x14 := IntKind.i64.wrap (x7 + (1 : Int))
    some (Sum.inl (x0, x1, x14, l1006, (), ())))
  else (
    some (Sum.inr (x0, l1006, (), ())))
noncomputable def ref25_After (a : Int × (List ((List UInt8) × Int))) : Option ((List ((List UInt8) × Int)) × Int) :=
  let x0 := a.1
  let x1 := a.2
  Option.bind (iter ref25_After_loop1 (x0, x1, (0 : Int), ([] : List ((List UInt8) × Int)), (), ())) fun o =>
  let x0 := o.1
  let l1006 := o.2.1
  some (l1006, x0)
noncomputable def law25_BeforeAfter_loop1 (s : (List ((List UInt8) × Int)) × (Int) × (Int) × (Int) × (List ((List UInt8) × Int)) × (Int) × (Int) × Unit) : Option (((List ((List UInt8) × Int)) × (Int) × (Int) × (Int) × (List ((List UInt8) × Int)) × (Int) × (Int) × Unit) ⊕ (((List ((List UInt8) × Int)) × (Int) × (Int) × (Int) × (List ((List UInt8) × Int)) × (Int) × Unit))) :=
  let x5 := s.1
  let x6 := s.2.1
  let x7 := s.2.2.1
  let x8 := s.2.2.2.1
  let x9 := s.2.2.2.2.1
  let x10 := s.2.2.2.2.2.1
  let x11 := s.2.2.2.2.2.2.1
  let x35 := (x5.length : Int)
  let x36 := (decide (x11 < x35))
  if x36 then (
    Option.bind ((lAt x5 x11).map (fun y => y)) fun x42 =>
    let x45 := IntKind.i64.wrap (x10 + x42.2)
    let x38 := IntKind.i64.wrap (x11 + (1 : Int))
    some (Sum.inl (x5, x6, x7, x8, x9, x45, x38, ())))
  else (
    some (Sum.inr (x5, x6, x7, x8, x9, x10, ())))
noncomputable def law25_BeforeAfter (a : Int × (List ((List UInt8) × Int))) : Option (Bool) :=
  let x0 := a.1
  let x1 := a.2
  let x13 := (x1.length : Int)
  let x14 := (decide (x13 > (80 : Int)))
  if x14 then (
    Option.bind (law25_awake ()) fun x15 =>
    some x15)
  else (
    Option.bind (before_After (x0, x1)) fun x19 =>
    Option.bind (show Option (((List ((List UInt8) × Int)) × (Int) × (Int) × (Int) × (List ((List UInt8) × Int)) × Unit)) from (
      let x25 := (decide (x0 > (0 : Int)))
      if x25 then (
        Option.bind (ref25_After (x0, x1)) fun x29 =>
        some (x19.1, x19.2, x0, x29.2, x29.1, ()))
      else (
        some (x19.1, x19.2, x0, x0, ([] : List ((List UInt8) × Int)), ())))) fun o =>
    let x5 := o.1
    let x6 := o.2.1
    let x7 := o.2.2.1
    let x8 := o.2.2.2.1
    let x9 := o.2.2.2.2.1
    Option.bind (iter law25_BeforeAfter_loop1 (x5, x6, x7, x8, x9, x6, (0 : Int), ())) fun o =>
    let x5 := o.1
    let x6 := o.2.1
    let x7 := o.2.2.1
    let x8 := o.2.2.2.1
    let x9 := o.2.2.2.2.1
    let x10 := o.2.2.2.2.2.1
    Option.bind (ref25_Same (x5, x9)) fun x48 =>
    let x50 := (if x48 = true then some x6 else none)
    let x51 := (if x48 = true then some x8 else none)
    Option.bind (if x48 = true then ((x50.bind (fun z13 => x51.map (fun z14 => (z13, z14)))).map (fun z15 => (z15.1 == z15.2))).map some else some none) fun x52 =>
    Option.bind (if x48 then x52 else some false) fun x53 =>
    let x55 := (if x53 = true then some x10 else none)
    let x56 := (if x53 = true then some x7 else none)
    Option.bind (if x53 = true then ((x55.bind (fun z16 => x56.map (fun z17 => (z16, z17)))).map (fun z18 => (z18.1 == z18.2))).map some else some none) fun x57 =>
    Option.bind (if x53 then x57 else some false) fun x58 =>
    Option.bind (if x58 = true then (law25_awake ()).map some else some none) fun x60 =>
    Option.bind (if x58 then x60 else some false) fun x61 =>
    some x61)
noncomputable def cents_told (a : Int × Int × Int) : Option (Int × Int) :=
  let x0 := a.1
  let x1 := a.2.1
  let x2 := a.2.2
  Option.bind (show Option (((Int) × (Bool) × Unit)) from (
    Option.bind (cents_Fits x0) fun x10 =>
    let x11 := (!x10)
    if x11 then (
      some (x2, x11, ()))
    else (
      Option.bind (cents_Fits x1) fun x13 =>
      let x14 := (!x13)
      some (x2, x14, ())))) fun o =>
  let x2 := o.1
  let x8 := o.2.1
  if x8 then (
    some ((0 : Int), (2 : Int)))
  else (
    Option.bind (cents_Fits x2) fun x17 =>
    let x18 := (!x17)
    if x18 then (
      some ((0 : Int), (9 : Int)))
    else (
      some (x2, (0 : Int))))
noncomputable def cents_Add (a : Int × Int) : Option (Int × Int) :=
  let x0 := a.1
  let x1 := a.2
  let x10 := IntKind.i64.wrap (x0 + x1)
  Option.bind (cents_told (x0, x1, x10)) fun x11 =>
  some (x11.1, x11.2)
noncomputable def cents_Sum_loop1 (s : (Int) × (List (Int)) × (Int) × (Int) × Unit) : Option (((Int) × (List (Int)) × (Int) × (Int) × Unit) ⊕ (((Int) × Unit) ⊕ (Int × Int))) :=
  let x4 := s.1
  let x9 := s.2.1
  let x10 := s.2.2.1
  let x11 := s.2.2.2.1
  let x12 := (decide (x11 < x10))
  if x12 then (
    Option.bind ((lAt x9 x11).map (fun y => y)) fun x13 =>
    Option.bind (cents_Add (x4, x13)) fun x18 =>
    let x22 := (x18.2 != (0 : Int))
    if x22 then (
      some (Sum.inr (Sum.inr ((0 : Int), x18.2))))
    else (
      let x25 := IntKind.i64.wrap (x11 + (1 : Int))
      some (Sum.inl (x18.1, x9, x10, x25, ()))))
  else (
    some (Sum.inr (Sum.inl (x4, ()))))
noncomputable def cents_Sum (a : (List (Int))) : Option (Int × Int) :=
  let x0 := a
  let x10 := (x0.length : Int)
  Option.bind (iter cents_Sum_loop1 ((0 : Int), x0, x10, (0 : Int), ())) fun o =>
  match o with
  | Sum.inl p1 => (
    let x4 := p1.1
    some (x4, (0 : Int)))
  | Sum.inr q2 => (
    some q2)
noncomputable def before_Sum_loop1 (s : (List ((List UInt8) × Int)) × (Int) × (Int) × (List (Int)) × (Unit) × Unit) : Option (((List ((List UInt8) × Int)) × (Int) × (Int) × (List (Int)) × (Unit) × Unit) ⊕ (((List (Int)) × (Unit) × Unit))) :=
  let x7 := s.1
  let x8 := s.2.1
  let x9 := s.2.2.1
  let l1004 := s.2.2.2.1
  let x10 := (decide (x9 < x8))
  if x10 then (
    Option.bind ((lAt x7 x9).map (fun y => y)) fun x11 =>
    let l16 := ([x11.2] : List (Int))
    Option.bind (if ((l1004.length : Int) + (l16.length : Int)) * (8 : Int) ≤ 140737488355328 ∧ (l1004.length : Int) + (l16.length : Int) ≤ 4611686018427387904 then some (l1004 ++ l16) else none) fun l1004 =>
    let x18 := IntKind.i64.wrap (x9 + (1 : Int))
    some (Sum.inl (x7, x8, x18, l1004, (), ())))
  else (
    some (Sum.inr (l1004, (), ())))
noncomputable def before_Sum (a : (List ((List UInt8) × Int))) : Option (Int × Int) :=
  let x0 := a
  let x8 := (x0.length : Int)
  Option.bind (iter before_Sum_loop1 (x0, x8, (0 : Int), ([] : List (Int)), (), ())) fun o =>
  let l1004 := o.1
  Option.bind (cents_Sum l1004) fun x20 =>
  some (x20.1, x20.2)
noncomputable def law25_BeforeBounds_loop1 (s : (List ((List UInt8) × Int)) × (List ((List UInt8) × Int)) × (List ((List UInt8) × (Int))) × (Int) × (List UInt8) × (Int) × (Int) × (Int) × (List ((List UInt8) × Int)) × (List ((List UInt8) × Int)) × (List ((List UInt8) × Int × Int)) × (Unit) × (Unit) × Unit) : Option (((List ((List UInt8) × Int)) × (List ((List UInt8) × Int)) × (List ((List UInt8) × (Int))) × (Int) × (List UInt8) × (Int) × (Int) × (Int) × (List ((List UInt8) × Int)) × (List ((List UInt8) × Int)) × (List ((List UInt8) × Int × Int)) × (Unit) × (Unit) × Unit) ⊕ (((List ((List UInt8) × Int)) × (List ((List UInt8) × Int)) × (List ((List UInt8) × (Int))) × (Int) × (Int) × (List ((List UInt8) × Int)) × (List ((List UInt8) × Int)) × (List ((List UInt8) × Int × Int)) × (Unit) × (Unit) × Unit) ⊕ (Bool))) :=
  let x4 := s.1
  let x5 := s.2.1
  let x6 := s.2.2.1
  let x10 := s.2.2.2.1
  let x11 := s.2.2.2.2.1
  let x12 := s.2.2.2.2.2.1
  let x16 := s.2.2.2.2.2.2.1
  let c1_0 := s.2.2.2.2.2.2.2.1
  let c1_1 := s.2.2.2.2.2.2.2.2.1
  let c1_2 := s.2.2.2.2.2.2.2.2.2.1
  let c1_3 := s.2.2.2.2.2.2.2.2.2.2.1
  let x130 := (c1_3.length : Int)
  let x131 := (decide (x16 < x130))
  if x131 then (
    Option.bind (show Option (((List ((List UInt8) × Int)) × (List ((List UInt8) × Int)) × (List ((List UInt8) × (Int))) × (Int) × (List UInt8) × (Int) × (Int) × (Int) × (List ((List UInt8) × Int)) × (List ((List UInt8) × Int)) × (List ((List UInt8) × Int × Int)) × (Unit) × (Unit) × Unit) ⊕ (Bool)) from (
      Option.bind ((lAt c1_3 x16).map (fun y => y)) fun x137 =>
      let x142 := (!(x137.1 == x11))
      if x142 then (
        some (Sum.inl (x4, x5, x6, x10, x11, x12, x16, c1_0, c1_1, c1_2, c1_3, (), (), ())))
      else (
        let x145 := (decide (x137.2.2 > (0 : Int)))
        let x147 := (if x145 = true then some x12 else none)
        Option.bind (if x145 = true then ((x147.bind (fun z783 => some (z783, (0 : Int)))).map (fun z785 => (decide (z785.1 > z785.2)))).map some else some none) fun x148 =>
        Option.bind (if x145 then x148 else some false) fun x149 =>
        let x151 := (if x149 = true then some x6 else none)
        let x152 := (if x149 = true then some x11 else none)
        Option.bind (if x149 = true then ((x151.bind (fun z786 => x152.map (fun z787 => (z786, z787)))).map (fun z788 => (alGet (eqZ .str) (zeroT (.int .i64)) z788.2 z788.1).1)).map some else some none) fun x153 =>
        let x154 := (if x149 = true then some () else none)
        Option.bind (if x149 = true then (x154.map (fun z789 => x137.2.2)).map some else some none) fun x155 =>
        Option.bind (if x149 = true then ((x153.bind (fun z790 => x155.map (fun z791 => (z790, z791)))).map (fun z792 => (decide (z792.1 > z792.2)))).map some else some none) fun x156 =>
        Option.bind (if x149 then x156 else some false) fun x157 =>
        let x159 := (if x157 = false then some () else none)
        Option.bind (if x157 = false then (x159.map (fun z793 => x137.2.1)).map some else some none) fun x160 =>
        Option.bind (if x157 = false then ((x160.bind (fun z794 => some (z794, (0 : Int)))).map (fun z796 => (z796.1 == z796.2))).map some else some none) fun x161 =>
        Option.bind (if x157 = false then x161.map some else some none) fun x162 =>
        let x163 := (if x162 = some true then some x12 else none)
        Option.bind (if x162 = some true then ((x163.bind (fun z797 => some (z797, (0 : Int)))).map (fun z799 => (decide (z799.1 > z799.2)))).map some else some none) fun x164 =>
        Option.bind (if x157 = false then (x162.bind (fun z800 => if z800 then x164 else some false)).map some else some none) fun x165 =>
        Option.bind (if x157 then some true else x165.map (fun z801 => z801)) fun x166 =>
        if x166 then (
          some (Sum.inr false))
        else (
          some (Sum.inl (x4, x5, x6, x10, x11, x12, x16, c1_0, c1_1, c1_2, c1_3, (), (), ())))))) fun o =>
    match o with
    | Sum.inl p802 => (
      let x4 := p802.1
      let x5 := p802.2.1
      let x6 := p802.2.2.1
      let x10 := p802.2.2.2.1
      let x11 := p802.2.2.2.2.1
      let x12 := p802.2.2.2.2.2.1
      let x16 := p802.2.2.2.2.2.2.1
      let c1_0 := p802.2.2.2.2.2.2.2.1
      let c1_1 := p802.2.2.2.2.2.2.2.2.1
      let c1_2 := p802.2.2.2.2.2.2.2.2.2.1
      let c1_3 := p802.2.2.2.2.2.2.2.2.2.2.1
      let x133 := IntKind.i64.wrap (x16 + (1 : Int))
      some (Sum.inl (x4, x5, x6, x10, x11, x12, x133, c1_0, c1_1, c1_2, c1_3, (), (), ())))
    | Sum.inr q803 => (
      some (Sum.inr (Sum.inr q803))))
  else (
    some (Sum.inr (Sum.inl (x4, x5, x6, x10, c1_0, c1_1, c1_2, c1_3, (), (), ()))))
noncomputable def law25_BeforeBounds_loop2 (s : (List ((List UInt8) × Int)) × (List ((List UInt8) × Int)) × (List ((List UInt8) × (Int))) × (Int) × (List UInt8) × (Int) × (Int) × (Int) × (Int) × (List ((List UInt8) × Int)) × (List ((List UInt8) × Int)) × (List ((List UInt8) × Int × Int)) × (Unit) × (Unit) × Unit) : Option (((List ((List UInt8) × Int)) × (List ((List UInt8) × Int)) × (List ((List UInt8) × (Int))) × (Int) × (List UInt8) × (Int) × (Int) × (Int) × (Int) × (List ((List UInt8) × Int)) × (List ((List UInt8) × Int)) × (List ((List UInt8) × Int × Int)) × (Unit) × (Unit) × Unit) ⊕ (((List ((List UInt8) × Int)) × (List ((List UInt8) × Int)) × (List ((List UInt8) × (Int))) × (Int) × (List UInt8) × (Int) × (Int) × (Int) × (List ((List UInt8) × Int)) × (List ((List UInt8) × Int)) × (List ((List UInt8) × Int × Int)) × (Unit) × (Unit) × Unit))) :=
  let x4 := s.1
  let x5 := s.2.1
  let x6 := s.2.2.1
  let x10 := s.2.2.2.1
  let x11 := s.2.2.2.2.1
  let x12 := s.2.2.2.2.2.1
  let x13 := s.2.2.2.2.2.2.1
  let x15 := s.2.2.2.2.2.2.2.1
  let c1_0 := s.2.2.2.2.2.2.2.2.1
  let c1_1 := s.2.2.2.2.2.2.2.2.2.1
  let c1_2 := s.2.2.2.2.2.2.2.2.2.2.1
  let c1_3 := s.2.2.2.2.2.2.2.2.2.2.2.1
  let x92 := (c1_2.length : Int)
  let x93 := (decide (x15 < x92))
  if x93 then (
    Option.bind (show Option (((List ((List UInt8) × Int)) × (List ((List UInt8) × Int)) × (List ((List UInt8) × (Int))) × (Int) × (List UInt8) × (Int) × (Int) × (Int) × (Int) × (List ((List UInt8) × Int)) × (List ((List UInt8) × Int)) × (List ((List UInt8) × Int × Int)) × (Unit) × (Unit) × Unit)) from (
      Option.bind ((lAt c1_2 x15).map (fun y => y)) fun x99 =>
      let x103 := ((x99.1 == x11))
      if x103 then (
        Option.bind ((lAt c1_2 x15).map (fun y => y)) fun x108 =>
        let x111 := (min x108.2 (2251799813685248 : Int))
        let x112 := IntKind.i64.wrap (x13 + x111)
        some (x4, x5, x6, x10, x11, x12, x112, x15, c1_0, c1_1, c1_2, c1_3, (), (), ()))
      else (
        some (x4, x5, x6, x10, x11, x12, x13, x15, c1_0, c1_1, c1_2, c1_3, (), (), ())))) fun o =>
    let x4 := o.1
    let x5 := o.2.1
    let x6 := o.2.2.1
    let x10 := o.2.2.2.1
    let x11 := o.2.2.2.2.1
    let x12 := o.2.2.2.2.2.1
    let x13 := o.2.2.2.2.2.2.1
    let x15 := o.2.2.2.2.2.2.2.1
    let c1_0 := o.2.2.2.2.2.2.2.2.1
    let c1_1 := o.2.2.2.2.2.2.2.2.2.1
    let c1_2 := o.2.2.2.2.2.2.2.2.2.2.1
    let c1_3 := o.2.2.2.2.2.2.2.2.2.2.2.1
    let x95 := IntKind.i64.wrap (x15 + (1 : Int))
    some (Sum.inl (x4, x5, x6, x10, x11, x12, x13, x95, c1_0, c1_1, c1_2, c1_3, (), (), ())))
  else (
    some (Sum.inr (x4, x5, x6, x10, x11, x12, x13, c1_0, c1_1, c1_2, c1_3, (), (), ())))
noncomputable def law25_BeforeBounds_loop3 (s : (List ((List UInt8) × Int)) × (List ((List UInt8) × Int)) × (List ((List UInt8) × (Int))) × (Int) × (List UInt8) × (Int) × (Int) × (Int) × (Int) × (List ((List UInt8) × Int)) × (List ((List UInt8) × Int)) × (List ((List UInt8) × Int × Int)) × (Unit) × (Unit) × Unit) : Option (((List ((List UInt8) × Int)) × (List ((List UInt8) × Int)) × (List ((List UInt8) × (Int))) × (Int) × (List UInt8) × (Int) × (Int) × (Int) × (Int) × (List ((List UInt8) × Int)) × (List ((List UInt8) × Int)) × (List ((List UInt8) × Int × Int)) × (Unit) × (Unit) × Unit) ⊕ (((List ((List UInt8) × Int)) × (List ((List UInt8) × Int)) × (List ((List UInt8) × (Int))) × (Int) × (List UInt8) × (Int) × (Int) × (Int) × (List ((List UInt8) × Int)) × (List ((List UInt8) × Int)) × (List ((List UInt8) × Int × Int)) × (Unit) × (Unit) × Unit))) :=
  let x4 := s.1
  let x5 := s.2.1
  let x6 := s.2.2.1
  let x10 := s.2.2.2.1
  let x11 := s.2.2.2.2.1
  let x12 := s.2.2.2.2.2.1
  let x13 := s.2.2.2.2.2.2.1
  let x14 := s.2.2.2.2.2.2.2.1
  let c1_0 := s.2.2.2.2.2.2.2.2.1
  let c1_1 := s.2.2.2.2.2.2.2.2.2.1
  let c1_2 := s.2.2.2.2.2.2.2.2.2.2.1
  let c1_3 := s.2.2.2.2.2.2.2.2.2.2.2.1
  let x71 := (x5.length : Int)
  let x72 := (decide (x14 < x71))
  if x72 then (
    Option.bind (show Option (((List ((List UInt8) × Int)) × (List ((List UInt8) × Int)) × (List ((List UInt8) × (Int))) × (Int) × (List UInt8) × (Int) × (Int) × (Int) × (Int) × (List ((List UInt8) × Int)) × (List ((List UInt8) × Int)) × (List ((List UInt8) × Int × Int)) × (Unit) × (Unit) × Unit)) from (
      Option.bind ((lAt x5 x14).map (fun y => y)) fun x77 =>
      let x81 := ((x77.1 == x11))
      if x81 then (
        Option.bind ((lAt x5 x14).map (fun y => y)) fun x85 =>
        let x88 := IntKind.i64.wrap (x12 + x85.2)
        some (x4, x5, x6, x10, x11, x88, x13, x14, c1_0, c1_1, c1_2, c1_3, (), (), ()))
      else (
        some (x4, x5, x6, x10, x11, x12, x13, x14, c1_0, c1_1, c1_2, c1_3, (), (), ())))) fun o =>
    let x4 := o.1
    let x5 := o.2.1
    let x6 := o.2.2.1
    let x10 := o.2.2.2.1
    let x11 := o.2.2.2.2.1
    let x12 := o.2.2.2.2.2.1
    let x13 := o.2.2.2.2.2.2.1
    let x14 := o.2.2.2.2.2.2.2.1
    let c1_0 := o.2.2.2.2.2.2.2.2.1
    let c1_1 := o.2.2.2.2.2.2.2.2.2.1
    let c1_2 := o.2.2.2.2.2.2.2.2.2.2.1
    let c1_3 := o.2.2.2.2.2.2.2.2.2.2.2.1
    let x74 := IntKind.i64.wrap (x14 + (1 : Int))
    some (Sum.inl (x4, x5, x6, x10, x11, x12, x13, x74, c1_0, c1_1, c1_2, c1_3, (), (), ())))
  else (
    some (Sum.inr (x4, x5, x6, x10, x11, x12, x13, c1_0, c1_1, c1_2, c1_3, (), (), ())))
noncomputable def law25_BeforeBounds_loop4 (s : (List ((List UInt8) × Int)) × (List ((List UInt8) × Int)) × (List ((List UInt8) × (Int))) × (Int) × (Int) × (List ((List UInt8) × Int)) × (List ((List UInt8) × Int)) × (List ((List UInt8) × Int × Int)) × (Unit) × (Unit) × Unit) : Option (((List ((List UInt8) × Int)) × (List ((List UInt8) × Int)) × (List ((List UInt8) × (Int))) × (Int) × (Int) × (List ((List UInt8) × Int)) × (List ((List UInt8) × Int)) × (List ((List UInt8) × Int × Int)) × (Unit) × (Unit) × Unit) ⊕ ((Unit) ⊕ (Bool))) :=
  let x4 := s.1
  let x5 := s.2.1
  let x6 := s.2.2.1
  let x10 := s.2.2.2.1
  let c1_0 := s.2.2.2.2.1
  let c1_1 := s.2.2.2.2.2.1
  let c1_2 := s.2.2.2.2.2.2.1
  let c1_3 := s.2.2.2.2.2.2.2.1
  let x59 := (c1_2.length : Int)
  let x60 := (decide (x10 < x59))
  if x60 then (
    Option.bind ((lAt c1_2 x10).map (fun y => y)) fun x66 =>
    Option.bind (iter law25_BeforeBounds_loop3 (x4, x5, x6, x10, x66.1, (0 : Int), (0 : Int), (0 : Int), c1_0, c1_1, c1_2, c1_3, (), (), ())) fun o =>
    let x4 := o.1
    let x5 := o.2.1
    let x6 := o.2.2.1
    let x10 := o.2.2.2.1
    let x11 := o.2.2.2.2.1
    let x12 := o.2.2.2.2.2.1
    let x13 := o.2.2.2.2.2.2.1
    let c1_0 := o.2.2.2.2.2.2.2.1
    let c1_1 := o.2.2.2.2.2.2.2.2.1
    let c1_2 := o.2.2.2.2.2.2.2.2.2.1
    let c1_3 := o.2.2.2.2.2.2.2.2.2.2.1
    Option.bind (iter law25_BeforeBounds_loop2 (x4, x5, x6, x10, x11, x12, x13, (0 : Int), c1_0, c1_1, c1_2, c1_3, (), (), ())) fun o =>
    let x4 := o.1
    let x5 := o.2.1
    let x6 := o.2.2.1
    let x10 := o.2.2.2.1
    let x11 := o.2.2.2.2.1
    let x12 := o.2.2.2.2.2.1
    let x13 := o.2.2.2.2.2.2.1
    let c1_0 := o.2.2.2.2.2.2.2.1
    let c1_1 := o.2.2.2.2.2.2.2.2.1
    let c1_2 := o.2.2.2.2.2.2.2.2.2.1
    let c1_3 := o.2.2.2.2.2.2.2.2.2.2.1
    let x115 := (decide (x12 > x13))
    let x117 := (if x115 = false then some x6 else none)
    let x118 := (if x115 = false then some x11 else none)
    Option.bind (if x115 = false then ((x117.bind (fun z617 => x118.map (fun z618 => (z617, z618)))).map (fun z619 => (alGet (eqZ .str) (zeroT (.int .i64)) z619.2 z619.1).1)).map some else some none) fun x119 =>
    let x120 := (if x115 = false then some x4 else none)
    let x121 := (if x115 = false then some x11 else none)
    Option.bind (if x115 = false then (((x120.bind (fun z620 => x121.map (fun z621 => (z620, z621)))).map (fun z622 => (z622.1, z622.2))).bind (fun z623 => ref25_At z623)).map some else some none) fun x122 =>
    let x123 := (if x115 = false then some x12 else none)
    Option.bind (if x115 = false then ((x122.bind (fun z624 => x123.map (fun z625 => (z624, z625)))).map (fun z626 => IntKind.i64.wrap (z626.1 + z626.2))).map some else some none) fun x124 =>
    Option.bind (if x115 = false then ((x119.bind (fun z627 => x124.map (fun z628 => (z627, z628)))).map (fun z629 => (z629.1 != z629.2))).map some else some none) fun x125 =>
    Option.bind (if x115 then some true else x125.map (fun z630 => z630)) fun x126 =>
    if x126 then (
      some (Sum.inr (Sum.inr false)))
    else (
      Option.bind (iter law25_BeforeBounds_loop1 (x4, x5, x6, x10, x11, x12, (0 : Int), c1_0, c1_1, c1_2, c1_3, (), (), ())) fun o =>
      match o with
      | Sum.inl p804 => (
        let x4 := p804.1
        let x5 := p804.2.1
        let x6 := p804.2.2.1
        let x10 := p804.2.2.2.1
        let c1_0 := p804.2.2.2.2.1
        let c1_1 := p804.2.2.2.2.2.1
        let c1_2 := p804.2.2.2.2.2.2.1
        let c1_3 := p804.2.2.2.2.2.2.2.1
        let x62 := IntKind.i64.wrap (x10 + (1 : Int))
        some (Sum.inl (x4, x5, x6, x62, c1_0, c1_1, c1_2, c1_3, (), (), ())))
      | Sum.inr q805 => (
        some (Sum.inr (Sum.inr q805)))))
  else (
    some (Sum.inr (Sum.inl (()))))
noncomputable def law25_BeforeBounds (a : (Int × (List ((List UInt8) × Int)) × (List ((List UInt8) × Int)) × (List ((List UInt8) × Int × Int)))) : Option (Bool) :=
  let x0 := a
  Option.bind (law25_great (x0.1, x0.2.1, x0.2.2.1, x0.2.2.2)) fun x19 =>
  if x19 then (
    Option.bind (law25_awake ()) fun x20 =>
    some x20)
  else (
    Option.bind (law25_table x0.2.1) fun x24 =>
    Option.bind (before_Take (x0.1, x24.1, x0.2.2.1, x0.2.2.2)) fun x35 =>
    let x40 := (x35.2.2 != (0 : Int))
    if x40 then (
      Option.bind (law25_awake ()) fun x41 =>
      some x41)
    else (
      Option.bind (before_Sum x35.1) fun x44 =>
      let x48 := (x44.2 != (0 : Int))
      let x50 := (if x48 = false then some x44.1 else none)
      let x51 := (if x48 = false then some () else none)
      Option.bind (if x48 = false then (x51.map (fun z33 => x0.1)).map some else some none) fun x52 =>
      Option.bind (if x48 = false then ((x52.map (fun z35 => ((0 : Int), z35))).map (fun z36 => (max z36.1 z36.2))).map some else some none) fun x53 =>
      Option.bind (if x48 = false then ((x50.bind (fun z37 => x53.map (fun z38 => (z37, z38)))).map (fun z39 => (decide (z39.1 > z39.2)))).map some else some none) fun x54 =>
      Option.bind (if x48 then some true else x54.map (fun z40 => z40)) fun x55 =>
      if x55 then (
        some false)
      else (
        Option.bind (iter law25_BeforeBounds_loop4 (x24.2, x35.1, x35.2.1, (0 : Int), x0.1, x0.2.1, x0.2.2.1, x0.2.2.2, (), (), ())) fun o =>
        match o with
        | Sum.inl p806 => (
          Option.bind (law25_awake ()) fun x167 =>
          some x167)
        | Sum.inr q807 => (
          some q807))))
noncomputable def law25_BeforeLess (a : Int × Int × (Int × Int)) : Option (Bool) :=
  let x0 := a.1
  let x1 := a.2.1
  let x2 := a.2.2
  Option.bind (if 0 ≤ (0 : Int) ∧ (0 : Int) < (2 : Int) then some (0 : Int).toNat else none) fun x25 =>
  Option.bind (([x2.1, x2.2] : List (Int))[x25]?) fun x26 =>
  Option.bind (if (1000001 : Int) = 0 then none else some (x26.tmod (1000001 : Int))) fun x27 =>
  let x28 := IntKind.i64.wrap x27
  Option.bind (if 0 ≤ (1 : Int) ∧ (1 : Int) < (2 : Int) then some (1 : Int).toNat else none) fun x29 =>
  Option.bind (([x2.1, x2.2] : List (Int))[x29]?) fun x30 =>
  Option.bind (if (1000001 : Int) = 0 then none else some (x30.tmod (1000001 : Int))) fun x31 =>
  let x32 := IntKind.i64.wrap x31
  let l35 := ([(([120] : List UInt8), x1)] : List ((List UInt8) × Int))
  let x41 := (min x28 x32)
  let l43 := ([(([120] : List UInt8), x41, (0 : Int))] : List ((List UInt8) × Int × Int))
  Option.bind (before_Take (x0, ([] : List ((List UInt8) × (Int))), l35, l43)) fun x44 =>
  let x53 := (max x28 x32)
  let l55 := ([(([120] : List UInt8), x53, (0 : Int))] : List ((List UInt8) × Int × Int))
  Option.bind (before_Take (x0, ([] : List ((List UInt8) × (Int))), l35, l55)) fun x56 =>
  Option.bind (before_Take (x0, ([] : List ((List UInt8) × (Int))), l35, ([] : List ((List UInt8) × Int × Int)))) fun x63 =>
  let x69 := (x44.2.2 != x56.2.2)
  let x71 := (if x69 = false then some x56.2.2 else none)
  let x72 := (if x69 = false then some x63.2.2 else none)
  Option.bind (if x69 = false then ((x71.bind (fun z17 => x72.map (fun z18 => (z17, z18)))).map (fun z19 => (z19.1 != z19.2))).map some else some none) fun x73 =>
  Option.bind (if x69 then some true else x73.map (fun z20 => z20)) fun x74 =>
  if x74 then (
    some false)
  else (
    Option.bind (before_Sum x44.1) fun x77 =>
    Option.bind (before_Sum x56.1) fun x82 =>
    Option.bind (before_Sum x63.1) fun x87 =>
    let x92 := (decide (x77.1 ≤ x82.1))
    let x94 := (if x92 = true then some x82.1 else none)
    let x95 := (if x92 = true then some x87.1 else none)
    Option.bind (if x92 = true then ((x94.bind (fun z39 => x95.map (fun z40 => (z39, z40)))).map (fun z41 => (decide (z41.1 ≤ z41.2)))).map some else some none) fun x96 =>
    Option.bind (if x92 then x96 else some false) fun x97 =>
    let x99 := (if x97 = true then some x87.1 else none)
    let x100 := (if x97 = true then some x0 else none)
    Option.bind (if x97 = true then ((x100.map (fun z43 => ((0 : Int), z43))).map (fun z44 => (max z44.1 z44.2))).map some else some none) fun x101 =>
    Option.bind (if x97 = true then ((x99.bind (fun z45 => x101.map (fun z46 => (z45, z46)))).map (fun z47 => (decide (z47.1 ≤ z47.2)))).map some else some none) fun x102 =>
    Option.bind (if x97 then x102 else some false) fun x103 =>
    Option.bind (if x103 = true then (law25_awake ()).map some else some none) fun x105 =>
    Option.bind (if x103 then x105 else some false) fun x106 =>
    some x106)
noncomputable def law25_BeforeSums_loop1 (s : (List ((List UInt8) × Int)) × (Int) × (List (Int)) × (Unit) × Unit) : Option (((List ((List UInt8) × Int)) × (Int) × (List (Int)) × (Unit) × Unit) ⊕ (((List ((List UInt8) × Int)) × (List (Int)) × (Unit) × Unit))) :=
  let x0 := s.1
  let x4 := s.2.1
  let l1003 := s.2.2.1
  let x15 := (x0.length : Int)
  let x16 := (decide (x4 < x15))
  if x16 then (
    Option.bind ((lAt x0 x4).map (fun y => y)) fun x22 =>
    let l25 := ([x22.2] : List (Int))
    Option.bind (if ((l1003.length : Int) + (l25.length : Int)) * (8 : Int) ≤ 140737488355328 ∧ (l1003.length : Int) + (l25.length : Int) ≤ 4611686018427387904 then some (l1003 ++ l25) else none) fun l1003 =>
    let x18 := IntKind.i64.wrap (x4 + (1 : Int))
    some (Sum.inl (x0, x18, l1003, (), ())))
  else (
    some (Sum.inr (x0, l1003, (), ())))
noncomputable def law25_BeforeSums (a : (List ((List UInt8) × Int))) : Option (Bool) :=
  let x0 := a
  let x10 := (x0.length : Int)
  let x11 := (decide (x10 > (200 : Int)))
  if x11 then (
    Option.bind (law25_awake ()) fun x12 =>
    some x12)
  else (
    Option.bind (iter law25_BeforeSums_loop1 (x0, (0 : Int), ([] : List (Int)), (), ())) fun o =>
    let x0 := o.1
    let l1003 := o.2.1
    Option.bind (before_Sum x0) fun x29 =>
    Option.bind (cents_Sum l1003) fun x34 =>
    let x39 := (x29.1 == x34.1)
    let x41 := (if x39 = true then some x29.2 else none)
    let x42 := (if x39 = true then some x34.2 else none)
    Option.bind (if x39 = true then ((x41.bind (fun z7 => x42.map (fun z8 => (z7, z8)))).map (fun z9 => (z9.1 == z9.2))).map some else some none) fun x43 =>
    Option.bind (if x39 then x43 else some false) fun x44 =>
    Option.bind (if x44 = true then (law25_awake ()).map some else some none) fun x46 =>
    Option.bind (if x44 then x46 else some false) fun x47 =>
    some x47)
noncomputable def law25_BeforeAll_loop1 (s : (Int) × (List ((List UInt8) × Int)) × (Int) × (Int) × Unit) : Option (((Int) × (List ((List UInt8) × Int)) × (Int) × (Int) × Unit) ⊕ (((Int) × (List ((List UInt8) × Int)) × (Int) × Unit) ⊕ (Bool))) :=
  let x0 := s.1
  let x1 := s.2.1
  let x5 := s.2.2.1
  let x6 := s.2.2.2.1
  let x18 := (x1.length : Int)
  let x19 := (decide (x6 < x18))
  if x19 then (
    Option.bind ((lAt x1 x6).map (fun y => y)) fun x24 =>
    let x27 := (decide (x24.2 > (1099511627776 : Int)))
    if x27 then (
      Option.bind (law25_awake ()) fun x28 =>
      some (Sum.inr (Sum.inr x28)))
    else (
      Option.bind ((lAt x1 x6).map (fun y => y)) fun x32 =>
      let x35 := (max (0 : Int) x32.2)
      let x36 := IntKind.i64.wrap (x5 + x35)
      let x21 := IntKind.i64.wrap (x6 + (1 : Int))
      some (Sum.inl (x0, x1, x36, x21, ()))))
  else (
    some (Sum.inr (Sum.inl (x0, x1, x5, ()))))
noncomputable def law25_BeforeAll (a : Int × (List ((List UInt8) × Int))) : Option (Bool) :=
  let x0 := a.1
  let x1 := a.2
  let x13 := (x1.length : Int)
  let x14 := (decide (x13 > (60 : Int)))
  if x14 then (
    Option.bind (law25_awake ()) fun x15 =>
    some x15)
  else (
    Option.bind (iter law25_BeforeAll_loop1 (x0, x1, (0 : Int), (0 : Int), ())) fun o =>
    match o with
    | Sum.inl p1 => (
      let x0 := p1.1
      let x1 := p1.2.1
      let x5 := p1.2.2.1
      Option.bind (before_Take (x0, ([] : List ((List UInt8) × (Int))), x1, ([] : List ((List UInt8) × Int × Int)))) fun x40 =>
      let x45 := (x40.2.2 != (0 : Int))
      if x45 then (
        Option.bind (law25_awake ()) fun x46 =>
        some x46)
      else (
        Option.bind (before_Sum x40.1) fun x49 =>
        let x53 := (x49.2 == (0 : Int))
        let x55 := (if x53 = true then some x49.1 else none)
        let x56 := (if x53 = true then some x0 else none)
        Option.bind (if x53 = true then ((x56.map (fun z22 => ((0 : Int), z22))).map (fun z23 => (max z23.1 z23.2))).map some else some none) fun x57 =>
        let x58 := (if x53 = true then some x5 else none)
        Option.bind (if x53 = true then ((x57.bind (fun z24 => x58.map (fun z25 => (z24, z25)))).map (fun z26 => (min z26.1 z26.2))).map some else some none) fun x59 =>
        Option.bind (if x53 = true then ((x55.bind (fun z27 => x59.map (fun z28 => (z27, z28)))).map (fun z29 => (z29.1 == z29.2))).map some else some none) fun x60 =>
        Option.bind (if x53 then x60 else some false) fun x61 =>
        Option.bind (if x61 = true then (law25_awake ()).map some else some none) fun x63 =>
        Option.bind (if x61 then x63 else some false) fun x64 =>
        some x64))
    | Sum.inr q2 => (
      some q2))
end WB
namespace WB
open Go Go.RowKit

theorem Mul64_eq {n m : Nat} (hn : n < 18446744073709551616) (hm : m < 18446744073709551616) :
    math_bits_Mul64 ((n : Int), (m : Int)) = some (((n * m / 18446744073709551616 : Nat) : Int), ((n * m % 18446744073709551616 : Nat) : Int)) := by
  unfold math_bits_Mul64
  obtain ⟨h1, h2, h3, h4⟩ := Go.Lib.mul64_hi n m hn hm
  have l : ∀ {a : Nat}, a < 18446744073709551616 → IntKind.u64.wrap (a : Int) = (a : Int) := fun h => wu64 h
  have h6 : n * m / 18446744073709551616 < 18446744073709551616 := by
    rw [Nat.div_lt_iff_lt_mul (by decide)]
    exact Nat.mul_lt_mul'' hn hm
  have e1 := Int.natCast_mul (n % 4294967296) (m % 4294967296)
  have e2 := Int.natCast_mul (n / 4294967296) (m % 4294967296)
  have e3 := Int.natCast_mul (n % 4294967296) (m / 4294967296)
  have e4 := Int.natCast_mul (n / 4294967296) (m / 4294967296)
  have e5 := Int.natCast_mul n m
  dsimp only
  rw [shr32, bs, shr32, bs, mask32 hn, mask32 hm, ← e1, ← e2, ← e3, ← e4, ← e5]
  generalize n % 4294967296 * (m % 4294967296) = A at *
  generalize n / 4294967296 * (m % 4294967296) = B at *
  generalize n % 4294967296 * (m / 4294967296) = C at *
  generalize n / 4294967296 * (m / 4294967296) = E at *
  generalize n * m = F at *
  rw [wu64 h1, shr32, bs, wu64 (show B < 18446744073709551616 by omega), ← Int.natCast_add, wu64 h2, shr32, bs, mask32 h2, wu64 (show C < 18446744073709551616 by omega), ← Int.natCast_add, wu64 h3, shr32, bs, wu64 (show E < 18446744073709551616 by omega), ← Int.natCast_add, wu64 (show E + (B + A / 4294967296) / 4294967296 < 18446744073709551616 by omega), ← Int.natCast_add, h4, wu64 h6, wu64m]

theorem shrK (n k : Nat) (hk : k ≤ 64) : (if (k : Int) < 0 then none else some ((n : Int).fdiv (2 ^ (min (k : Int).toNat 64)))) = some ((n / 2 ^ k : Nat) : Int) := by
  rw [if_neg (by omega), Int.toNat_natCast, Nat.min_eq_left hk, Int.fdiv_eq_ediv_of_nonneg _ (Int.pow_nonneg (by decide))]
  congr 1
theorem shr16 (n : Nat) : (if (16 : Int) < 0 then none else some ((n : Int).fdiv (2 ^ (min (16 : Int).toNat 64)))) = some ((n / 65536 : Nat) : Int) := shrK n 16 (by decide)
theorem shr8 (n : Nat) : (if (8 : Int) < 0 then none else some ((n : Int).fdiv (2 ^ (min (8 : Int).toNat 64)))) = some ((n / 256 : Nat) : Int) := shrK n 8 (by decide)

theorem len8L : ∀ n : Fin 256, ([0, 1, 2, 2, 3, 3, 3, 3, 4, 4, 4, 4, 4, 4, 4, 4, 5, 5, 5, 5, 5, 5, 5, 5, 5, 5, 5, 5, 5, 5, 5, 5, 6, 6, 6, 6, 6, 6, 6, 6, 6, 6, 6, 6, 6, 6, 6, 6, 6, 6, 6, 6, 6, 6, 6, 6, 6, 6, 6, 6, 6, 6, 6, 6, 7, 7, 7, 7, 7, 7, 7, 7, 7, 7, 7, 7, 7, 7, 7, 7, 7, 7, 7, 7, 7, 7, 7, 7, 7, 7, 7, 7, 7, 7, 7, 7, 7, 7, 7, 7, 7, 7, 7, 7, 7, 7, 7, 7, 7, 7, 7, 7, 7, 7, 7, 7, 7, 7, 7, 7, 7, 7, 7, 7, 7, 7, 7, 7, 8, 8, 8, 8, 8, 8, 8, 8, 8, 8, 8, 8, 8, 8, 8, 8, 8, 8, 8, 8, 8, 8, 8, 8, 8, 8, 8, 8, 8, 8, 8, 8, 8, 8, 8, 8, 8, 8, 8, 8, 8, 8, 8, 8, 8, 8, 8, 8, 8, 8, 8, 8, 8, 8, 8, 8, 8, 8, 8, 8, 8, 8, 8, 8, 8, 8, 8, 8, 8, 8, 8, 8, 8, 8, 8, 8, 8, 8, 8, 8, 8, 8, 8, 8, 8, 8, 8, 8, 8, 8, 8, 8, 8, 8, 8, 8, 8, 8, 8, 8, 8, 8, 8, 8, 8, 8, 8, 8, 8, 8, 8, 8, 8, 8, 8, 8, 8, 8, 8, 8, 8, 8, 8, 8, 8, 8, 8, 8] : List UInt8)[n.val]? = some (UInt8.ofNat (Go.Lib.bitLen n.val)) := by decide +kernel

theorem Len64_eq {n : Nat} (hn : n < 18446744073709551616) : math_bits_Len64 (n : Int) = some (Go.Lib.bitLen n : Int) := by
  unfold math_bits_Len64
  have a1 : ∃ n1 k1 : Nat, n1 < 4294967296 ∧ k1 ≤ 32 ∧ Go.Lib.bitLen n = k1 + Go.Lib.bitLen n1 ∧ (if decide ((n : Int) ≥ (4294967296 : Int)) = true then
      Option.bind (if (32 : Int) < 0 then none else some ((n : Int).fdiv (2 ^ (min (32 : Int).toNat 64)))) fun x6 => some (x6, (32 : Int), ()) else some ((n : Int), (0 : Int), ())) = some ((n1 : Int), (k1 : Int), ()) := by
    by_cases h : 4294967296 ≤ n
    · refine ⟨n / 4294967296, 32, by omega, by omega, Go.Lib.bitLen_shift32 n h hn, ?_⟩
      rw [if_pos (by simpa using by omega), shr32]; rfl
    · refine ⟨n, 0, by omega, by omega, by omega, ?_⟩
      rw [if_neg (by simpa using by omega)]; rfl
  obtain ⟨n1, k1, hn1, hk1, hl1, he1⟩ := a1
  have a2 : ∃ n2 k2 : Nat, n2 < 65536 ∧ k2 ≤ 48 ∧ Go.Lib.bitLen n = k2 + Go.Lib.bitLen n2 ∧ (if decide ((n1 : Int) ≥ (65536 : Int)) = true then
      Option.bind (if (16 : Int) < 0 then none else some ((n1 : Int).fdiv (2 ^ (min (16 : Int).toNat 64)))) fun x6 => some (x6, IntKind.i64.wrap ((k1 : Int) + (16 : Int)), ()) else some ((n1 : Int), (k1 : Int), ())) = some ((n2 : Int), (k2 : Int), ()) := by
    by_cases h : 65536 ≤ n1
    · refine ⟨n1 / 65536, k1 + 16, by omega, by omega, by rw [hl1, Go.Lib.bitLen_shift16 n1 h (by omega)]; omega, ?_⟩
      rw [if_pos (by simpa using by omega), shr16, w64' (by omega) (by omega)]; rfl
    · refine ⟨n1, k1, by omega, by omega, by omega, ?_⟩
      rw [if_neg (by simpa using by omega)]
  obtain ⟨n2, k2, hn2, hk2, hl2, he2⟩ := a2
  have a3 : ∃ n3 k3 : Nat, n3 < 256 ∧ k3 ≤ 56 ∧ Go.Lib.bitLen n = k3 + Go.Lib.bitLen n3 ∧ (if decide ((n2 : Int) ≥ (256 : Int)) = true then
      Option.bind (if (8 : Int) < 0 then none else some ((n2 : Int).fdiv (2 ^ (min (8 : Int).toNat 64)))) fun x6 => some (x6, IntKind.i64.wrap ((k2 : Int) + (8 : Int)), ()) else some ((n2 : Int), (k2 : Int), ())) = some ((n3 : Int), (k3 : Int), ()) := by
    by_cases h : 256 ≤ n2
    · refine ⟨n2 / 256, k2 + 8, by omega, by omega, by rw [hl2, Go.Lib.bitLen_shift8 n2 h (by omega)]; omega, ?_⟩
      rw [if_pos (by simpa using by omega), shr8, w64' (by omega) (by omega)]; rfl
    · refine ⟨n2, k2, by omega, by omega, by omega, ?_⟩
      rw [if_neg (by simpa using by omega)]
  obtain ⟨n3, k3, hn3, hk3, hl3, he3⟩ := a3
  have h8 : Go.Lib.bitLen n3 ≤ 8 := Go.Lib.bitLen_le8 ⟨n3, hn3⟩
  dsimp only
  rw [he1, bs]
  dsimp only
  rw [he2, bs]
  dsimp only
  rw [he3, bs]
  dsimp only
  have hw : IntKind.u8.wrap (n3 : Int) = (n3 : Int) := by rw [IntKind.wrap_u8]; omega
  rw [hw, sAt_nat (len8L ⟨n3, hn3⟩), bs]
  have hb : ((UInt8.ofNat (Go.Lib.bitLen n3)).toNat) = Go.Lib.bitLen n3 := by rw [UInt8.toNat_ofNat']; omega
  rw [hb, w64' (n := (Go.Lib.bitLen n3 : Int)) (by omega) (by omega), w64' (by omega) (by omega), hl3]
  rfl
theorem LeadingZeros64_eq {n : Nat} (hn : n < 18446744073709551616) : math_bits_LeadingZeros64 (n : Int) = some (64 - (Go.Lib.bitLen n : Int)) := by
  unfold math_bits_LeadingZeros64
  have : Go.Lib.bitLen n ≤ 64 := Go.Lib.bitLen_le n 64 (by omega) hn
  dsimp only
  rw [Len64_eq hn, bs, w64' (by omega) (by omega)]
end WB
namespace WB
open Go Go.RowKit

theorem bitLen_bd : ∀ (n : Nat), n < 18446744073709551616 → n ≠ 0 → 2 ^ Go.Lib.bitLen n ≤ 2 * n ∧ n < 2 ^ Go.Lib.bitLen n := by
  intro n
  induction n using Nat.strongRecOn with
  | _ n ih =>
    intro h h0
    rw [Go.Lib.bitLen_half n h0 h]
    by_cases h1 : n / 2 = 0
    · have : n = 1 := by omega
      subst this
      decide
    · obtain ⟨a, b⟩ := ih (n / 2) (by omega) (by omega) h1
      rw [Nat.add_comm 1, Nat.pow_succ]
      omega

section
variable {p z u n : Nat}
/-- One turn of guessing: the guess is too great just if the test says so; what is left says whether to go on. -/
theorem kn_turn (hz : z < 4294967296) (hn : n < 4294967296) (hu : u < p * 4294967296 + z) {q r : Nat} (h : q * p + r = u) (hQ : (u * 4294967296 + n) / (p * 4294967296 + z) ≤ q) (hq : q ≤ 4294967297) (hr : r < 4294967296) :
    q * z < 18446744073709551616 ∧ 4294967296 * r + n < 18446744073709551616 ∧
    ((q < 4294967296 ∧ q * z ≤ 4294967296 * r + n → q = (u * 4294967296 + n) / (p * 4294967296 + z))
    ∧ (4294967296 ≤ q ∨ 4294967296 * r + n < q * z → 1 ≤ q ∧ (q - 1) * p + (r + p) = u ∧ (u * 4294967296 + n) / (p * 4294967296 + z) ≤ q - 1 ∧ (4294967296 ≤ r + p → q - 1 = (u * 4294967296 + n) / (p * 4294967296 + z)))) := by
  have hd : 0 < p * 4294967296 + z := by omega
  have h1 : q * z ≤ 4294967297 * 4294967295 := Nat.mul_le_mul hq (by omega)
  refine ⟨by omega, by omega, fun ⟨a, b⟩ => ?_, fun a => ?_⟩
  · refine Nat.le_antisymm ?_ hQ
    rw [Nat.le_div_iff_mul_le hd]
    have := (kn_test (b := 4294967296) (z := z) (n := n) h)
    omega
  · have hlt : (u * 4294967296 + n) / (p * 4294967296 + z) < q := by
      rcases a with a | a
      · exact Nat.lt_of_lt_of_le (kn_digit hn hu) a
      · exact (kn_lt hd).1 ((kn_test h).1 a)
    have h1 : 1 ≤ q := Nat.lt_of_le_of_lt (Nat.zero_le _) hlt
    have e : (q - 1) * p + (r + p) = u := by
      obtain ⟨k, rfl⟩ : ∃ k, q = k + 1 := ⟨q - 1, by omega⟩
      rw [Nat.add_mul] at h
      simp only [Nat.add_sub_cancel]
      omega
    refine ⟨h1, e, Nat.le_sub_one_of_lt hlt, fun hb => ?_⟩
    refine Nat.le_antisymm ?_ (Nat.le_sub_one_of_lt hlt)
    rw [Nat.le_div_iff_mul_le hd]
    exact kn_break hb (by omega) hz e

theorem Div64_loop1_eq (hp : 2147483648 ≤ p) (hp2 : p < 4294967296) (hz : z < 4294967296) (hn : n < 4294967296) (hu : u < p * 4294967296 + z) (y s n0 : Int) :
    iter math_bits_Div64_loop1 (y, s, (p : Int), (z : Int), (u : Int), (n : Int), n0, ((u / p : Nat) : Int), ((u % p : Nat) : Int), ()) = some (y, s, (p : Int), (z : Int), (u : Int), (n : Int), n0, (((u * 4294967296 + n) / (p * 4294967296 + z) : Nat) : Int), ()) := by
  obtain ⟨f1, f2⟩ := kn_first (b := 4294967296) (p := p) (by omega) (by omega) hz hn hu
  refine iter_inv (fun m st => ∃ q r : Nat, st = (y, s, (p : Int), (z : Int), (u : Int), (n : Int), n0, (q : Int), (r : Int), ()) ∧ q * p + r = u ∧ (u * 4294967296 + n) / (p * 4294967296 + z) ≤ q ∧ q ≤ 4294967297 ∧ r < 4294967296 ∧ m = q) ?_ (u / p) _ ⟨u / p, u % p, rfl, Nat.div_add_mod' u p, f1, by omega, Nat.lt_of_lt_of_le (Nat.mod_lt _ (by omega)) (by omega), rfl⟩
  rintro m st ⟨q, r, rfl, h1, h2, h3, h4, hm⟩
  obtain ⟨b1, b2, c1, c2⟩ := kn_turn hz hn hu h1 h2 h3 h4
  have w1 : IntKind.u64.wrap ((q : Int) * (z : Int)) = ((q * z : Nat) : Int) := by rw [← Int.natCast_mul]; exact wu64 b1
  have w2 : IntKind.u64.wrap ((4294967296 : Int) * (r : Int)) = ((4294967296 * r : Nat) : Int) := by rw [wu64' (by omega) (by omega)]; omega
  have w3 : IntKind.u64.wrap (((4294967296 * r : Nat) : Int) + (n : Int)) = ((4294967296 * r + n : Nat) : Int) := by rw [wu64' (by omega) (by omega)]; omega
  have w5 : IntKind.u64.wrap ((r : Int) + (p : Int)) = ((r + p : Nat) : Int) := by rw [wu64' (by omega) (by omega)]; omega
  have hT : ∃ t : Bool, (t = true ↔ (4294967296 ≤ q ∨ 4294967296 * r + n < q * z)) ∧ math_bits_Div64_loop1 (y, s, (p : Int), (z : Int), (u : Int), (n : Int), n0, (q : Int), (r : Int), ()) = (if t then (if 4294967296 ≤ r + p then some (Sum.inr (y, s, (p : Int), (z : Int), (u : Int), (n : Int), n0, IntKind.u64.wrap ((q : Int) - 1), ())) else some (Sum.inl (y, s, (p : Int), (z : Int), (u : Int), (n : Int), n0, IntKind.u64.wrap ((q : Int) - 1), ((r + p : Nat) : Int), ()))) else some (Sum.inr (y, s, (p : Int), (z : Int), (u : Int), (n : Int), n0, (q : Int), ()))) := by
    unfold math_bits_Div64_loop1
    dsimp only
    rw [w5]
    have g2 : decide (((r + p : Nat) : Int) ≥ 4294967296) = decide (4294967296 ≤ r + p) := by apply decide_eq_decide.2; omega
    rw [g2]
    by_cases hb : 4294967296 ≤ q
    · have g1 : decide ((q : Int) ≥ 4294967296) = true := by simpa using by omega
      refine ⟨true, by simp [hb], ?_⟩
      simp only [g1, Bool.true_eq_false, if_false, if_true, bs, decide_eq_true_eq]
    · have g1 : decide ((q : Int) ≥ 4294967296) = false := by simpa using by omega
      refine ⟨decide (4294967296 * r + n < q * z), by simp [hb], ?_⟩
      have g3 : decide (((q * z : Nat) : Int) > ((4294967296 * r + n : Nat) : Int)) = decide (4294967296 * r + n < q * z) := by apply decide_eq_decide.2; omega
      simp only [g1, if_true, bs, ms, w1, w2, w3, g3, Bool.false_eq_true, if_false, decide_eq_true_eq]
  obtain ⟨t, ht, e⟩ := hT
  rw [e]
  cases t with
  | false =>
    refine .inr ?_
    have := c1 (by have := mt ht.2 (by decide); omega)
    rw [if_neg (by decide), ← this]
  | true =>
    obtain ⟨d1, d2, d3, d4⟩ := c2 (ht.1 rfl)
    have w6 : IntKind.u64.wrap ((q : Int) - 1) = ((q - 1 : Nat) : Int) := by rw [wu64' (by omega) (by omega)]; omega
    rw [if_pos rfl, w6]
    by_cases hb : 4294967296 ≤ r + p
    · rw [if_pos hb, d4 hb]
      exact .inr rfl
    · rw [if_neg hb]
      exact .inl ⟨_, rfl, q - 1, by omega, q - 1, r + p, rfl, d2, d3, by omega, by omega, rfl⟩
theorem Div64_loop2_eq (hp : 2147483648 ≤ p) (hp2 : p < 4294967296) (hz : z < 4294967296) (hn : n < 4294967296) (hu : u < p * 4294967296 + z) (y s x15 x17 : Int) :
    iter math_bits_Div64_loop2 (y, s, (p : Int), (z : Int), (n : Int), x15, ((u % p : Nat) : Int), x17, ((u / p : Nat) : Int), ()) = some (y, s, (n : Int), x15, x17, (((u * 4294967296 + n) / (p * 4294967296 + z) : Nat) : Int), ()) := by
  obtain ⟨f1, f2⟩ := kn_first (b := 4294967296) (p := p) (by omega) (by omega) hz hn hu
  refine iter_inv (fun m st => ∃ q r : Nat, st = (y, s, (p : Int), (z : Int), (n : Int), x15, (r : Int), x17, (q : Int), ()) ∧ q * p + r = u ∧ (u * 4294967296 + n) / (p * 4294967296 + z) ≤ q ∧ q ≤ 4294967297 ∧ r < 4294967296 ∧ m = q) ?_ (u / p) _ ⟨u / p, u % p, rfl, Nat.div_add_mod' u p, f1, by omega, Nat.lt_of_lt_of_le (Nat.mod_lt _ (by omega)) (by omega), rfl⟩
  rintro m st ⟨q, r, rfl, h1, h2, h3, h4, hm⟩
  obtain ⟨b1, b2, c1, c2⟩ := kn_turn hz hn hu h1 h2 h3 h4
  have w1 : IntKind.u64.wrap ((q : Int) * (z : Int)) = ((q * z : Nat) : Int) := by rw [← Int.natCast_mul]; exact wu64 b1
  have w2 : IntKind.u64.wrap ((4294967296 : Int) * (r : Int)) = ((4294967296 * r : Nat) : Int) := by rw [wu64' (by omega) (by omega)]; omega
  have w3 : IntKind.u64.wrap (((4294967296 * r : Nat) : Int) + (n : Int)) = ((4294967296 * r + n : Nat) : Int) := by rw [wu64' (by omega) (by omega)]; omega
  have w5 : IntKind.u64.wrap ((r : Int) + (p : Int)) = ((r + p : Nat) : Int) := by rw [wu64' (by omega) (by omega)]; omega
  have hT : ∃ t : Bool, (t = true ↔ (4294967296 ≤ q ∨ 4294967296 * r + n < q * z)) ∧ math_bits_Div64_loop2 (y, s, (p : Int), (z : Int), (n : Int), x15, (r : Int), x17, (q : Int), ()) = (if t then (if 4294967296 ≤ r + p then some (Sum.inr (y, s, (n : Int), x15, x17, IntKind.u64.wrap ((q : Int) - 1), ())) else some (Sum.inl (y, s, (p : Int), (z : Int), (n : Int), x15, ((r + p : Nat) : Int), x17, IntKind.u64.wrap ((q : Int) - 1), ()))) else some (Sum.inr (y, s, (n : Int), x15, x17, (q : Int), ()))) := by
    unfold math_bits_Div64_loop2
    dsimp only
    rw [w5]
    have g2 : decide (((r + p : Nat) : Int) ≥ 4294967296) = decide (4294967296 ≤ r + p) := by apply decide_eq_decide.2; omega
    rw [g2]
    by_cases hb : 4294967296 ≤ q
    · have g1 : decide ((q : Int) ≥ 4294967296) = true := by simpa using by omega
      refine ⟨true, by simp [hb], ?_⟩
      simp only [g1, Bool.true_eq_false, if_false, if_true, bs, decide_eq_true_eq]
    · have g1 : decide ((q : Int) ≥ 4294967296) = false := by simpa using by omega
      refine ⟨decide (4294967296 * r + n < q * z), by simp [hb], ?_⟩
      have g3 : decide (((q * z : Nat) : Int) > ((4294967296 * r + n : Nat) : Int)) = decide (4294967296 * r + n < q * z) := by apply decide_eq_decide.2; omega
      simp only [g1, if_true, bs, ms, w1, w2, w3, g3, Bool.false_eq_true, if_false, decide_eq_true_eq]
  obtain ⟨t, ht, e⟩ := hT
  rw [e]
  cases t with
  | false =>
    refine .inr ?_
    have := c1 (by have := mt ht.2 (by decide); omega)
    rw [if_neg (by decide), ← this]
  | true =>
    obtain ⟨d1, d2, d3, d4⟩ := c2 (ht.1 rfl)
    have w6 : IntKind.u64.wrap ((q : Int) - 1) = ((q - 1 : Nat) : Int) := by rw [wu64' (by omega) (by omega)]; omega
    rw [if_pos rfl, w6]
    by_cases hb : 4294967296 ≤ r + p
    · rw [if_pos hb, d4 hb]
      exact .inr rfl
    · rw [if_neg hb]
      exact .inl ⟨_, rfl, q - 1, by omega, q - 1, r + p, rfl, d2, d3, by omega, by omega, rfl⟩
end
end WB
namespace WB
open Go Go.RowKit

theorem shlK (n k : Nat) (hk : k ≤ 64) : (if (k : Int) < 0 then none else some (IntKind.u64.wrap ((n : Int) * 2 ^ (min (k : Int).toNat 64)))) = some ((n * 2 ^ k % 18446744073709551616 : Nat) : Int) := by
  rw [if_neg (by omega), Int.toNat_natCast, Nat.min_eq_left hk]
  refine congrArg some ?_
  rw [show (n : Int) * 2 ^ k = ((n * 2 ^ k : Nat) : Int) by rw [Int.natCast_mul, Int.natCast_pow]; rfl]
  exact wu64m _
theorem orJ {x y k : Nat} (hx : x % 2 ^ k = 0) (hx1 : x < 18446744073709551616) (hy : y < 2 ^ k) (hy1 : y < 18446744073709551616) : bitZ .or .u64 (x : Int) (y : Int) = ((x + y : Nat) : Int) := by
  rw [bitZ_bits _ _ _ _ (.inr rfl)]
  have h := bits_join .u64 64 (by decide) (fun n h1 h2 => wu64' h1 (by simpa using h2)) k (x : Int) (y : Int) (by omega) (by
      have : ((x % 2 ^ k : Nat) : Int) = 0 := by rw [hx]; rfl
      rw [Int.natCast_emod, Int.natCast_pow] at this
      exact this) (by have : ((2 : Int) ^ 64) = 18446744073709551616 := by decide
                      omega) (by omega) (by
      have : (y : Int) < ((2 ^ k : Nat) : Int) := by omega
      rw [Int.natCast_pow] at this
      exact this) (by have : ((2 : Int) ^ 64) = 18446744073709551616 := by decide
                      omega)
  rw [h]; omega

theorem quoN {a b : Nat} (hb : b ≠ 0) (ha : a < 18446744073709551616) : (if (b : Int) = 0 then none else some (IntKind.u64.wrap ((a : Int).tdiv (b : Int)))) = some ((a / b : Nat) : Int) := by
  rw [if_neg (by omega)]
  congr 1
  rw [Int.tdiv_eq_ediv_of_nonneg (by omega), ← Int.natCast_ediv]
  exact wu64 (Nat.lt_of_le_of_lt (Nat.div_le_self _ _) ha)
theorem remN {a b : Nat} (hb : b ≠ 0) : (if (b : Int) = 0 then none else some ((a : Int).tmod (b : Int))) = some ((a % b : Nat) : Int) := by
  rw [if_neg (by omega)]
  congr 1
/-- What is left, with words that wrap. -/
theorem left64 {a b m q : Nat} (hd : 0 < m) (hm : m < 18446744073709551616) (h : q = (a * 4294967296 + b) / m) :
    IntKind.u64.wrap (IntKind.u64.wrap (IntKind.u64.wrap ((a : Int) * 4294967296) + (b : Int)) - IntKind.u64.wrap ((q : Int) * (m : Int))) = (((a * 4294967296 + b) % m : Nat) : Int) := by
  have h1 := Nat.div_add_mod (a * 4294967296 + b) m
  rw [← h] at h1
  have h2 := Nat.mod_lt (a * 4294967296 + b) hd
  generalize (a * 4294967296 + b) % m = r at *
  rw [← Int.natCast_mul, Nat.mul_comm q m]
  generalize m * q = t at *
  simp only [IntKind.wrap_u64]
  omega

theorem tot64 {u vh vl w A1 A0 r v : Nat} (h1 : A1 + w = u * 4294967296 + vh) (h2 : A0 + r = w * 4294967296 + vl) (h3 : vh * 4294967296 + vl = v) : u * 18446744073709551616 + v = A1 * 4294967296 + A0 + r := by
  have e : u * 18446744073709551616 = u * 4294967296 * 4294967296 := by rw [Nat.mul_assoc]
  rw [e, ← h3, ← Nat.add_assoc, ← Nat.add_mul, ← h1, Nat.add_mul, Nat.add_assoc, ← h2, Nat.add_assoc]
theorem Div64_eq {hi lo y : Nat} (hy : y < 18446744073709551616) (hlo : lo < 18446744073709551616) (hh : hi < y) :
    math_bits_Div64 ((hi : Int), (lo : Int), (y : Int)) = some ((((hi * 18446744073709551616 + lo) / y : Nat) : Int), (((hi * 18446744073709551616 + lo) % y : Nat) : Int)) := by
  have hy0 : y ≠ 0 := by omega
  have g1 : ((y : Int) == 0) = false := by simpa using by omega
  have g2 : decide ((y : Int) ≤ (hi : Int)) = false := by simpa using by omega
  by_cases h0 : hi = 0
  · subst h0
    unfold math_bits_Div64
    dsimp only
    rw [g1, g2, quoN hy0 hlo, remN hy0]
    simp
  obtain ⟨k1, k2⟩ := bitLen_bd y hy hy0
  have k3 : Go.Lib.bitLen y ≤ 64 := Go.Lib.bitLen_le y 64 (by omega) hy
  have k4 : 1 ≤ Go.Lib.bitLen y := by
    rcases Nat.eq_zero_or_pos (Go.Lib.bitLen y) with h | h
    · rw [h] at k2; omega
    · exact h
  -- the shift
  obtain ⟨s, hs⟩ : ∃ s, s = 64 - Go.Lib.bitLen y := ⟨_, rfl⟩
  have e64 : 2 ^ Go.Lib.bitLen y * 2 ^ s = 18446744073709551616 := by
    rw [← Nat.pow_add, show Go.Lib.bitLen y + s = 64 by omega]
  have ps : 0 < 2 ^ s := Nat.pow_pos (by decide)
  have n1 : 9223372036854775808 ≤ y * 2 ^ s := by
    have := Nat.mul_le_mul_right (2 ^ s) k1
    rw [Nat.mul_assoc] at this
    omega
  have n2 : y * 2 ^ s < 18446744073709551616 := by rw [← e64]; exact Nat.mul_lt_mul_of_pos_right k2 ps
  have n3 : hi * 2 ^ s + 2 ^ s ≤ y * 2 ^ s := by
    have := Nat.mul_le_mul_right (2 ^ s) (show hi + 1 ≤ y from hh)
    rwa [Nat.add_mul, Nat.one_mul] at this
  have n4 : lo / 2 ^ Go.Lib.bitLen y < 2 ^ s := by rw [Nat.div_lt_iff_lt_mul (Nat.pow_pos (by decide)), Nat.mul_comm, e64]; exact hlo
  have n5 : lo * 2 ^ s / 18446744073709551616 = lo / 2 ^ Go.Lib.bitLen y := by rw [← e64, Nat.mul_div_mul_right _ _ ps]
  have n6 := Nat.div_add_mod (lo * 2 ^ s) 18446744073709551616
  rw [n5] at n6
  have n7 : lo * 2 ^ s % 18446744073709551616 < 18446744073709551616 := Nat.mod_lt _ (by decide)
  have n8 : (hi * 18446744073709551616 + lo) * 2 ^ s = (hi * 2 ^ s + lo / 2 ^ Go.Lib.bitLen y) * 18446744073709551616 + lo * 2 ^ s % 18446744073709551616 := by
    rw [Nat.add_mul, Nat.add_mul, Nat.mul_right_comm]
    omega
  have o1 := orJ (x := hi * 2 ^ s) (y := lo / 2 ^ Go.Lib.bitLen y) (k := s) (Nat.mul_mod_left _ _) (by omega) n4 (by omega)
  unfold math_bits_Div64
  dsimp only
  have g3 : ((hi : Int) == 0) = false := by simpa using by omega
  have a0 : IntKind.u64.wrap (64 - (Go.Lib.bitLen y : Int)) = (s : Int) := by rw [wu64' (by omega) (by omega)]; omega
  have a1 : IntKind.u64.wrap (64 - (s : Int)) = (Go.Lib.bitLen y : Int) := by rw [wu64' (by omega) (by omega)]; omega
  rw [g1, g2, g3, LeadingZeros64_eq hy]
  simp only [Bool.false_eq_true, if_false]
  rw [bs, a0, a1, shlK y s (by omega), bs, shlK hi s (by omega), shlK lo s (by omega), Nat.mod_eq_of_lt n2, Nat.mod_eq_of_lt (show hi * 2 ^ s < 18446744073709551616 by omega), shrK lo _ k3]
  simp only [bs]
  rw [o1, mask32 n2, shr32, shr32, mask32 n7]
  simp only [bs]
  generalize hP : y * 2 ^ s = Y at *
  generalize hU : hi * 2 ^ s + lo / 2 ^ Go.Lib.bitLen y = u at *
  generalize hV : lo * 2 ^ s % 18446744073709551616 = v at *
  have eY : Y / 4294967296 * 4294967296 + Y % 4294967296 = Y := Nat.div_add_mod' Y 4294967296
  have eV : v / 4294967296 * 4294967296 + v % 4294967296 = v := Nat.div_add_mod' v 4294967296
  have hu : u < Y := by omega
  have hp0 : Y / 4294967296 ≠ 0 := by omega
  have qr (a : Nat) (ha : a < 18446744073709551616) : IntKind.u64.wrap ((a : Int) - IntKind.u64.wrap (((a / (Y / 4294967296) : Nat) : Int) * ((Y / 4294967296 : Nat) : Int))) = ((a % (Y / 4294967296) : Nat) : Int) := by
    have h1 := Nat.div_add_mod' a (Y / 4294967296)
    rw [← Int.natCast_mul]
    generalize a / (Y / 4294967296) * (Y / 4294967296) = t at *
    generalize a % (Y / 4294967296) = r at *
    rw [wu64 (show t < 18446744073709551616 by omega), wu64' (by omega) (by omega)]
    omega
  rw [quoN hp0 (show u < 18446744073709551616 by omega), bs, qr u (by omega)]
  rw [Div64_loop1_eq (by omega) (by omega) (by omega) (by omega) (by rw [eY]; exact hu), eY]
  simp only [bs]
  obtain ⟨q1, hq1⟩ : ∃ x, (u * 4294967296 + v / 4294967296) / Y = x := ⟨_, rfl⟩
  rw [hq1]
  have l1 := left64 (show 0 < Y by omega) n2 hq1.symm
  rw [l1]
  obtain ⟨w, hw⟩ : ∃ x, (u * 4294967296 + v / 4294967296) % Y = x := ⟨_, rfl⟩
  rw [hw]
  have hw1 : w < Y := by rw [← hw]; exact Nat.mod_lt _ (by omega)
  rw [quoN hp0 (show w < 18446744073709551616 by omega), bs, qr w (by omega)]
  rw [Div64_loop2_eq (by omega) (by omega) (by omega) (by omega) (by rw [eY]; exact hw1), eY]
  simp only [bs]
  obtain ⟨q0, hq0⟩ : ∃ x, (w * 4294967296 + v % 4294967296) / Y = x := ⟨_, rfl⟩
  rw [hq0]
  have l2 := left64 (show 0 < Y by omega) n2 hq0.symm
  rw [l2, shrK _ s (by omega), bs]
  have e1 := Nat.div_add_mod (u * 4294967296 + v / 4294967296) Y
  have e2 := Nat.div_add_mod (w * 4294967296 + v % 4294967296) Y
  have r1 : (w * 4294967296 + v % 4294967296) % Y < Y := Nat.mod_lt _ (by omega)
  rw [hq1, hw] at e1
  rw [hq0] at e2
  obtain ⟨r, hr0⟩ : ∃ x, (w * 4294967296 + v % 4294967296) % Y = x := ⟨_, rfl⟩
  rw [hr0] at e2 r1
  rw [hr0]
  -- put together
  have d0 : q0 < 4294967296 := by rw [← hq0, ← eY]; exact kn_digit (by omega) (by rw [eY]; exact hw1)
  have d1 : q1 < 4294967296 := by rw [← hq1]; conv => lhs; rw [← eY]
                                  exact kn_digit (by omega) (by rw [eY]; exact hu)
  have tot : (hi * 18446744073709551616 + lo) * 2 ^ s = y * (q1 * 4294967296 + q0) * 2 ^ s + r := by
    have h3 : Y * (q1 * 4294967296 + q0) = Y * q1 * 4294967296 + Y * q0 := by rw [Nat.mul_add, ← Nat.mul_assoc]
    rw [Nat.mul_right_comm y, hP, n8, h3]
    exact tot64 e1 e2 eV
  have rm : 2 ^ s ∣ r := by
    have h1 : 2 ^ s ∣ (hi * 18446744073709551616 + lo) * 2 ^ s := Nat.dvd_mul_left _ _
    rw [tot] at h1
    exact (Nat.dvd_add_right (Nat.dvd_mul_left _ _)).1 h1
  obtain ⟨c, hc⟩ := rm
  have hr : r / 2 ^ s = c := by rw [hc, Nat.mul_div_cancel_left _ ps]
  have tot2 : hi * 18446744073709551616 + lo = y * (q1 * 4294967296 + q0) + c := by
    rw [hc, Nat.mul_comm (2 ^ s) c, ← Nat.add_mul] at tot
    exact Nat.eq_of_mul_eq_mul_right ps tot
  have hcy : c < y := by
    rw [hc, ← hP, Nat.mul_comm] at r1
    exact Nat.lt_of_mul_lt_mul_right r1
  rw [tot2, Nat.mul_add_div (by omega), Nat.mul_add_mod, Nat.div_eq_of_lt hcy, Nat.mod_eq_of_lt hcy, hr, Nat.add_zero]
  have f1 : IntKind.u64.wrap (IntKind.u64.wrap ((q1 : Int) * 4294967296) + (q0 : Int)) = ((q1 * 4294967296 + q0 : Nat) : Int) := by
    simp only [IntKind.wrap_u64]; omega
  rw [f1]
end WB
namespace WB
open Go Go.RowKit

/-- Whether a quotient goes up. -/
def upS (neg : Bool) (q r d : Nat) (mode : Int) : Bool :=
  if mode = 4 then neg && decide (0 < r)
  else if mode = 3 then decide (0 < r)
  else if mode = 2 then (if r = d - r then q % 2 == 1 else decide (d - r ≤ r))
  else if mode = 1 then decide (d - r ≤ r)
  else false
/-- A part's size. -/
def sizeS (neg : Bool) (n d : Nat) (mode : Int) : Nat := n / d + (if upS neg (n / d) (n % d) d mode then 1 else 0)
def negS (c num : Int) : Bool := !(decide (c < 0) == decide (num < 0))
/-- A part of an amount, and the error's number. -/
def partS (c num den mode : Int) : Int × Int :=
  if ¬ (-1125899906842624 ≤ c ∧ c ≤ 1125899906842624) then (0, 2)
  else if den = 0 then (0, 22)
  else if den < 0 then (0, 2)
  else if mode < 0 ∨ 4 < mode then (0, 11)
  else if 1125899906842624 < sizeS (negS c num) (c.natAbs * num.natAbs) den.toNat mode then (0, 9)
  else (if negS c num then -(sizeS (negS c num) (c.natAbs * num.natAbs) den.toNat mode : Int) else (sizeS (negS c num) (c.natAbs * num.natAbs) den.toNat mode : Int), 0)

theorem amount_eq (c : Int) : rate_amount c = some (decide (-1125899906842624 ≤ c ∧ c ≤ 1125899906842624)) := by
  unfold rate_amount
  by_cases h1 : -1125899906842624 ≤ c
  · have g : decide (c ≥ -1125899906842624) = true := by simpa using h1
    simp only [g, if_true, bs, ms]
    simp [h1]
  · have g : decide (c ≥ -1125899906842624) = false := by simpa using h1
    simp only [g, Bool.false_eq_true, if_false, bs]
    simp [h1]
theorem rsize_eq {c : Int} (h1 : -9223372036854775808 ≤ c) (h2 : c ≤ 9223372036854775807) : rate_size c = some (c.natAbs : Int) := by
  unfold rate_size
  by_cases h : c < 0
  · have g : decide (c < 0) = true := by simpa using h
    simp only [g, if_true, IntKind.wrap_u64]
    refine congrArg some ?_
    omega
  · have g : decide (c < 0) = false := by simpa using h
    simp only [g, Bool.false_eq_true, if_false, IntKind.wrap_u64]
    refine congrArg some ?_
    omega
theorem up_eq {neg : Bool} {q r d : Nat} {mode : Int} (hd : d < 18446744073709551616) (hr : r < d) : rate_up (neg, (q : Int), (r : Int), (d : Int), mode) = some (upS neg q r d mode) := by
  have w : IntKind.u64.wrap ((d : Int) - (r : Int)) = ((d - r : Nat) : Int) := by rw [wu64' (by omega) (by omega)]; omega
  have c1 : decide ((r : Int) > 0) = decide (0 < r) := by apply decide_eq_decide.2; omega
  have c2 : decide ((r : Int) ≥ ((d - r : Nat) : Int)) = decide (d - r ≤ r) := by apply decide_eq_decide.2; omega
  have c3 : ((r : Int) == ((d - r : Nat) : Int)) = decide (r = d - r) := by
    rw [Bool.eq_iff_iff]; simp only [beq_iff_eq, decide_eq_true_eq]; omega
  have c4 : (if (2 : Int) = 0 then none else some ((q : Int).tmod 2)) = some ((q % 2 : Nat) : Int) := remN (b := 2) (by decide)
  have c5 : (((q % 2 : Nat) : Int) == 1) = (q % 2 == 1) := by
    rw [Bool.eq_iff_iff]; simp only [beq_iff_eq]; omega
  unfold rate_up upS
  dsimp only
  by_cases m4 : mode = 4
  · subst m4
    cases neg
    · rfl
    · simp only [beq_self_eq_true, if_true, Bool.not_true, Bool.false_eq_true, if_false, bs, Bool.true_and, c1]
  have m4' : (mode == 4) = false := by simpa using m4
  rw [m4', if_neg m4]
  by_cases m3 : mode = 3
  · subst m3
    simp only [beq_self_eq_true, if_true, Bool.false_eq_true, if_false, bs, c1]
  have m3' : (mode == 3) = false := by simpa using m3
  rw [m3', if_neg m3]
  by_cases m2 : mode = 2
  · subst m2
    by_cases e : r = d - r
    · have c3' : ((r : Int) == ((d - r : Nat) : Int)) = true := by rw [c3]; exact decide_eq_true e
      simp only [beq_self_eq_true, if_true, Bool.false_eq_true, if_false, bs, w, c3', c4, c5, if_pos e]
    · have c3' : ((r : Int) == ((d - r : Nat) : Int)) = false := by rw [c3]; exact decide_eq_false e
      simp only [beq_self_eq_true, if_true, Bool.false_eq_true, if_false, bs, w, c3', c2, if_neg e]
  have m2' : (mode == 2) = false := by simpa using m2
  rw [m2', if_neg m2]
  by_cases m1 : mode = 1
  · subst m1
    simp only [beq_self_eq_true, if_true, Bool.false_eq_true, if_false, bs, w, c2]
  have m1' : (mode == 1) = false := by simpa using m1
  rw [m1', if_neg m1]
  rfl
theorem quotient_eq {c num : Int} {d : Nat} {mode : Int} (c1 : -9223372036854775808 ≤ c) (c2 : c ≤ 9223372036854775807) (n1 : -9223372036854775808 ≤ num) (n2 : num ≤ 9223372036854775807) (hd : d < 18446744073709551616) (hd0 : 0 < d) {mx : Nat} (hmx : mx ≤ 1125899906842624) :
    rate_quotient (c, num, (d : Int), (mx : Int), mode) = some (if mx < sizeS (negS c num) (c.natAbs * num.natAbs) d mode then (0, false) else (if negS c num then -(sizeS (negS c num) (c.natAbs * num.natAbs) d mode : Int) else (sizeS (negS c num) (c.natAbs * num.natAbs) d mode : Int), true)) := by
  unfold rate_quotient
  dsimp only
  rw [rsize_eq c1 c2, rsize_eq n1 n2, show (!(decide (c < 0) == decide (num < 0))) = negS c num from rfl]
  simp only [bs]
  have a1 : c.natAbs < 18446744073709551616 := by omega
  have a2 : num.natAbs < 18446744073709551616 := by omega
  rw [Mul64_eq a1 a2]
  simp only [bs]
  generalize negS c num = neg
  generalize c.natAbs * num.natAbs = N
  have e : N / 18446744073709551616 * 18446744073709551616 + N % 18446744073709551616 = N := Nat.div_add_mod' N _
  by_cases h : d ≤ N / 18446744073709551616
  · have g : decide (((N / 18446744073709551616 : Nat) : Int) ≥ (d : Int)) = true := decide_eq_true (by omega)
    rw [g, if_pos rfl, if_pos]
    have : 18446744073709551616 ≤ N / d := by
      rw [Nat.le_div_iff_mul_le hd0, Nat.mul_comm, ← Nat.le_div_iff_mul_le (by decide)]
      exact h
    unfold sizeS
    omega
  · have g : decide (((N / 18446744073709551616 : Nat) : Int) ≥ (d : Int)) = false := decide_eq_false (by omega)
    rw [g, if_neg (by decide), Div64_eq hd (Nat.mod_lt _ (by decide)) (by omega), e]
    simp only [bs]
    have hr : N % d < d := Nat.mod_lt _ hd0
    have hq0 : (0 : Int) ≤ ((N / d : Nat) : Int) := Int.natCast_nonneg _
    by_cases hq : mx < N / d
    · have g : decide (((N / d : Nat) : Int) > (mx : Int)) = true := decide_eq_true (by omega)
      rw [g, if_pos rfl, if_pos (by unfold sizeS; omega)]
    · have g : decide (((N / d : Nat) : Int) > (mx : Int)) = false := decide_eq_false (by omega)
      rw [g, if_neg (by decide), up_eq hd hr]
      simp only [bs]
      have w : IntKind.u64.wrap (((N / d : Nat) : Int) + 1) = ((N / d + 1 : Nat) : Int) := by rw [wu64' (by omega) (by omega)]; omega
      rw [w]
      have s : ∀ k : Nat, k = sizeS neg N d mode → (Option.bind (some ((mx : Int), neg, (k : Int), ())) fun (o : Int × Bool × Int × Unit) => if decide (o.2.2.1 > o.1) then some ((0 : Int), false) else if o.2.1 then some (IntKind.i64.wrap (0 - IntKind.i64.wrap o.2.2.1), true) else some (IntKind.i64.wrap o.2.2.1, true)) = some (if mx < sizeS neg N d mode then (0, false) else (if neg then -(sizeS neg N d mode : Int) else (sizeS neg N d mode : Int), true)) := by
        intro k hk
        rw [← hk, bs]
        dsimp only
        by_cases h9 : mx < k
        · have g : decide ((k : Int) > (mx : Int)) = true := decide_eq_true (by omega)
          rw [g, if_pos rfl, if_pos h9]
        · have g : decide ((k : Int) > (mx : Int)) = false := decide_eq_false (by omega)
          rw [g, if_neg (by decide), if_neg h9, w64' (n := (k : Int)) (by omega) (by omega), w64' (by omega) (by omega)]
          cases neg
          · rfl
          · simp
      by_cases hu : upS neg (N / d) (N % d) d mode = true
      · rw [hu, if_pos rfl]
        exact s _ (by unfold sizeS; rw [if_pos hu])
      · rw [Bool.eq_false_iff.2 hu, if_neg (by decide)]
        exact s _ (by unfold sizeS; rw [if_neg hu]; rfl)
theorem rPart_eq {c num den mode : Int} (c1 : -9223372036854775808 ≤ c) (c2 : c ≤ 9223372036854775807) (n1 : -9223372036854775808 ≤ num) (n2 : num ≤ 9223372036854775807) (hd : den ≤ 9223372036854775807) : rate_Part (c, num, den, mode) = some (partS c num den mode) := by
  unfold rate_Part partS
  dsimp only
  rw [amount_eq, bs]
  by_cases h1 : -1125899906842624 ≤ c ∧ c ≤ 1125899906842624
  · rw [decide_eq_true h1, if_neg (show ¬((!true) = true) by decide), if_neg (show ¬¬(-1125899906842624 ≤ c ∧ c ≤ 1125899906842624) from fun k => k h1)]
    by_cases h2 : den = 0
    · subst h2; rfl
    have g : (den == 0) = false := by simpa using h2
    rw [g, if_neg (by decide), if_neg h2]
    by_cases h3 : den < 0
    · rw [decide_eq_true h3, if_pos rfl, if_pos h3]
    rw [decide_eq_false h3, if_neg (by decide), if_neg h3]
    have m : (Option.bind (if decide (mode < 0) = false then (((if decide (mode < 0) = false then some mode else none).bind (fun z17 => some (z17, (4 : Int)))).map (fun z19 => (decide (z19.1 > z19.2)))).map some else some none) fun x27 => (Option.bind (if decide (mode < 0) then some true else x27.map (fun z20 => z20)) some)) = some (decide (mode < 0 ∨ 4 < mode)) := by
      by_cases h4 : mode < 0
      · simp only [decide_eq_true h4, if_true, Bool.true_eq_false, if_false, bs]
        simp [h4]
      · simp only [decide_eq_false h4, if_true, Bool.false_eq_true, if_false, bs, ms]
        simp [h4]
    have k : ∀ {β : Type} (F : Bool → Option β), (Option.bind (if decide (mode < 0) = false then (((if decide (mode < 0) = false then some mode else none).bind (fun z17 => some (z17, (4 : Int)))).map (fun z19 => (decide (z19.1 > z19.2)))).map some else some none) fun x27 => (Option.bind (if decide (mode < 0) then some true else x27.map (fun z20 => z20)) F)) = F (decide (mode < 0 ∨ 4 < mode)) := by
      intro β F
      have := congrArg (fun o => Option.bind o F) m
      simp only [bs] at this
      rw [← this, Option.bind_assoc]
      congr 1
      funext x
      rw [Option.bind_assoc]
      rfl
    rw [k]
    by_cases h5 : mode < 0 ∨ 4 < mode
    · rw [decide_eq_true h5, if_pos rfl, if_pos h5]
    rw [decide_eq_false h5, if_neg (by decide), if_neg h5]
    obtain ⟨d, rfl⟩ := Int.eq_ofNat_of_zero_le (show 0 ≤ den by omega)
    rw [wu64 (show d < 18446744073709551616 by omega), show (1125899906842624 : Int) = ((1125899906842624 : Nat) : Int) from rfl, quotient_eq c1 c2 n1 n2 (by omega) (by omega) (Nat.le_refl _), bs, Int.toNat_natCast]
    by_cases h9 : 1125899906842624 < sizeS (negS c num) (c.natAbs * num.natAbs) d mode
    · rw [if_pos h9, if_pos h9]; rfl
    · rw [if_neg h9, if_neg h9]; rfl
  · rw [decide_eq_false h1, if_pos (by decide), if_pos h1]
end WB
namespace WB
open Go Go.RowKit

theorem right_eq (c : Int) : rate_right c = some (decide (-1000000000 ≤ c ∧ c ≤ 1000000000)) := by
  unfold rate_right
  by_cases h1 : -1000000000 ≤ c
  · have g : decide (c ≥ -1000000000) = true := by simpa using h1
    simp only [g, if_true, bs, ms]
    simp [h1]
  · have g : decide (c ≥ -1000000000) = false := by simpa using h1
    simp only [g, Bool.false_eq_true, if_false, bs]
    simp [h1]
/-- Two are asked, one behind the other. -/
theorem orK {β : Type} (a b : Bool) (x : Int) (G : Int → Option Bool) (hG : a = true → G x = some b) (F : Bool → Option β) :
    (Option.bind (if (!a) = false then (((if (!a) = false then some x else none).map (fun z17 => z17)).bind (fun z18 => G z18)).map some else some none) fun x13 => Option.bind (if (!a) = false then (x13.map (fun z19 => (!z19))).map some else some none) fun x14 => Option.bind (if (!a) then some true else x14.map (fun z20 => z20)) F) = F (!(a && b)) := by
  cases a
  · rfl
  · simp only [Bool.not_true, if_true, bs, ms, hG rfl, Bool.false_eq_true, if_false, Bool.true_and]
def ofS (c r mode : Int) : Int × Int := if (-1125899906842624 ≤ c ∧ c ≤ 1125899906842624) ∧ (-1000000000 ≤ r ∧ r ≤ 1000000000) then partS c r 1000000 mode else (0, 2)
theorem rOf_eq {c r mode : Int} (c1 : -9223372036854775808 ≤ c) (c2 : c ≤ 9223372036854775807) : rate_Of (c, r, mode) = some (ofS c r mode) := by
  unfold rate_Of ofS
  dsimp only
  rw [amount_eq, bs, orK _ _ _ _ (fun _ => right_eq r)]
  by_cases h : (-1125899906842624 ≤ c ∧ c ≤ 1125899906842624) ∧ (-1000000000 ≤ r ∧ r ≤ 1000000000)
  · rw [if_pos h, decide_eq_true h.1, decide_eq_true h.2, if_neg (by decide), rPart_eq c1 c2 (by omega) (by omega) (by omega)]
    rfl
  · rw [if_neg h, if_pos]
    rw [← Bool.decide_and, decide_eq_false h]
    rfl
end WB
