/-
  OWN TEXTS, MERGED (wip/merge.py): Piter, Pgd, Pu64, Pknuth. No condition of their own.
-/
import Derived.Test.YtjdplgafkjnopaaGreatDoorK4
import Derived.Lib.Mul64
import Derived.Laws.Bits64b
import Derived.Laws.BitsLemmas
set_option linter.unusedVariables false
set_option linter.unusedSimpArgs false
namespace WB
open Go Go.RowKit

/-- Kept from simp's eye as no equation by reckoning (great bounds in a goal send the kernel deep). -/
theorem bs {α β : Type} (a : α) (f : α → Option β) : (some a).bind f = f a := (Option.bind_some a f).trans (Eq.refl _)
theorem ms {α β : Type} (a : α) (f : α → β) : (some a).map f = some (f a) := (Option.map_some (f := f) (a := a)).trans (Eq.refl _)

/-- A loop by an invariant with a measure. -/
theorem iter_inv {S T : Type} {b : S → Option (S ⊕ T)} {t : T} (I : Nat → S → Prop) (h : ∀ n s, I n s → (∃ s', b s = some (.inl s') ∧ ∃ m, m < n ∧ I m s') ∨ b s = some (.inr t)) : ∀ n s, I n s → iter b s = some t := by
  intro n
  induction n using Nat.strongRecOn with
  | _ n ih =>
    intro s hs
    rw [iter_eq]
    rcases h n s hs with ⟨s', h1, m, hm, h2⟩ | h1
    · rw [h1]; exact ih m hm s' h2
    · rw [h1]; rfl

theorem lAt_nat {α : Type} {xs : List α} {i : Nat} {a : α} (h : xs[i]? = some a) : lAt xs (i : Int) = some a := by
  have := (List.getElem?_eq_some_iff.1 h).1
  unfold lAt
  rw [if_pos ⟨by omega, by omega⟩]
  simpa using h
theorem sAt_nat {s : List UInt8} {i : Nat} {b : UInt8} (h : s[i]? = some b) : sAt s (i : Int) = some (b.toNat : Int) := by
  have := (List.getElem?_eq_some_iff.1 h).1
  unfold sAt
  rw [if_pos ⟨by omega, by omega⟩]
  simp [h]
theorem lSub_nat {α : Type} {xs : List α} {i j : Nat} (h1 : i ≤ j) (h2 : j ≤ xs.length) : lSub xs (i : Int) (j : Int) = some ((xs.take j).drop i) := by
  unfold lSub
  rw [if_pos ⟨by omega, by omega, by omega⟩]
  simp
theorem w64' {n : Int} (h1 : -9223372036854775808 ≤ n) (h2 : n ≤ 9223372036854775807) : IntKind.i64.wrap n = n := Go.IntWalk.i64_in n ⟨h1, h2⟩
theorem alGet_put {α β : Type} {eq : α → α → Bool} (he : ∀ a b, eq a b = true ↔ a = b) (z : β) (k k' : α) [Decidable (k = k')] (v : β) : ∀ (m : List (α × β)), alGet eq z k (alPut eq k' v m) = if k = k' then (v, true) else alGet eq z k m
  | [] => by
    unfold alPut alGet
    by_cases h : k = k'
    · subst h; simp [(he k k).2 rfl]
    · have : eq k k' = false := by
        cases hh : eq k k' with
        | false => rfl
        | true => exact absurd ((he _ _).1 hh) h
      simp [this, h, alGet]
  | p :: m => by
    unfold alPut
    by_cases hp : eq k' p.1 = true
    · rw [if_pos hp]
      have e := (he _ _).1 hp
      unfold alGet
      by_cases h : k = k'
      · subst h; simp [hp]
      · have : eq k p.1 = false := by
          cases hh : eq k p.1 with
          | false => rfl
          | true => exact absurd (((he _ _).1 hh).trans e.symm) h
        simp [this, h]
    · rw [if_neg hp]
      unfold alGet
      by_cases hq : eq k p.1 = true
      · have e := (he _ _).1 hq
        have : k ≠ k' := fun h => hp ((he _ _).2 (h.symm.trans e))
        simp [hq, this]
      · simp only [hq, Bool.false_eq_true, if_false]
        exact alGet_put he z k k' v m
theorem app1 {α : Type} {xs ys : List α} {k : Int} (hx : xs.length ≤ 1000000) (hy : ys.length ≤ 1000000) (hk : 0 ≤ k ∧ k ≤ 1000) :
    (if ((xs.length : Int) + (ys.length : Int)) * k ≤ 140737488355328 ∧ (xs.length : Int) + (ys.length : Int) ≤ 4611686018427387904 then some (xs ++ ys) else none) = some (xs ++ ys) := by
  rw [if_pos]
  refine ⟨?_, by omega⟩
  have h1 : ((xs.length : Int) + (ys.length : Int)) * k ≤ 2000000 * 1000 := Int.mul_le_mul (by omega) hk.2 hk.1 (by omega)
  omega
end WB
namespace WB
open Go Go.RowKit

section
variable {α β γ δ : Type} {p : Prop} [Decidable p]
theorem gPb (X : Option α) (f : α → Option β) : (if p then X else none).bind f = if p then X.bind f else none := by by_cases h : p <;> simp [h]
theorem gPm (X : Option α) (f : α → β) : (if p then X else none).map f = if p then X.map f else none := by by_cases h : p <;> simp [h]
theorem gPs (Y Z : Option β) (W : Option β) : (if p then (if p then Z else W) else Y) = if p then Z else Y := by by_cases h : p <;> simp [h]
theorem gPsm (Z W : Option α) (Y : Option (Option α)) : (if p then (if p then Z else W).map some else Y) = if p then Z.map some else Y := by by_cases h : p <;> simp [h]
theorem gM (A : Option α) (B : Option α → Option β) (K : Option β → Option γ) : (Option.bind (if p then A.map some else some none) fun x => Option.bind (if p then (B x).map some else some none) K) = Option.bind (if p then (A.bind fun v => B (some v)).map some else some none) K := by by_cases h : p <;> cases A <;> simp [h]
theorem gM2 (A : Option α) (B : Option α → Option β) (C : Option α → Option β → Option γ) (K : Option γ → Option δ) : (Option.bind (if p then A.map some else some none) fun x => Option.bind (if p then (B x).map some else some none) fun y => Option.bind (if p then (C x y).map some else some none) K) = Option.bind (if p then (A.bind fun v => (B (some v)).bind fun w => C (some v) (some w)).map some else some none) K := by
  by_cases h : p
  · cases A with
    | none => simp [h]
    | some v => simp only [h, if_true, Option.map_some, Option.bind_some]; cases B (some v) <;> simp
  · simp [h]
/-- The ends: and, or. -/
theorem gAnd (c : Bool) (A : Option α) (B : Option α → Option Bool) (K : Bool → Option β) : (Option.bind (if c = true then A.map some else some none) fun x => Option.bind (if c = true then B x else some false) K) = Option.bind (if c = true then A.bind fun v => B (some v) else some false) K := by cases c <;> cases A <;> simp
theorem gOr (c : Bool) (A : Option α) (B : Option α → Option Bool) (K : Bool → Option β) : (Option.bind (if c = false then A.map some else some none) fun x => Option.bind (if c = true then some true else B x) K) = Option.bind (if c = true then some true else A.bind fun v => B (some v)) K := by cases c <;> cases A <;> simp
/-- An and, or an or, within a guarded chain. -/
theorem gAndI (A B : Option Bool) (K : Option Bool → Option β) : (Option.bind (if p then A.map some else some none) fun g => Option.bind (if g = some true then B.map some else some none) fun x => Option.bind (if p then (g.bind fun z => if z = true then x else some false).map some else some none) K) = Option.bind (if p then (A.bind fun z => if z = true then B else some false).map some else some none) K := by
  by_cases h : p
  · cases A with
    | none => simp [h]
    | some v => cases v <;> cases B <;> simp [h]
  · simp [h]
theorem gOrI (A B : Option Bool) (K : Option Bool → Option β) : (Option.bind (if p then A.map some else some none) fun g => Option.bind (if g = some false then B.map some else some none) fun x => Option.bind (if p then (g.bind fun z => if z = true then some true else x).map some else some none) K) = Option.bind (if p then (A.bind fun z => if z = true then some true else B).map some else some none) K := by
  by_cases h : p
  · cases A with
    | none => simp [h]
    | some v => cases v <;> cases B <;> simp [h]
  · simp [h]
theorem gAA (c : Bool) (A : Option Bool) (B : Option α) (C : Option α → Option Bool) (K : Bool → Option β) : (Option.bind (if c = true then A.map some else some none) fun g => Option.bind (if g = some true then B.map some else some none) fun x => Option.bind (if c = true then g.bind fun z => if z = true then C x else some false else some false) K) = Option.bind (if c = true then A.bind fun z => if z = true then B.bind fun v => C (some v) else some false else some false) K := by
  cases c <;> cases A <;> first | (simp; done) | (rename_i v; cases v <;> cases B <;> simp)
theorem gAO (c : Bool) (A : Option Bool) (B : Option α) (C : Option α → Option Bool) (K : Bool → Option β) : (Option.bind (if c = false then A.map some else some none) fun g => Option.bind (if g = some true then B.map some else some none) fun x => Option.bind (if c = true then some true else g.bind fun z => if z = true then C x else some false) K) = Option.bind (if c = true then some true else A.bind fun z => if z = true then B.bind fun v => C (some v) else some false) K := by
  cases c <;> cases A <;> first | (simp; done) | (rename_i v; cases v <;> cases B <;> simp)
theorem gOA (c : Bool) (A : Option Bool) (B : Option α) (C : Option α → Option Bool) (K : Bool → Option β) : (Option.bind (if c = true then A.map some else some none) fun g => Option.bind (if g = some false then B.map some else some none) fun x => Option.bind (if c = true then g.bind fun z => if z = true then some true else C x else some false) K) = Option.bind (if c = true then A.bind fun z => if z = true then some true else B.bind fun v => C (some v) else some false) K := by
  cases c <;> cases A <;> first | (simp; done) | (rename_i v; cases v <;> cases B <;> simp)
theorem gOO (c : Bool) (A : Option Bool) (B : Option α) (C : Option α → Option Bool) (K : Bool → Option β) : (Option.bind (if c = false then A.map some else some none) fun g => Option.bind (if g = some false then B.map some else some none) fun x => Option.bind (if c = true then some true else g.bind fun z => if z = true then some true else C x) K) = Option.bind (if c = true then some true else A.bind fun z => if z = true then some true else B.bind fun v => C (some v)) K := by
  cases c <;> cases A <;> first | (simp; done) | (rename_i v; cases v <;> cases B <;> simp)
theorem gAAf (c : Bool) (A : Option Bool) (B : Option α) (C : Option α → Option Bool) (F : Bool → Option Bool) (K : Bool → Option β) : (Option.bind (if c = true then A.map some else some none) fun g => Option.bind (if g = some true then B.map some else some none) fun x => Option.bind (if c = true then (g.bind fun z => if z = true then C x else some false).bind F else some false) K) = Option.bind (if c = true then (A.bind fun z => if z = true then B.bind fun v => C (some v) else some false).bind F else some false) K := by
  cases c <;> cases A <;> first | (simp ; done) | (rename_i v; cases v <;> cases B <;> simp )
theorem gAOf (c : Bool) (A : Option Bool) (B : Option α) (C : Option α → Option Bool) (F : Bool → Option Bool) (K : Bool → Option β) : (Option.bind (if c = false then A.map some else some none) fun g => Option.bind (if g = some true then B.map some else some none) fun x => Option.bind (if c = true then some true else (g.bind fun z => if z = true then C x else some false).bind F) K) = Option.bind (if c = true then some true else (A.bind fun z => if z = true then B.bind fun v => C (some v) else some false).bind F) K := by
  cases c <;> cases A <;> first | (simp ; done) | (rename_i v; cases v <;> cases B <;> simp )
theorem gOAf (c : Bool) (A : Option Bool) (B : Option α) (C : Option α → Option Bool) (F : Bool → Option Bool) (K : Bool → Option β) : (Option.bind (if c = true then A.map some else some none) fun g => Option.bind (if g = some false then B.map some else some none) fun x => Option.bind (if c = true then (g.bind fun z => if z = true then some true else C x).bind F else some false) K) = Option.bind (if c = true then (A.bind fun z => if z = true then some true else B.bind fun v => C (some v)).bind F else some false) K := by
  cases c <;> cases A <;> first | (simp ; done) | (rename_i v; cases v <;> cases B <;> simp )
theorem gOOf (c : Bool) (A : Option Bool) (B : Option α) (C : Option α → Option Bool) (F : Bool → Option Bool) (K : Bool → Option β) : (Option.bind (if c = false then A.map some else some none) fun g => Option.bind (if g = some false then B.map some else some none) fun x => Option.bind (if c = true then some true else (g.bind fun z => if z = true then some true else C x).bind F) K) = Option.bind (if c = true then some true else (A.bind fun z => if z = true then some true else B.bind fun v => C (some v)).bind F) K := by
  cases c <;> cases A <;> first | (simp ; done) | (rename_i v; cases v <;> cases B <;> simp )
theorem gAMf (A : Option Bool) (B : Option α) (C : Option α → Option Bool) (F : Bool → Option γ) (K : Option γ → Option β) : (Option.bind (if p then A.map some else some none) fun g => Option.bind (if g = some true then B.map some else some none) fun x => Option.bind (if p then ((g.bind fun z => if z = true then C x else some false).bind F).map some else some none) K) = Option.bind (if p then ((A.bind fun z => if z = true then B.bind fun v => C (some v) else some false).bind F).map some else some none) K := by
  by_cases h : p <;> cases A <;> first | (simp [h]; done) | (rename_i v; cases v <;> cases B <;> simp [h])
theorem gOMf (A : Option Bool) (B : Option α) (C : Option α → Option Bool) (F : Bool → Option γ) (K : Option γ → Option β) : (Option.bind (if p then A.map some else some none) fun g => Option.bind (if g = some false then B.map some else some none) fun x => Option.bind (if p then ((g.bind fun z => if z = true then some true else C x).bind F).map some else some none) K) = Option.bind (if p then ((A.bind fun z => if z = true then some true else B.bind fun v => C (some v)).bind F).map some else some none) K := by
  by_cases h : p <;> cases A <;> first | (simp [h]; done) | (rename_i v; cases v <;> cases B <;> simp [h])
theorem gIn1 (A : Option α) (X Y : α → Option β) (R : α → β → Option γ) (Z : Option γ) : (if p then (A.bind fun v => (if p then X v else Y v).bind (R v)) else Z) = if p then (A.bind fun v => (X v).bind (R v)) else Z := by by_cases h : p <;> simp [h]
theorem gIn2 (A : Option α) (X Y : α → Option β) (R : α → β → γ) (Z : Option γ) : (if p then (A.bind fun v => (if p then X v else Y v).map (R v)) else Z) = if p then (A.bind fun v => (X v).map (R v)) else Z := by by_cases h : p <;> simp [h]
theorem gIn3 (X Y : Option β) (R : β → Option γ) (Z : Option γ) : (if p then ((if p then X else Y).bind R) else Z) = if p then (X.bind R) else Z := by by_cases h : p <;> simp [h]
theorem gIn4 (X Y : Option β) (R : β → γ) (Z : Option γ) : (if p then ((if p then X else Y).map R) else Z) = if p then (X.map R) else Z := by by_cases h : p <;> simp [h]
theorem gIn5 (c : Bool) (X Y : Option β) (R : β → Option γ) (Z : Option γ) : (if c = true then Z else ((if c = false then X else Y).bind R)) = if c = true then Z else X.bind R := by cases c <;> simp
theorem gIn6 (c : Bool) (A : Option α) (X Y : α → Option β) (R : α → β → Option γ) (Z : Option γ) : (if c = true then Z else (A.bind fun v => (if c = false then X v else Y v).bind (R v))) = if c = true then Z else (A.bind fun v => (X v).bind (R v)) := by cases c <;> simp
theorem gIn7 (c : Bool) (A : Option α) (X Y : α → Option β) (R : α → β → γ) (Z : Option γ) : (if c = true then Z else (A.bind fun v => (if c = false then X v else Y v).map (R v))) = if c = true then Z else (A.bind fun v => (X v).map (R v)) := by cases c <;> simp
theorem gIn8 (c : Bool) (X Y : Option β) (R : β → γ) (Z : Option γ) : (if c = true then Z else ((if c = false then X else Y).map R)) = if c = true then Z else X.map R := by cases c <;> simp
theorem gPi (X : Option α) (Y W : α → Option β) (Z : Option β) : (if p then (X.bind fun z => if p then Y z else W z) else Z) = if p then X.bind Y else Z := by by_cases h : p <;> simp [h]
theorem gSS (v : α) (Z : Option (Option α)) : (if p then some (some v) else Z) = if p then (some v).map some else Z := rfl
theorem gId (X : Option α) : X.map (fun z => z) = X := by cases X <;> rfl
theorem gIdF (X : Option α) : (X.bind fun z => some z) = X := by cases X <;> rfl
theorem gMb (X : Option α) (f : α → β) (g : β → Option γ) : (X.map f).bind g = X.bind fun v => g (f v) := by cases X <;> rfl
theorem gMm (X : Option α) (f : α → β) (g : β → γ) : (X.map f).map g = X.map fun v => g (f v) := by cases X <;> rfl
theorem gBm (X : Option α) (f : α → Option β) (g : β → γ) : (X.bind f).map g = X.bind fun v => (f v).map g := by cases X <;> rfl
theorem gBb (X : Option α) (f : α → Option β) (g : β → Option γ) : (X.bind f).bind g = X.bind fun v => (f v).bind g := by cases X <;> rfl
end
end WB
namespace WB
open Go Go.RowKit

theorem wu64 {n : Nat} (h : n < 18446744073709551616) : IntKind.u64.wrap (n : Int) = (n : Int) := by rw [IntKind.wrap_u64]; omega
theorem wu64' {n : Int} (h1 : 0 ≤ n) (h2 : n < 18446744073709551616) : IntKind.u64.wrap n = n := by rw [IntKind.wrap_u64]; omega
theorem wu64m (n : Nat) : IntKind.u64.wrap (n : Int) = ((n % 18446744073709551616 : Nat) : Int) := by rw [IntKind.wrap_u64]; omega
theorem bitZ_bits (op : BinOp) (k : IntKind) (x y : Int) (h : op = .and ∨ op = .or) : bitZ op k x y = bits op k x y := by
  rcases h with rfl | rfl <;> rfl
theorem mask32 {n : Nat} (h : n < 18446744073709551616) : bitZ .and .u64 (n : Int) 4294967295 = ((n % 4294967296 : Nat) : Int) := by
  rw [bitZ_bits _ _ _ _ (.inl rfl)]
  have h1 := bits_and_u64_nat n 4294967295 h (by omega)
  have e : n &&& 4294967295 = n % 4294967296 := Nat.and_two_pow_sub_one_eq_mod n 32
  rw [e] at h1
  exact h1
theorem shr32 (n : Nat) : (if (32 : Int) < 0 then none else some ((n : Int).fdiv (2 ^ (min (32 : Int).toNat 64)))) = some ((n / 4294967296 : Nat) : Int) := by
  rw [if_neg (by decide)]
  have e : (2 : Int) ^ (min (32 : Int).toNat 64) = 4294967296 := by decide
  rw [e, Int.fdiv_eq_ediv_of_nonneg _ (by decide)]
  congr 1
end WB
namespace WB

section
variable {b p z u n q r : Nat}

/-- A guess that is too great shows itself. -/
theorem kn_test (h : q * p + r = u) : b * r + n < q * z ↔ u * b + n < q * (p * b + z) := by
  have e1 : q * (p * b + z) = q * p * b + q * z := by rw [Nat.mul_add, Nat.mul_assoc]
  have e2 : u * b = q * p * b + b * r := by rw [← h, Nat.add_mul, Nat.mul_comm r b]
  omega
theorem kn_lt {d N : Nat} (hd : 0 < d) : N < q * d ↔ N / d < q := (Nat.div_lt_iff_lt_mul hd).symm
/-- The true quotient is one digit. -/
theorem kn_digit (hn : n < b) (hu : u < p * b + z) : (u * b + n) / (p * b + z) < b := by
  have hd : 0 < p * b + z := by omega
  rw [Nat.div_lt_iff_lt_mul hd]
  have : (u + 1) * b ≤ (p * b + z) * b := Nat.mul_le_mul_right b hu
  rw [Nat.add_mul] at this
  rw [Nat.mul_comm b]
  omega
/-- The first guess isn't too small, nor much too great. -/
theorem kn_first (hb : b ≤ 2 * p) (hp : 0 < p) (hz : z < b) (hn : n < b) (hu : u < p * b + z) : (u * b + n) / (p * b + z) ≤ u / p ∧ u / p ≤ b + 1 := by
  have hd : 0 < p * b + z := by omega
  constructor
  · rw [Nat.le_div_iff_mul_le hp]
    have h1 : (u * b + n) / (p * b + z) * (p * b + z) ≤ u * b + n := Nat.div_mul_le_self _ _
    generalize (u * b + n) / (p * b + z) = Q at h1
    have e1 : Q * (p * b + z) = Q * p * b + Q * z := by rw [Nat.mul_add, Nat.mul_assoc]
    have h2 : Q * p * b < (u + 1) * b := by rw [Nat.add_mul]; omega
    have := Nat.lt_of_mul_lt_mul_right h2
    omega
  · rw [← Nat.lt_succ_iff, Nat.div_lt_iff_lt_mul hp]
    have : (b + 1 + 1) * p = b * p + 2 * p := by rw [show b + 1 + 1 = b + 2 by omega, Nat.add_mul]
    rw [Nat.succ_eq_add_one, this, Nat.mul_comm b p]
    omega
/-- Where the rest has grown past a digit, the guess is right. -/
theorem kn_break (hr : b ≤ r) (hq : q ≤ b) (hz : z < b) (h : q * p + r = u) : q * (p * b + z) ≤ u * b + n := by
  have e1 : q * (p * b + z) = q * p * b + q * z := by rw [Nat.mul_add, Nat.mul_assoc]
  have e2 : u * b = q * p * b + r * b := by rw [← h, Nat.add_mul]
  have h1 : q * z ≤ b * b := Nat.mul_le_mul hq (by omega)
  have h2 : b * b ≤ r * b := Nat.mul_le_mul_right b hr
  omega
end
end WB
