/-
  OWN TEXTS, MERGED (wip/merge.py): Piter, Pgd, Pfold, Pu64, Pknuth, PG, PrA, PrB, PrC, Pnm, Pfp. No condition of their own.
-/
import Derived.Test.YtimkfmkhmfcjeaaGreatDoorK4
import Derived.Lib.Mul64
import Derived.Laws.Bits64b
import Derived.Laws.BitsLemmas
import Derived.Lib.BitFns
set_option linter.unusedVariables false
set_option linter.unusedSimpArgs false
namespace WB
open Go Go.RowKit

/-- Kept from simp's eye as no equation by reckoning (great bounds in a goal send the kernel deep). -/
theorem bs {α β : Type} (a : α) (f : α → Option β) : (some a).bind f = f a := (Option.bind_some a f).trans (Eq.refl _)
theorem ms {α β : Type} (a : α) (f : α → β) : (some a).map f = some (f a) := (Option.map_some (f := f) (a := a)).trans (Eq.refl _)

/-- A loop by an invariant with a measure. -/
theorem iter_inv {S T : Type} {b : S → Option (S ⊕ T)} {t : T} (I : Nat → S → Prop) (h : ∀ n s, I n s → (∃ s', b s = some (.inl s') ∧ ∃ m, m < n ∧ I m s') ∨ b s = some (.inr t)) : ∀ n s, I n s → iter b s = some t := by
  intro n
  induction n using Nat.strongRecOn with
  | _ n ih =>
    intro s hs
    rw [iter_eq]
    rcases h n s hs with ⟨s', h1, m, hm, h2⟩ | h1
    · rw [h1]; exact ih m hm s' h2
    · rw [h1]; rfl

theorem lAt_nat {α : Type} {xs : List α} {i : Nat} {a : α} (h : xs[i]? = some a) : lAt xs (i : Int) = some a := by
  have := (List.getElem?_eq_some_iff.1 h).1
  unfold lAt
  rw [if_pos ⟨by omega, by omega⟩]
  simpa using h
theorem sAt_nat {s : List UInt8} {i : Nat} {b : UInt8} (h : s[i]? = some b) : sAt s (i : Int) = some (b.toNat : Int) := by
  have := (List.getElem?_eq_some_iff.1 h).1
  unfold sAt
  rw [if_pos ⟨by omega, by omega⟩]
  simp [h]
theorem lSub_nat {α : Type} {xs : List α} {i j : Nat} (h1 : i ≤ j) (h2 : j ≤ xs.length) : lSub xs (i : Int) (j : Int) = some ((xs.take j).drop i) := by
  unfold lSub
  rw [if_pos ⟨by omega, by omega, by omega⟩]
  simp
theorem w64' {n : Int} (h1 : -9223372036854775808 ≤ n) (h2 : n ≤ 9223372036854775807) : IntKind.i64.wrap n = n := Go.IntWalk.i64_in n ⟨h1, h2⟩
theorem alGet_put {α β : Type} {eq : α → α → Bool} (he : ∀ a b, eq a b = true ↔ a = b) (z : β) (k k' : α) [Decidable (k = k')] (v : β) : ∀ (m : List (α × β)), alGet eq z k (alPut eq k' v m) = if k = k' then (v, true) else alGet eq z k m
  | [] => by
    unfold alPut alGet
    by_cases h : k = k'
    · subst h; simp [(he k k).2 rfl]
    · have : eq k k' = false := by
        cases hh : eq k k' with
        | false => rfl
        | true => exact absurd ((he _ _).1 hh) h
      simp [this, h, alGet]
  | p :: m => by
    unfold alPut
    by_cases hp : eq k' p.1 = true
    · rw [if_pos hp]
      have e := (he _ _).1 hp
      unfold alGet
      by_cases h : k = k'
      · subst h; simp [hp]
      · have : eq k p.1 = false := by
          cases hh : eq k p.1 with
          | false => rfl
          | true => exact absurd (((he _ _).1 hh).trans e.symm) h
        simp [this, h]
    · rw [if_neg hp]
      unfold alGet
      by_cases hq : eq k p.1 = true
      · have e := (he _ _).1 hq
        have : k ≠ k' := fun h => hp ((he _ _).2 (h.symm.trans e))
        simp [hq, this]
      · simp only [hq, Bool.false_eq_true, if_false]
        exact alGet_put he z k k' v m
theorem app1 {α : Type} {xs ys : List α} {k : Int} (hx : xs.length ≤ 1000000) (hy : ys.length ≤ 1000000) (hk : 0 ≤ k ∧ k ≤ 1000) :
    (if ((xs.length : Int) + (ys.length : Int)) * k ≤ 140737488355328 ∧ (xs.length : Int) + (ys.length : Int) ≤ 4611686018427387904 then some (xs ++ ys) else none) = some (xs ++ ys) := by
  rw [if_pos]
  refine ⟨?_, by omega⟩
  have h1 : ((xs.length : Int) + (ys.length : Int)) * k ≤ 2000000 * 1000 := Int.mul_le_mul (by omega) hk.2 hk.1 (by omega)
  omega
end WB
namespace WB
open Go Go.RowKit

section
variable {α β γ δ : Type} {p : Prop} [Decidable p]
theorem gPb (X : Option α) (f : α → Option β) : (if p then X else none).bind f = if p then X.bind f else none := by by_cases h : p <;> simp [h]
theorem gPm (X : Option α) (f : α → β) : (if p then X else none).map f = if p then X.map f else none := by by_cases h : p <;> simp [h]
theorem gPs (Y Z : Option β) (W : Option β) : (if p then (if p then Z else W) else Y) = if p then Z else Y := by by_cases h : p <;> simp [h]
theorem gPsm (Z W : Option α) (Y : Option (Option α)) : (if p then (if p then Z else W).map some else Y) = if p then Z.map some else Y := by by_cases h : p <;> simp [h]
theorem gM (A : Option α) (B : Option α → Option β) (K : Option β → Option γ) : (Option.bind (if p then A.map some else some none) fun x => Option.bind (if p then (B x).map some else some none) K) = Option.bind (if p then (A.bind fun v => B (some v)).map some else some none) K := by by_cases h : p <;> cases A <;> simp [h]
theorem gM2 (A : Option α) (B : Option α → Option β) (C : Option α → Option β → Option γ) (K : Option γ → Option δ) : (Option.bind (if p then A.map some else some none) fun x => Option.bind (if p then (B x).map some else some none) fun y => Option.bind (if p then (C x y).map some else some none) K) = Option.bind (if p then (A.bind fun v => (B (some v)).bind fun w => C (some v) (some w)).map some else some none) K := by
  by_cases h : p
  · cases A with
    | none => simp [h]
    | some v => simp only [h, if_true, Option.map_some, Option.bind_some]; cases B (some v) <;> simp
  · simp [h]
/-- The ends: and, or. -/
theorem gAnd (c : Bool) (A : Option α) (B : Option α → Option Bool) (K : Bool → Option β) : (Option.bind (if c = true then A.map some else some none) fun x => Option.bind (if c = true then B x else some false) K) = Option.bind (if c = true then A.bind fun v => B (some v) else some false) K := by cases c <;> cases A <;> simp
theorem gOr (c : Bool) (A : Option α) (B : Option α → Option Bool) (K : Bool → Option β) : (Option.bind (if c = false then A.map some else some none) fun x => Option.bind (if c = true then some true else B x) K) = Option.bind (if c = true then some true else A.bind fun v => B (some v)) K := by cases c <;> cases A <;> simp
/-- An and, or an or, within a guarded chain. -/
theorem gAndI (A B : Option Bool) (K : Option Bool → Option β) : (Option.bind (if p then A.map some else some none) fun g => Option.bind (if g = some true then B.map some else some none) fun x => Option.bind (if p then (g.bind fun z => if z = true then x else some false).map some else some none) K) = Option.bind (if p then (A.bind fun z => if z = true then B else some false).map some else some none) K := by
  by_cases h : p
  · cases A with
    | none => simp [h]
    | some v => cases v <;> cases B <;> simp [h]
  · simp [h]
theorem gOrI (A B : Option Bool) (K : Option Bool → Option β) : (Option.bind (if p then A.map some else some none) fun g => Option.bind (if g = some false then B.map some else some none) fun x => Option.bind (if p then (g.bind fun z => if z = true then some true else x).map some else some none) K) = Option.bind (if p then (A.bind fun z => if z = true then some true else B).map some else some none) K := by
  by_cases h : p
  · cases A with
    | none => simp [h]
    | some v => cases v <;> cases B <;> simp [h]
  · simp [h]
theorem gAA (c : Bool) (A : Option Bool) (B : Option α) (C : Option α → Option Bool) (K : Bool → Option β) : (Option.bind (if c = true then A.map some else some none) fun g => Option.bind (if g = some true then B.map some else some none) fun x => Option.bind (if c = true then g.bind fun z => if z = true then C x else some false else some false) K) = Option.bind (if c = true then A.bind fun z => if z = true then B.bind fun v => C (some v) else some false else some false) K := by
  cases c <;> cases A <;> first | (simp; done) | (rename_i v; cases v <;> cases B <;> simp)
theorem gAO (c : Bool) (A : Option Bool) (B : Option α) (C : Option α → Option Bool) (K : Bool → Option β) : (Option.bind (if c = false then A.map some else some none) fun g => Option.bind (if g = some true then B.map some else some none) fun x => Option.bind (if c = true then some true else g.bind fun z => if z = true then C x else some false) K) = Option.bind (if c = true then some true else A.bind fun z => if z = true then B.bind fun v => C (some v) else some false) K := by
  cases c <;> cases A <;> first | (simp; done) | (rename_i v; cases v <;> cases B <;> simp)
theorem gOA (c : Bool) (A : Option Bool) (B : Option α) (C : Option α → Option Bool) (K : Bool → Option β) : (Option.bind (if c = true then A.map some else some none) fun g => Option.bind (if g = some false then B.map some else some none) fun x => Option.bind (if c = true then g.bind fun z => if z = true then some true else C x else some false) K) = Option.bind (if c = true then A.bind fun z => if z = true then some true else B.bind fun v => C (some v) else some false) K := by
  cases c <;> cases A <;> first | (simp; done) | (rename_i v; cases v <;> cases B <;> simp)
theorem gOO (c : Bool) (A : Option Bool) (B : Option α) (C : Option α → Option Bool) (K : Bool → Option β) : (Option.bind (if c = false then A.map some else some none) fun g => Option.bind (if g = some false then B.map some else some none) fun x => Option.bind (if c = true then some true else g.bind fun z => if z = true then some true else C x) K) = Option.bind (if c = true then some true else A.bind fun z => if z = true then some true else B.bind fun v => C (some v)) K := by
  cases c <;> cases A <;> first | (simp; done) | (rename_i v; cases v <;> cases B <;> simp)
theorem gAAf (c : Bool) (A : Option Bool) (B : Option α) (C : Option α → Option Bool) (F : Bool → Option Bool) (K : Bool → Option β) : (Option.bind (if c = true then A.map some else some none) fun g => Option.bind (if g = some true then B.map some else some none) fun x => Option.bind (if c = true then (g.bind fun z => if z = true then C x else some false).bind F else some false) K) = Option.bind (if c = true then (A.bind fun z => if z = true then B.bind fun v => C (some v) else some false).bind F else some false) K := by
  cases c <;> cases A <;> first | (simp ; done) | (rename_i v; cases v <;> cases B <;> simp )
theorem gAOf (c : Bool) (A : Option Bool) (B : Option α) (C : Option α → Option Bool) (F : Bool → Option Bool) (K : Bool → Option β) : (Option.bind (if c = false then A.map some else some none) fun g => Option.bind (if g = some true then B.map some else some none) fun x => Option.bind (if c = true then some true else (g.bind fun z => if z = true then C x else some false).bind F) K) = Option.bind (if c = true then some true else (A.bind fun z => if z = true then B.bind fun v => C (some v) else some false).bind F) K := by
  cases c <;> cases A <;> first | (simp ; done) | (rename_i v; cases v <;> cases B <;> simp )
theorem gOAf (c : Bool) (A : Option Bool) (B : Option α) (C : Option α → Option Bool) (F : Bool → Option Bool) (K : Bool → Option β) : (Option.bind (if c = true then A.map some else some none) fun g => Option.bind (if g = some false then B.map some else some none) fun x => Option.bind (if c = true then (g.bind fun z => if z = true then some true else C x).bind F else some false) K) = Option.bind (if c = true then (A.bind fun z => if z = true then some true else B.bind fun v => C (some v)).bind F else some false) K := by
  cases c <;> cases A <;> first | (simp ; done) | (rename_i v; cases v <;> cases B <;> simp )
theorem gOOf (c : Bool) (A : Option Bool) (B : Option α) (C : Option α → Option Bool) (F : Bool → Option Bool) (K : Bool → Option β) : (Option.bind (if c = false then A.map some else some none) fun g => Option.bind (if g = some false then B.map some else some none) fun x => Option.bind (if c = true then some true else (g.bind fun z => if z = true then some true else C x).bind F) K) = Option.bind (if c = true then some true else (A.bind fun z => if z = true then some true else B.bind fun v => C (some v)).bind F) K := by
  cases c <;> cases A <;> first | (simp ; done) | (rename_i v; cases v <;> cases B <;> simp )
theorem gAMf (A : Option Bool) (B : Option α) (C : Option α → Option Bool) (F : Bool → Option γ) (K : Option γ → Option β) : (Option.bind (if p then A.map some else some none) fun g => Option.bind (if g = some true then B.map some else some none) fun x => Option.bind (if p then ((g.bind fun z => if z = true then C x else some false).bind F).map some else some none) K) = Option.bind (if p then ((A.bind fun z => if z = true then B.bind fun v => C (some v) else some false).bind F).map some else some none) K := by
  by_cases h : p <;> cases A <;> first | (simp [h]; done) | (rename_i v; cases v <;> cases B <;> simp [h])
theorem gOMf (A : Option Bool) (B : Option α) (C : Option α → Option Bool) (F : Bool → Option γ) (K : Option γ → Option β) : (Option.bind (if p then A.map some else some none) fun g => Option.bind (if g = some false then B.map some else some none) fun x => Option.bind (if p then ((g.bind fun z => if z = true then some true else C x).bind F).map some else some none) K) = Option.bind (if p then ((A.bind fun z => if z = true then some true else B.bind fun v => C (some v)).bind F).map some else some none) K := by
  by_cases h : p <;> cases A <;> first | (simp [h]; done) | (rename_i v; cases v <;> cases B <;> simp [h])
theorem gIn1 (A : Option α) (X Y : α → Option β) (R : α → β → Option γ) (Z : Option γ) : (if p then (A.bind fun v => (if p then X v else Y v).bind (R v)) else Z) = if p then (A.bind fun v => (X v).bind (R v)) else Z := by by_cases h : p <;> simp [h]
theorem gIn2 (A : Option α) (X Y : α → Option β) (R : α → β → γ) (Z : Option γ) : (if p then (A.bind fun v => (if p then X v else Y v).map (R v)) else Z) = if p then (A.bind fun v => (X v).map (R v)) else Z := by by_cases h : p <;> simp [h]
theorem gIn3 (X Y : Option β) (R : β → Option γ) (Z : Option γ) : (if p then ((if p then X else Y).bind R) else Z) = if p then (X.bind R) else Z := by by_cases h : p <;> simp [h]
theorem gIn4 (X Y : Option β) (R : β → γ) (Z : Option γ) : (if p then ((if p then X else Y).map R) else Z) = if p then (X.map R) else Z := by by_cases h : p <;> simp [h]
theorem gIn5 (c : Bool) (X Y : Option β) (R : β → Option γ) (Z : Option γ) : (if c = true then Z else ((if c = false then X else Y).bind R)) = if c = true then Z else X.bind R := by cases c <;> simp
theorem gIn6 (c : Bool) (A : Option α) (X Y : α → Option β) (R : α → β → Option γ) (Z : Option γ) : (if c = true then Z else (A.bind fun v => (if c = false then X v else Y v).bind (R v))) = if c = true then Z else (A.bind fun v => (X v).bind (R v)) := by cases c <;> simp
theorem gIn7 (c : Bool) (A : Option α) (X Y : α → Option β) (R : α → β → γ) (Z : Option γ) : (if c = true then Z else (A.bind fun v => (if c = false then X v else Y v).map (R v))) = if c = true then Z else (A.bind fun v => (X v).map (R v)) := by cases c <;> simp
theorem gIn8 (c : Bool) (X Y : Option β) (R : β → γ) (Z : Option γ) : (if c = true then Z else ((if c = false then X else Y).map R)) = if c = true then Z else X.map R := by cases c <;> simp
theorem gPi (X : Option α) (Y W : α → Option β) (Z : Option β) : (if p then (X.bind fun z => if p then Y z else W z) else Z) = if p then X.bind Y else Z := by by_cases h : p <;> simp [h]
theorem gSS (v : α) (Z : Option (Option α)) : (if p then some (some v) else Z) = if p then (some v).map some else Z := rfl
theorem gId (X : Option α) : X.map (fun z => z) = X := by cases X <;> rfl
theorem gIdF (X : Option α) : (X.bind fun z => some z) = X := by cases X <;> rfl
theorem gMb (X : Option α) (f : α → β) (g : β → Option γ) : (X.map f).bind g = X.bind fun v => g (f v) := by cases X <;> rfl
theorem gMm (X : Option α) (f : α → β) (g : β → γ) : (X.map f).map g = X.map fun v => g (f v) := by cases X <;> rfl
theorem gBm (X : Option α) (f : α → Option β) (g : β → γ) : (X.bind f).map g = X.bind fun v => (f v).map g := by cases X <;> rfl
theorem gBb (X : Option α) (f : α → Option β) (g : β → Option γ) : (X.bind f).bind g = X.bind fun v => (f v).bind g := by cases X <;> rfl
end
end WB
namespace WB
open Go Go.RowKit

/-- A fold that may end early. -/
def foldE {α A T : Type} (step : A → α → A ⊕ T) (fin : A → T) : A → List α → T
  | a, [] => fin a
  | a, x :: l => match step a x with
    | .inl a' => foldE step fin a' l
    | .inr t => t
/-- A turn's end, in the loop's words. -/
def turnE {S A T : Type} (mk : A → S) : A ⊕ T → S ⊕ T
  | .inl a => .inl (mk a)
  | .inr t => .inr t
theorem iter_fold {α S T A : Type} {b : S → Option (S ⊕ T)} (mk : Nat → A → S) (step : A → α → A ⊕ T) (fin : A → T) (I : Nat → A → Prop) (l0 : List α)
    (hs : ∀ i x a, l0[i]? = some x → I i a → b (mk i a) = some (turnE (mk (i + 1)) (step a x)))
    (hI : ∀ i x a a', l0[i]? = some x → I i a → step a x = .inl a' → I (i + 1) a')
    (he : ∀ a, I l0.length a → b (mk l0.length a) = some (.inr (fin a))) :
    ∀ (l : List α) (i : Nat) (a : A), l0.drop i = l → i ≤ l0.length → I i a → iter b (mk i a) = some (foldE step fin a l)
  | [], i, a, hd, hi, h => by
    have : i = l0.length := by
      have := congrArg List.length hd
      simp at this
      omega
    subst this
    rw [iter_eq, he a h]
    rfl
  | x :: l, i, a, hd, hi, h => by
    have hx : l0[i]? = some x := by
      have := congrArg (fun q => q[0]?) hd
      simpa using this
    have hlt : i < l0.length := (List.getElem?_eq_some_iff.1 hx).1
    rw [iter_eq, hs i x a hx h]
    cases hst : step a x with
    | inl a' =>
      have e := iter_fold mk step fin I l0 hs hI he l (i + 1) a' (by rw [← List.tail_drop, hd]; rfl) hlt (hI i x a a' hx h hst)
      show iter b (mk (i + 1) a') = _
      rw [e, foldE, hst]
    | inr t =>
      show some t = _
      rw [foldE, hst]
theorem iter_fold0 {α S T A : Type} {b : S → Option (S ⊕ T)} (mk : Nat → A → S) (step : A → α → A ⊕ T) (fin : A → T) (I : Nat → A → Prop) (l : List α) {a : A} (h : I 0 a)
    (hs : ∀ i x a, l[i]? = some x → I i a → b (mk i a) = some (turnE (mk (i + 1)) (step a x)))
    (hI : ∀ i x a a', l[i]? = some x → I i a → step a x = .inl a' → I (i + 1) a')
    (he : ∀ a, I l.length a → b (mk l.length a) = some (.inr (fin a))) : iter b (mk 0 a) = some (foldE step fin a l) :=
  iter_fold mk step fin I l hs hI he l 0 a rfl (by omega) h
theorem lt_len {α : Type} {l : List α} {i : Nat} {x : α} (h : l[i]? = some x) : decide ((i : Int) < (l.length : Int)) = true :=
  decide_eq_true (by have := (List.getElem?_eq_some_iff.1 h).1; omega)
theorem nlt_len {α : Type} (l : List α) : decide ((l.length : Int) < (l.length : Int)) = false := decide_eq_false (by omega)
theorem w_succ {i : Nat} (h : i < 9223372036854775807) : IntKind.i64.wrap ((i : Int) + 1) = ((i + 1 : Nat) : Int) := by
  rw [w64' (by omega) (by omega)]; simp
theorem lAt_mid' {α : Type} {pre t : List α} {b : α} : lAt (pre ++ b :: t) (pre.length : Int) = some b := lAt_nat (by simp)
theorem appOk' {α : Type} {xs ys : List α} {k : Int} (hx : xs.length + ys.length ≤ 1000000) (hk : 0 ≤ k ∧ k ≤ 1000) {β : Type} {f : Option β} :
    (if ((xs.length : Int) + (ys.length : Int)) * k ≤ 140737488355328 ∧ (xs.length : Int) + (ys.length : Int) ≤ 4611686018427387904 then f else none) = f := by
  rw [if_pos]
  refine ⟨?_, by omega⟩
  have h1 : ((xs.length : Int) + (ys.length : Int)) * k ≤ 1000000 * 1000 := Int.mul_le_mul (by omega) hk.2 hk.1 (by omega)
  omega
theorem foldE_app {α β T : Type} (f : α → List β) (fin : List β → T) : ∀ (l : List α) (a : List β), foldE (fun a x => Sum.inl (a ++ f x)) fin a l = fin (a ++ l.flatMap f)
  | [], a => by simp [foldE]
  | x :: l, a => by rw [foldE]; simp only; rw [foldE_app f fin l (a ++ f x)]; simp
end WB
namespace WB
open Go Go.RowKit

theorem wu64 {n : Nat} (h : n < 18446744073709551616) : IntKind.u64.wrap (n : Int) = (n : Int) := by rw [IntKind.wrap_u64]; omega
theorem wu64' {n : Int} (h1 : 0 ≤ n) (h2 : n < 18446744073709551616) : IntKind.u64.wrap n = n := by rw [IntKind.wrap_u64]; omega
theorem wu64m (n : Nat) : IntKind.u64.wrap (n : Int) = ((n % 18446744073709551616 : Nat) : Int) := by rw [IntKind.wrap_u64]; omega
theorem bitZ_bits (op : BinOp) (k : IntKind) (x y : Int) (h : op = .and ∨ op = .or) : bitZ op k x y = bits op k x y := by
  rcases h with rfl | rfl <;> rfl
theorem mask32 {n : Nat} (h : n < 18446744073709551616) : bitZ .and .u64 (n : Int) 4294967295 = ((n % 4294967296 : Nat) : Int) := by
  rw [bitZ_bits _ _ _ _ (.inl rfl)]
  have h1 := bits_and_u64_nat n 4294967295 h (by omega)
  have e : n &&& 4294967295 = n % 4294967296 := Nat.and_two_pow_sub_one_eq_mod n 32
  rw [e] at h1
  exact h1
theorem shr32 (n : Nat) : (if (32 : Int) < 0 then none else some ((n : Int).fdiv (2 ^ (min (32 : Int).toNat 64)))) = some ((n / 4294967296 : Nat) : Int) := by
  rw [if_neg (by decide)]
  have e : (2 : Int) ^ (min (32 : Int).toNat 64) = 4294967296 := by decide
  rw [e, Int.fdiv_eq_ediv_of_nonneg _ (by decide)]
  congr 1
end WB
namespace WB

section
variable {b p z u n q r : Nat}

/-- A guess that is too great shows itself. -/
theorem kn_test (h : q * p + r = u) : b * r + n < q * z ↔ u * b + n < q * (p * b + z) := by
  have e1 : q * (p * b + z) = q * p * b + q * z := by rw [Nat.mul_add, Nat.mul_assoc]
  have e2 : u * b = q * p * b + b * r := by rw [← h, Nat.add_mul, Nat.mul_comm r b]
  omega
theorem kn_lt {d N : Nat} (hd : 0 < d) : N < q * d ↔ N / d < q := (Nat.div_lt_iff_lt_mul hd).symm
/-- The true quotient is one digit. -/
theorem kn_digit (hn : n < b) (hu : u < p * b + z) : (u * b + n) / (p * b + z) < b := by
  have hd : 0 < p * b + z := by omega
  rw [Nat.div_lt_iff_lt_mul hd]
  have : (u + 1) * b ≤ (p * b + z) * b := Nat.mul_le_mul_right b hu
  rw [Nat.add_mul] at this
  rw [Nat.mul_comm b]
  omega
/-- The first guess isn't too small, nor much too great. -/
theorem kn_first (hb : b ≤ 2 * p) (hp : 0 < p) (hz : z < b) (hn : n < b) (hu : u < p * b + z) : (u * b + n) / (p * b + z) ≤ u / p ∧ u / p ≤ b + 1 := by
  have hd : 0 < p * b + z := by omega
  constructor
  · rw [Nat.le_div_iff_mul_le hp]
    have h1 : (u * b + n) / (p * b + z) * (p * b + z) ≤ u * b + n := Nat.div_mul_le_self _ _
    generalize (u * b + n) / (p * b + z) = Q at h1
    have e1 : Q * (p * b + z) = Q * p * b + Q * z := by rw [Nat.mul_add, Nat.mul_assoc]
    have h2 : Q * p * b < (u + 1) * b := by rw [Nat.add_mul]; omega
    have := Nat.lt_of_mul_lt_mul_right h2
    omega
  · rw [← Nat.lt_succ_iff, Nat.div_lt_iff_lt_mul hp]
    have : (b + 1 + 1) * p = b * p + 2 * p := by rw [show b + 1 + 1 = b + 2 by omega, Nat.add_mul]
    rw [Nat.succ_eq_add_one, this, Nat.mul_comm b p]
    omega
/-- Where the rest has grown past a digit, the guess is right. -/
theorem kn_break (hr : b ≤ r) (hq : q ≤ b) (hz : z < b) (h : q * p + r = u) : q * (p * b + z) ≤ u * b + n := by
  have e1 : q * (p * b + z) = q * p * b + q * z := by rw [Nat.mul_add, Nat.mul_assoc]
  have e2 : u * b = q * p * b + r * b := by rw [← h, Nat.add_mul]
  have h1 : q * z ≤ b * b := Nat.mul_le_mul hq (by omega)
  have h2 : b * b ≤ r * b := Nat.mul_le_mul_right b hr
  omega
end
end WB
namespace WB
open Go Go.RowKit
set_option linter.unusedVariables false
noncomputable def law34_great (a : (Int × Int × (List (Int × (List UInt8) × Int))) × (List ((List UInt8) × Int))) : Option (Bool) :=
  let x0 := a.1
  let x1 := a.2
  let x7 := (x0.2.2.length : Int)
  let x8 := (decide (x7 > (60 : Int)))
  let x10 := (if x8 = false then some x1 else none)
  Option.bind (if x8 = false then (x10.map (fun z11 => (z11.length : Int))).map some else some none) fun x11 =>
  Option.bind (if x8 = false then ((x11.bind (fun z12 => some (z12, (70 : Int)))).map (fun z14 => (decide (z14.1 > z14.2)))).map some else some none) fun x12 =>
  Option.bind (if x8 then some true else x12.map (fun z15 => z15)) fun x13 =>
  some x13
noncomputable def slip_code_loop1 (s : (List (Int)) × (Int) × (Int) × Unit) : Option (((List (Int)) × (Int) × (Int) × Unit) ⊕ ((Unit) ⊕ (Bool))) :=
  let x17 := s.1
  let x18 := s.2.1
  let x19 := s.2.2.1
  let x20 := (decide (x19 < x18))
  if x20 then (
    Option.bind ((lAt x17 x19).map (fun y => y)) fun x21 =>
    Option.bind (show Option (((List (Int)) × (Int) × (Int) × (Bool) × Unit)) from (
      let x25 := (decide (x21 ≥ (97 : Int)))
      let x27 := (if x25 = true then some x21 else none)
      Option.bind (if x25 = true then ((x27.bind (fun z148 => some (z148, (122 : Int)))).map (fun z150 => (decide (z150.1 ≤ z150.2)))).map some else some none) fun x28 =>
      Option.bind (if x25 then x28 else some false) fun x29 =>
      if x29 then (
        some (x17, x18, x19, x29, ()))
      else (
        let x31 := (decide (x21 ≥ (48 : Int)))
        let x33 := (if x31 = true then some x21 else none)
        Option.bind (if x31 = true then ((x33.bind (fun z157 => some (z157, (57 : Int)))).map (fun z159 => (decide (z159.1 ≤ z159.2)))).map some else some none) fun x34 =>
        Option.bind (if x31 then x34 else some false) fun x35 =>
        if x35 then (
          some (x17, x18, x19, x35, ()))
        else (
          let x37 := (x21 == (46 : Int))
          if x37 then (
            some (x17, x18, x19, x37, ()))
          else (
            let x39 := (x21 == (95 : Int))
            if x39 then (
              some (x17, x18, x19, x39, ()))
            else (
              let x41 := (x21 == (45 : Int))
              some (x17, x18, x19, x41, ()))))))) fun o =>
    let x17 := o.1
    let x18 := o.2.1
    let x19 := o.2.2.1
    let x23 := o.2.2.2.1
    if x23 then (
      let x42 := IntKind.i64.wrap (x19 + (1 : Int))
      some (Sum.inl (x17, x18, x42, ())))
    else (
      some (Sum.inr (Sum.inr false))))
  else (
    some (Sum.inr (Sum.inl (()))))
noncomputable def slip_code (a : (List UInt8)) : Option (Bool) :=
  let x0 := a
  let x6 := ((x0 == ([] : List UInt8)))
  let x8 := (if x6 = false then some x0 else none)
  Option.bind (if x6 = false then ((x8.bind (fun z37 => some (z37, ([45] : List UInt8)))).map (fun z39 => ((z39.1 == z39.2)))).map some else some none) fun x9 =>
  Option.bind (if x6 then some true else x9.map (fun z40 => z40)) fun x10 =>
  let x12 := (if x10 = false then some x0 else none)
  Option.bind (if x10 = false then (x12.map (fun z41 => (z41.length : Int))).map some else some none) fun x13 =>
  Option.bind (if x10 = false then ((x13.bind (fun z42 => some (z42, (32 : Int)))).map (fun z44 => (decide (z44.1 > z44.2)))).map some else some none) fun x14 =>
  Option.bind (if x10 then some true else x14.map (fun z45 => z45)) fun x15 =>
  if x15 then (
    some false)
  else (
    Option.bind (if x0.length ≤ 70368744177664 then some (x0.map fun b => (b.toNat : Int)) else none) fun x17 =>
    let x18 := (x17.length : Int)
    Option.bind (iter slip_code_loop1 (x17, x18, (0 : Int), ())) fun o =>
    match o with
    | Sum.inl p160 => (
      some true)
    | Sum.inr q161 => (
      some q161))
noncomputable def cents_Fits (a : Int) : Option (Bool) :=
  let x0 := a
  let x4 := (decide (x0 ≥ (-1125899906842624 : Int)))
  let x6 := (if x4 = true then some x0 else none)
  Option.bind (if x4 = true then ((x6.bind (fun z7 => some (z7, (1125899906842624 : Int)))).map (fun z9 => (decide (z9.1 ≤ z9.2)))).map some else some none) fun x7 =>
  Option.bind (if x4 then x7 else some false) fun x8 =>
  some x8
noncomputable def slip_line (a : (Int × (List UInt8) × Int)) : Option (Int) :=
  let x0 := a
  let x6 := (decide (x0.1 < (0 : Int)))
  let x8 := (if x6 = false then some () else none)
  Option.bind (if x6 = false then (x8.map (fun z21 => x0.1)).map some else some none) fun x9 =>
  Option.bind (if x6 = false then ((x9.bind (fun z22 => some (z22, (7 : Int)))).map (fun z24 => (decide (z24.1 ≥ z24.2)))).map some else some none) fun x10 =>
  Option.bind (if x6 then some true else x10.map (fun z25 => z25)) fun x11 =>
  if x11 then (
    some (11 : Int))
  else (
    Option.bind (slip_code x0.2.1) fun x15 =>
    let x16 := (!x15)
    if x16 then (
      some (12 : Int))
    else (
      let x20 := (x0.2.2 == (0 : Int))
      if x20 then (
        some (22 : Int))
      else (
        Option.bind (cents_Fits x0.2.2) fun x24 =>
        let x25 := (!x24)
        if x25 then (
          some (9 : Int))
        else (
          some (0 : Int)))))
noncomputable def slip_less (a : (Int × (List UInt8) × Int) × (Int × (List UInt8) × Int)) : Option (Bool) :=
  let x0 := a.1
  let x1 := a.2
  let x9 := (decide (x0.1 < x1.1))
  let x11 := (if x9 = false then some () else none)
  Option.bind (if x9 = false then (x11.map (fun z25 => x0.1)).map some else some none) fun x12 =>
  let x13 := (if x9 = false then some () else none)
  Option.bind (if x9 = false then (x13.map (fun z26 => x1.1)).map some else some none) fun x14 =>
  Option.bind (if x9 = false then ((x12.bind (fun z27 => x14.map (fun z28 => (z27, z28)))).map (fun z29 => (z29.1 == z29.2))).map some else some none) fun x15 =>
  Option.bind (if x9 = false then x15.map some else some none) fun x16 =>
  let x17 := (if x16 = some true then some () else none)
  Option.bind (if x16 = some true then (x17.map (fun z30 => x0.2.1)).map some else some none) fun x18 =>
  let x19 := (if x16 = some true then some () else none)
  Option.bind (if x16 = some true then (x19.map (fun z31 => x1.2.1)).map some else some none) fun x20 =>
  Option.bind (if x16 = some true then ((x18.bind (fun z32 => x20.map (fun z33 => (z32, z33)))).map (fun z34 => (sLess z34.1 z34.2))).map some else some none) fun x21 =>
  Option.bind (if x9 = false then (x16.bind (fun z35 => if z35 then x21 else some false)).map some else some none) fun x22 =>
  Option.bind (if x9 then some true else x22.map (fun z36 => z36)) fun x23 =>
  some x23
noncomputable def slip_Check_loop1 (s : (List (Int × (List UInt8) × Int)) × (Int) × (Int) × (Int) × (Int) × (List (Int × (List UInt8) × Int)) × (Unit) × (Unit) × Unit) : Option (((List (Int × (List UInt8) × Int)) × (Int) × (Int) × (Int) × (Int) × (List (Int × (List UInt8) × Int)) × (Unit) × (Unit) × Unit) ⊕ ((Unit) ⊕ (Int))) :=
  let x30 := s.1
  let x31 := s.2.1
  let x32 := s.2.2.1
  let c1_0 := s.2.2.2.1
  let c1_1 := s.2.2.2.2.1
  let c1_2 := s.2.2.2.2.2.1
  let x33 := (decide (x32 < x31))
  if x33 then (
    Option.bind (show Option (((List (Int × (List UInt8) × Int)) × (Int) × (Int) × (Int) × (Int) × (List (Int × (List UInt8) × Int)) × (Unit) × (Unit) × Unit) ⊕ (Int)) from (
      Option.bind ((lAt x30 x32).map (fun y => y)) fun x35 =>
      Option.bind (slip_line (x35.1, x35.2.1, x35.2.2)) fun x38 =>
      let x40 := (x38 != (0 : Int))
      if x40 then (
        some (Sum.inr x38))
      else (
        let x43 := (x32 == (0 : Int))
        if x43 then (
          some (Sum.inl (x30, x31, x32, c1_0, c1_1, c1_2, (), (), ())))
        else (
          let x47 := IntKind.i64.wrap (x32 - (1 : Int))
          Option.bind ((lAt c1_2 x47).map (fun y => y)) fun x48 =>
          let x55 := (x48.1 == x35.1)
          let x57 := (if x55 = true then some () else none)
          Option.bind (if x55 = true then (x57.map (fun z146 => x48.2.1)).map some else some none) fun x58 =>
          let x59 := (if x55 = true then some () else none)
          Option.bind (if x55 = true then (x59.map (fun z147 => x35.2.1)).map some else some none) fun x60 =>
          Option.bind (if x55 = true then ((x58.bind (fun z148 => x60.map (fun z149 => (z148, z149)))).map (fun z150 => ((z150.1 == z150.2)))).map some else some none) fun x61 =>
          Option.bind (if x55 then x61 else some false) fun x62 =>
          if x62 then (
            some (Sum.inr (7 : Int)))
          else (
            Option.bind (slip_less ((x48.1, x48.2.1, x48.2.2), (x35.1, x35.2.1, x35.2.2))) fun x66 =>
            let x67 := (!x66)
            if x67 then (
              some (Sum.inr (8 : Int)))
            else (
              some (Sum.inl (x30, x31, x32, c1_0, c1_1, c1_2, (), (), ())))))))) fun o =>
    match o with
    | Sum.inl p151 => (
      let x30 := p151.1
      let x31 := p151.2.1
      let x32 := p151.2.2.1
      let c1_0 := p151.2.2.2.1
      let c1_1 := p151.2.2.2.2.1
      let c1_2 := p151.2.2.2.2.2.1
      let x68 := IntKind.i64.wrap (x32 + (1 : Int))
      some (Sum.inl (x30, x31, x68, c1_0, c1_1, c1_2, (), (), ())))
    | Sum.inr q152 => (
      some (Sum.inr (Sum.inr q152))))
  else (
    some (Sum.inr (Sum.inl (()))))
noncomputable def slip_Check (a : (Int × Int × (List (Int × (List UInt8) × Int)))) : Option (Int) :=
  let x0 := a
  Option.bind (show Option (((Bool) × (Int) × (Int) × (List (Int × (List UInt8) × Int)) × (Unit) × (Unit) × Unit)) from (
    let x10 := (decide (x0.1 < (1900 : Int)))
    let x12 := (if x10 = false then some () else none)
    Option.bind (if x10 = false then (x12.map (fun z51 => x0.1)).map some else some none) fun x13 =>
    Option.bind (if x10 = false then ((x13.bind (fun z52 => some (z52, (2199 : Int)))).map (fun z54 => (decide (z54.1 > z54.2)))).map some else some none) fun x14 =>
    Option.bind (if x10 then some true else x14.map (fun z55 => z55)) fun x15 =>
    if x15 then (
      some (x15, x0.1, x0.2.1, x0.2.2, (), (), ()))
    else (
      let x18 := (decide (x0.2.1 < (1 : Int)))
      let x20 := (if x18 = false then some () else none)
      Option.bind (if x18 = false then (x20.map (fun z61 => x0.2.1)).map some else some none) fun x21 =>
      Option.bind (if x18 = false then ((x21.bind (fun z62 => some (z62, (400 : Int)))).map (fun z64 => (decide (z64.1 > z64.2)))).map some else some none) fun x22 =>
      Option.bind (if x18 then some true else x22.map (fun z65 => z65)) fun x23 =>
      some (x23, x0.1, x0.2.1, x0.2.2, (), (), ())))) fun o =>
  let x7 := o.1
  let c1_0 := o.2.1
  let c1_1 := o.2.2.1
  let c1_2 := o.2.2.2.1
  if x7 then (
    some (2 : Int))
  else (
    let x27 := (c1_2.length : Int)
    let x28 := (decide (x27 > (448 : Int)))
    if x28 then (
      some (5 : Int))
    else (
      let x31 := (c1_2.length : Int)
      Option.bind (iter slip_Check_loop1 (c1_2, x31, (0 : Int), c1_0, c1_1, c1_2, (), (), ())) fun o =>
      match o with
      | Sum.inl p153 => (
        some (0 : Int))
      | Sum.inr q154 => (
        some q154)))
noncomputable def fact_known (a : Int) : Option (Bool) :=
  let x0 := a
  let x4 := (decide (x0 ≥ (1 : Int)))
  let x6 := (if x4 = true then some x0 else none)
  Option.bind (if x4 = true then ((x6.bind (fun z7 => some (z7, (18 : Int)))).map (fun z9 => (decide (z9.1 ≤ z9.2)))).map some else some none) fun x7 =>
  Option.bind (if x4 then x7 else some false) fun x8 =>
  some x8
noncomputable def fact_isName_loop1 (s : (List UInt8) × (Int) × (Int) × Unit) : Option (((List UInt8) × (Int) × (Int) × Unit) ⊕ (((List UInt8) × Unit) ⊕ (Bool))) :=
  let x0 := s.1
  let x6 := s.2.1
  let x7 := s.2.2.1
  let x8 := (decide (x7 < x6))
  if x8 then (
    Option.bind (sAt x0 x7) fun x12 =>
    let x14 := (decide (x12 < (97 : Int)))
    let x16 := (if x14 = false then some x12 else none)
    Option.bind (if x14 = false then ((x16.bind (fun z337 => some (z337, (122 : Int)))).map (fun z339 => (decide (z339.1 > z339.2)))).map some else some none) fun x17 =>
    Option.bind (if x14 then some true else x17.map (fun z340 => z340)) fun x18 =>
    let x20 := (if x18 = true then some x12 else none)
    Option.bind (if x18 = true then ((x20.bind (fun z341 => some (z341, (48 : Int)))).map (fun z343 => (decide (z343.1 < z343.2)))).map some else some none) fun x21 =>
    Option.bind (if x18 = true then x21.map some else some none) fun x22 =>
    let x23 := (if x22 = some false then some x12 else none)
    Option.bind (if x22 = some false then ((x23.bind (fun z344 => some (z344, (57 : Int)))).map (fun z346 => (decide (z346.1 > z346.2)))).map some else some none) fun x24 =>
    Option.bind (if x18 = true then (x22.bind (fun z348 => if z348 then some true else x24.map (fun z347 => z347))).map some else some none) fun x25 =>
    Option.bind (if x18 then x25 else some false) fun x26 =>
    let x28 := (if x26 = true then some x12 else none)
    Option.bind (if x26 = true then ((x28.bind (fun z349 => some (z349, (46 : Int)))).map (fun z351 => (z351.1 != z351.2))).map some else some none) fun x29 =>
    Option.bind (if x26 then x29 else some false) fun x30 =>
    let x32 := (if x30 = true then some x12 else none)
    Option.bind (if x30 = true then ((x32.bind (fun z352 => some (z352, (95 : Int)))).map (fun z354 => (z354.1 != z354.2))).map some else some none) fun x33 =>
    Option.bind (if x30 then x33 else some false) fun x34 =>
    let x36 := (if x34 = true then some x12 else none)
    Option.bind (if x34 = true then ((x36.bind (fun z355 => some (z355, (45 : Int)))).map (fun z357 => (z357.1 != z357.2))).map some else some none) fun x37 =>
    Option.bind (if x34 then x37 else some false) fun x38 =>
    if x38 then (
      some (Sum.inr (Sum.inr false)))
    else (
      let x39 := IntKind.i64.wrap (x7 + (1 : Int))
      some (Sum.inl (x0, x6, x39, ()))))
  else (
    some (Sum.inr (Sum.inl (x0, ()))))
noncomputable def fact_isName (a : (List UInt8)) : Option (Bool) :=
  let x0 := a
  let x6 := (x0.length : Int)
  Option.bind (iter fact_isName_loop1 (x0, x6, (0 : Int), ())) fun o =>
  match o with
  | Sum.inl p358 => (
    let x0 := p358.1
    let x41 := (!(x0 == ([] : List UInt8)))
    let x43 := (if x41 = true then some x0 else none)
    Option.bind (if x41 = true then ((x43.bind (fun z374 => some (z374, ([45] : List UInt8)))).map (fun z376 => (!(z376.1 == z376.2)))).map some else some none) fun x44 =>
    Option.bind (if x41 then x44 else some false) fun x45 =>
    let x47 := (if x45 = true then some x0 else none)
    Option.bind (if x45 = true then (x47.map (fun z377 => (z377.length : Int))).map some else some none) fun x48 =>
    Option.bind (if x45 = true then ((x48.bind (fun z378 => some (z378, (32 : Int)))).map (fun z380 => (decide (z380.1 ≤ z380.2)))).map some else some none) fun x49 =>
    Option.bind (if x45 then x49 else some false) fun x50 =>
    some x50)
  | Sum.inr q359 => (
    some q359)
noncomputable def fact_rules_1 (a : (List UInt8)) : Option (Bool) :=
  let x0 := a
  let x4 := ((x0 == ([] : List UInt8)))
  let x6 := (if x4 = false then some x0 else none)
  Option.bind (if x4 = false then ((x6.map (fun z7 => z7)).bind (fun z8 => fact_isName z8)).map some else some none) fun x7 =>
  Option.bind (if x4 then some true else x7.map (fun z9 => z9)) fun x8 =>
  some x8
noncomputable def fact_rules_2 (a : (Int × Int × Int × Int × Int × (List UInt8) × Int × (List UInt8))) : Option (Bool) :=
  let x0 := a
  Option.bind (fact_isName x0.2.2.2.2.2.2.2) fun x5 =>
  some x5
noncomputable def fact_plain_loop1 (s : (List UInt8) × (Int) × (Int) × Unit) : Option (((List UInt8) × (Int) × (Int) × Unit) ⊕ ((Unit) ⊕ (Bool))) :=
  let x0 := s.1
  let x5 := s.2.1
  let x6 := s.2.2.1
  let x7 := (decide (x6 < x5))
  if x7 then (
    Option.bind (sAt x0 x6) fun x11 =>
    let x12 := (decide (x11 < (32 : Int)))
    let x14 := (if x12 = false then some x0 else none)
    let x15 := (if x12 = false then some x6 else none)
    Option.bind (if x12 = false then ((x14.bind (fun z113 => x15.map (fun z114 => (z113, z114)))).bind (fun z115 => sAt z115.1 z115.2)).map some else some none) fun x16 =>
    Option.bind (if x12 = false then ((x16.bind (fun z116 => some (z116, (126 : Int)))).map (fun z118 => (decide (z118.1 > z118.2)))).map some else some none) fun x17 =>
    Option.bind (if x12 then some true else x17.map (fun z119 => z119)) fun x18 =>
    if x18 then (
      some (Sum.inr (Sum.inr false)))
    else (
      let x19 := IntKind.i64.wrap (x6 + (1 : Int))
      some (Sum.inl (x0, x5, x19, ()))))
  else (
    some (Sum.inr (Sum.inl (()))))
noncomputable def fact_plain (a : (List UInt8)) : Option (Bool) :=
  let x0 := a
  let x5 := (x0.length : Int)
  Option.bind (iter fact_plain_loop1 (x0, x5, (0 : Int), ())) fun o =>
  match o with
  | Sum.inl p120 => (
    some true)
  | Sum.inr q121 => (
    some q121)
noncomputable def fact_rules_3 (a : (Int × Int × Int × Int × Int × (List UInt8) × Int × (List UInt8))) : Option (Bool) :=
  let x0 := a
  Option.bind (fact_plain x0.2.2.2.2.2.2.2) fun x5 =>
  some x5
noncomputable def fact_rules_4 (a : (Int × Int × Int × Int × Int × (List UInt8) × Int × (List UInt8))) : Option (Bool) :=
  let x0 := a
  let x5 := (!(x0.2.2.2.2.2.2.2 == ([] : List UInt8)))
  let x7 := (if x5 = true then some () else none)
  Option.bind (if x5 = true then (x7.map (fun z7 => x0.2.2.2.2.2.2.2)).map some else some none) fun x8 =>
  Option.bind (if x5 = true then ((x8.map (fun z8 => z8)).bind (fun z9 => fact_plain z9)).map some else some none) fun x9 =>
  Option.bind (if x5 then x9 else some false) fun x10 =>
  some x10
noncomputable def fact_empty (a : (List UInt8)) : Option (Bool) :=
  let x0 := a
  let x4 := ((x0 == ([] : List UInt8)))
  some x4
noncomputable def fact_silent (a : (Int × Int × Int × Int × Int × (List UInt8) × Int × (List UInt8))) : Option (Bool) :=
  let x0 := a
  let x5 := ((x0.2.2.2.2.2.2.2 == ([] : List UInt8)))
  some x5
noncomputable def fact_weekly (a : (Int × Int × Int × Int × Int × (List UInt8) × Int × (List UInt8))) : Option (Bool) :=
  let x0 := a
  none
noncomputable def fact_rules_5 (a : (Int × Int × Int × Int × Int × (List UInt8) × Int × (List UInt8))) : Option (Bool) :=
  let x0 := a
  none
noncomputable def fact_night (a : (Int × Int × Int × Int × Int × (List UInt8) × Int × (List UInt8))) : Option (Bool) :=
  let x0 := a
  none
noncomputable def fact_absence (a : (List UInt8)) : Option (Bool) :=
  let x0 := a
  none
noncomputable def fact_rules_6 (a : (Int × Int × Int × Int × Int × (List UInt8) × Int × (List UInt8))) : Option (Bool) :=
  let x0 := a
  none
noncomputable def fact_rules (a : Unit) : Option ((List UInt8) × Bool × Bool × (((Unit) ⊕ (((Unit) ⊕ (((Unit) ⊕ (((Unit) ⊕ (Unit))))))))) × Int × Int × (((Unit) ⊕ (((Unit) ⊕ (((Unit) ⊕ (((Unit) ⊕ (((Unit) ⊕ (((Unit) ⊕ (((Unit) ⊕ (((Unit) ⊕ (Unit))))))))))))))))) × (List UInt8) × Bool × Bool × (((Unit) ⊕ (((Unit) ⊕ (((Unit) ⊕ (((Unit) ⊕ (Unit))))))))) × Int × Int × (((Unit) ⊕ (((Unit) ⊕ (((Unit) ⊕ (((Unit) ⊕ (((Unit) ⊕ (((Unit) ⊕ (((Unit) ⊕ (((Unit) ⊕ (Unit))))))))))))))))) × (List UInt8) × Bool × Bool × (((Unit) ⊕ (((Unit) ⊕ (((Unit) ⊕ (((Unit) ⊕ (Unit))))))))) × Int × Int × (((Unit) ⊕ (((Unit) ⊕ (((Unit) ⊕ (((Unit) ⊕ (((Unit) ⊕ (((Unit) ⊕ (((Unit) ⊕ (((Unit) ⊕ (Unit))))))))))))))))) × (List UInt8) × Bool × Bool × (((Unit) ⊕ (((Unit) ⊕ (((Unit) ⊕ (((Unit) ⊕ (Unit))))))))) × Int × Int × (((Unit) ⊕ (((Unit) ⊕ (((Unit) ⊕ (((Unit) ⊕ (((Unit) ⊕ (((Unit) ⊕ (((Unit) ⊕ (((Unit) ⊕ (Unit))))))))))))))))) × (List UInt8) × Bool × Bool × (((Unit) ⊕ (((Unit) ⊕ (((Unit) ⊕ (((Unit) ⊕ (Unit))))))))) × Int × Int × (((Unit) ⊕ (((Unit) ⊕ (((Unit) ⊕ (((Unit) ⊕ (((Unit) ⊕ (((Unit) ⊕ (((Unit) ⊕ (((Unit) ⊕ (Unit))))))))))))))))) × (List UInt8) × Bool × Bool × (((Unit) ⊕ (((Unit) ⊕ (((Unit) ⊕ (((Unit) ⊕ (Unit))))))))) × Int × Int × (((Unit) ⊕ (((Unit) ⊕ (((Unit) ⊕ (((Unit) ⊕ (((Unit) ⊕ (((Unit) ⊕ (((Unit) ⊕ (((Unit) ⊕ (Unit))))))))))))))))) × (List UInt8) × Bool × Bool × (((Unit) ⊕ (((Unit) ⊕ (((Unit) ⊕ (((Unit) ⊕ (Unit))))))))) × Int × Int × (((Unit) ⊕ (((Unit) ⊕ (((Unit) ⊕ (((Unit) ⊕ (((Unit) ⊕ (((Unit) ⊕ (((Unit) ⊕ (((Unit) ⊕ (Unit))))))))))))))))) × (List UInt8) × Bool × Bool × (((Unit) ⊕ (((Unit) ⊕ (((Unit) ⊕ (((Unit) ⊕ (Unit))))))))) × Int × Int × (((Unit) ⊕ (((Unit) ⊕ (((Unit) ⊕ (((Unit) ⊕ (((Unit) ⊕ (((Unit) ⊕ (((Unit) ⊕ (((Unit) ⊕ (Unit))))))))))))))))) × (List UInt8) × Bool × Bool × (((Unit) ⊕ (((Unit) ⊕ (((Unit) ⊕ (((Unit) ⊕ (Unit))))))))) × Int × Int × (((Unit) ⊕ (((Unit) ⊕ (((Unit) ⊕ (((Unit) ⊕ (((Unit) ⊕ (((Unit) ⊕ (((Unit) ⊕ (((Unit) ⊕ (Unit))))))))))))))))) × (List UInt8) × Bool × Bool × (((Unit) ⊕ (((Unit) ⊕ (((Unit) ⊕ (((Unit) ⊕ (Unit))))))))) × Int × Int × (((Unit) ⊕ (((Unit) ⊕ (((Unit) ⊕ (((Unit) ⊕ (((Unit) ⊕ (((Unit) ⊕ (((Unit) ⊕ (((Unit) ⊕ (Unit))))))))))))))))) × (List UInt8) × Bool × Bool × (((Unit) ⊕ (((Unit) ⊕ (((Unit) ⊕ (((Unit) ⊕ (Unit))))))))) × Int × Int × (((Unit) ⊕ (((Unit) ⊕ (((Unit) ⊕ (((Unit) ⊕ (((Unit) ⊕ (((Unit) ⊕ (((Unit) ⊕ (((Unit) ⊕ (Unit))))))))))))))))) × (List UInt8) × Bool × Bool × (((Unit) ⊕ (((Unit) ⊕ (((Unit) ⊕ (((Unit) ⊕ (Unit))))))))) × Int × Int × (((Unit) ⊕ (((Unit) ⊕ (((Unit) ⊕ (((Unit) ⊕ (((Unit) ⊕ (((Unit) ⊕ (((Unit) ⊕ (((Unit) ⊕ (Unit))))))))))))))))) × (List UInt8) × Bool × Bool × (((Unit) ⊕ (((Unit) ⊕ (((Unit) ⊕ (((Unit) ⊕ (Unit))))))))) × Int × Int × (((Unit) ⊕ (((Unit) ⊕ (((Unit) ⊕ (((Unit) ⊕ (((Unit) ⊕ (((Unit) ⊕ (((Unit) ⊕ (((Unit) ⊕ (Unit))))))))))))))))) × (List UInt8) × Bool × Bool × (((Unit) ⊕ (((Unit) ⊕ (((Unit) ⊕ (((Unit) ⊕ (Unit))))))))) × Int × Int × (((Unit) ⊕ (((Unit) ⊕ (((Unit) ⊕ (((Unit) ⊕ (((Unit) ⊕ (((Unit) ⊕ (((Unit) ⊕ (((Unit) ⊕ (Unit))))))))))))))))) × (List UInt8) × Bool × Bool × (((Unit) ⊕ (((Unit) ⊕ (((Unit) ⊕ (((Unit) ⊕ (Unit))))))))) × Int × Int × (((Unit) ⊕ (((Unit) ⊕ (((Unit) ⊕ (((Unit) ⊕ (((Unit) ⊕ (((Unit) ⊕ (((Unit) ⊕ (((Unit) ⊕ (Unit))))))))))))))))) × (List UInt8) × Bool × Bool × (((Unit) ⊕ (((Unit) ⊕ (((Unit) ⊕ (((Unit) ⊕ (Unit))))))))) × Int × Int × (((Unit) ⊕ (((Unit) ⊕ (((Unit) ⊕ (((Unit) ⊕ (((Unit) ⊕ (((Unit) ⊕ (((Unit) ⊕ (((Unit) ⊕ (Unit))))))))))))))))) × (List UInt8) × Bool × Bool × (((Unit) ⊕ (((Unit) ⊕ (((Unit) ⊕ (((Unit) ⊕ (Unit))))))))) × Int × Int × (((Unit) ⊕ (((Unit) ⊕ (((Unit) ⊕ (((Unit) ⊕ (((Unit) ⊕ (((Unit) ⊕ (((Unit) ⊕ (((Unit) ⊕ (Unit))))))))))))))))) × (List UInt8) × Bool × Bool × (((Unit) ⊕ (((Unit) ⊕ (((Unit) ⊕ (((Unit) ⊕ (Unit))))))))) × Int × Int × (((Unit) ⊕ (((Unit) ⊕ (((Unit) ⊕ (((Unit) ⊕ (((Unit) ⊕ (((Unit) ⊕ (((Unit) ⊕ (((Unit) ⊕ (Unit))))))))))))))))) × (List UInt8) × Bool × Bool × (((Unit) ⊕ (((Unit) ⊕ (((Unit) ⊕ (((Unit) ⊕ (Unit))))))))) × Int × Int × (((Unit) ⊕ (((Unit) ⊕ (((Unit) ⊕ (((Unit) ⊕ (((Unit) ⊕ (((Unit) ⊕ (((Unit) ⊕ (((Unit) ⊕ (Unit)))))))))))))))))) :=
  let x1 := ()
  let x2 := ()
  let x3 := ()
  let x4 := ()
  some (([] : List UInt8), false, false, (Sum.inr (Sum.inr (Sum.inr (Sum.inr ()))) : ((Unit) ⊕ (((Unit) ⊕ (((Unit) ⊕ (((Unit) ⊕ (Unit))))))))), (0 : Int), (0 : Int), (Sum.inr (Sum.inr (Sum.inr (Sum.inr (Sum.inr (Sum.inr (Sum.inr (Sum.inr ()))))))) : ((Unit) ⊕ (((Unit) ⊕ (((Unit) ⊕ (((Unit) ⊕ (((Unit) ⊕ (((Unit) ⊕ (((Unit) ⊕ (((Unit) ⊕ (Unit))))))))))))))))), ([101, 109, 112, 108, 111, 121] : List UInt8), false, true, (Sum.inl () : ((Unit) ⊕ (((Unit) ⊕ (((Unit) ⊕ (((Unit) ⊕ (Unit))))))))), (0 : Int), (1 : Int), (Sum.inl () : ((Unit) ⊕ (((Unit) ⊕ (((Unit) ⊕ (((Unit) ⊕ (((Unit) ⊕ (((Unit) ⊕ (((Unit) ⊕ (((Unit) ⊕ (Unit))))))))))))))))), ([115, 97, 108, 97, 114, 121] : List UInt8), false, true, (Sum.inl () : ((Unit) ⊕ (((Unit) ⊕ (((Unit) ⊕ (((Unit) ⊕ (Unit))))))))), (0 : Int), (1125899906842624 : Int), (Sum.inl () : ((Unit) ⊕ (((Unit) ⊕ (((Unit) ⊕ (((Unit) ⊕ (((Unit) ⊕ (((Unit) ⊕ (((Unit) ⊕ (((Unit) ⊕ (Unit))))))))))))))))), ([112, 97, 114, 116] : List UInt8), false, true, (Sum.inl () : ((Unit) ⊕ (((Unit) ⊕ (((Unit) ⊕ (((Unit) ⊕ (Unit))))))))), (0 : Int), (1000000 : Int), (Sum.inl () : ((Unit) ⊕ (((Unit) ⊕ (((Unit) ⊕ (((Unit) ⊕ (((Unit) ⊕ (((Unit) ⊕ (((Unit) ⊕ (((Unit) ⊕ (Unit))))))))))))))))), ([104, 111, 117, 114, 115] : List UInt8), false, true, (Sum.inl () : ((Unit) ⊕ (((Unit) ⊕ (((Unit) ⊕ (((Unit) ⊕ (Unit))))))))), (0 : Int), (0 : Int), (Sum.inr (Sum.inl ()) : ((Unit) ⊕ (((Unit) ⊕ (((Unit) ⊕ (((Unit) ⊕ (((Unit) ⊕ (((Unit) ⊕ (((Unit) ⊕ (((Unit) ⊕ (Unit))))))))))))))))), ([99, 111, 115, 116] : List UInt8), false, true, (Sum.inl () : ((Unit) ⊕ (((Unit) ⊕ (((Unit) ⊕ (((Unit) ⊕ (Unit))))))))), (0 : Int), (0 : Int), (Sum.inr (Sum.inr (Sum.inl ())) : ((Unit) ⊕ (((Unit) ⊕ (((Unit) ⊕ (((Unit) ⊕ (((Unit) ⊕ (((Unit) ⊕ (((Unit) ⊕ (((Unit) ⊕ (Unit))))))))))))))))), ([115, 104, 101, 101, 116] : List UInt8), false, false, (Sum.inr (Sum.inl x1) : ((Unit) ⊕ (((Unit) ⊕ (((Unit) ⊕ (((Unit) ⊕ (Unit))))))))), (0 : Int), (1440 : Int), (Sum.inr (Sum.inr (Sum.inr (Sum.inl ()))) : ((Unit) ⊕ (((Unit) ⊕ (((Unit) ⊕ (((Unit) ⊕ (((Unit) ⊕ (((Unit) ⊕ (((Unit) ⊕ (((Unit) ⊕ (Unit))))))))))))))))), ([97, 98, 115, 101, 110, 116] : List UInt8), false, true, (Sum.inr (Sum.inr (Sum.inl ())) : ((Unit) ⊕ (((Unit) ⊕ (((Unit) ⊕ (((Unit) ⊕ (Unit))))))))), (0 : Int), (1000000 : Int), (Sum.inl () : ((Unit) ⊕ (((Unit) ⊕ (((Unit) ⊕ (((Unit) ⊕ (((Unit) ⊕ (((Unit) ⊕ (((Unit) ⊕ (((Unit) ⊕ (Unit))))))))))))))))), ([98, 111, 110, 117, 115] : List UInt8), false, false, (Sum.inr (Sum.inr (Sum.inr (Sum.inl ()))) : ((Unit) ⊕ (((Unit) ⊕ (((Unit) ⊕ (((Unit) ⊕ (Unit))))))))), (-1125899906842624 : Int), (1125899906842624 : Int), (Sum.inl () : ((Unit) ⊕ (((Unit) ⊕ (((Unit) ⊕ (((Unit) ⊕ (((Unit) ⊕ (((Unit) ⊕ (((Unit) ⊕ (((Unit) ⊕ (Unit))))))))))))))))), ([101, 110, 114, 111, 108] : List UInt8), false, true, (Sum.inr (Sum.inr (Sum.inr (Sum.inl ()))) : ((Unit) ⊕ (((Unit) ⊕ (((Unit) ⊕ (((Unit) ⊕ (Unit))))))))), (0 : Int), (1125899906842624 : Int), (Sum.inl () : ((Unit) ⊕ (((Unit) ⊕ (((Unit) ⊕ (((Unit) ⊕ (((Unit) ⊕ (((Unit) ⊕ (((Unit) ⊕ (((Unit) ⊕ (Unit))))))))))))))))), ([100, 101, 100, 117, 99, 116] : List UInt8), false, true, (Sum.inr (Sum.inr (Sum.inr (Sum.inl ()))) : ((Unit) ⊕ (((Unit) ⊕ (((Unit) ⊕ (((Unit) ⊕ (Unit))))))))), (0 : Int), (1125899906842624 : Int), (Sum.inl () : ((Unit) ⊕ (((Unit) ⊕ (((Unit) ⊕ (((Unit) ⊕ (((Unit) ⊕ (((Unit) ⊕ (((Unit) ⊕ (((Unit) ⊕ (Unit))))))))))))))))), ([99, 97, 114, 100] : List UInt8), false, true, (Sum.inl () : ((Unit) ⊕ (((Unit) ⊕ (((Unit) ⊕ (((Unit) ⊕ (Unit))))))))), (0 : Int), (1125899906842624 : Int), (Sum.inr (Sum.inr (Sum.inr (Sum.inr (Sum.inl x2)))) : ((Unit) ⊕ (((Unit) ⊕ (((Unit) ⊕ (((Unit) ⊕ (((Unit) ⊕ (((Unit) ⊕ (((Unit) ⊕ (((Unit) ⊕ (Unit))))))))))))))))), ([97, 116, 116, 97, 99, 104] : List UInt8), false, true, (Sum.inr (Sum.inr (Sum.inr (Sum.inl ()))) : ((Unit) ⊕ (((Unit) ⊕ (((Unit) ⊕ (((Unit) ⊕ (Unit))))))))), (0 : Int), (1125899906842624 : Int), (Sum.inr (Sum.inr (Sum.inr (Sum.inr (Sum.inr (Sum.inl ()))))) : ((Unit) ⊕ (((Unit) ⊕ (((Unit) ⊕ (((Unit) ⊕ (((Unit) ⊕ (((Unit) ⊕ (((Unit) ⊕ (((Unit) ⊕ (Unit))))))))))))))))), ([98, 97, 110, 107] : List UInt8), false, true, (Sum.inl () : ((Unit) ⊕ (((Unit) ⊕ (((Unit) ⊕ (((Unit) ⊕ (Unit))))))))), (0 : Int), (0 : Int), (Sum.inr (Sum.inr (Sum.inr (Sum.inr (Sum.inl x2)))) : ((Unit) ⊕ (((Unit) ⊕ (((Unit) ⊕ (((Unit) ⊕ (((Unit) ⊕ (((Unit) ⊕ (((Unit) ⊕ (((Unit) ⊕ (Unit))))))))))))))))), ([114, 117, 108, 101] : List UInt8), true, true, (Sum.inr (Sum.inr (Sum.inr (Sum.inl ()))) : ((Unit) ⊕ (((Unit) ⊕ (((Unit) ⊕ (((Unit) ⊕ (Unit))))))))), (-1125899906842624 : Int), (1125899906842624 : Int), (Sum.inr (Sum.inr (Sum.inr (Sum.inr (Sum.inr (Sum.inr (Sum.inl x3)))))) : ((Unit) ⊕ (((Unit) ⊕ (((Unit) ⊕ (((Unit) ⊕ (((Unit) ⊕ (((Unit) ⊕ (((Unit) ⊕ (((Unit) ⊕ (Unit))))))))))))))))), ([101, 108, 101, 109, 101, 110, 116] : List UInt8), true, true, (Sum.inr (Sum.inr (Sum.inr (Sum.inl ()))) : ((Unit) ⊕ (((Unit) ⊕ (((Unit) ⊕ (((Unit) ⊕ (Unit))))))))), (0 : Int), (0 : Int), (Sum.inr (Sum.inr (Sum.inr (Sum.inr (Sum.inr (Sum.inr (Sum.inr (Sum.inl x4))))))) : ((Unit) ⊕ (((Unit) ⊕ (((Unit) ⊕ (((Unit) ⊕ (((Unit) ⊕ (((Unit) ⊕ (((Unit) ⊕ (((Unit) ⊕ (Unit))))))))))))))))), ([104, 111, 108, 105, 100, 97, 121] : List UInt8), true, false, (Sum.inl () : ((Unit) ⊕ (((Unit) ⊕ (((Unit) ⊕ (((Unit) ⊕ (Unit))))))))), (0 : Int), (0 : Int), (Sum.inl () : ((Unit) ⊕ (((Unit) ⊕ (((Unit) ⊕ (((Unit) ⊕ (((Unit) ⊕ (((Unit) ⊕ (((Unit) ⊕ (((Unit) ⊕ (Unit))))))))))))))))), ([103, 114, 97, 110, 116] : List UInt8), false, false, (Sum.inl () : ((Unit) ⊕ (((Unit) ⊕ (((Unit) ⊕ (((Unit) ⊕ (Unit))))))))), (0 : Int), (100000 : Int), (Sum.inl () : ((Unit) ⊕ (((Unit) ⊕ (((Unit) ⊕ (((Unit) ⊕ (((Unit) ⊕ (((Unit) ⊕ (((Unit) ⊕ (((Unit) ⊕ (Unit))))))))))))))))), ([99, 97, 110, 99, 101, 108] : List UInt8), true, false, (Sum.inl () : ((Unit) ⊕ (((Unit) ⊕ (((Unit) ⊕ (((Unit) ⊕ (Unit))))))))), (1 : Int), (4096 : Int), (Sum.inl () : ((Unit) ⊕ (((Unit) ⊕ (((Unit) ⊕ (((Unit) ⊕ (((Unit) ⊕ (((Unit) ⊕ (((Unit) ⊕ (((Unit) ⊕ (Unit))))))))))))))))))
noncomputable def fact_Fact_days (a : (Int × Int × Int × Int × Int × (List UInt8) × Int × (List UInt8)) × ((List UInt8) × Bool × Bool × (((Unit) ⊕ (((Unit) ⊕ (((Unit) ⊕ (((Unit) ⊕ (Unit))))))))) × Int × Int × (((Unit) ⊕ (((Unit) ⊕ (((Unit) ⊕ (((Unit) ⊕ (((Unit) ⊕ (((Unit) ⊕ (((Unit) ⊕ (((Unit) ⊕ (Unit))))))))))))))))))) : Option (Int) :=
  let x0 := a.1
  let x1 := a.2
  Option.bind (show Option (((Bool) × (Int) × (Int) × (Int) × (Int) × (Int) × (List UInt8) × (Int) × (List UInt8) × (List UInt8) × (Bool) × (Bool) × (((Unit) ⊕ (((Unit) ⊕ (((Unit) ⊕ (((Unit) ⊕ (Unit))))))))) × (Int) × (Int) × (((Unit) ⊕ (((Unit) ⊕ (((Unit) ⊕ (((Unit) ⊕ (((Unit) ⊕ (((Unit) ⊕ (((Unit) ⊕ (((Unit) ⊕ (Unit))))))))))))))))) × (Unit) × (Unit) × (Unit) × (Unit) × Unit)) from (
    let x8 := (x0.2.2.1 == (18 : Int))
    let x10 := (if x8 = true then some () else none)
    Option.bind (if x8 = true then (x10.map (fun z63 => x0.2.2.2.1)).map some else some none) fun x11 =>
    Option.bind (if x8 = true then ((x11.bind (fun z64 => some (z64, (0 : Int)))).map (fun z66 => (z66.1 != z66.2))).map some else some none) fun x12 =>
    Option.bind (if x8 then x12 else some false) fun x13 =>
    if x13 then (
      some (x13, x0.1, x0.2.1, x0.2.2.1, x0.2.2.2.1, x0.2.2.2.2.1, x0.2.2.2.2.2.1, x0.2.2.2.2.2.2.1, x0.2.2.2.2.2.2.2, x1.1, x1.2.1, x1.2.2.1, x1.2.2.2.1, x1.2.2.2.2.1, x1.2.2.2.2.2.1, x1.2.2.2.2.2.2, (), (), (), (), ()))
    else (
      let x16 := (decide (x0.2.2.2.1 < (-25567 : Int)))
      let x18 := (if x16 = false then some () else none)
      Option.bind (if x16 = false then (x18.map (fun z72 => x0.2.2.2.1)).map some else some none) fun x19 =>
      Option.bind (if x16 = false then ((x19.bind (fun z73 => some (z73, (84005 : Int)))).map (fun z75 => (decide (z75.1 > z75.2)))).map some else some none) fun x20 =>
      Option.bind (if x16 then some true else x20.map (fun z76 => z76)) fun x21 =>
      some (x21, x0.1, x0.2.1, x0.2.2.1, x0.2.2.2.1, x0.2.2.2.2.1, x0.2.2.2.2.2.1, x0.2.2.2.2.2.2.1, x0.2.2.2.2.2.2.2, x1.1, x1.2.1, x1.2.2.1, x1.2.2.2.1, x1.2.2.2.2.1, x1.2.2.2.2.2.1, x1.2.2.2.2.2.2, (), (), (), (), ())))) fun o =>
  let x5 := o.1
  let c2_0 := o.2.1
  let c2_1 := o.2.2.1
  let c2_2 := o.2.2.2.1
  let c2_3 := o.2.2.2.2.1
  let c2_4 := o.2.2.2.2.2.1
  let c2_5 := o.2.2.2.2.2.2.1
  let c2_6 := o.2.2.2.2.2.2.2.1
  let c2_7 := o.2.2.2.2.2.2.2.2.1
  let c3_0 := o.2.2.2.2.2.2.2.2.2.1
  let c3_1 := o.2.2.2.2.2.2.2.2.2.2.1
  let c3_2 := o.2.2.2.2.2.2.2.2.2.2.2.1
  let c3_3 := o.2.2.2.2.2.2.2.2.2.2.2.2.1
  let c3_4 := o.2.2.2.2.2.2.2.2.2.2.2.2.2.1
  let c3_5 := o.2.2.2.2.2.2.2.2.2.2.2.2.2.2.1
  let c3_6 := o.2.2.2.2.2.2.2.2.2.2.2.2.2.2.2.1
  if x5 then (
    some (15 : Int))
  else (
    let x25 := (c2_4 != (0 : Int))
    let x27 := (if x25 = true then some () else none)
    Option.bind (if x25 = true then (x27.map (fun z95 => c3_2)).map some else some none) fun x28 =>
    Option.bind (if x25 = true then (x28.map (fun z96 => (!z96))).map some else some none) fun x29 =>
    Option.bind (if x25 = true then x29.map some else some none) fun x30 =>
    let x31 := (if x30 = some false then some () else none)
    Option.bind (if x30 = some false then (x31.map (fun z97 => c2_4)).map some else some none) fun x32 =>
    let x33 := (if x30 = some false then some () else none)
    Option.bind (if x30 = some false then (x33.map (fun z98 => c2_3)).map some else some none) fun x34 =>
    Option.bind (if x30 = some false then ((x32.bind (fun z99 => x34.map (fun z100 => (z99, z100)))).map (fun z101 => (decide (z101.1 ≤ z101.2)))).map some else some none) fun x35 =>
    Option.bind (if x25 = true then (x30.bind (fun z103 => if z103 then some true else x35.map (fun z102 => z102))).map some else some none) fun x36 =>
    Option.bind (if x25 then x36 else some false) fun x37 =>
    if x37 then (
      some (24 : Int))
    else (
      let x41 := (decide (c2_4 > (84006 : Int)))
      if x41 then (
        some (15 : Int))
      else (
        some (0 : Int))))
noncomputable def fact_Fact_Check (a : (Int × Int × Int × Int × Int × (List UInt8) × Int × (List UInt8))) : Option (Int) :=
  let x0 := a
  Option.bind (fact_known x0.2.2.1) fun x7 =>
  let x8 := (!x7)
  if x8 then (
    some (11 : Int))
  else (
    Option.bind (fact_rules ()) fun x9 =>
    Option.bind (lAt ([(x9.1, x9.2.1, x9.2.2.1, x9.2.2.2.1, x9.2.2.2.2.1, x9.2.2.2.2.2.1, x9.2.2.2.2.2.2.1), (x9.2.2.2.2.2.2.2.1, x9.2.2.2.2.2.2.2.2.1, x9.2.2.2.2.2.2.2.2.2.1, x9.2.2.2.2.2.2.2.2.2.2.1, x9.2.2.2.2.2.2.2.2.2.2.2.1, x9.2.2.2.2.2.2.2.2.2.2.2.2.1, x9.2.2.2.2.2.2.2.2.2.2.2.2.2.1), (x9.2.2.2.2.2.2.2.2.2.2.2.2.2.2.1, x9.2.2.2.2.2.2.2.2.2.2.2.2.2.2.2.1, x9.2.2.2.2.2.2.2.2.2.2.2.2.2.2.2.2.1, x9.2.2.2.2.2.2.2.2.2.2.2.2.2.2.2.2.2.1, x9.2.2.2.2.2.2.2.2.2.2.2.2.2.2.2.2.2.2.1, x9.2.2.2.2.2.2.2.2.2.2.2.2.2.2.2.2.2.2.2.1, x9.2.2.2.2.2.2.2.2.2.2.2.2.2.2.2.2.2.2.2.2.1), (x9.2.2.2.2.2.2.2.2.2.2.2.2.2.2.2.2.2.2.2.2.2.1, x9.2.2.2.2.2.2.2.2.2.2.2.2.2.2.2.2.2.2.2.2.2.2.1, x9.2.2.2.2.2.2.2.2.2.2.2.2.2.2.2.2.2.2.2.2.2.2.2.1, x9.2.2.2.2.2.2.2.2.2.2.2.2.2.2.2.2.2.2.2.2.2.2.2.2.1, x9.2.2.2.2.2.2.2.2.2.2.2.2.2.2.2.2.2.2.2.2.2.2.2.2.2.1, x9.2.2.2.2.2.2.2.2.2.2.2.2.2.2.2.2.2.2.2.2.2.2.2.2.2.2.1, x9.2.2.2.2.2.2.2.2.2.2.2.2.2.2.2.2.2.2.2.2.2.2.2.2.2.2.2.1), (x9.2.2.2.2.2.2.2.2.2.2.2.2.2.2.2.2.2.2.2.2.2.2.2.2.2.2.2.2.1, x9.2.2.2.2.2.2.2.2.2.2.2.2.2.2.2.2.2.2.2.2.2.2.2.2.2.2.2.2.2.1, x9.2.2.2.2.2.2.2.2.2.2.2.2.2.2.2.2.2.2.2.2.2.2.2.2.2.2.2.2.2.2.1, x9.2.2.2.2.2.2.2.2.2.2.2.2.2.2.2.2.2.2.2.2.2.2.2.2.2.2.2.2.2.2.2.1, x9.2.2.2.2.2.2.2.2.2.2.2.2.2.2.2.2.2.2.2.2.2.2.2.2.2.2.2.2.2.2.2.2.1, x9.2.2.2.2.2.2.2.2.2.2.2.2.2.2.2.2.2.2.2.2.2.2.2.2.2.2.2.2.2.2.2.2.2.1, x9.2.2.2.2.2.2.2.2.2.2.2.2.2.2.2.2.2.2.2.2.2.2.2.2.2.2.2.2.2.2.2.2.2.2.1), (x9.2.2.2.2.2.2.2.2.2.2.2.2.2.2.2.2.2.2.2.2.2.2.2.2.2.2.2.2.2.2.2.2.2.2.2.1, x9.2.2.2.2.2.2.2.2.2.2.2.2.2.2.2.2.2.2.2.2.2.2.2.2.2.2.2.2.2.2.2.2.2.2.2.2.1, x9.2.2.2.2.2.2.2.2.2.2.2.2.2.2.2.2.2.2.2.2.2.2.2.2.2.2.2.2.2.2.2.2.2.2.2.2.2.1, x9.2.2.2.2.2.2.2.2.2.2.2.2.2.2.2.2.2.2.2.2.2.2.2.2.2.2.2.2.2.2.2.2.2.2.2.2.2.2.1, x9.2.2.2.2.2.2.2.2.2.2.2.2.2.2.2.2.2.2.2.2.2.2.2.2.2.2.2.2.2.2.2.2.2.2.2.2.2.2.2.1, x9.2.2.2.2.2.2.2.2.2.2.2.2.2.2.2.2.2.2.2.2.2.2.2.2.2.2.2.2.2.2.2.2.2.2.2.2.2.2.2.2.1, x9.2.2.2.2.2.2.2.2.2.2.2.2.2.2.2.2.2.2.2.2.2.2.2.2.2.2.2.2.2.2.2.2.2.2.2.2.2.2.2.2.2.1), (x9.2.2.2.2.2.2.2.2.2.2.2.2.2.2.2.2.2.2.2.2.2.2.2.2.2.2.2.2.2.2.2.2.2.2.2.2.2.2.2.2.2.2.1, x9.2.2.2.2.2.2.2.2.2.2.2.2.2.2.2.2.2.2.2.2.2.2.2.2.2.2.2.2.2.2.2.2.2.2.2.2.2.2.2.2.2.2.2.1, x9.2.2.2.2.2.2.2.2.2.2.2.2.2.2.2.2.2.2.2.2.2.2.2.2.2.2.2.2.2.2.2.2.2.2.2.2.2.2.2.2.2.2.2.2.1, x9.2.2.2.2.2.2.2.2.2.2.2.2.2.2.2.2.2.2.2.2.2.2.2.2.2.2.2.2.2.2.2.2.2.2.2.2.2.2.2.2.2.2.2.2.2.1, x9.2.2.2.2.2.2.2.2.2.2.2.2.2.2.2.2.2.2.2.2.2.2.2.2.2.2.2.2.2.2.2.2.2.2.2.2.2.2.2.2.2.2.2.2.2.2.1, x9.2.2.2.2.2.2.2.2.2.2.2.2.2.2.2.2.2.2.2.2.2.2.2.2.2.2.2.2.2.2.2.2.2.2.2.2.2.2.2.2.2.2.2.2.2.2.2.1, x9.2.2.2.2.2.2.2.2.2.2.2.2.2.2.2.2.2.2.2.2.2.2.2.2.2.2.2.2.2.2.2.2.2.2.2.2.2.2.2.2.2.2.2.2.2.2.2.2.1), (x9.2.2.2.2.2.2.2.2.2.2.2.2.2.2.2.2.2.2.2.2.2.2.2.2.2.2.2.2.2.2.2.2.2.2.2.2.2.2.2.2.2.2.2.2.2.2.2.2.2.1, x9.2.2.2.2.2.2.2.2.2.2.2.2.2.2.2.2.2.2.2.2.2.2.2.2.2.2.2.2.2.2.2.2.2.2.2.2.2.2.2.2.2.2.2.2.2.2.2.2.2.2.1, x9.2.2.2.2.2.2.2.2.2.2.2.2.2.2.2.2.2.2.2.2.2.2.2.2.2.2.2.2.2.2.2.2.2.2.2.2.2.2.2.2.2.2.2.2.2.2.2.2.2.2.2.1, x9.2.2.2.2.2.2.2.2.2.2.2.2.2.2.2.2.2.2.2.2.2.2.2.2.2.2.2.2.2.2.2.2.2.2.2.2.2.2.2.2.2.2.2.2.2.2.2.2.2.2.2.2.1, x9.2.2.2.2.2.2.2.2.2.2.2.2.2.2.2.2.2.2.2.2.2.2.2.2.2.2.2.2.2.2.2.2.2.2.2.2.2.2.2.2.2.2.2.2.2.2.2.2.2.2.2.2.2.1, x9.2.2.2.2.2.2.2.2.2.2.2.2.2.2.2.2.2.2.2.2.2.2.2.2.2.2.2.2.2.2.2.2.2.2.2.2.2.2.2.2.2.2.2.2.2.2.2.2.2.2.2.2.2.2.1, x9.2.2.2.2.2.2.2.2.2.2.2.2.2.2.2.2.2.2.2.2.2.2.2.2.2.2.2.2.2.2.2.2.2.2.2.2.2.2.2.2.2.2.2.2.2.2.2.2.2.2.2.2.2.2.2.1), (x9.2.2.2.2.2.2.2.2.2.2.2.2.2.2.2.2.2.2.2.2.2.2.2.2.2.2.2.2.2.2.2.2.2.2.2.2.2.2.2.2.2.2.2.2.2.2.2.2.2.2.2.2.2.2.2.2.1, x9.2.2.2.2.2.2.2.2.2.2.2.2.2.2.2.2.2.2.2.2.2.2.2.2.2.2.2.2.2.2.2.2.2.2.2.2.2.2.2.2.2.2.2.2.2.2.2.2.2.2.2.2.2.2.2.2.2.1, x9.2.2.2.2.2.2.2.2.2.2.2.2.2.2.2.2.2.2.2.2.2.2.2.2.2.2.2.2.2.2.2.2.2.2.2.2.2.2.2.2.2.2.2.2.2.2.2.2.2.2.2.2.2.2.2.2.2.2.1, x9.2.2.2.2.2.2.2.2.2.2.2.2.2.2.2.2.2.2.2.2.2.2.2.2.2.2.2.2.2.2.2.2.2.2.2.2.2.2.2.2.2.2.2.2.2.2.2.2.2.2.2.2.2.2.2.2.2.2.2.1, x9.2.2.2.2.2.2.2.2.2.2.2.2.2.2.2.2.2.2.2.2.2.2.2.2.2.2.2.2.2.2.2.2.2.2.2.2.2.2.2.2.2.2.2.2.2.2.2.2.2.2.2.2.2.2.2.2.2.2.2.2.1, x9.2.2.2.2.2.2.2.2.2.2.2.2.2.2.2.2.2.2.2.2.2.2.2.2.2.2.2.2.2.2.2.2.2.2.2.2.2.2.2.2.2.2.2.2.2.2.2.2.2.2.2.2.2.2.2.2.2.2.2.2.2.1, x9.2.2.2.2.2.2.2.2.2.2.2.2.2.2.2.2.2.2.2.2.2.2.2.2.2.2.2.2.2.2.2.2.2.2.2.2.2.2.2.2.2.2.2.2.2.2.2.2.2.2.2.2.2.2.2.2.2.2.2.2.2.2.1), (x9.2.2.2.2.2.2.2.2.2.2.2.2.2.2.2.2.2.2.2.2.2.2.2.2.2.2.2.2.2.2.2.2.2.2.2.2.2.2.2.2.2.2.2.2.2.2.2.2.2.2.2.2.2.2.2.2.2.2.2.2.2.2.2.1, x9.2.2.2.2.2.2.2.2.2.2.2.2.2.2.2.2.2.2.2.2.2.2.2.2.2.2.2.2.2.2.2.2.2.2.2.2.2.2.2.2.2.2.2.2.2.2.2.2.2.2.2.2.2.2.2.2.2.2.2.2.2.2.2.2.1, x9.2.2.2.2.2.2.2.2.2.2.2.2.2.2.2.2.2.2.2.2.2.2.2.2.2.2.2.2.2.2.2.2.2.2.2.2.2.2.2.2.2.2.2.2.2.2.2.2.2.2.2.2.2.2.2.2.2.2.2.2.2.2.2.2.2.1, x9.2.2.2.2.2.2.2.2.2.2.2.2.2.2.2.2.2.2.2.2.2.2.2.2.2.2.2.2.2.2.2.2.2.2.2.2.2.2.2.2.2.2.2.2.2.2.2.2.2.2.2.2.2.2.2.2.2.2.2.2.2.2.2.2.2.2.1, x9.2.2.2.2.2.2.2.2.2.2.2.2.2.2.2.2.2.2.2.2.2.2.2.2.2.2.2.2.2.2.2.2.2.2.2.2.2.2.2.2.2.2.2.2.2.2.2.2.2.2.2.2.2.2.2.2.2.2.2.2.2.2.2.2.2.2.2.1, x9.2.2.2.2.2.2.2.2.2.2.2.2.2.2.2.2.2.2.2.2.2.2.2.2.2.2.2.2.2.2.2.2.2.2.2.2.2.2.2.2.2.2.2.2.2.2.2.2.2.2.2.2.2.2.2.2.2.2.2.2.2.2.2.2.2.2.2.2.1, x9.2.2.2.2.2.2.2.2.2.2.2.2.2.2.2.2.2.2.2.2.2.2.2.2.2.2.2.2.2.2.2.2.2.2.2.2.2.2.2.2.2.2.2.2.2.2.2.2.2.2.2.2.2.2.2.2.2.2.2.2.2.2.2.2.2.2.2.2.2.1), (x9.2.2.2.2.2.2.2.2.2.2.2.2.2.2.2.2.2.2.2.2.2.2.2.2.2.2.2.2.2.2.2.2.2.2.2.2.2.2.2.2.2.2.2.2.2.2.2.2.2.2.2.2.2.2.2.2.2.2.2.2.2.2.2.2.2.2.2.2.2.2.1, x9.2.2.2.2.2.2.2.2.2.2.2.2.2.2.2.2.2.2.2.2.2.2.2.2.2.2.2.2.2.2.2.2.2.2.2.2.2.2.2.2.2.2.2.2.2.2.2.2.2.2.2.2.2.2.2.2.2.2.2.2.2.2.2.2.2.2.2.2.2.2.2.1, x9.2.2.2.2.2.2.2.2.2.2.2.2.2.2.2.2.2.2.2.2.2.2.2.2.2.2.2.2.2.2.2.2.2.2.2.2.2.2.2.2.2.2.2.2.2.2.2.2.2.2.2.2.2.2.2.2.2.2.2.2.2.2.2.2.2.2.2.2.2.2.2.2.1, x9.2.2.2.2.2.2.2.2.2.2.2.2.2.2.2.2.2.2.2.2.2.2.2.2.2.2.2.2.2.2.2.2.2.2.2.2.2.2.2.2.2.2.2.2.2.2.2.2.2.2.2.2.2.2.2.2.2.2.2.2.2.2.2.2.2.2.2.2.2.2.2.2.2.1, x9.2.2.2.2.2.2.2.2.2.2.2.2.2.2.2.2.2.2.2.2.2.2.2.2.2.2.2.2.2.2.2.2.2.2.2.2.2.2.2.2.2.2.2.2.2.2.2.2.2.2.2.2.2.2.2.2.2.2.2.2.2.2.2.2.2.2.2.2.2.2.2.2.2.2.1, x9.2.2.2.2.2.2.2.2.2.2.2.2.2.2.2.2.2.2.2.2.2.2.2.2.2.2.2.2.2.2.2.2.2.2.2.2.2.2.2.2.2.2.2.2.2.2.2.2.2.2.2.2.2.2.2.2.2.2.2.2.2.2.2.2.2.2.2.2.2.2.2.2.2.2.2.1, x9.2.2.2.2.2.2.2.2.2.2.2.2.2.2.2.2.2.2.2.2.2.2.2.2.2.2.2.2.2.2.2.2.2.2.2.2.2.2.2.2.2.2.2.2.2.2.2.2.2.2.2.2.2.2.2.2.2.2.2.2.2.2.2.2.2.2.2.2.2.2.2.2.2.2.2.2.1), (x9.2.2.2.2.2.2.2.2.2.2.2.2.2.2.2.2.2.2.2.2.2.2.2.2.2.2.2.2.2.2.2.2.2.2.2.2.2.2.2.2.2.2.2.2.2.2.2.2.2.2.2.2.2.2.2.2.2.2.2.2.2.2.2.2.2.2.2.2.2.2.2.2.2.2.2.2.2.1, x9.2.2.2.2.2.2.2.2.2.2.2.2.2.2.2.2.2.2.2.2.2.2.2.2.2.2.2.2.2.2.2.2.2.2.2.2.2.2.2.2.2.2.2.2.2.2.2.2.2.2.2.2.2.2.2.2.2.2.2.2.2.2.2.2.2.2.2.2.2.2.2.2.2.2.2.2.2.2.1, x9.2.2.2.2.2.2.2.2.2.2.2.2.2.2.2.2.2.2.2.2.2.2.2.2.2.2.2.2.2.2.2.2.2.2.2.2.2.2.2.2.2.2.2.2.2.2.2.2.2.2.2.2.2.2.2.2.2.2.2.2.2.2.2.2.2.2.2.2.2.2.2.2.2.2.2.2.2.2.2.1, x9.2.2.2.2.2.2.2.2.2.2.2.2.2.2.2.2.2.2.2.2.2.2.2.2.2.2.2.2.2.2.2.2.2.2.2.2.2.2.2.2.2.2.2.2.2.2.2.2.2.2.2.2.2.2.2.2.2.2.2.2.2.2.2.2.2.2.2.2.2.2.2.2.2.2.2.2.2.2.2.2.1, x9.2.2.2.2.2.2.2.2.2.2.2.2.2.2.2.2.2.2.2.2.2.2.2.2.2.2.2.2.2.2.2.2.2.2.2.2.2.2.2.2.2.2.2.2.2.2.2.2.2.2.2.2.2.2.2.2.2.2.2.2.2.2.2.2.2.2.2.2.2.2.2.2.2.2.2.2.2.2.2.2.2.1, x9.2.2.2.2.2.2.2.2.2.2.2.2.2.2.2.2.2.2.2.2.2.2.2.2.2.2.2.2.2.2.2.2.2.2.2.2.2.2.2.2.2.2.2.2.2.2.2.2.2.2.2.2.2.2.2.2.2.2.2.2.2.2.2.2.2.2.2.2.2.2.2.2.2.2.2.2.2.2.2.2.2.2.1, x9.2.2.2.2.2.2.2.2.2.2.2.2.2.2.2.2.2.2.2.2.2.2.2.2.2.2.2.2.2.2.2.2.2.2.2.2.2.2.2.2.2.2.2.2.2.2.2.2.2.2.2.2.2.2.2.2.2.2.2.2.2.2.2.2.2.2.2.2.2.2.2.2.2.2.2.2.2.2.2.2.2.2.2.1), (x9.2.2.2.2.2.2.2.2.2.2.2.2.2.2.2.2.2.2.2.2.2.2.2.2.2.2.2.2.2.2.2.2.2.2.2.2.2.2.2.2.2.2.2.2.2.2.2.2.2.2.2.2.2.2.2.2.2.2.2.2.2.2.2.2.2.2.2.2.2.2.2.2.2.2.2.2.2.2.2.2.2.2.2.2.1, x9.2.2.2.2.2.2.2.2.2.2.2.2.2.2.2.2.2.2.2.2.2.2.2.2.2.2.2.2.2.2.2.2.2.2.2.2.2.2.2.2.2.2.2.2.2.2.2.2.2.2.2.2.2.2.2.2.2.2.2.2.2.2.2.2.2.2.2.2.2.2.2.2.2.2.2.2.2.2.2.2.2.2.2.2.2.1, x9.2.2.2.2.2.2.2.2.2.2.2.2.2.2.2.2.2.2.2.2.2.2.2.2.2.2.2.2.2.2.2.2.2.2.2.2.2.2.2.2.2.2.2.2.2.2.2.2.2.2.2.2.2.2.2.2.2.2.2.2.2.2.2.2.2.2.2.2.2.2.2.2.2.2.2.2.2.2.2.2.2.2.2.2.2.2.1, x9.2.2.2.2.2.2.2.2.2.2.2.2.2.2.2.2.2.2.2.2.2.2.2.2.2.2.2.2.2.2.2.2.2.2.2.2.2.2.2.2.2.2.2.2.2.2.2.2.2.2.2.2.2.2.2.2.2.2.2.2.2.2.2.2.2.2.2.2.2.2.2.2.2.2.2.2.2.2.2.2.2.2.2.2.2.2.2.1, x9.2.2.2.2.2.2.2.2.2.2.2.2.2.2.2.2.2.2.2.2.2.2.2.2.2.2.2.2.2.2.2.2.2.2.2.2.2.2.2.2.2.2.2.2.2.2.2.2.2.2.2.2.2.2.2.2.2.2.2.2.2.2.2.2.2.2.2.2.2.2.2.2.2.2.2.2.2.2.2.2.2.2.2.2.2.2.2.2.1, x9.2.2.2.2.2.2.2.2.2.2.2.2.2.2.2.2.2.2.2.2.2.2.2.2.2.2.2.2.2.2.2.2.2.2.2.2.2.2.2.2.2.2.2.2.2.2.2.2.2.2.2.2.2.2.2.2.2.2.2.2.2.2.2.2.2.2.2.2.2.2.2.2.2.2.2.2.2.2.2.2.2.2.2.2.2.2.2.2.2.1, x9.2.2.2.2.2.2.2.2.2.2.2.2.2.2.2.2.2.2.2.2.2.2.2.2.2.2.2.2.2.2.2.2.2.2.2.2.2.2.2.2.2.2.2.2.2.2.2.2.2.2.2.2.2.2.2.2.2.2.2.2.2.2.2.2.2.2.2.2.2.2.2.2.2.2.2.2.2.2.2.2.2.2.2.2.2.2.2.2.2.2.1), (x9.2.2.2.2.2.2.2.2.2.2.2.2.2.2.2.2.2.2.2.2.2.2.2.2.2.2.2.2.2.2.2.2.2.2.2.2.2.2.2.2.2.2.2.2.2.2.2.2.2.2.2.2.2.2.2.2.2.2.2.2.2.2.2.2.2.2.2.2.2.2.2.2.2.2.2.2.2.2.2.2.2.2.2.2.2.2.2.2.2.2.2.1, x9.2.2.2.2.2.2.2.2.2.2.2.2.2.2.2.2.2.2.2.2.2.2.2.2.2.2.2.2.2.2.2.2.2.2.2.2.2.2.2.2.2.2.2.2.2.2.2.2.2.2.2.2.2.2.2.2.2.2.2.2.2.2.2.2.2.2.2.2.2.2.2.2.2.2.2.2.2.2.2.2.2.2.2.2.2.2.2.2.2.2.2.2.1, x9.2.2.2.2.2.2.2.2.2.2.2.2.2.2.2.2.2.2.2.2.2.2.2.2.2.2.2.2.2.2.2.2.2.2.2.2.2.2.2.2.2.2.2.2.2.2.2.2.2.2.2.2.2.2.2.2.2.2.2.2.2.2.2.2.2.2.2.2.2.2.2.2.2.2.2.2.2.2.2.2.2.2.2.2.2.2.2.2.2.2.2.2.2.1, x9.2.2.2.2.2.2.2.2.2.2.2.2.2.2.2.2.2.2.2.2.2.2.2.2.2.2.2.2.2.2.2.2.2.2.2.2.2.2.2.2.2.2.2.2.2.2.2.2.2.2.2.2.2.2.2.2.2.2.2.2.2.2.2.2.2.2.2.2.2.2.2.2.2.2.2.2.2.2.2.2.2.2.2.2.2.2.2.2.2.2.2.2.2.2.1, x9.2.2.2.2.2.2.2.2.2.2.2.2.2.2.2.2.2.2.2.2.2.2.2.2.2.2.2.2.2.2.2.2.2.2.2.2.2.2.2.2.2.2.2.2.2.2.2.2.2.2.2.2.2.2.2.2.2.2.2.2.2.2.2.2.2.2.2.2.2.2.2.2.2.2.2.2.2.2.2.2.2.2.2.2.2.2.2.2.2.2.2.2.2.2.2.1, x9.2.2.2.2.2.2.2.2.2.2.2.2.2.2.2.2.2.2.2.2.2.2.2.2.2.2.2.2.2.2.2.2.2.2.2.2.2.2.2.2.2.2.2.2.2.2.2.2.2.2.2.2.2.2.2.2.2.2.2.2.2.2.2.2.2.2.2.2.2.2.2.2.2.2.2.2.2.2.2.2.2.2.2.2.2.2.2.2.2.2.2.2.2.2.2.2.1, x9.2.2.2.2.2.2.2.2.2.2.2.2.2.2.2.2.2.2.2.2.2.2.2.2.2.2.2.2.2.2.2.2.2.2.2.2.2.2.2.2.2.2.2.2.2.2.2.2.2.2.2.2.2.2.2.2.2.2.2.2.2.2.2.2.2.2.2.2.2.2.2.2.2.2.2.2.2.2.2.2.2.2.2.2.2.2.2.2.2.2.2.2.2.2.2.2.2.1), (x9.2.2.2.2.2.2.2.2.2.2.2.2.2.2.2.2.2.2.2.2.2.2.2.2.2.2.2.2.2.2.2.2.2.2.2.2.2.2.2.2.2.2.2.2.2.2.2.2.2.2.2.2.2.2.2.2.2.2.2.2.2.2.2.2.2.2.2.2.2.2.2.2.2.2.2.2.2.2.2.2.2.2.2.2.2.2.2.2.2.2.2.2.2.2.2.2.2.2.1, x9.2.2.2.2.2.2.2.2.2.2.2.2.2.2.2.2.2.2.2.2.2.2.2.2.2.2.2.2.2.2.2.2.2.2.2.2.2.2.2.2.2.2.2.2.2.2.2.2.2.2.2.2.2.2.2.2.2.2.2.2.2.2.2.2.2.2.2.2.2.2.2.2.2.2.2.2.2.2.2.2.2.2.2.2.2.2.2.2.2.2.2.2.2.2.2.2.2.2.2.1, x9.2.2.2.2.2.2.2.2.2.2.2.2.2.2.2.2.2.2.2.2.2.2.2.2.2.2.2.2.2.2.2.2.2.2.2.2.2.2.2.2.2.2.2.2.2.2.2.2.2.2.2.2.2.2.2.2.2.2.2.2.2.2.2.2.2.2.2.2.2.2.2.2.2.2.2.2.2.2.2.2.2.2.2.2.2.2.2.2.2.2.2.2.2.2.2.2.2.2.2.2.1, x9.2.2.2.2.2.2.2.2.2.2.2.2.2.2.2.2.2.2.2.2.2.2.2.2.2.2.2.2.2.2.2.2.2.2.2.2.2.2.2.2.2.2.2.2.2.2.2.2.2.2.2.2.2.2.2.2.2.2.2.2.2.2.2.2.2.2.2.2.2.2.2.2.2.2.2.2.2.2.2.2.2.2.2.2.2.2.2.2.2.2.2.2.2.2.2.2.2.2.2.2.2.1, x9.2.2.2.2.2.2.2.2.2.2.2.2.2.2.2.2.2.2.2.2.2.2.2.2.2.2.2.2.2.2.2.2.2.2.2.2.2.2.2.2.2.2.2.2.2.2.2.2.2.2.2.2.2.2.2.2.2.2.2.2.2.2.2.2.2.2.2.2.2.2.2.2.2.2.2.2.2.2.2.2.2.2.2.2.2.2.2.2.2.2.2.2.2.2.2.2.2.2.2.2.2.2.1, x9.2.2.2.2.2.2.2.2.2.2.2.2.2.2.2.2.2.2.2.2.2.2.2.2.2.2.2.2.2.2.2.2.2.2.2.2.2.2.2.2.2.2.2.2.2.2.2.2.2.2.2.2.2.2.2.2.2.2.2.2.2.2.2.2.2.2.2.2.2.2.2.2.2.2.2.2.2.2.2.2.2.2.2.2.2.2.2.2.2.2.2.2.2.2.2.2.2.2.2.2.2.2.2.1, x9.2.2.2.2.2.2.2.2.2.2.2.2.2.2.2.2.2.2.2.2.2.2.2.2.2.2.2.2.2.2.2.2.2.2.2.2.2.2.2.2.2.2.2.2.2.2.2.2.2.2.2.2.2.2.2.2.2.2.2.2.2.2.2.2.2.2.2.2.2.2.2.2.2.2.2.2.2.2.2.2.2.2.2.2.2.2.2.2.2.2.2.2.2.2.2.2.2.2.2.2.2.2.2.2.1), (x9.2.2.2.2.2.2.2.2.2.2.2.2.2.2.2.2.2.2.2.2.2.2.2.2.2.2.2.2.2.2.2.2.2.2.2.2.2.2.2.2.2.2.2.2.2.2.2.2.2.2.2.2.2.2.2.2.2.2.2.2.2.2.2.2.2.2.2.2.2.2.2.2.2.2.2.2.2.2.2.2.2.2.2.2.2.2.2.2.2.2.2.2.2.2.2.2.2.2.2.2.2.2.2.2.2.1, x9.2.2.2.2.2.2.2.2.2.2.2.2.2.2.2.2.2.2.2.2.2.2.2.2.2.2.2.2.2.2.2.2.2.2.2.2.2.2.2.2.2.2.2.2.2.2.2.2.2.2.2.2.2.2.2.2.2.2.2.2.2.2.2.2.2.2.2.2.2.2.2.2.2.2.2.2.2.2.2.2.2.2.2.2.2.2.2.2.2.2.2.2.2.2.2.2.2.2.2.2.2.2.2.2.2.2.1, x9.2.2.2.2.2.2.2.2.2.2.2.2.2.2.2.2.2.2.2.2.2.2.2.2.2.2.2.2.2.2.2.2.2.2.2.2.2.2.2.2.2.2.2.2.2.2.2.2.2.2.2.2.2.2.2.2.2.2.2.2.2.2.2.2.2.2.2.2.2.2.2.2.2.2.2.2.2.2.2.2.2.2.2.2.2.2.2.2.2.2.2.2.2.2.2.2.2.2.2.2.2.2.2.2.2.2.2.1, x9.2.2.2.2.2.2.2.2.2.2.2.2.2.2.2.2.2.2.2.2.2.2.2.2.2.2.2.2.2.2.2.2.2.2.2.2.2.2.2.2.2.2.2.2.2.2.2.2.2.2.2.2.2.2.2.2.2.2.2.2.2.2.2.2.2.2.2.2.2.2.2.2.2.2.2.2.2.2.2.2.2.2.2.2.2.2.2.2.2.2.2.2.2.2.2.2.2.2.2.2.2.2.2.2.2.2.2.2.1, x9.2.2.2.2.2.2.2.2.2.2.2.2.2.2.2.2.2.2.2.2.2.2.2.2.2.2.2.2.2.2.2.2.2.2.2.2.2.2.2.2.2.2.2.2.2.2.2.2.2.2.2.2.2.2.2.2.2.2.2.2.2.2.2.2.2.2.2.2.2.2.2.2.2.2.2.2.2.2.2.2.2.2.2.2.2.2.2.2.2.2.2.2.2.2.2.2.2.2.2.2.2.2.2.2.2.2.2.2.2.1, x9.2.2.2.2.2.2.2.2.2.2.2.2.2.2.2.2.2.2.2.2.2.2.2.2.2.2.2.2.2.2.2.2.2.2.2.2.2.2.2.2.2.2.2.2.2.2.2.2.2.2.2.2.2.2.2.2.2.2.2.2.2.2.2.2.2.2.2.2.2.2.2.2.2.2.2.2.2.2.2.2.2.2.2.2.2.2.2.2.2.2.2.2.2.2.2.2.2.2.2.2.2.2.2.2.2.2.2.2.2.2.1, x9.2.2.2.2.2.2.2.2.2.2.2.2.2.2.2.2.2.2.2.2.2.2.2.2.2.2.2.2.2.2.2.2.2.2.2.2.2.2.2.2.2.2.2.2.2.2.2.2.2.2.2.2.2.2.2.2.2.2.2.2.2.2.2.2.2.2.2.2.2.2.2.2.2.2.2.2.2.2.2.2.2.2.2.2.2.2.2.2.2.2.2.2.2.2.2.2.2.2.2.2.2.2.2.2.2.2.2.2.2.2.2.1), (x9.2.2.2.2.2.2.2.2.2.2.2.2.2.2.2.2.2.2.2.2.2.2.2.2.2.2.2.2.2.2.2.2.2.2.2.2.2.2.2.2.2.2.2.2.2.2.2.2.2.2.2.2.2.2.2.2.2.2.2.2.2.2.2.2.2.2.2.2.2.2.2.2.2.2.2.2.2.2.2.2.2.2.2.2.2.2.2.2.2.2.2.2.2.2.2.2.2.2.2.2.2.2.2.2.2.2.2.2.2.2.2.2.1, x9.2.2.2.2.2.2.2.2.2.2.2.2.2.2.2.2.2.2.2.2.2.2.2.2.2.2.2.2.2.2.2.2.2.2.2.2.2.2.2.2.2.2.2.2.2.2.2.2.2.2.2.2.2.2.2.2.2.2.2.2.2.2.2.2.2.2.2.2.2.2.2.2.2.2.2.2.2.2.2.2.2.2.2.2.2.2.2.2.2.2.2.2.2.2.2.2.2.2.2.2.2.2.2.2.2.2.2.2.2.2.2.2.2.1, x9.2.2.2.2.2.2.2.2.2.2.2.2.2.2.2.2.2.2.2.2.2.2.2.2.2.2.2.2.2.2.2.2.2.2.2.2.2.2.2.2.2.2.2.2.2.2.2.2.2.2.2.2.2.2.2.2.2.2.2.2.2.2.2.2.2.2.2.2.2.2.2.2.2.2.2.2.2.2.2.2.2.2.2.2.2.2.2.2.2.2.2.2.2.2.2.2.2.2.2.2.2.2.2.2.2.2.2.2.2.2.2.2.2.2.1, x9.2.2.2.2.2.2.2.2.2.2.2.2.2.2.2.2.2.2.2.2.2.2.2.2.2.2.2.2.2.2.2.2.2.2.2.2.2.2.2.2.2.2.2.2.2.2.2.2.2.2.2.2.2.2.2.2.2.2.2.2.2.2.2.2.2.2.2.2.2.2.2.2.2.2.2.2.2.2.2.2.2.2.2.2.2.2.2.2.2.2.2.2.2.2.2.2.2.2.2.2.2.2.2.2.2.2.2.2.2.2.2.2.2.2.2.1, x9.2.2.2.2.2.2.2.2.2.2.2.2.2.2.2.2.2.2.2.2.2.2.2.2.2.2.2.2.2.2.2.2.2.2.2.2.2.2.2.2.2.2.2.2.2.2.2.2.2.2.2.2.2.2.2.2.2.2.2.2.2.2.2.2.2.2.2.2.2.2.2.2.2.2.2.2.2.2.2.2.2.2.2.2.2.2.2.2.2.2.2.2.2.2.2.2.2.2.2.2.2.2.2.2.2.2.2.2.2.2.2.2.2.2.2.2.1, x9.2.2.2.2.2.2.2.2.2.2.2.2.2.2.2.2.2.2.2.2.2.2.2.2.2.2.2.2.2.2.2.2.2.2.2.2.2.2.2.2.2.2.2.2.2.2.2.2.2.2.2.2.2.2.2.2.2.2.2.2.2.2.2.2.2.2.2.2.2.2.2.2.2.2.2.2.2.2.2.2.2.2.2.2.2.2.2.2.2.2.2.2.2.2.2.2.2.2.2.2.2.2.2.2.2.2.2.2.2.2.2.2.2.2.2.2.2.1, x9.2.2.2.2.2.2.2.2.2.2.2.2.2.2.2.2.2.2.2.2.2.2.2.2.2.2.2.2.2.2.2.2.2.2.2.2.2.2.2.2.2.2.2.2.2.2.2.2.2.2.2.2.2.2.2.2.2.2.2.2.2.2.2.2.2.2.2.2.2.2.2.2.2.2.2.2.2.2.2.2.2.2.2.2.2.2.2.2.2.2.2.2.2.2.2.2.2.2.2.2.2.2.2.2.2.2.2.2.2.2.2.2.2.2.2.2.2.2.1), (x9.2.2.2.2.2.2.2.2.2.2.2.2.2.2.2.2.2.2.2.2.2.2.2.2.2.2.2.2.2.2.2.2.2.2.2.2.2.2.2.2.2.2.2.2.2.2.2.2.2.2.2.2.2.2.2.2.2.2.2.2.2.2.2.2.2.2.2.2.2.2.2.2.2.2.2.2.2.2.2.2.2.2.2.2.2.2.2.2.2.2.2.2.2.2.2.2.2.2.2.2.2.2.2.2.2.2.2.2.2.2.2.2.2.2.2.2.2.2.2.1, x9.2.2.2.2.2.2.2.2.2.2.2.2.2.2.2.2.2.2.2.2.2.2.2.2.2.2.2.2.2.2.2.2.2.2.2.2.2.2.2.2.2.2.2.2.2.2.2.2.2.2.2.2.2.2.2.2.2.2.2.2.2.2.2.2.2.2.2.2.2.2.2.2.2.2.2.2.2.2.2.2.2.2.2.2.2.2.2.2.2.2.2.2.2.2.2.2.2.2.2.2.2.2.2.2.2.2.2.2.2.2.2.2.2.2.2.2.2.2.2.2.1, x9.2.2.2.2.2.2.2.2.2.2.2.2.2.2.2.2.2.2.2.2.2.2.2.2.2.2.2.2.2.2.2.2.2.2.2.2.2.2.2.2.2.2.2.2.2.2.2.2.2.2.2.2.2.2.2.2.2.2.2.2.2.2.2.2.2.2.2.2.2.2.2.2.2.2.2.2.2.2.2.2.2.2.2.2.2.2.2.2.2.2.2.2.2.2.2.2.2.2.2.2.2.2.2.2.2.2.2.2.2.2.2.2.2.2.2.2.2.2.2.2.2.1, x9.2.2.2.2.2.2.2.2.2.2.2.2.2.2.2.2.2.2.2.2.2.2.2.2.2.2.2.2.2.2.2.2.2.2.2.2.2.2.2.2.2.2.2.2.2.2.2.2.2.2.2.2.2.2.2.2.2.2.2.2.2.2.2.2.2.2.2.2.2.2.2.2.2.2.2.2.2.2.2.2.2.2.2.2.2.2.2.2.2.2.2.2.2.2.2.2.2.2.2.2.2.2.2.2.2.2.2.2.2.2.2.2.2.2.2.2.2.2.2.2.2.2.1, x9.2.2.2.2.2.2.2.2.2.2.2.2.2.2.2.2.2.2.2.2.2.2.2.2.2.2.2.2.2.2.2.2.2.2.2.2.2.2.2.2.2.2.2.2.2.2.2.2.2.2.2.2.2.2.2.2.2.2.2.2.2.2.2.2.2.2.2.2.2.2.2.2.2.2.2.2.2.2.2.2.2.2.2.2.2.2.2.2.2.2.2.2.2.2.2.2.2.2.2.2.2.2.2.2.2.2.2.2.2.2.2.2.2.2.2.2.2.2.2.2.2.2.2.1, x9.2.2.2.2.2.2.2.2.2.2.2.2.2.2.2.2.2.2.2.2.2.2.2.2.2.2.2.2.2.2.2.2.2.2.2.2.2.2.2.2.2.2.2.2.2.2.2.2.2.2.2.2.2.2.2.2.2.2.2.2.2.2.2.2.2.2.2.2.2.2.2.2.2.2.2.2.2.2.2.2.2.2.2.2.2.2.2.2.2.2.2.2.2.2.2.2.2.2.2.2.2.2.2.2.2.2.2.2.2.2.2.2.2.2.2.2.2.2.2.2.2.2.2.2.1, x9.2.2.2.2.2.2.2.2.2.2.2.2.2.2.2.2.2.2.2.2.2.2.2.2.2.2.2.2.2.2.2.2.2.2.2.2.2.2.2.2.2.2.2.2.2.2.2.2.2.2.2.2.2.2.2.2.2.2.2.2.2.2.2.2.2.2.2.2.2.2.2.2.2.2.2.2.2.2.2.2.2.2.2.2.2.2.2.2.2.2.2.2.2.2.2.2.2.2.2.2.2.2.2.2.2.2.2.2.2.2.2.2.2.2.2.2.2.2.2.2.2.2.2.2.2.1), (x9.2.2.2.2.2.2.2.2.2.2.2.2.2.2.2.2.2.2.2.2.2.2.2.2.2.2.2.2.2.2.2.2.2.2.2.2.2.2.2.2.2.2.2.2.2.2.2.2.2.2.2.2.2.2.2.2.2.2.2.2.2.2.2.2.2.2.2.2.2.2.2.2.2.2.2.2.2.2.2.2.2.2.2.2.2.2.2.2.2.2.2.2.2.2.2.2.2.2.2.2.2.2.2.2.2.2.2.2.2.2.2.2.2.2.2.2.2.2.2.2.2.2.2.2.2.2.1, x9.2.2.2.2.2.2.2.2.2.2.2.2.2.2.2.2.2.2.2.2.2.2.2.2.2.2.2.2.2.2.2.2.2.2.2.2.2.2.2.2.2.2.2.2.2.2.2.2.2.2.2.2.2.2.2.2.2.2.2.2.2.2.2.2.2.2.2.2.2.2.2.2.2.2.2.2.2.2.2.2.2.2.2.2.2.2.2.2.2.2.2.2.2.2.2.2.2.2.2.2.2.2.2.2.2.2.2.2.2.2.2.2.2.2.2.2.2.2.2.2.2.2.2.2.2.2.2.1, x9.2.2.2.2.2.2.2.2.2.2.2.2.2.2.2.2.2.2.2.2.2.2.2.2.2.2.2.2.2.2.2.2.2.2.2.2.2.2.2.2.2.2.2.2.2.2.2.2.2.2.2.2.2.2.2.2.2.2.2.2.2.2.2.2.2.2.2.2.2.2.2.2.2.2.2.2.2.2.2.2.2.2.2.2.2.2.2.2.2.2.2.2.2.2.2.2.2.2.2.2.2.2.2.2.2.2.2.2.2.2.2.2.2.2.2.2.2.2.2.2.2.2.2.2.2.2.2.2.1, x9.2.2.2.2.2.2.2.2.2.2.2.2.2.2.2.2.2.2.2.2.2.2.2.2.2.2.2.2.2.2.2.2.2.2.2.2.2.2.2.2.2.2.2.2.2.2.2.2.2.2.2.2.2.2.2.2.2.2.2.2.2.2.2.2.2.2.2.2.2.2.2.2.2.2.2.2.2.2.2.2.2.2.2.2.2.2.2.2.2.2.2.2.2.2.2.2.2.2.2.2.2.2.2.2.2.2.2.2.2.2.2.2.2.2.2.2.2.2.2.2.2.2.2.2.2.2.2.2.2.1, x9.2.2.2.2.2.2.2.2.2.2.2.2.2.2.2.2.2.2.2.2.2.2.2.2.2.2.2.2.2.2.2.2.2.2.2.2.2.2.2.2.2.2.2.2.2.2.2.2.2.2.2.2.2.2.2.2.2.2.2.2.2.2.2.2.2.2.2.2.2.2.2.2.2.2.2.2.2.2.2.2.2.2.2.2.2.2.2.2.2.2.2.2.2.2.2.2.2.2.2.2.2.2.2.2.2.2.2.2.2.2.2.2.2.2.2.2.2.2.2.2.2.2.2.2.2.2.2.2.2.2.1, x9.2.2.2.2.2.2.2.2.2.2.2.2.2.2.2.2.2.2.2.2.2.2.2.2.2.2.2.2.2.2.2.2.2.2.2.2.2.2.2.2.2.2.2.2.2.2.2.2.2.2.2.2.2.2.2.2.2.2.2.2.2.2.2.2.2.2.2.2.2.2.2.2.2.2.2.2.2.2.2.2.2.2.2.2.2.2.2.2.2.2.2.2.2.2.2.2.2.2.2.2.2.2.2.2.2.2.2.2.2.2.2.2.2.2.2.2.2.2.2.2.2.2.2.2.2.2.2.2.2.2.2.1, x9.2.2.2.2.2.2.2.2.2.2.2.2.2.2.2.2.2.2.2.2.2.2.2.2.2.2.2.2.2.2.2.2.2.2.2.2.2.2.2.2.2.2.2.2.2.2.2.2.2.2.2.2.2.2.2.2.2.2.2.2.2.2.2.2.2.2.2.2.2.2.2.2.2.2.2.2.2.2.2.2.2.2.2.2.2.2.2.2.2.2.2.2.2.2.2.2.2.2.2.2.2.2.2.2.2.2.2.2.2.2.2.2.2.2.2.2.2.2.2.2.2.2.2.2.2.2.2.2.2.2.2.2)] : List ((List UInt8) × Bool × Bool × (((Unit) ⊕ (((Unit) ⊕ (((Unit) ⊕ (((Unit) ⊕ (Unit))))))))) × Int × Int × (((Unit) ⊕ (((Unit) ⊕ (((Unit) ⊕ (((Unit) ⊕ (((Unit) ⊕ (((Unit) ⊕ (((Unit) ⊕ (((Unit) ⊕ (Unit))))))))))))))))))) x0.2.2.1) fun x12 =>
    let x17 := (x0.2.1 == (0 : Int))
    let x18 := (!(x12.2.1 == x17))
    if x18 then (
      some (2 : Int))
    else (
      Option.bind (fact_Fact_days ((x0.1, x0.2.1, x0.2.2.1, x0.2.2.2.1, x0.2.2.2.2.1, x0.2.2.2.2.2.1, x0.2.2.2.2.2.2.1, x0.2.2.2.2.2.2.2), (x12.1, x12.2.1, x12.2.2.1, x12.2.2.2.1, x12.2.2.2.2.1, x12.2.2.2.2.2.1, x12.2.2.2.2.2.2))) fun x21 =>
      let x23 := (x21 != (0 : Int))
      if x23 then (
        some x21)
      else (
        Option.bind (match x12.2.2.2.1 with | Sum.inl c110 => (fact_empty x0.2.2.2.2.2.1).map (fun v109 => v109) | Sum.inr c111 => (match c111 with | Sum.inl c113 => (fact_rules_1 x0.2.2.2.2.2.1).map (fun v112 => v112) | Sum.inr c114 => (match c114 with | Sum.inl c116 => (fact_absence x0.2.2.2.2.2.1).map (fun v115 => v115) | Sum.inr c117 => (match c117 with | Sum.inl c119 => (fact_isName x0.2.2.2.2.2.1).map (fun v118 => v118) | Sum.inr c120 => (none))))) fun x30 =>
        let x31 := (!x30)
        if x31 then (
          some (12 : Int))
        else (
          let x37 := (decide (x0.2.2.2.2.2.2.1 < x12.2.2.2.2.1))
          let x39 := (if x37 = false then some () else none)
          Option.bind (if x37 = false then (x39.map (fun z133 => x0.2.2.2.2.2.2.1)).map some else some none) fun x40 =>
          let x41 := (if x37 = false then some () else none)
          Option.bind (if x37 = false then (x41.map (fun z134 => x12.2.2.2.2.2.1)).map some else some none) fun x42 =>
          Option.bind (if x37 = false then ((x40.bind (fun z135 => x42.map (fun z136 => (z135, z136)))).map (fun z137 => (decide (z137.1 > z137.2)))).map some else some none) fun x43 =>
          Option.bind (if x37 then some true else x43.map (fun z138 => z138)) fun x44 =>
          if x44 then (
            some (2 : Int))
          else (
            let x48 := (x0.2.2.2.2.2.2.2.length : Int)
            let x49 := (decide (x48 > (4096 : Int)))
            if x49 then (
              some (4 : Int))
            else (
              Option.bind (match x12.2.2.2.2.2.2 with | Sum.inl c188 => (fact_silent (x0.1, x0.2.1, x0.2.2.1, x0.2.2.2.1, x0.2.2.2.2.1, x0.2.2.2.2.2.1, x0.2.2.2.2.2.2.1, x0.2.2.2.2.2.2.2)).map (fun v187 => v187) | Sum.inr c189 => (match c189 with | Sum.inl c191 => (fact_weekly (x0.1, x0.2.1, x0.2.2.1, x0.2.2.2.1, x0.2.2.2.2.1, x0.2.2.2.2.2.1, x0.2.2.2.2.2.2.1, x0.2.2.2.2.2.2.2)).map (fun v190 => v190) | Sum.inr c192 => (match c192 with | Sum.inl c194 => (fact_rules_5 (x0.1, x0.2.1, x0.2.2.1, x0.2.2.2.1, x0.2.2.2.2.1, x0.2.2.2.2.2.1, x0.2.2.2.2.2.2.1, x0.2.2.2.2.2.2.2)).map (fun v193 => v193) | Sum.inr c195 => (match c195 with | Sum.inl c197 => (fact_night (x0.1, x0.2.1, x0.2.2.1, x0.2.2.2.1, x0.2.2.2.2.1, x0.2.2.2.2.2.1, x0.2.2.2.2.2.2.1, x0.2.2.2.2.2.2.2)).map (fun v196 => v196) | Sum.inr c198 => (match c198 with | Sum.inl c200 => (fact_rules_2 (x0.1, x0.2.1, x0.2.2.1, x0.2.2.2.1, x0.2.2.2.2.1, x0.2.2.2.2.2.1, x0.2.2.2.2.2.2.1, x0.2.2.2.2.2.2.2)).map (fun v199 => v199) | Sum.inr c201 => (match c201 with | Sum.inl c203 => (fact_rules_6 (x0.1, x0.2.1, x0.2.2.1, x0.2.2.2.1, x0.2.2.2.2.1, x0.2.2.2.2.2.1, x0.2.2.2.2.2.2.1, x0.2.2.2.2.2.2.2)).map (fun v202 => v202) | Sum.inr c204 => (match c204 with | Sum.inl c206 => (fact_rules_3 (x0.1, x0.2.1, x0.2.2.1, x0.2.2.2.1, x0.2.2.2.2.1, x0.2.2.2.2.2.1, x0.2.2.2.2.2.2.1, x0.2.2.2.2.2.2.2)).map (fun v205 => v205) | Sum.inr c207 => (match c207 with | Sum.inl c209 => (fact_rules_4 (x0.1, x0.2.1, x0.2.2.1, x0.2.2.2.1, x0.2.2.2.2.1, x0.2.2.2.2.2.1, x0.2.2.2.2.2.2.1, x0.2.2.2.2.2.2.2)).map (fun v208 => v208) | Sum.inr c210 => (none))))))))) fun x54 =>
              let x55 := (!x54)
              if x55 then (
                some (3 : Int))
              else (
                some (0 : Int))))))))
noncomputable def post_name (a : (List UInt8)) : Option (Bool) :=
  let x0 := a
  Option.bind (fact_Fact_Check ((0 : Int), (1 : Int), (13 : Int), (0 : Int), (0 : Int), ([] : List UInt8), (0 : Int), x0)) fun x5 =>
  let x6 := (x5 == (0 : Int))
  some x6
noncomputable def post_check_loop1 (s : (List ((List UInt8) × Int)) × (Int) × (Int) × (List ((List UInt8) × (Bool))) × (Unit) × Unit) : Option (((List ((List UInt8) × Int)) × (Int) × (Int) × (List ((List UInt8) × (Bool))) × (Unit) × Unit) ⊕ ((Unit) ⊕ (Int))) :=
  let x10 := s.1
  let x11 := s.2.1
  let x12 := s.2.2.1
  let l9 := s.2.2.2.1
  let x13 := (decide (x12 < x11))
  if x13 then (
    Option.bind ((lAt x10 x12).map (fun y => y)) fun x14 =>
    Option.bind (post_name x14.1) fun x19 =>
    let x20 := (!x19)
    if x20 then (
      some (Sum.inr (Sum.inr (12 : Int))))
    else (
      Option.bind (show Option (((List ((List UInt8) × Int)) × (Int) × (Int) × (Bool) × (List UInt8) × (Int) × (List ((List UInt8) × (Bool))) × (Unit) × (Unit) × (Unit) × Unit)) from (
        let x24 := (decide (x14.2 < (1 : Int)))
        if x24 then (
          some (x10, x11, x12, x24, x14.1, x14.2, l9, (), (), (), ()))
        else (
          let x27 := (decide (x14.2 > (1000000 : Int)))
          some (x10, x11, x12, x27, x14.1, x14.2, l9, (), (), (), ())))) fun o =>
      let x10 := o.1
      let x11 := o.2.1
      let x12 := o.2.2.1
      let x21 := o.2.2.2.1
      let c5_0 := o.2.2.2.2.1
      let c5_1 := o.2.2.2.2.2.1
      let l9 := o.2.2.2.2.2.2.1
      if x21 then (
        some (Sum.inr (Sum.inr (2 : Int))))
      else (
        let x32 := (alGet (eqZ .str) (zeroT .bool) c5_0 l9).1
        if x32 then (
          some (Sum.inr (Sum.inr (7 : Int))))
        else (
          let l9 := alPut (eqZ .str) c5_0 true l9
          let x36 := IntKind.i64.wrap (x12 + (1 : Int))
          some (Sum.inl (x10, x11, x36, l9, (), ()))))))
  else (
    some (Sum.inr (Sum.inl (()))))
noncomputable def post_check (a : (List ((List UInt8) × Int))) : Option (Int) :=
  let x0 := a
  let x7 := (x0.length : Int)
  let x8 := (decide (x7 > (64 : Int)))
  if x8 then (
    some (5 : Int))
  else (
    let x11 := (x0.length : Int)
    Option.bind (iter post_check_loop1 (x0, x11, (0 : Int), ([] : List ((List UInt8) × (Bool))), (), ())) fun o =>
    match o with
    | Sum.inl p1 => (
      some (0 : Int))
    | Sum.inr q2 => (
      some q2))
noncomputable def share_fits (a : Int) : Option (Bool) :=
  let x0 := a
  let x4 := (decide (x0 ≥ (-1125899906842624 : Int)))
  let x6 := (if x4 = true then some x0 else none)
  Option.bind (if x4 = true then ((x6.bind (fun z7 => some (z7, (1125899906842624 : Int)))).map (fun z9 => (decide (z9.1 ≤ z9.2)))).map some else some none) fun x7 =>
  Option.bind (if x4 then x7 else some false) fun x8 =>
  some x8
noncomputable def share_sum_loop1 (s : (Int) × (List (Int)) × (Int) × (Int) × Unit) : Option (((Int) × (List (Int)) × (Int) × (Int) × Unit) ⊕ (((Int) × Unit) ⊕ (Int × Int))) :=
  let x4 := s.1
  let x15 := s.2.1
  let x16 := s.2.2.1
  let x17 := s.2.2.2.1
  let x18 := (decide (x17 < x16))
  if x18 then (
    Option.bind ((lAt x15 x17).map (fun y => y)) fun x19 =>
    let x22 := (decide (x19 < (0 : Int)))
    let x24 := (if x22 = false then some x19 else none)
    Option.bind (if x22 = false then ((x24.bind (fun z73 => some (z73, (1125899906842624 : Int)))).map (fun z75 => (decide (z75.1 > z75.2)))).map some else some none) fun x25 =>
    Option.bind (if x22 then some true else x25.map (fun z76 => z76)) fun x26 =>
    if x26 then (
      some (Sum.inr (Sum.inr ((0 : Int), (2 : Int)))))
    else (
      let x29 := IntKind.u64.wrap x19
      let x30 := IntKind.u64.wrap (x4 + x29)
      let x31 := IntKind.i64.wrap (x17 + (1 : Int))
      some (Sum.inl (x30, x15, x16, x31, ()))))
  else (
    some (Sum.inr (Sum.inl (x4, ()))))
noncomputable def share_sum (a : (List (Int))) : Option (Int × Int) :=
  let x0 := a
  let x9 := (x0.length : Int)
  let x10 := (x9 == (0 : Int))
  if x10 then (
    some ((0 : Int), (10 : Int)))
  else (
    let x13 := (x0.length : Int)
    let x14 := (decide (x13 > (64 : Int)))
    if x14 then (
      some ((0 : Int), (5 : Int)))
    else (
      let x16 := (x0.length : Int)
      Option.bind (iter share_sum_loop1 ((0 : Int), x0, x16, (0 : Int), ())) fun o =>
      match o with
      | Sum.inl p77 => (
        let x4 := p77.1
        let x33 := (x4 == (0 : Int))
        if x33 then (
          some ((0 : Int), (22 : Int)))
        else (
          some (x4, (0 : Int))))
      | Sum.inr q78 => (
        some q78)))
noncomputable def math_bits_Mul64 (a : Int × Int) : Option (Int × Int) :=
  let x0 := a.1
  let x1 := a.2
  let x15 := bitZ .and .u64 x0 (4294967295 : Int)
  Option.bind (if (32 : Int) < 0 then none else some (x0.fdiv (2 ^ (min (32 : Int).toNat 64)))) fun x17 =>
  let x19 := bitZ .and .u64 x1 (4294967295 : Int)
  Option.bind (if (32 : Int) < 0 then none else some (x1.fdiv (2 ^ (min (32 : Int).toNat 64)))) fun x21 =>
  let x24 := IntKind.u64.wrap (x15 * x19)
  let x27 := IntKind.u64.wrap (x17 * x19)
  Option.bind (if (32 : Int) < 0 then none else some (x24.fdiv (2 ^ (min (32 : Int).toNat 64)))) fun x29 =>
  let x30 := IntKind.u64.wrap (x27 + x29)
  let x32 := bitZ .and .u64 x30 (4294967295 : Int)
  Option.bind (if (32 : Int) < 0 then none else some (x30.fdiv (2 ^ (min (32 : Int).toNat 64)))) fun x34 =>
  let x38 := IntKind.u64.wrap (x15 * x21)
  let x39 := IntKind.u64.wrap (x32 + x38)
  let x42 := IntKind.u64.wrap (x17 * x21)
  let x44 := IntKind.u64.wrap (x42 + x34)
  Option.bind (if (32 : Int) < 0 then none else some (x39.fdiv (2 ^ (min (32 : Int).toNat 64)))) fun x46 =>
  let x47 := IntKind.u64.wrap (x44 + x46)
  let x50 := IntKind.u64.wrap (x0 * x1)
  some (x47, x50)
noncomputable def math_bits_Len64 (a : Int) : Option (Int) :=
  let x0 := a
  Option.bind (show Option (((Int) × (Int) × Unit)) from (
    let x4 := (decide (x0 ≥ (4294967296 : Int)))
    if x4 then (
      Option.bind (if (32 : Int) < 0 then none else some (x0.fdiv (2 ^ (min (32 : Int).toNat 64)))) fun x6 =>
      some (x6, (32 : Int), ()))
    else (
      some (x0, (0 : Int), ())))) fun o =>
  let x0 := o.1
  let x2 := o.2.1
  Option.bind (show Option (((Int) × (Int) × Unit)) from (
    let x8 := (decide (x0 ≥ (65536 : Int)))
    if x8 then (
      Option.bind (if (16 : Int) < 0 then none else some (x0.fdiv (2 ^ (min (16 : Int).toNat 64)))) fun x10 =>
      let x12 := IntKind.i64.wrap (x2 + (16 : Int))
      some (x10, x12, ()))
    else (
      some (x0, x2, ())))) fun o =>
  let x0 := o.1
  let x2 := o.2.1
  Option.bind (show Option (((Int) × (Int) × Unit)) from (
    let x14 := (decide (x0 ≥ (256 : Int)))
    if x14 then (
      Option.bind (if (8 : Int) < 0 then none else some (x0.fdiv (2 ^ (min (8 : Int).toNat 64)))) fun x16 =>
      let x18 := IntKind.i64.wrap (x2 + (8 : Int))
      some (x16, x18, ()))
    else (
      some (x0, x2, ())))) fun o =>
  let x0 := o.1
  let x2 := o.2.1
  let x21 := IntKind.u8.wrap x0
  Option.bind (sAt ([0, 1, 2, 2, 3, 3, 3, 3, 4, 4, 4, 4, 4, 4, 4, 4, 5, 5, 5, 5, 5, 5, 5, 5, 5, 5, 5, 5, 5, 5, 5, 5, 6, 6, 6, 6, 6, 6, 6, 6, 6, 6, 6, 6, 6, 6, 6, 6, 6, 6, 6, 6, 6, 6, 6, 6, 6, 6, 6, 6, 6, 6, 6, 6, 7, 7, 7, 7, 7, 7, 7, 7, 7, 7, 7, 7, 7, 7, 7, 7, 7, 7, 7, 7, 7, 7, 7, 7, 7, 7, 7, 7, 7, 7, 7, 7, 7, 7, 7, 7, 7, 7, 7, 7, 7, 7, 7, 7, 7, 7, 7, 7, 7, 7, 7, 7, 7, 7, 7, 7, 7, 7, 7, 7, 7, 7, 7, 7, 8, 8, 8, 8, 8, 8, 8, 8, 8, 8, 8, 8, 8, 8, 8, 8, 8, 8, 8, 8, 8, 8, 8, 8, 8, 8, 8, 8, 8, 8, 8, 8, 8, 8, 8, 8, 8, 8, 8, 8, 8, 8, 8, 8, 8, 8, 8, 8, 8, 8, 8, 8, 8, 8, 8, 8, 8, 8, 8, 8, 8, 8, 8, 8, 8, 8, 8, 8, 8, 8, 8, 8, 8, 8, 8, 8, 8, 8, 8, 8, 8, 8, 8, 8, 8, 8, 8, 8, 8, 8, 8, 8, 8, 8, 8, 8, 8, 8, 8, 8, 8, 8, 8, 8, 8, 8, 8, 8, 8, 8, 8, 8, 8, 8, 8, 8, 8, 8, 8, 8, 8, 8, 8, 8, 8, 8, 8, 8] : List UInt8) x21) fun x22 =>
  let x23 := IntKind.i64.wrap x22
  let x24 := IntKind.i64.wrap (x2 + x23)
  some x24
noncomputable def math_bits_LeadingZeros64 (a : Int) : Option (Int) :=
  let x0 := a
  Option.bind (math_bits_Len64 x0) fun x4 =>
  let x5 := IntKind.i64.wrap ((64 : Int) - x4)
  some x5
noncomputable def math_bits_Div64_loop1 (s : (Int) × (Int) × (Int) × (Int) × (Int) × (Int) × (Int) × (Int) × (Int) × Unit) : Option (((Int) × (Int) × (Int) × (Int) × (Int) × (Int) × (Int) × (Int) × (Int) × Unit) ⊕ (((Int) × (Int) × (Int) × (Int) × (Int) × (Int) × (Int) × (Int) × Unit))) :=
  let x2 := s.1
  let x8 := s.2.1
  let x9 := s.2.2.1
  let x10 := s.2.2.2.1
  let x11 := s.2.2.2.2.1
  let x13 := s.2.2.2.2.2.1
  let x14 := s.2.2.2.2.2.2.1
  let x15 := s.2.2.2.2.2.2.2.1
  let x16 := s.2.2.2.2.2.2.2.2.1
  let x68 := (decide (x15 ≥ (4294967296 : Int)))
  let x70 := (if x68 = false then some x15 else none)
  let x71 := (if x68 = false then some x10 else none)
  Option.bind (if x68 = false then ((x70.bind (fun z209 => x71.map (fun z210 => (z209, z210)))).map (fun z211 => IntKind.u64.wrap (z211.1 * z211.2))).map some else some none) fun x72 =>
  let x73 := (if x68 = false then some x16 else none)
  Option.bind (if x68 = false then ((x73.map (fun z213 => ((4294967296 : Int), z213))).map (fun z214 => IntKind.u64.wrap (z214.1 * z214.2))).map some else some none) fun x74 =>
  let x75 := (if x68 = false then some x13 else none)
  Option.bind (if x68 = false then ((x74.bind (fun z215 => x75.map (fun z216 => (z215, z216)))).map (fun z217 => IntKind.u64.wrap (z217.1 + z217.2))).map some else some none) fun x76 =>
  Option.bind (if x68 = false then ((x72.bind (fun z218 => x76.map (fun z219 => (z218, z219)))).map (fun z220 => (decide (z220.1 > z220.2)))).map some else some none) fun x77 =>
  Option.bind (if x68 then some true else x77.map (fun z221 => z221)) fun x78 =>
  if x78 then (
    let x80 := IntKind.u64.wrap (x15 - (1 : Int))
    let x83 := IntKind.u64.wrap (x16 + x9)
    let x85 := (decide (x83 ≥ (4294967296 : Int)))
    if x85 then (
      some (Sum.inr (x2, x8, x9, x10, x11, x13, x14, x80, ())))
    else (
      some (Sum.inl (x2, x8, x9, x10, x11, x13, x14, x80, x83, ()))))
  else (
    some (Sum.inr (x2, x8, x9, x10, x11, x13, x14, x15, ())))
noncomputable def math_bits_Div64_loop2 (s : (Int) × (Int) × (Int) × (Int) × (Int) × (Int) × (Int) × (Int) × (Int) × Unit) : Option (((Int) × (Int) × (Int) × (Int) × (Int) × (Int) × (Int) × (Int) × (Int) × Unit) ⊕ (((Int) × (Int) × (Int) × (Int) × (Int) × (Int) × Unit))) :=
  let x2 := s.1
  let x8 := s.2.1
  let x9 := s.2.2.1
  let x10 := s.2.2.2.1
  let x14 := s.2.2.2.2.1
  let x15 := s.2.2.2.2.2.1
  let x16 := s.2.2.2.2.2.2.1
  let x17 := s.2.2.2.2.2.2.2.1
  let x18 := s.2.2.2.2.2.2.2.2.1
  let x103 := (decide (x18 ≥ (4294967296 : Int)))
  let x105 := (if x103 = false then some x18 else none)
  let x106 := (if x103 = false then some x10 else none)
  Option.bind (if x103 = false then ((x105.bind (fun z430 => x106.map (fun z431 => (z430, z431)))).map (fun z432 => IntKind.u64.wrap (z432.1 * z432.2))).map some else some none) fun x107 =>
  let x108 := (if x103 = false then some x16 else none)
  Option.bind (if x103 = false then ((x108.map (fun z434 => ((4294967296 : Int), z434))).map (fun z435 => IntKind.u64.wrap (z435.1 * z435.2))).map some else some none) fun x109 =>
  let x110 := (if x103 = false then some x14 else none)
  Option.bind (if x103 = false then ((x109.bind (fun z436 => x110.map (fun z437 => (z436, z437)))).map (fun z438 => IntKind.u64.wrap (z438.1 + z438.2))).map some else some none) fun x111 =>
  Option.bind (if x103 = false then ((x107.bind (fun z439 => x111.map (fun z440 => (z439, z440)))).map (fun z441 => (decide (z441.1 > z441.2)))).map some else some none) fun x112 =>
  Option.bind (if x103 then some true else x112.map (fun z442 => z442)) fun x113 =>
  if x113 then (
    let x115 := IntKind.u64.wrap (x18 - (1 : Int))
    let x118 := IntKind.u64.wrap (x16 + x9)
    let x120 := (decide (x118 ≥ (4294967296 : Int)))
    if x120 then (
      some (Sum.inr (x2, x8, x14, x15, x17, x115, ())))
    else (
      some (Sum.inl (x2, x8, x9, x10, x14, x15, x118, x17, x115, ()))))
  else (
    some (Sum.inr (x2, x8, x14, x15, x17, x18, ())))
noncomputable def math_bits_Div64 (a : Int × Int × Int) : Option (Int × Int) :=
  let x0 := a.1
  let x1 := a.2.1
  let x2 := a.2.2
  let x20 := (x2 == (0 : Int))
  if x20 then (
    none)
  else (
    let x24 := (decide (x2 ≤ x0))
    if x24 then (
      none)
    else (
      let x27 := (x0 == (0 : Int))
      if x27 then (
        Option.bind (if x2 = 0 then none else some (IntKind.u64.wrap (x1.tdiv x2))) fun x30 =>
        Option.bind (if x2 = 0 then none else some (x1.tmod x2)) fun x33 =>
        some (x30, x33))
      else (
        Option.bind (math_bits_LeadingZeros64 x2) fun x35 =>
        let x36 := IntKind.u64.wrap x35
        Option.bind (if x36 < 0 then none else some (IntKind.u64.wrap (x2 * 2 ^ (min x36.toNat 64)))) fun x39 =>
        Option.bind (if (32 : Int) < 0 then none else some (x39.fdiv (2 ^ (min (32 : Int).toNat 64)))) fun x41 =>
        let x43 := bitZ .and .u64 x39 (4294967295 : Int)
        Option.bind (if x36 < 0 then none else some (IntKind.u64.wrap (x0 * 2 ^ (min x36.toNat 64)))) fun x46 =>
        let x49 := IntKind.u64.wrap ((64 : Int) - x36)
        Option.bind (if x49 < 0 then none else some (x1.fdiv (2 ^ (min x49.toNat 64)))) fun x50 =>
        let x51 := bitZ .or .u64 x46 x50
        Option.bind (if x36 < 0 then none else some (IntKind.u64.wrap (x1 * 2 ^ (min x36.toNat 64)))) fun x54 =>
        Option.bind (if (32 : Int) < 0 then none else some (x54.fdiv (2 ^ (min (32 : Int).toNat 64)))) fun x56 =>
        let x58 := bitZ .and .u64 x54 (4294967295 : Int)
        Option.bind (if x41 = 0 then none else some (IntKind.u64.wrap (x51.tdiv x41))) fun x61 =>
        let x65 := IntKind.u64.wrap (x61 * x41)
        let x66 := IntKind.u64.wrap (x51 - x65)
        Option.bind (show Option (((Int) × (Int) × (Int) × (Int) × (Int) × (Int) × (Int) × (Int) × Unit)) from (
          Option.bind (iter math_bits_Div64_loop1 (x39, x36, x41, x43, x51, x56, x58, x61, x66, ())) fun o =>
          let x2 := o.1
          let x8 := o.2.1
          let x9 := o.2.2.1
          let x10 := o.2.2.2.1
          let x11 := o.2.2.2.2.1
          let x13 := o.2.2.2.2.2.1
          let x14 := o.2.2.2.2.2.2.1
          let x15 := o.2.2.2.2.2.2.2.1
          some (x2, x8, x9, x10, x11, x13, x14, x15, ()))) fun o =>
        let x2 := o.1
        let x8 := o.2.1
        let x9 := o.2.2.1
        let x10 := o.2.2.2.1
        let x11 := o.2.2.2.2.1
        let x13 := o.2.2.2.2.2.1
        let x14 := o.2.2.2.2.2.2.1
        let x15 := o.2.2.2.2.2.2.2.1
        let x87 := IntKind.u64.wrap (x11 * (4294967296 : Int))
        let x89 := IntKind.u64.wrap (x87 + x13)
        let x92 := IntKind.u64.wrap (x15 * x2)
        let x93 := IntKind.u64.wrap (x89 - x92)
        Option.bind (if x9 = 0 then none else some (IntKind.u64.wrap (x93.tdiv x9))) fun x96 =>
        let x100 := IntKind.u64.wrap (x96 * x9)
        let x101 := IntKind.u64.wrap (x93 - x100)
        Option.bind (show Option (((Int) × (Int) × (Int) × (Int) × (Int) × (Int) × Unit)) from (
          Option.bind (iter math_bits_Div64_loop2 (x2, x8, x9, x10, x14, x15, x101, x93, x96, ())) fun o =>
          let x2 := o.1
          let x8 := o.2.1
          let x14 := o.2.2.1
          let x15 := o.2.2.2.1
          let x17 := o.2.2.2.2.1
          let x18 := o.2.2.2.2.2.1
          some (x2, x8, x14, x15, x17, x18, ()))) fun o =>
        let x2 := o.1
        let x8 := o.2.1
        let x14 := o.2.2.1
        let x15 := o.2.2.2.1
        let x17 := o.2.2.2.2.1
        let x18 := o.2.2.2.2.2.1
        let x122 := IntKind.u64.wrap (x15 * (4294967296 : Int))
        let x124 := IntKind.u64.wrap (x122 + x18)
        let x126 := IntKind.u64.wrap (x17 * (4294967296 : Int))
        let x128 := IntKind.u64.wrap (x126 + x14)
        let x131 := IntKind.u64.wrap (x18 * x2)
        let x132 := IntKind.u64.wrap (x128 - x131)
        Option.bind (if x8 < 0 then none else some (x132.fdiv (2 ^ (min x8.toNat 64)))) fun x134 =>
        some (x124, x134))))
noncomputable def share_part (a : Int × Int × Int) : Option (Int × Int) :=
  let x0 := a.1
  let x1 := a.2.1
  let x2 := a.2.2
  Option.bind (math_bits_Mul64 (x0, x1)) fun x13 =>
  Option.bind (math_bits_Div64 (x13.1, x13.2, x2)) fun x19 =>
  some (x19.1, x19.2)
noncomputable def share_split_loop1 (s : (Int) × (Int) × (Int) × (Int) × (List (Int)) × (List (Int)) × (Unit) × (Unit) × (Unit) × Unit) : Option (((Int) × (Int) × (Int) × (Int) × (List (Int)) × (List (Int)) × (Unit) × (Unit) × (Unit) × Unit) ⊕ (((Int) × (Int) × (List (Int)) × (List (Int)) × (Unit) × (Unit) × Unit))) :=
  let x9 := s.1
  let x14 := s.2.1
  let x57 := s.2.2.1
  let x58 := s.2.2.2.1
  let l19 := s.2.2.2.2.1
  let l22 := s.2.2.2.2.2.1
  let x59 := (decide (x58 < x57))
  if x59 then (
    Option.bind (show Option (((Int) × (Int) × (Int) × (Int) × (List (Int)) × (List (Int)) × (Unit) × (Unit) × (Unit) × Unit)) from (
      Option.bind (if 0 ≤ x58 ∧ x58 < (l22.length : Int) then some x58.toNat else none) fun x61 =>
      Option.bind ((l22[x61]?).map (fun y => y)) fun x62 =>
      Option.bind (if 0 ≤ x14 ∧ x14 < (l22.length : Int) then some x14.toNat else none) fun x66 =>
      Option.bind ((l22[x66]?).map (fun y => y)) fun x67 =>
      let x68 := (decide (x62 > x67))
      if x68 then (
        some (x9, x58, x57, x58, l19, l22, (), (), (), ()))
      else (
        some (x9, x14, x57, x58, l19, l22, (), (), (), ())))) fun o =>
    let x9 := o.1
    let x14 := o.2.1
    let x57 := o.2.2.1
    let x58 := o.2.2.2.1
    let l19 := o.2.2.2.2.1
    let l22 := o.2.2.2.2.2.1
    let x70 := IntKind.i64.wrap (x58 + (1 : Int))
    some (Sum.inl (x9, x14, x57, x70, l19, l22, (), (), (), ())))
  else (
    some (Sum.inr (x9, x14, l19, l22, (), (), ())))
noncomputable def share_split_loop2 (s : (Int) × (List (Int)) × (List (Int)) × (Unit) × (Unit) × Unit) : Option (((Int) × (List (Int)) × (List (Int)) × (Unit) × (Unit) × Unit) ⊕ (((List (Int)) × (Unit) × Unit))) :=
  let x9 := s.1
  let l19 := s.2.1
  let l22 := s.2.2.1
  let x53 := (decide (x9 > (0 : Int)))
  if x53 then (
    let x57 := (l22.length : Int)
    Option.bind (iter share_split_loop1 (x9, (0 : Int), x57, (0 : Int), l19, l22, (), (), (), ())) fun o =>
    let x9 := o.1
    let x14 := o.2.1
    let l19 := o.2.2.1
    let l22 := o.2.2.2.1
    Option.bind (if 0 ≤ x14 ∧ x14 < (l19.length : Int) then some x14.toNat else none) fun x73 =>
    Option.bind ((l19[x73]?).map (fun y => y)) fun x74 =>
    let x75 := IntKind.i64.wrap (x74 + (1 : Int))
    Option.bind (if 0 ≤ x14 ∧ x14 < (l19.length : Int) then some x14.toNat else none) fun x76 =>
    Option.bind ((l19[x76]?).map (fun el65 => l19.set x76 x75)) fun l19 =>
    Option.bind (if 0 ≤ x14 ∧ x14 < (l22.length : Int) then some x14.toNat else none) fun x79 =>
    Option.bind ((l22[x79]?).map (fun el67 => l22.set x79 (0 : Int))) fun l22 =>
    let x55 := IntKind.u64.wrap (x9 - (1 : Int))
    some (Sum.inl (x55, l19, l22, (), (), ())))
  else (
    some (Sum.inr (l19, (), ())))
noncomputable def share_split_loop3 (s : (Int) × (Int) × (Int) × (List (Int)) × (Int) × (Int) × (List (Int)) × (List (Int)) × (Unit) × (Unit) × Unit) : Option (((Int) × (Int) × (Int) × (List (Int)) × (Int) × (Int) × (List (Int)) × (List (Int)) × (Unit) × (Unit) × Unit) ⊕ (((Int) × (List (Int)) × (List (Int)) × (Unit) × (Unit) × Unit))) :=
  let x0 := s.1
  let x1 := s.2.1
  let x9 := s.2.2.1
  let x24 := s.2.2.2.1
  let x25 := s.2.2.2.2.1
  let x26 := s.2.2.2.2.2.1
  let l19 := s.2.2.2.2.2.2.1
  let l22 := s.2.2.2.2.2.2.2.1
  let x27 := (decide (x26 < x25))
  if x27 then (
    Option.bind ((lAt x24 x26).map (fun y => y)) fun x29 =>
    let x34 := IntKind.u64.wrap x29
    Option.bind (share_part (x0, x34, x1)) fun x36 =>
    let x44 := IntKind.i64.wrap x36.1
    Option.bind (if 0 ≤ x26 ∧ x26 < (l19.length : Int) then some x26.toNat else none) fun x46 =>
    Option.bind ((l19[x46]?).map (fun el33 => l19.set x46 x44)) fun l19 =>
    Option.bind (if 0 ≤ x26 ∧ x26 < (l22.length : Int) then some x26.toNat else none) fun x47 =>
    Option.bind ((l22[x47]?).map (fun el34 => l22.set x47 x36.2)) fun l22 =>
    let x50 := IntKind.u64.wrap (x9 - x36.1)
    let x51 := IntKind.i64.wrap (x26 + (1 : Int))
    some (Sum.inl (x0, x1, x50, x24, x25, x51, l19, l22, (), (), ())))
  else (
    some (Sum.inr (x9, l19, l22, (), (), ())))
noncomputable def share_split (a : Int × Int × (List (Int))) : Option (List (Int)) :=
  let x0 := a.1
  let x1 := a.2.1
  let x2 := a.2.2
  let x18 := (x2.length : Int)
  Option.bind (if 0 ≤ x18 ∧ x18 ≤ x18 ∧ x18 * (8 : Int) ≤ 140737488355328 ∧ x18 ≤ 4611686018427387904 then some (List.replicate x18.toNat (0 : Int)) else none) fun l19 =>
  let x21 := (x2.length : Int)
  Option.bind (if 0 ≤ x21 ∧ x21 ≤ x21 ∧ x21 * (8 : Int) ≤ 140737488355328 ∧ x21 ≤ 4611686018427387904 then some (List.replicate x21.toNat (0 : Int)) else none) fun l22 =>
  let x25 := (x2.length : Int)
  Option.bind (iter share_split_loop3 (x0, x1, x0, x2, x25, (0 : Int), l19, l22, (), (), ())) fun o =>
  let x9 := o.1
  let l19 := o.2.1
  let l22 := o.2.2.1
  Option.bind (iter share_split_loop2 (x9, l19, l22, (), (), ())) fun o =>
  let l19 := o.1
  some l19
noncomputable def share_Split_loop1 (s : (Int) × (Int) × (List (Int)) × (Unit) × Unit) : Option (((Int) × (Int) × (List (Int)) × (Unit) × Unit) ⊕ (((List (Int)) × (Unit) × Unit))) :=
  let x35 := s.1
  let x36 := s.2.1
  let l33 := s.2.2.1
  let x37 := (decide (x36 < x35))
  if x37 then (
    Option.bind (if 0 ≤ x36 ∧ x36 < (l33.length : Int) then some x36.toNat else none) fun x43 =>
    Option.bind ((l33[x43]?).map (fun y => y)) fun x44 =>
    let x45 := IntKind.i64.wrap (0 - x44)
    Option.bind (if 0 ≤ x36 ∧ x36 < (l33.length : Int) then some x36.toNat else none) fun x46 =>
    Option.bind ((l33[x46]?).map (fun el16 => l33.set x46 x45)) fun l33 =>
    let x47 := IntKind.i64.wrap (x36 + (1 : Int))
    some (Sum.inl (x35, x47, l33, (), ())))
  else (
    some (Sum.inr (l33, (), ())))
noncomputable def share_Split (a : Int × (List (Int))) : Option ((List (Int)) × Int) :=
  let x0 := a.1
  let x1 := a.2
  Option.bind (share_fits x0) fun x11 =>
  let x12 := (!x11)
  if x12 then (
    some (([] : List (Int)), (9 : Int)))
  else (
    Option.bind (share_sum x1) fun x15 =>
    let x19 := (x15.2 != (0 : Int))
    if x19 then (
      some (([] : List (Int)), x15.2))
    else (
      let x22 := (decide (x0 ≥ (0 : Int)))
      if x22 then (
        let x24 := IntKind.u64.wrap x0
        Option.bind (share_split (x24, x15.1, x1)) fun l27 =>
        some (l27, (0 : Int)))
      else (
        let x29 := IntKind.i64.wrap (0 - x0)
        let x30 := IntKind.u64.wrap x29
        Option.bind (share_split (x30, x15.1, x1)) fun l33 =>
        let x35 := (l33.length : Int)
        Option.bind (iter share_Split_loop1 (x35, (0 : Int), l33, (), ())) fun o =>
        let l33 := o.1
        some (l33, (0 : Int)))))
noncomputable def post_entry (a : (List UInt8) × (List UInt8) × Int × (List UInt8)) : Option (List ((List UInt8) × (List UInt8) × Int × (List UInt8))) :=
  let x0 := a.1
  let x1 := a.2.1
  let x2 := a.2.2.1
  let x3 := a.2.2.2
  Option.bind (show Option (((List UInt8) × (List UInt8) × (Int) × (List UInt8) × Unit) ⊕ (List ((List UInt8) × (List UInt8) × Int × (List UInt8)))) from (
    let x11 := (x2 == (0 : Int))
    if x11 then (
      some (Sum.inr ([] : List ((List UInt8) × (List UInt8) × Int × (List UInt8)))))
    else (
      let x14 := (decide (x2 < (0 : Int)))
      if x14 then (
        let x18 := IntKind.i64.wrap (0 - x2)
        some (Sum.inl (x1, x0, x18, x3, ())))
      else (
        some (Sum.inl (x0, x1, x2, x3, ())))))) fun o =>
  match o with
  | Sum.inl p1 => (
    let x0 := p1.1
    let x1 := p1.2.1
    let x2 := p1.2.2.1
    let x3 := p1.2.2.2.1
    let l24 := ([(x0, x1, x2, x3)] : List ((List UInt8) × (List UInt8) × Int × (List UInt8)))
    some l24)
  | Sum.inr q2 => (
    some q2)
noncomputable def post_split (a : (List ((List UInt8) × Int)) × (List UInt8) × (((Unit) ⊕ (Unit)))) : Option ((((List ((List UInt8) × Int))) × ((List UInt8)) × ((((Unit) ⊕ (Unit)))))) :=
  let x0 := a.1
  let x1 := a.2.1
  let x2 := a.2.2
  some (x0, x1, x2)
noncomputable def post_ways_1 (a : (Int × (List UInt8) × Int)) : Option (List UInt8) :=
  let x0 := a
  let x2 := ([] : List UInt8)
  let x2 := ([110, 101, 116] : List UInt8)
  some x2
noncomputable def post_owed (a : (List UInt8)) : Option ((((List UInt8)))) :=
  let x0 := a
  some x0
noncomputable def post_ways_2 (a : (Int × (List UInt8) × Int)) : Option (List UInt8) :=
  let x0 := a
  let x2 := ([] : List UInt8)
  Option.bind (if ([111, 119, 101, 100, 47, 115, 111, 99, 105, 97, 108, 47] : List UInt8).length + x0.2.1.length ≤ 4611686018427387904 then some (([111, 119, 101, 100, 47, 115, 111, 99, 105, 97, 108, 47] : List UInt8) ++ x0.2.1) else none) fun x5 =>
  some x5
noncomputable def post_ways (a : (List ((List UInt8) × Int))) : Option ((((((List ((List UInt8) × Int))) × ((List UInt8)) × ((((Unit) ⊕ (Unit))))) ⊕ (((List UInt8))))) × (((((List ((List UInt8) × Int))) × ((List UInt8)) × ((((Unit) ⊕ (Unit))))) ⊕ (((List UInt8))))) × (((((List ((List UInt8) × Int))) × ((List UInt8)) × ((((Unit) ⊕ (Unit))))) ⊕ (((List UInt8))))) × (((((List ((List UInt8) × Int))) × ((List UInt8)) × ((((Unit) ⊕ (Unit))))) ⊕ (((List UInt8))))) × (((((List ((List UInt8) × Int))) × ((List UInt8)) × ((((Unit) ⊕ (Unit))))) ⊕ (((List UInt8))))) × (((((List ((List UInt8) × Int))) × ((List UInt8)) × ((((Unit) ⊕ (Unit))))) ⊕ (((List UInt8))))) × (((((List ((List UInt8) × Int))) × ((List UInt8)) × ((((Unit) ⊕ (Unit))))) ⊕ (((List UInt8)))))) :=
  let x0 := a
  Option.bind (post_split (x0, ([119, 97, 103, 101, 115] : List UInt8), (Sum.inl () : ((Unit) ⊕ (Unit))))) fun x4 =>
  Option.bind (post_owed ([98, 101, 102, 111, 114, 101] : List UInt8)) fun x5 =>
  Option.bind (post_owed ([119, 111, 114, 107, 101, 114] : List UInt8)) fun x6 =>
  Option.bind (post_owed ([116, 97, 120] : List UInt8)) fun x7 =>
  Option.bind (post_owed ([97, 102, 116, 101, 114] : List UInt8)) fun x8 =>
  Option.bind (post_owed ([111, 114, 100, 101, 114, 115] : List UInt8)) fun x9 =>
  Option.bind (post_split (x0, ([102, 105, 114, 109] : List UInt8), (Sum.inr () : ((Unit) ⊕ (Unit))))) fun x11 =>
  some ((Sum.inl x4 : ((((List ((List UInt8) × Int))) × ((List UInt8)) × ((((Unit) ⊕ (Unit))))) ⊕ (((List UInt8))))), (Sum.inr x5 : ((((List ((List UInt8) × Int))) × ((List UInt8)) × ((((Unit) ⊕ (Unit))))) ⊕ (((List UInt8))))), (Sum.inr x6 : ((((List ((List UInt8) × Int))) × ((List UInt8)) × ((((Unit) ⊕ (Unit))))) ⊕ (((List UInt8))))), (Sum.inr x7 : ((((List ((List UInt8) × Int))) × ((List UInt8)) × ((((Unit) ⊕ (Unit))))) ⊕ (((List UInt8))))), (Sum.inr x8 : ((((List ((List UInt8) × Int))) × ((List UInt8)) × ((((Unit) ⊕ (Unit))))) ⊕ (((List UInt8))))), (Sum.inr x9 : ((((List ((List UInt8) × Int))) × ((List UInt8)) × ((((Unit) ⊕ (Unit))))) ⊕ (((List UInt8))))), (Sum.inl x11 : ((((List ((List UInt8) × Int))) × ((List UInt8)) × ((((Unit) ⊕ (Unit))))) ⊕ (((List UInt8))))))
noncomputable def post_split_1_loop1 (s : ((List ((List UInt8) × Int))) × ((List UInt8)) × ((((Unit) ⊕ (Unit)))) × (List (Int)) × (Int) × (Int) × (Int) × (List UInt8) × (Int) × (List ((List UInt8) × (List UInt8) × Int × (List UInt8))) × (Unit) × (Unit) × (Unit) × Unit) : Option ((((List ((List UInt8) × Int))) × ((List UInt8)) × ((((Unit) ⊕ (Unit)))) × (List (Int)) × (Int) × (Int) × (Int) × (List UInt8) × (Int) × (List ((List UInt8) × (List UInt8) × Int × (List UInt8))) × (Unit) × (Unit) × (Unit) × Unit) ⊕ (((List ((List UInt8) × (List UInt8) × Int × (List UInt8))) × (Unit) × Unit))) :=
  let x1 := s.1
  let x2 := s.2.1
  let x3 := s.2.2.1
  let x33 := s.2.2.2.1
  let x34 := s.2.2.2.2.1
  let x35 := s.2.2.2.2.2.1
  let c4_0 := s.2.2.2.2.2.2.1
  let c4_1 := s.2.2.2.2.2.2.2.1
  let c4_2 := s.2.2.2.2.2.2.2.2.1
  let l1011 := s.2.2.2.2.2.2.2.2.2.1
  let x36 := (decide (x35 < x34))
  if x36 then (
    Option.bind ((lAt x33 x35).map (fun y => y)) fun x38 =>
    Option.bind (if x2.length + ([47] : List UInt8).length ≤ 4611686018427387904 then some (x2 ++ ([47] : List UInt8)) else none) fun x42 =>
    Option.bind ((lAt x1 x35).map (fun y => y)) fun x45 =>
    Option.bind (if x42.length + x45.1.length ≤ 4611686018427387904 then some (x42 ++ x45.1) else none) fun x48 =>
    Option.bind (match x3 with | Sum.inl c62 => (post_ways_1 (c4_0, c4_1, c4_2)).map (fun v61 => v61) | Sum.inr c63 => ((post_ways_2 (c4_0, c4_1, c4_2)).map (fun v64 => v64))) fun x51 =>
    Option.bind (post_entry (x48, x51, x38, c4_1)) fun x55 =>
    Option.bind (if ((l1011.length : Int) + (x55.length : Int)) * (56 : Int) ≤ 140737488355328 ∧ (l1011.length : Int) + (x55.length : Int) ≤ 4611686018427387904 then some (l1011 ++ x55) else none) fun l1011 =>
    let x57 := IntKind.i64.wrap (x35 + (1 : Int))
    some (Sum.inl (x1, x2, x3, x33, x34, x57, c4_0, c4_1, c4_2, l1011, (), (), (), ())))
  else (
    some (Sum.inr (l1011, (), ())))
noncomputable def post_split_1_loop2 (s : ((List ((List UInt8) × Int))) × ((List UInt8)) × ((((Unit) ⊕ (Unit)))) × (List ((List UInt8) × Int)) × (Int) × (Int) × (Int) × (List UInt8) × (Int) × (List (Int)) × (Unit) × (Unit) × (Unit) × Unit) : Option ((((List ((List UInt8) × Int))) × ((List UInt8)) × ((((Unit) ⊕ (Unit)))) × (List ((List UInt8) × Int)) × (Int) × (Int) × (Int) × (List UInt8) × (Int) × (List (Int)) × (Unit) × (Unit) × (Unit) × Unit) ⊕ ((((List ((List UInt8) × Int))) × ((List UInt8)) × ((((Unit) ⊕ (Unit)))) × (Int) × (List UInt8) × (Int) × (List (Int)) × (Unit) × (Unit) × (Unit) × Unit))) :=
  let x1 := s.1
  let x2 := s.2.1
  let x3 := s.2.2.1
  let x14 := s.2.2.2.1
  let x15 := s.2.2.2.2.1
  let x16 := s.2.2.2.2.2.1
  let c4_0 := s.2.2.2.2.2.2.1
  let c4_1 := s.2.2.2.2.2.2.2.1
  let c4_2 := s.2.2.2.2.2.2.2.2.1
  let l1006 := s.2.2.2.2.2.2.2.2.2.1
  let x17 := (decide (x16 < x15))
  if x17 then (
    Option.bind ((lAt x14 x16).map (fun y => y)) fun x18 =>
    let l23 := ([x18.2] : List (Int))
    Option.bind (if ((l1006.length : Int) + (l23.length : Int)) * (8 : Int) ≤ 140737488355328 ∧ (l1006.length : Int) + (l23.length : Int) ≤ 4611686018427387904 then some (l1006 ++ l23) else none) fun l1006 =>
    let x25 := IntKind.i64.wrap (x16 + (1 : Int))
    some (Sum.inl (x1, x2, x3, x14, x15, x25, c4_0, c4_1, c4_2, l1006, (), (), (), ())))
  else (
    some (Sum.inr (x1, x2, x3, c4_0, c4_1, c4_2, l1006, (), (), (), ())))
noncomputable def post_split_1 (a : (Int × (List UInt8) × Int) × ((List ((List UInt8) × Int))) × ((List UInt8)) × ((((Unit) ⊕ (Unit))))) : Option (List ((List UInt8) × (List UInt8) × Int × (List UInt8))) :=
  let x0 := a.1
  let x1 := a.2.1
  let x2 := a.2.2.1
  let x3 := a.2.2.2
  let x15 := (x1.length : Int)
  Option.bind (iter post_split_1_loop2 (x1, x2, x3, x1, x15, (0 : Int), x0.1, x0.2.1, x0.2.2, ([] : List (Int)), (), (), (), ())) fun o =>
  let x1 := o.1
  let x2 := o.2.1
  let x3 := o.2.2.1
  let c4_0 := o.2.2.2.1
  let c4_1 := o.2.2.2.2.1
  let c4_2 := o.2.2.2.2.2.1
  let l1006 := o.2.2.2.2.2.2.1
  Option.bind (share_Split (c4_2, l1006)) fun x30 =>
  let x34 := (x30.1.length : Int)
  Option.bind (iter post_split_1_loop1 (x1, x2, x3, x30.1, x34, (0 : Int), c4_0, c4_1, c4_2, ([] : List ((List UInt8) × (List UInt8) × Int × (List UInt8))), (), (), (), ())) fun o =>
  let l1011 := o.1
  some l1011
noncomputable def post_owed_1 (a : (Int × (List UInt8) × Int) × ((List UInt8))) : Option (List ((List UInt8) × (List UInt8) × Int × (List UInt8))) :=
  let x0 := a.1
  let x1 := a.2
  Option.bind (if ([111, 119, 101, 100, 47] : List UInt8).length + x1.length ≤ 4611686018427387904 then some (([111, 119, 101, 100, 47] : List UInt8) ++ x1) else none) fun x5 =>
  Option.bind (if x5.length + ([47] : List UInt8).length ≤ 4611686018427387904 then some (x5 ++ ([47] : List UInt8)) else none) fun x6 =>
  Option.bind (if x6.length + x0.2.1.length ≤ 4611686018427387904 then some (x6 ++ x0.2.1) else none) fun x9 =>
  Option.bind (post_entry (([110, 101, 116] : List UInt8), x9, x0.2.2, x0.2.1)) fun x14 =>
  some x14
noncomputable def post_Of_loop1 (s : (List (Int × (List UInt8) × Int)) × (Int) × (Int) × (((((List ((List UInt8) × Int))) × ((List UInt8)) × ((((Unit) ⊕ (Unit))))) ⊕ (((List UInt8))))) × (((((List ((List UInt8) × Int))) × ((List UInt8)) × ((((Unit) ⊕ (Unit))))) ⊕ (((List UInt8))))) × (((((List ((List UInt8) × Int))) × ((List UInt8)) × ((((Unit) ⊕ (Unit))))) ⊕ (((List UInt8))))) × (((((List ((List UInt8) × Int))) × ((List UInt8)) × ((((Unit) ⊕ (Unit))))) ⊕ (((List UInt8))))) × (((((List ((List UInt8) × Int))) × ((List UInt8)) × ((((Unit) ⊕ (Unit))))) ⊕ (((List UInt8))))) × (((((List ((List UInt8) × Int))) × ((List UInt8)) × ((((Unit) ⊕ (Unit))))) ⊕ (((List UInt8))))) × (((((List ((List UInt8) × Int))) × ((List UInt8)) × ((((Unit) ⊕ (Unit))))) ⊕ (((List UInt8))))) × (List ((List UInt8) × (List UInt8) × Int × (List UInt8))) × (Unit) × (Unit) × (Unit) × Unit) : Option (((List (Int × (List UInt8) × Int)) × (Int) × (Int) × (((((List ((List UInt8) × Int))) × ((List UInt8)) × ((((Unit) ⊕ (Unit))))) ⊕ (((List UInt8))))) × (((((List ((List UInt8) × Int))) × ((List UInt8)) × ((((Unit) ⊕ (Unit))))) ⊕ (((List UInt8))))) × (((((List ((List UInt8) × Int))) × ((List UInt8)) × ((((Unit) ⊕ (Unit))))) ⊕ (((List UInt8))))) × (((((List ((List UInt8) × Int))) × ((List UInt8)) × ((((Unit) ⊕ (Unit))))) ⊕ (((List UInt8))))) × (((((List ((List UInt8) × Int))) × ((List UInt8)) × ((((Unit) ⊕ (Unit))))) ⊕ (((List UInt8))))) × (((((List ((List UInt8) × Int))) × ((List UInt8)) × ((((Unit) ⊕ (Unit))))) ⊕ (((List UInt8))))) × (((((List ((List UInt8) × Int))) × ((List UInt8)) × ((((Unit) ⊕ (Unit))))) ⊕ (((List UInt8))))) × (List ((List UInt8) × (List UInt8) × Int × (List UInt8))) × (Unit) × (Unit) × (Unit) × Unit) ⊕ (((List ((List UInt8) × (List UInt8) × Int × (List UInt8))) × (Unit) × Unit))) :=
  let x30 := s.1
  let x31 := s.2.1
  let x32 := s.2.2.1
  let c8_0 := s.2.2.2.1
  let c8_1 := s.2.2.2.2.1
  let c8_2 := s.2.2.2.2.2.1
  let c8_3 := s.2.2.2.2.2.2.1
  let c8_4 := s.2.2.2.2.2.2.2.1
  let c8_5 := s.2.2.2.2.2.2.2.2.1
  let c8_6 := s.2.2.2.2.2.2.2.2.2.1
  let l1009 := s.2.2.2.2.2.2.2.2.2.2.1
  let x33 := (decide (x32 < x31))
  if x33 then (
    Option.bind ((lAt x30 x32).map (fun y => y)) fun x34 =>
    Option.bind (if 0 ≤ x34.1 ∧ x34.1 < (7 : Int) then some x34.1.toNat else none) fun x39 =>
    Option.bind (([c8_0, c8_1, c8_2, c8_3, c8_4, c8_5, c8_6] : List (((((List ((List UInt8) × Int))) × ((List UInt8)) × ((((Unit) ⊕ (Unit))))) ⊕ (((List UInt8))))))[x39]?) fun x41 =>
    Option.bind (match x41 with | Sum.inl c62 => (post_split_1 ((x34.1, x34.2.1, x34.2.2), c62.1, c62.2.1, c62.2.2)).map (fun v61 => v61) | Sum.inr c63 => ((post_owed_1 ((x34.1, x34.2.1, x34.2.2), c63)).map (fun v64 => v64))) fun x43 =>
    Option.bind (if ((l1009.length : Int) + (x43.length : Int)) * (56 : Int) ≤ 140737488355328 ∧ (l1009.length : Int) + (x43.length : Int) ≤ 4611686018427387904 then some (l1009 ++ x43) else none) fun l1009 =>
    let x45 := IntKind.i64.wrap (x32 + (1 : Int))
    some (Sum.inl (x30, x31, x45, c8_0, c8_1, c8_2, c8_3, c8_4, c8_5, c8_6, l1009, (), (), (), ())))
  else (
    some (Sum.inr (l1009, (), ())))
noncomputable def post_Of (a : (Int × Int × (List (Int × (List UInt8) × Int))) × (List ((List UInt8) × Int))) : Option ((List ((List UInt8) × (List UInt8) × Int × (List UInt8))) × Int) :=
  let x0 := a.1
  let x1 := a.2
  Option.bind (slip_Check (x0.1, x0.2.1, x0.2.2)) fun x13 =>
  let x15 := (x13 != (0 : Int))
  if x15 then (
    some (([] : List ((List UInt8) × (List UInt8) × Int × (List UInt8))), x13))
  else (
    Option.bind (post_check x1) fun x18 =>
    let x20 := (x18 != (0 : Int))
    if x20 then (
      some (([] : List ((List UInt8) × (List UInt8) × Int × (List UInt8))), x18))
    else (
      Option.bind (show Option (((List ((List UInt8) × Int)) × (Int) × (Int) × (List (Int × (List UInt8) × Int)) × (Unit) × (Unit) × Unit)) from (
        let x23 := (x1.length : Int)
        let x24 := (x23 == (0 : Int))
        if x24 then (
          let l26 := ([(([102, 105, 114, 109] : List UInt8), (1 : Int))] : List ((List UInt8) × Int))
          some (l26, x0.1, x0.2.1, x0.2.2, (), (), ()))
        else (
          some (x1, x0.1, x0.2.1, x0.2.2, (), (), ())))) fun o =>
      let x1 := o.1
      let c2_0 := o.2.1
      let c2_1 := o.2.2.1
      let c2_2 := o.2.2.2.1
      Option.bind (post_ways x1) fun x28 =>
      let x31 := (c2_2.length : Int)
      Option.bind (iter post_Of_loop1 (c2_2, x31, (0 : Int), x28.1, x28.2.1, x28.2.2.1, x28.2.2.2.1, x28.2.2.2.2.1, x28.2.2.2.2.2.1, x28.2.2.2.2.2.2, ([] : List ((List UInt8) × (List UInt8) × Int × (List UInt8))), (), (), (), ())) fun o =>
      let l1009 := o.1
      some (l1009, (0 : Int))))
noncomputable def law34_awake (a : Unit) : Option (Bool) :=
  let l7 := ([((0 : Int), ([115, 97, 108, 97, 114, 121] : List UInt8), (100 : Int))] : List (Int × (List UInt8) × Int))
  let l11 := ([(([97] : List UInt8), (1 : Int)), (([98] : List UInt8), (2 : Int))] : List ((List UInt8) × Int))
  Option.bind (post_Of (((2024 : Int), (1 : Int), l7), l11)) fun x12 =>
  let l17 := ([((0 : Int), ([115, 97, 108, 97, 114, 121] : List UInt8), (-100 : Int))] : List (Int × (List UInt8) × Int))
  Option.bind (post_Of (((2024 : Int), (1 : Int), l17), ([] : List ((List UInt8) × Int)))) fun x19 =>
  let x23 := (x12.2 == (0 : Int))
  let x25 := (if x23 = true then some x12.1 else none)
  Option.bind (if x23 = true then (x25.map (fun z51 => (z51.length : Int))).map some else some none) fun x26 =>
  Option.bind (if x23 = true then ((x26.bind (fun z52 => some (z52, (2 : Int)))).map (fun z54 => (z54.1 == z54.2))).map some else some none) fun x27 =>
  Option.bind (if x23 then x27 else some false) fun x28 =>
  let x30 := (if x28 = true then some x12.1 else none)
  Option.bind (if x28 = true then ((x30.bind (fun z55 => some (z55, (1 : Int)))).bind (fun z57 => (lAt z57.1 z57.2).map (fun y => y))).map some else some none) fun x31 =>
  Option.bind (if x28 = true then (x31.map (fun z58 => z58)).map some else some none) fun x32 =>
  let x33 := (if x28 = true then some (([119, 97, 103, 101, 115, 47, 98] : List UInt8), ([110, 101, 116] : List UInt8), (67 : Int), ([115, 97, 108, 97, 114, 121] : List UInt8)) else none)
  Option.bind (if x28 = true then ((x32.bind (fun z59 => x33.map (fun z60 => (z59, z60)))).map (fun z61 => ((z61.1.1 == z61.2.1) && ((z61.1.2.1 == z61.2.2.1) && ((z61.1.2.2.1 == z61.2.2.2.1) && (z61.1.2.2.2 == z61.2.2.2.2)))))).map some else some none) fun x34 =>
  Option.bind (if x28 then x34 else some false) fun x35 =>
  let x37 := (if x35 = true then some x19.2 else none)
  Option.bind (if x35 = true then ((x37.bind (fun z62 => some (z62, (0 : Int)))).map (fun z64 => (z64.1 == z64.2))).map some else some none) fun x38 =>
  Option.bind (if x35 then x38 else some false) fun x39 =>
  let x41 := (if x39 = true then some x19.1 else none)
  Option.bind (if x39 = true then (x41.map (fun z65 => (z65.length : Int))).map some else some none) fun x42 =>
  Option.bind (if x39 = true then ((x42.bind (fun z66 => some (z66, (1 : Int)))).map (fun z68 => (z68.1 == z68.2))).map some else some none) fun x43 =>
  Option.bind (if x39 then x43 else some false) fun x44 =>
  let x46 := (if x44 = true then some x19.1 else none)
  Option.bind (if x44 = true then ((x46.bind (fun z69 => some (z69, (0 : Int)))).bind (fun z71 => (lAt z71.1 z71.2).map (fun y => y))).map some else some none) fun x47 =>
  Option.bind (if x44 = true then (x47.map (fun z72 => z72)).map some else some none) fun x48 =>
  let x49 := (if x44 = true then some (([110, 101, 116] : List UInt8), ([119, 97, 103, 101, 115, 47, 102, 105, 114, 109] : List UInt8), (100 : Int), ([115, 97, 108, 97, 114, 121] : List UInt8)) else none)
  Option.bind (if x44 = true then ((x48.bind (fun z73 => x49.map (fun z74 => (z73, z74)))).map (fun z75 => ((z75.1.1 == z75.2.1) && ((z75.1.2.1 == z75.2.2.1) && ((z75.1.2.2.1 == z75.2.2.2.1) && (z75.1.2.2.2 == z75.2.2.2.2)))))).map some else some none) fun x50 =>
  Option.bind (if x44 then x50 else some false) fun x51 =>
  some x51
noncomputable def ref25_Name_loop1 (s : (List UInt8) × (Int) × Unit) : Option (((List UInt8) × (Int) × Unit) ⊕ ((Unit) ⊕ (Bool))) :=
  let x0 := s.1
  let x3 := s.2.1
  let x17 := (x0.length : Int)
  let x18 := (decide (x3 < x17))
  if x18 then (
    Option.bind (sAt x0 x3) fun x23 =>
    let x24 := (decide (x23 ≥ (97 : Int)))
    let x26 := (if x24 = true then some x0 else none)
    let x27 := (if x24 = true then some x3 else none)
    Option.bind (if x24 = true then ((x26.bind (fun z702 => x27.map (fun z703 => (z702, z703)))).bind (fun z704 => sAt z704.1 z704.2)).map some else some none) fun x28 =>
    Option.bind (if x24 = true then ((x28.bind (fun z705 => some (z705, (122 : Int)))).map (fun z707 => (decide (z707.1 ≤ z707.2)))).map some else some none) fun x29 =>
    Option.bind (if x24 then x29 else some false) fun x30 =>
    let x32 := (if x30 = false then some x0 else none)
    let x33 := (if x30 = false then some x3 else none)
    Option.bind (if x30 = false then ((x32.bind (fun z708 => x33.map (fun z709 => (z708, z709)))).bind (fun z710 => sAt z710.1 z710.2)).map some else some none) fun x34 =>
    Option.bind (if x30 = false then ((x34.bind (fun z711 => some (z711, (48 : Int)))).map (fun z713 => (decide (z713.1 ≥ z713.2)))).map some else some none) fun x35 =>
    Option.bind (if x30 = false then x35.map some else some none) fun x36 =>
    let x37 := (if x36 = some true then some x0 else none)
    let x38 := (if x36 = some true then some x3 else none)
    Option.bind (if x36 = some true then ((x37.bind (fun z714 => x38.map (fun z715 => (z714, z715)))).bind (fun z716 => sAt z716.1 z716.2)).map some else some none) fun x39 =>
    Option.bind (if x36 = some true then ((x39.bind (fun z717 => some (z717, (57 : Int)))).map (fun z719 => (decide (z719.1 ≤ z719.2)))).map some else some none) fun x40 =>
    Option.bind (if x30 = false then (x36.bind (fun z720 => if z720 then x40 else some false)).map some else some none) fun x41 =>
    Option.bind (if x30 then some true else x41.map (fun z721 => z721)) fun x42 =>
    let x44 := (if x42 = false then some x0 else none)
    let x45 := (if x42 = false then some x3 else none)
    Option.bind (if x42 = false then ((x44.bind (fun z722 => x45.map (fun z723 => (z722, z723)))).bind (fun z724 => sAt z724.1 z724.2)).map some else some none) fun x46 =>
    Option.bind (if x42 = false then ((x46.bind (fun z725 => some (z725, (46 : Int)))).map (fun z727 => (z727.1 == z727.2))).map some else some none) fun x47 =>
    Option.bind (if x42 then some true else x47.map (fun z728 => z728)) fun x48 =>
    let x50 := (if x48 = false then some x0 else none)
    let x51 := (if x48 = false then some x3 else none)
    Option.bind (if x48 = false then ((x50.bind (fun z729 => x51.map (fun z730 => (z729, z730)))).bind (fun z731 => sAt z731.1 z731.2)).map some else some none) fun x52 =>
    Option.bind (if x48 = false then ((x52.bind (fun z732 => some (z732, (95 : Int)))).map (fun z734 => (z734.1 == z734.2))).map some else some none) fun x53 =>
    Option.bind (if x48 then some true else x53.map (fun z735 => z735)) fun x54 =>
    let x56 := (if x54 = false then some x0 else none)
    let x57 := (if x54 = false then some x3 else none)
    Option.bind (if x54 = false then ((x56.bind (fun z736 => x57.map (fun z737 => (z736, z737)))).bind (fun z738 => sAt z738.1 z738.2)).map some else some none) fun x58 =>
    Option.bind (if x54 = false then ((x58.bind (fun z739 => some (z739, (45 : Int)))).map (fun z741 => (z741.1 == z741.2))).map some else some none) fun x59 =>
    Option.bind (if x54 then some true else x59.map (fun z742 => z742)) fun x60 =>
    let x61 := (!x60)
    if x61 then (
      some (Sum.inr (Sum.inr false)))
    else (
      let x20 := IntKind.i64.wrap (x3 + (1 : Int))
      some (Sum.inl (x0, x20, ()))))
  else (
    some (Sum.inr (Sum.inl (()))))
noncomputable def ref25_Name (a : (List UInt8)) : Option (Bool) :=
  let x0 := a
  let x5 := ((x0 == ([] : List UInt8)))
  let x7 := (if x5 = false then some x0 else none)
  Option.bind (if x5 = false then ((x7.bind (fun z37 => some (z37, ([45] : List UInt8)))).map (fun z39 => ((z39.1 == z39.2)))).map some else some none) fun x8 =>
  Option.bind (if x5 then some true else x8.map (fun z40 => z40)) fun x9 =>
  let x11 := (if x9 = false then some x0 else none)
  Option.bind (if x9 = false then (x11.map (fun z41 => (z41.length : Int))).map some else some none) fun x12 =>
  Option.bind (if x9 = false then ((x12.bind (fun z42 => some (z42, (32 : Int)))).map (fun z44 => (decide (z44.1 > z44.2)))).map some else some none) fun x13 =>
  Option.bind (if x9 then some true else x13.map (fun z45 => z45)) fun x14 =>
  if x14 then (
    some false)
  else (
    Option.bind (iter ref25_Name_loop1 (x0, (0 : Int), ())) fun o =>
    match o with
    | Sum.inl p743 => (
      some true)
    | Sum.inr q744 => (
      some q744))
noncomputable def law34_check_loop1 (s : (List ((List UInt8) × Int)) × (Int) × (Int) × Unit) : Option (((List ((List UInt8) × Int)) × (Int) × (Int) × Unit) ⊕ (((List ((List UInt8) × Int)) × (Int) × Unit) ⊕ (Int))) :=
  let x0 := s.1
  let x3 := s.2.1
  let x4 := s.2.2.1
  let x37 := (decide (x4 < x3))
  if x37 then (
    Option.bind ((lAt x0 x4).map (fun y => y)) fun x42 =>
    Option.bind ((lAt x0 x3).map (fun y => y)) fun x47 =>
    let x50 := ((x42.1 == x47.1))
    if x50 then (
      some (Sum.inr (Sum.inr (7 : Int))))
    else (
      let x39 := IntKind.i64.wrap (x4 + (1 : Int))
      some (Sum.inl (x0, x3, x39, ()))))
  else (
    some (Sum.inr (Sum.inl (x0, x3, ()))))
noncomputable def law34_check_loop2 (s : (List ((List UInt8) × Int)) × (Int) × Unit) : Option (((List ((List UInt8) × Int)) × (Int) × Unit) ⊕ ((Unit) ⊕ (Int))) :=
  let x0 := s.1
  let x3 := s.2.1
  let x10 := (x0.length : Int)
  let x11 := (decide (x3 < x10))
  if x11 then (
    Option.bind ((lAt x0 x3).map (fun y => y)) fun x16 =>
    Option.bind (ref25_Name x16.1) fun x19 =>
    let x20 := (!x19)
    if x20 then (
      some (Sum.inr (Sum.inr (12 : Int))))
    else (
      Option.bind ((lAt x0 x3).map (fun y => y)) fun x23 =>
      let x26 := (decide (x23.2 < (1 : Int)))
      let x28 := (if x26 = false then some x0 else none)
      let x29 := (if x26 = false then some x3 else none)
      Option.bind (if x26 = false then ((x28.bind (fun z163 => x29.map (fun z164 => (z163, z164)))).bind (fun z165 => (lAt z165.1 z165.2).map (fun y => y))).map some else some none) fun x30 =>
      Option.bind (if x26 = false then (x30.map (fun z166 => z166.2)).map some else some none) fun x31 =>
      Option.bind (if x26 = false then (x31.map (fun z167 => z167)).map some else some none) fun x32 =>
      Option.bind (if x26 = false then ((x32.bind (fun z168 => some (z168, (1000000 : Int)))).map (fun z170 => (decide (z170.1 > z170.2)))).map some else some none) fun x33 =>
      Option.bind (if x26 then some true else x33.map (fun z171 => z171)) fun x34 =>
      if x34 then (
        some (Sum.inr (Sum.inr (2 : Int))))
      else (
        Option.bind (iter law34_check_loop1 (x0, x3, (0 : Int), ())) fun o =>
        match o with
        | Sum.inl p172 => (
          let x0 := p172.1
          let x3 := p172.2.1
          let x13 := IntKind.i64.wrap (x3 + (1 : Int))
          some (Sum.inl (x0, x13, ())))
        | Sum.inr q173 => (
          some (Sum.inr (Sum.inr q173))))))
  else (
    some (Sum.inr (Sum.inl (()))))
noncomputable def law34_check (a : (List ((List UInt8) × Int))) : Option (Int) :=
  let x0 := a
  let x6 := (x0.length : Int)
  let x7 := (decide (x6 > (64 : Int)))
  if x7 then (
    some (5 : Int))
  else (
    Option.bind (iter law34_check_loop2 (x0, (0 : Int), ())) fun o =>
    match o with
    | Sum.inl p174 => (
      some (0 : Int))
    | Sum.inr q175 => (
      some q175))
noncomputable def law34_entry_0 (a : (List UInt8) × (List UInt8) × Int × (List UInt8)) : Option ((List UInt8) × (List UInt8) × Int × (List UInt8)) :=
  let x0 := a.1
  let x1 := a.2.1
  let x2 := a.2.2.1
  let x3 := a.2.2.2
  let x10 := (decide (x2 < (0 : Int)))
  if x10 then (
    none)
  else (
    some (x0, x1, x2, x3))
noncomputable def law34_entry (a : (List UInt8) × (List UInt8) × Int × (List UInt8)) : Option ((List UInt8) × (List UInt8) × Int × (List UInt8)) :=
  let x0 := a.1
  let x1 := a.2.1
  let x2 := a.2.2.1
  let x3 := a.2.2.2
  let x10 := (decide (x2 < (0 : Int)))
  if x10 then (
    let x14 := IntKind.i64.wrap (0 - x2)
    Option.bind (law34_entry_0 (x1, x0, x14, x3)) fun x16 =>
    some (x16.1, x16.2.1, x16.2.2.1, x16.2.2.2))
  else (
    some (x0, x1, x2, x3))
noncomputable def law34_entries_loop1 (s : (List ((List UInt8) × Int)) × (List (Int)) × (Int) × (List UInt8) × (List UInt8) × (List (Int)) × (Int) × (Int) × (Int) × (List (Int × (List UInt8) × Int)) × (Int) × (List UInt8) × (Int) × (List (List UInt8)) × (List ((List UInt8) × (List UInt8) × Int × (List UInt8))) × (Unit) × (Unit) × (Unit) × (Unit) × (Unit) × (Unit) × Unit) : Option (((List ((List UInt8) × Int)) × (List (Int)) × (Int) × (List UInt8) × (List UInt8) × (List (Int)) × (Int) × (Int) × (Int) × (List (Int × (List UInt8) × Int)) × (Int) × (List UInt8) × (Int) × (List (List UInt8)) × (List ((List UInt8) × (List UInt8) × Int × (List UInt8))) × (Unit) × (Unit) × (Unit) × (Unit) × (Unit) × (Unit) × Unit) ⊕ (((List ((List UInt8) × Int)) × (List (Int)) × (Int) × (Int) × (Int) × (List (Int × (List UInt8) × Int)) × (List (List UInt8)) × (List ((List UInt8) × (List UInt8) × Int × (List UInt8))) × (Unit) × (Unit) × (Unit) × (Unit) × Unit))) :=
  let x1 := s.1
  let x5 := s.2.1
  let x9 := s.2.2.1
  let x11 := s.2.2.2.1
  let x12 := s.2.2.2.2.1
  let x13 := s.2.2.2.2.2.1
  let x15 := s.2.2.2.2.2.2.1
  let c2_0 := s.2.2.2.2.2.2.2.1
  let c2_1 := s.2.2.2.2.2.2.2.2.1
  let c2_2 := s.2.2.2.2.2.2.2.2.2.1
  let c10_0 := s.2.2.2.2.2.2.2.2.2.2.1
  let c10_1 := s.2.2.2.2.2.2.2.2.2.2.2.1
  let c10_2 := s.2.2.2.2.2.2.2.2.2.2.2.2.1
  let l35 := s.2.2.2.2.2.2.2.2.2.2.2.2.2.1
  let l1008 := s.2.2.2.2.2.2.2.2.2.2.2.2.2.2.1
  let x89 := (x13.length : Int)
  let x90 := (decide (x15 < x89))
  if x90 then (
    Option.bind (show Option (((List ((List UInt8) × Int)) × (List (Int)) × (Int) × (List UInt8) × (List UInt8) × (List (Int)) × (Int) × (Int) × (Int) × (List (Int × (List UInt8) × Int)) × (Int) × (List UInt8) × (Int) × (List (List UInt8)) × (List ((List UInt8) × (List UInt8) × Int × (List UInt8))) × (Unit) × (Unit) × (Unit) × (Unit) × (Unit) × (Unit) × Unit)) from (
      Option.bind ((lAt x13 x15).map (fun y => y)) fun x95 =>
      let x97 := (x95 != (0 : Int))
      if x97 then (
        Option.bind ((lAt x1 x15).map (fun y => y)) fun x102 =>
        Option.bind (if x11.length + x102.1.length ≤ 4611686018427387904 then some (x11 ++ x102.1) else none) fun x105 =>
        Option.bind ((lAt x13 x15).map (fun y => y)) fun x109 =>
        Option.bind (law34_entry (x105, x12, x109, c10_1)) fun x113 =>
        let l114 := ([x113] : List ((List UInt8) × (List UInt8) × Int × (List UInt8)))
        Option.bind (if ((l1008.length : Int) + (l114.length : Int)) * (56 : Int) ≤ 140737488355328 ∧ (l1008.length : Int) + (l114.length : Int) ≤ 4611686018427387904 then some (l1008 ++ l114) else none) fun l1008 =>
        some (x1, x5, x9, x11, x12, x13, x15, c2_0, c2_1, c2_2, c10_0, c10_1, c10_2, l35, l1008, (), (), (), (), (), (), ()))
      else (
        some (x1, x5, x9, x11, x12, x13, x15, c2_0, c2_1, c2_2, c10_0, c10_1, c10_2, l35, l1008, (), (), (), (), (), (), ())))) fun o =>
    let x1 := o.1
    let x5 := o.2.1
    let x9 := o.2.2.1
    let x11 := o.2.2.2.1
    let x12 := o.2.2.2.2.1
    let x13 := o.2.2.2.2.2.1
    let x15 := o.2.2.2.2.2.2.1
    let c2_0 := o.2.2.2.2.2.2.2.1
    let c2_1 := o.2.2.2.2.2.2.2.2.1
    let c2_2 := o.2.2.2.2.2.2.2.2.2.1
    let c10_0 := o.2.2.2.2.2.2.2.2.2.2.1
    let c10_1 := o.2.2.2.2.2.2.2.2.2.2.2.1
    let c10_2 := o.2.2.2.2.2.2.2.2.2.2.2.2.1
    let l35 := o.2.2.2.2.2.2.2.2.2.2.2.2.2.1
    let l1008 := o.2.2.2.2.2.2.2.2.2.2.2.2.2.2.1
    let x92 := IntKind.i64.wrap (x15 + (1 : Int))
    some (Sum.inl (x1, x5, x9, x11, x12, x13, x92, c2_0, c2_1, c2_2, c10_0, c10_1, c10_2, l35, l1008, (), (), (), (), (), (), ())))
  else (
    some (Sum.inr (x1, x5, x9, c2_0, c2_1, c2_2, l35, l1008, (), (), (), (), ())))
noncomputable def law34_entries_loop2 (s : (List ((List UInt8) × Int)) × (List (Int)) × (Int) × (Int) × (Int) × (List (Int × (List UInt8) × Int)) × (List (List UInt8)) × (List ((List UInt8) × (List UInt8) × Int × (List UInt8))) × (Unit) × (Unit) × (Unit) × (Unit) × Unit) : Option (((List ((List UInt8) × Int)) × (List (Int)) × (Int) × (Int) × (Int) × (List (Int × (List UInt8) × Int)) × (List (List UInt8)) × (List ((List UInt8) × (List UInt8) × Int × (List UInt8))) × (Unit) × (Unit) × (Unit) × (Unit) × Unit) ⊕ (((List ((List UInt8) × (List UInt8) × Int × (List UInt8))) × (Unit) × Unit))) :=
  let x1 := s.1
  let x5 := s.2.1
  let x9 := s.2.2.1
  let c2_0 := s.2.2.2.1
  let c2_1 := s.2.2.2.2.1
  let c2_2 := s.2.2.2.2.2.1
  let l35 := s.2.2.2.2.2.2.1
  let l1008 := s.2.2.2.2.2.2.2.1
  let x39 := (c2_2.length : Int)
  let x40 := (decide (x9 < x39))
  if x40 then (
    Option.bind (show Option (((List ((List UInt8) × Int)) × (List (Int)) × (Int) × (Int) × (Int) × (List (Int × (List UInt8) × Int)) × (List (List UInt8)) × (List ((List UInt8) × (List UInt8) × Int × (List UInt8))) × (Unit) × (Unit) × (Unit) × (Unit) × Unit)) from (
      Option.bind ((lAt c2_2 x9).map (fun y => y)) fun x46 =>
      let x50 := (x46.1 != (0 : Int))
      let x52 := (if x50 = true then some () else none)
      Option.bind (if x50 = true then (x52.map (fun z89 => x46.1)).map some else some none) fun x53 =>
      Option.bind (if x50 = true then ((x53.bind (fun z90 => some (z90, (6 : Int)))).map (fun z92 => (z92.1 != z92.2))).map some else some none) fun x54 =>
      Option.bind (if x50 then x54 else some false) fun x55 =>
      if x55 then (
        Option.bind (if 0 ≤ x46.1 ∧ x46.1 < (l35.length : Int) then some x46.1.toNat else none) fun x60 =>
        Option.bind ((l35[x60]?).map (fun y => y)) fun x61 =>
        Option.bind (if ([111, 119, 101, 100, 47] : List UInt8).length + x61.length ≤ 4611686018427387904 then some (([111, 119, 101, 100, 47] : List UInt8) ++ x61) else none) fun x62 =>
        Option.bind (if x62.length + ([47] : List UInt8).length ≤ 4611686018427387904 then some (x62 ++ ([47] : List UInt8)) else none) fun x63 =>
        Option.bind (if x63.length + x46.2.1.length ≤ 4611686018427387904 then some (x63 ++ x46.2.1) else none) fun x66 =>
        Option.bind (law34_entry (([110, 101, 116] : List UInt8), x66, x46.2.2, x46.2.1)) fun x71 =>
        let l72 := ([x71] : List ((List UInt8) × (List UInt8) × Int × (List UInt8)))
        Option.bind (if ((l1008.length : Int) + (l72.length : Int)) * (56 : Int) ≤ 140737488355328 ∧ (l1008.length : Int) + (l72.length : Int) ≤ 4611686018427387904 then some (l1008 ++ l72) else none) fun l1008 =>
        some (x1, x5, x9, c2_0, c2_1, c2_2, l35, l1008, (), (), (), (), ()))
      else (
        let x11 := ([119, 97, 103, 101, 115, 47] : List UInt8)
        let x12 := ([110, 101, 116] : List UInt8)
        Option.bind (show Option (((List ((List UInt8) × Int)) × (List (Int)) × (Int) × (List UInt8) × (List UInt8) × (Int) × (Int) × (List (Int × (List UInt8) × Int)) × (Int) × (List UInt8) × (Int) × (List (List UInt8)) × (List ((List UInt8) × (List UInt8) × Int × (List UInt8))) × (Unit) × (Unit) × (Unit) × (Unit) × (Unit) × (Unit) × Unit)) from (
          let x76 := (x46.1 == (6 : Int))
          if x76 then (
            Option.bind (if ([111, 119, 101, 100, 47, 115, 111, 99, 105, 97, 108, 47] : List UInt8).length + x46.2.1.length ≤ 4611686018427387904 then some (([111, 119, 101, 100, 47, 115, 111, 99, 105, 97, 108, 47] : List UInt8) ++ x46.2.1) else none) fun x79 =>
            let x11 := ([102, 105, 114, 109, 47] : List UInt8)
            some (x1, x5, x9, x11, x79, c2_0, c2_1, c2_2, x46.1, x46.2.1, x46.2.2, l35, l1008, (), (), (), (), (), (), ()))
          else (
            some (x1, x5, x9, x11, x12, c2_0, c2_1, c2_2, x46.1, x46.2.1, x46.2.2, l35, l1008, (), (), (), (), (), (), ())))) fun o =>
        let x1 := o.1
        let x5 := o.2.1
        let x9 := o.2.2.1
        let x11 := o.2.2.2.1
        let x12 := o.2.2.2.2.1
        let c2_0 := o.2.2.2.2.2.1
        let c2_1 := o.2.2.2.2.2.2.1
        let c2_2 := o.2.2.2.2.2.2.2.1
        let c10_0 := o.2.2.2.2.2.2.2.2.1
        let c10_1 := o.2.2.2.2.2.2.2.2.2.1
        let c10_2 := o.2.2.2.2.2.2.2.2.2.2.1
        let l35 := o.2.2.2.2.2.2.2.2.2.2.2.1
        let l1008 := o.2.2.2.2.2.2.2.2.2.2.2.2.1
        Option.bind (share_Split (c10_2, x5)) fun x84 =>
        Option.bind (iter law34_entries_loop1 (x1, x5, x9, x11, x12, x84.1, (0 : Int), c2_0, c2_1, c2_2, c10_0, c10_1, c10_2, l35, l1008, (), (), (), (), (), (), ())) fun o =>
        let x1 := o.1
        let x5 := o.2.1
        let x9 := o.2.2.1
        let c2_0 := o.2.2.2.1
        let c2_1 := o.2.2.2.2.1
        let c2_2 := o.2.2.2.2.2.1
        let l35 := o.2.2.2.2.2.2.1
        let l1008 := o.2.2.2.2.2.2.2.1
        some (x1, x5, x9, c2_0, c2_1, c2_2, l35, l1008, (), (), (), (), ())))) fun o =>
    let x1 := o.1
    let x5 := o.2.1
    let x9 := o.2.2.1
    let c2_0 := o.2.2.2.1
    let c2_1 := o.2.2.2.2.1
    let c2_2 := o.2.2.2.2.2.1
    let l35 := o.2.2.2.2.2.2.1
    let l1008 := o.2.2.2.2.2.2.2.1
    let x42 := IntKind.i64.wrap (x9 + (1 : Int))
    some (Sum.inl (x1, x5, x42, c2_0, c2_1, c2_2, l35, l1008, (), (), (), (), ())))
  else (
    some (Sum.inr (l1008, (), ())))
noncomputable def law34_entries_loop3 (s : (List ((List UInt8) × Int)) × (Int) × (Int) × (Int) × (List (Int × (List UInt8) × Int)) × (List (Int)) × (Unit) × (Unit) × (Unit) × Unit) : Option (((List ((List UInt8) × Int)) × (Int) × (Int) × (Int) × (List (Int × (List UInt8) × Int)) × (List (Int)) × (Unit) × (Unit) × (Unit) × Unit) ⊕ (((List ((List UInt8) × Int)) × (Int) × (Int) × (List (Int × (List UInt8) × Int)) × (List (Int)) × (Unit) × (Unit) × (Unit) × Unit))) :=
  let x1 := s.1
  let x6 := s.2.1
  let c2_0 := s.2.2.1
  let c2_1 := s.2.2.2.1
  let c2_2 := s.2.2.2.2.1
  let l1005 := s.2.2.2.2.2.1
  let x23 := (x1.length : Int)
  let x24 := (decide (x6 < x23))
  if x24 then (
    Option.bind ((lAt x1 x6).map (fun y => y)) fun x30 =>
    let l33 := ([x30.2] : List (Int))
    Option.bind (if ((l1005.length : Int) + (l33.length : Int)) * (8 : Int) ≤ 140737488355328 ∧ (l1005.length : Int) + (l33.length : Int) ≤ 4611686018427387904 then some (l1005 ++ l33) else none) fun l1005 =>
    let x26 := IntKind.i64.wrap (x6 + (1 : Int))
    some (Sum.inl (x1, x26, c2_0, c2_1, c2_2, l1005, (), (), (), ())))
  else (
    some (Sum.inr (x1, c2_0, c2_1, c2_2, l1005, (), (), (), ())))
noncomputable def law34_entries (a : (Int × Int × (List (Int × (List UInt8) × Int))) × (List ((List UInt8) × Int))) : Option (List ((List UInt8) × (List UInt8) × Int × (List UInt8))) :=
  let x0 := a.1
  let x1 := a.2
  Option.bind (show Option (((List ((List UInt8) × Int)) × (Int) × (Int) × (List (Int × (List UInt8) × Int)) × (Unit) × (Unit) × Unit)) from (
    let x17 := (x1.length : Int)
    let x18 := (x17 == (0 : Int))
    if x18 then (
      let l20 := ([(([102, 105, 114, 109] : List UInt8), (1 : Int))] : List ((List UInt8) × Int))
      some (l20, x0.1, x0.2.1, x0.2.2, (), (), ()))
    else (
      some (x1, x0.1, x0.2.1, x0.2.2, (), (), ())))) fun o =>
  let x1 := o.1
  let c2_0 := o.2.1
  let c2_1 := o.2.2.1
  let c2_2 := o.2.2.2.1
  Option.bind (iter law34_entries_loop3 (x1, (0 : Int), c2_0, c2_1, c2_2, ([] : List (Int)), (), (), (), ())) fun o =>
  let x1 := o.1
  let c2_0 := o.2.1
  let c2_1 := o.2.2.1
  let c2_2 := o.2.2.2.1
  let l1005 := o.2.2.2.2.1
  let l35 := ([([] : List UInt8), ([98, 101, 102, 111, 114, 101] : List UInt8), ([119, 111, 114, 107, 101, 114] : List UInt8), ([116, 97, 120] : List UInt8), ([97, 102, 116, 101, 114] : List UInt8), ([111, 114, 100, 101, 114, 115] : List UInt8), ([] : List UInt8)] : List (List UInt8))
  Option.bind (iter law34_entries_loop2 (x1, l1005, (0 : Int), c2_0, c2_1, c2_2, l35, ([] : List ((List UInt8) × (List UInt8) × Int × (List UInt8))), (), (), (), (), ())) fun o =>
  let l1008 := o.1
  some l1008
noncomputable def law34_same_loop1 (s : (List ((List UInt8) × (List UInt8) × Int × (List UInt8))) × (List ((List UInt8) × (List UInt8) × Int × (List UInt8))) × (Int) × Unit) : Option (((List ((List UInt8) × (List UInt8) × Int × (List UInt8))) × (List ((List UInt8) × (List UInt8) × Int × (List UInt8))) × (Int) × Unit) ⊕ ((Unit) ⊕ (Bool))) :=
  let x0 := s.1
  let x1 := s.2.1
  let x5 := s.2.2.1
  let x13 := (x0.length : Int)
  let x14 := (decide (x5 < x13))
  if x14 then (
    Option.bind ((lAt x0 x5).map (fun y => y)) fun x19 =>
    Option.bind ((lAt x1 x5).map (fun y => y)) fun x23 =>
    let x25 := (!((x19.1 == x23.1) && ((x19.2.1 == x23.2.1) && ((x19.2.2.1 == x23.2.2.1) && (x19.2.2.2 == x23.2.2.2)))))
    if x25 then (
      some (Sum.inr (Sum.inr false)))
    else (
      let x16 := IntKind.i64.wrap (x5 + (1 : Int))
      some (Sum.inl (x0, x1, x16, ()))))
  else (
    some (Sum.inr (Sum.inl (()))))
noncomputable def law34_same (a : (List ((List UInt8) × (List UInt8) × Int × (List UInt8))) × (List ((List UInt8) × (List UInt8) × Int × (List UInt8)))) : Option (Bool) :=
  let x0 := a.1
  let x1 := a.2
  let x7 := (x0.length : Int)
  let x9 := (x1.length : Int)
  let x10 := (x7 != x9)
  if x10 then (
    some false)
  else (
    Option.bind (iter law34_same_loop1 (x0, x1, (0 : Int), ())) fun o =>
    match o with
    | Sum.inl p1 => (
      some true)
    | Sum.inr q2 => (
      some q2))
noncomputable def law34_PostOf (a : (Int × Int × (List (Int × (List UInt8) × Int))) × (List ((List UInt8) × Int))) : Option (Bool) :=
  let x0 := a.1
  let x1 := a.2
  Option.bind (law34_great ((x0.1, x0.2.1, x0.2.2), x1)) fun x10 =>
  if x10 then (
    Option.bind (law34_awake ()) fun x11 =>
    some x11)
  else (
    Option.bind (post_Of ((x0.1, x0.2.1, x0.2.2), x1)) fun x15 =>
    Option.bind (slip_Check (x0.1, x0.2.1, x0.2.2)) fun x19 =>
    Option.bind (show Option (((List ((List UInt8) × Int)) × (List ((List UInt8) × (List UInt8) × Int × (List UInt8))) × (Int) × (Int) × (Int) × (Int) × (List (Int × (List UInt8) × Int)) × (Unit) × (Unit) × Unit)) from (
      let x21 := (x19 == (0 : Int))
      if x21 then (
        Option.bind (law34_check x1) fun x23 =>
        some (x1, x15.1, x15.2, x23, x0.1, x0.2.1, x0.2.2, (), (), ()))
      else (
        some (x1, x15.1, x15.2, x19, x0.1, x0.2.1, x0.2.2, (), (), ())))) fun o =>
    let x1 := o.1
    let x5 := o.2.1
    let x6 := o.2.2.1
    let x7 := o.2.2.2.1
    let c2_0 := o.2.2.2.2.1
    let c2_1 := o.2.2.2.2.2.1
    let c2_2 := o.2.2.2.2.2.2.1
    let x25 := (x7 != (0 : Int))
    if x25 then (
      let x28 := (x6 == x7)
      let x30 := (if x28 = true then some x5 else none)
      Option.bind (if x28 = true then (x30.map (fun z17 => (z17.length : Int))).map some else some none) fun x31 =>
      Option.bind (if x28 = true then ((x31.bind (fun z18 => some (z18, (0 : Int)))).map (fun z20 => (z20.1 == z20.2))).map some else some none) fun x32 =>
      Option.bind (if x28 then x32 else some false) fun x33 =>
      Option.bind (if x33 = true then (law34_awake ()).map some else some none) fun x35 =>
      Option.bind (if x33 then x35 else some false) fun x36 =>
      some x36)
    else (
      let x38 := (x6 == (0 : Int))
      let x40 := (if x38 = true then some x5 else none)
      let x41 := (if x38 = true then some (c2_0, c2_1, c2_2) else none)
      let x42 := (if x38 = true then some x1 else none)
      Option.bind (if x38 = true then (((x41.bind (fun z37 => x42.map (fun z38 => (z37, z38)))).map (fun z39 => (z39.1, z39.2))).bind (fun z40 => law34_entries z40)).map some else some none) fun x43 =>
      Option.bind (if x38 = true then (((x40.bind (fun z41 => x43.map (fun z42 => (z41, z42)))).map (fun z43 => (z43.1, z43.2))).bind (fun z44 => law34_same z44)).map some else some none) fun x44 =>
      Option.bind (if x38 then x44 else some false) fun x45 =>
      Option.bind (if x45 = true then (law34_awake ()).map some else some none) fun x47 =>
      Option.bind (if x45 then x47 else some false) fun x48 =>
      some x48))
noncomputable def law34_PostTurns_loop1 (s : (List ((List UInt8) × (List UInt8) × Int × (List UInt8))) × (List ((List UInt8) × (List UInt8) × Int × (List UInt8))) × (Int) × Unit) : Option (((List ((List UInt8) × (List UInt8) × Int × (List UInt8))) × (List ((List UInt8) × (List UInt8) × Int × (List UInt8))) × (Int) × Unit) ⊕ ((Unit) ⊕ (Bool))) :=
  let x8 := s.1
  let x10 := s.2.1
  let x12 := s.2.2.1
  let x72 := (x8.length : Int)
  let x73 := (decide (x12 < x72))
  if x73 then (
    Option.bind ((lAt x10 x12).map (fun y => y)) fun x78 =>
    Option.bind ((lAt x8 x12).map (fun y => y)) fun x82 =>
    Option.bind ((lAt x8 x12).map (fun y => y)) fun x87 =>
    Option.bind ((lAt x8 x12).map (fun y => y)) fun x92 =>
    Option.bind ((lAt x8 x12).map (fun y => y)) fun x97 =>
    let x101 := (!((x78.1 == x82.2.1) && ((x78.2.1 == x87.1) && ((x78.2.2.1 == x92.2.2.1) && (x78.2.2.2 == x97.2.2.2)))))
    if x101 then (
      some (Sum.inr (Sum.inr false)))
    else (
      let x75 := IntKind.i64.wrap (x12 + (1 : Int))
      some (Sum.inl (x8, x10, x75, ()))))
  else (
    some (Sum.inr (Sum.inl (()))))
noncomputable def law34_PostTurns_loop2 (s : (List ((List UInt8) × Int)) × (Int) × (Int) × (Int) × (List (Int × (List UInt8) × Int)) × (Int) × (Int) × (List (Int × (List UInt8) × Int)) × (Unit) × (Unit) × (Unit) × (Unit) × (Unit) × Unit) : Option (((List ((List UInt8) × Int)) × (Int) × (Int) × (Int) × (List (Int × (List UInt8) × Int)) × (Int) × (Int) × (List (Int × (List UInt8) × Int)) × (Unit) × (Unit) × (Unit) × (Unit) × (Unit) × Unit) ⊕ (((List ((List UInt8) × Int)) × (Int) × (Int) × (List (Int × (List UInt8) × Int)) × (Int) × (Int) × (List (Int × (List UInt8) × Int)) × (Unit) × (Unit) × (Unit) × (Unit) × (Unit) × Unit) ⊕ (Bool))) :=
  let x1 := s.1
  let x6 := s.2.1
  let c2_0 := s.2.2.1
  let c2_1 := s.2.2.2.1
  let c2_2 := s.2.2.2.2.1
  let c5_0 := s.2.2.2.2.2.1
  let c5_1 := s.2.2.2.2.2.2.1
  let l100502 := s.2.2.2.2.2.2.2.1
  let x25 := (c2_2.length : Int)
  let x26 := (decide (x6 < x25))
  if x26 then (
    Option.bind ((lAt c2_2 x6).map (fun y => y)) fun x32 =>
    let x36 := (decide (x32.2.2 < (-1152921504606846976 : Int)))
    if x36 then (
      Option.bind (law34_awake ()) fun x37 =>
      some (Sum.inr (Sum.inr x37)))
    else (
      let x40 := IntKind.i64.wrap (0 - x32.2.2)
      let l45 := ([(x32.1, x32.2.1, x40)] : List (Int × (List UInt8) × Int))
      Option.bind (if ((l100502.length : Int) + (l45.length : Int)) * (32 : Int) ≤ 140737488355328 ∧ (l100502.length : Int) + (l45.length : Int) ≤ 4611686018427387904 then some (l100502 ++ l45) else none) fun l100502 =>
      let x28 := IntKind.i64.wrap (x6 + (1 : Int))
      some (Sum.inl (x1, x28, c2_0, c2_1, c2_2, c5_0, c5_1, l100502, (), (), (), (), (), ()))))
  else (
    some (Sum.inr (Sum.inl (x1, c2_0, c2_1, c2_2, c5_0, c5_1, l100502, (), (), (), (), (), ()))))
noncomputable def law34_PostTurns (a : (Int × Int × (List (Int × (List UInt8) × Int))) × (List ((List UInt8) × Int))) : Option (Bool) :=
  let x0 := a.1
  let x1 := a.2
  Option.bind (law34_great ((x0.1, x0.2.1, x0.2.2), x1)) fun x15 =>
  if x15 then (
    Option.bind (law34_awake ()) fun x16 =>
    some x16)
  else (
    Option.bind (iter law34_PostTurns_loop2 (x1, (0 : Int), x0.1, x0.2.1, x0.2.2, x0.1, x0.2.1, ([] : List (Int × (List UInt8) × Int)), (), (), (), (), (), ())) fun o =>
    match o with
    | Sum.inl p1 => (
      let x1 := p1.1
      let c2_0 := p1.2.1
      let c2_1 := p1.2.2.1
      let c2_2 := p1.2.2.2.1
      let c5_0 := p1.2.2.2.2.1
      let c5_1 := p1.2.2.2.2.2.1
      let l100502 := p1.2.2.2.2.2.2.1
      Option.bind (post_Of ((c2_0, c2_1, c2_2), x1)) fun x51 =>
      Option.bind (post_Of ((c5_0, c5_1, l100502), x1)) fun x57 =>
      let x62 := (x51.2 != x57.2)
      let x64 := (if x62 = false then some x51.1 else none)
      Option.bind (if x62 = false then (x64.map (fun z27 => (z27.length : Int))).map some else some none) fun x65 =>
      let x66 := (if x62 = false then some x57.1 else none)
      Option.bind (if x62 = false then (x66.map (fun z28 => (z28.length : Int))).map some else some none) fun x67 =>
      Option.bind (if x62 = false then ((x65.bind (fun z29 => x67.map (fun z30 => (z29, z30)))).map (fun z31 => (z31.1 != z31.2))).map some else some none) fun x68 =>
      Option.bind (if x62 then some true else x68.map (fun z32 => z32)) fun x69 =>
      if x69 then (
        some false)
      else (
        Option.bind (iter law34_PostTurns_loop1 (x51.1, x57.1, (0 : Int), ())) fun o =>
        match o with
        | Sum.inl p33 => (
          Option.bind (law34_awake ()) fun x102 =>
          some x102)
        | Sum.inr q34 => (
          some q34)))
    | Sum.inr q2 => (
      some q2))
noncomputable def law34_begins (a : (List UInt8) × (List UInt8)) : Option (Bool) :=
  let x0 := a.1
  let x1 := a.2
  let x6 := (x0.length : Int)
  let x8 := (x1.length : Int)
  let x9 := (decide (x6 ≥ x8))
  let x11 := (if x9 = true then some x0 else none)
  let x12 := (if x9 = true then some x1 else none)
  Option.bind (if x9 = true then (x12.map (fun z17 => (z17.length : Int))).map some else some none) fun x13 =>
  Option.bind (if x9 = true then (((x11.bind (fun z18 => x13.map (fun z19 => (z18, z19)))).map (fun z20 => (z20.1, (0 : Int), z20.2))).bind (fun z21 => lSub z21.1 z21.2.1 z21.2.2)).map some else some none) fun x14 =>
  let x15 := (if x9 = true then some x1 else none)
  Option.bind (if x9 = true then ((x14.bind (fun z22 => x15.map (fun z23 => (z22, z23)))).map (fun z24 => ((z24.1 == z24.2)))).map some else some none) fun x16 =>
  Option.bind (if x9 then x16 else some false) fun x17 =>
  some x17
noncomputable def law34_sum_loop1 (s : (List ((List UInt8) × (List UInt8) × Int × (List UInt8))) × (List UInt8) × (Int) × (Int) × Unit) : Option (((List ((List UInt8) × (List UInt8) × Int × (List UInt8))) × (List UInt8) × (Int) × (Int) × Unit) ⊕ (((Int) × Unit))) :=
  let x0 := s.1
  let x1 := s.2.1
  let x5 := s.2.2.1
  let x6 := s.2.2.2.1
  let x9 := (x0.length : Int)
  let x10 := (decide (x6 < x9))
  if x10 then (
    Option.bind (show Option (((List ((List UInt8) × (List UInt8) × Int × (List UInt8))) × (List UInt8) × (Int) × (Int) × Unit)) from (
      Option.bind (show Option (((List ((List UInt8) × (List UInt8) × Int × (List UInt8))) × (List UInt8) × (Int) × (Int) × Unit)) from (
        Option.bind ((lAt x0 x6).map (fun y => y)) fun x15 =>
        Option.bind (law34_begins (x15.1, x1)) fun x19 =>
        if x19 then (
          Option.bind ((lAt x0 x6).map (fun y => y)) fun x23 =>
          let x26 := IntKind.i64.wrap (x5 + x23.2.2.1)
          some (x0, x1, x26, x6, ()))
        else (
          some (x0, x1, x5, x6, ())))) fun o =>
      let x0 := o.1
      let x1 := o.2.1
      let x5 := o.2.2.1
      let x6 := o.2.2.2.1
      Option.bind ((lAt x0 x6).map (fun y => y)) fun x29 =>
      Option.bind (law34_begins (x29.2.1, x1)) fun x33 =>
      if x33 then (
        Option.bind ((lAt x0 x6).map (fun y => y)) fun x37 =>
        let x40 := IntKind.i64.wrap (x5 - x37.2.2.1)
        some (x0, x1, x40, x6, ()))
      else (
        some (x0, x1, x5, x6, ())))) fun o =>
    let x0 := o.1
    let x1 := o.2.1
    let x5 := o.2.2.1
    let x6 := o.2.2.2.1
    let x12 := IntKind.i64.wrap (x6 + (1 : Int))
    some (Sum.inl (x0, x1, x5, x12, ())))
  else (
    some (Sum.inr (x5, ())))
noncomputable def law34_sum (a : (List ((List UInt8) × (List UInt8) × Int × (List UInt8))) × (List UInt8)) : Option (Int) :=
  let x0 := a.1
  let x1 := a.2
  Option.bind (iter law34_sum_loop1 (x0, x1, (0 : Int), (0 : Int), ())) fun o =>
  let x5 := o.1
  some x5
noncomputable def law34_held_loop1 (s : (List ((List UInt8) × (List UInt8) × Int × (List UInt8))) × (Int) × (List ((List UInt8) × (List UInt8) × Int × (List UInt8))) × (Unit) × Unit) : Option (((List ((List UInt8) × (List UInt8) × Int × (List UInt8))) × (Int) × (List ((List UInt8) × (List UInt8) × Int × (List UInt8))) × (Unit) × Unit) ⊕ (((List ((List UInt8) × (List UInt8) × Int × (List UInt8))) × (Unit) × Unit))) :=
  let x0 := s.1
  let x4 := s.2.1
  let l1003 := s.2.2.1
  let x9 := (x0.length : Int)
  let x10 := (decide (x4 < x9))
  if x10 then (
    Option.bind (show Option (((List ((List UInt8) × (List UInt8) × Int × (List UInt8))) × (Int) × (List ((List UInt8) × (List UInt8) × Int × (List UInt8))) × (Unit) × Unit)) from (
      Option.bind ((lAt x0 x4).map (fun y => y)) fun x15 =>
      Option.bind ((lAt x0 x4).map (fun y => y)) fun x20 =>
      Option.bind (law34_begins (x15.1, ([119, 97, 103, 101, 115, 47] : List UInt8))) fun x24 =>
      let x25 := (!x24)
      let x27 := (if x25 = true then some x20.2.1 else none)
      Option.bind (if x25 = true then (((x27.bind (fun z241 => some (z241, ([119, 97, 103, 101, 115, 47] : List UInt8)))).map (fun z243 => (z243.1, z243.2))).bind (fun z244 => law34_begins z244)).map some else some none) fun x28 =>
      Option.bind (if x25 = true then (x28.map (fun z245 => (!z245))).map some else some none) fun x29 =>
      Option.bind (if x25 then x29 else some false) fun x30 =>
      let x32 := (if x30 = true then some x15.1 else none)
      Option.bind (if x30 = true then (((x32.bind (fun z246 => some (z246, ([102, 105, 114, 109, 47] : List UInt8)))).map (fun z248 => (z248.1, z248.2))).bind (fun z249 => law34_begins z249)).map some else some none) fun x33 =>
      Option.bind (if x30 = true then (x33.map (fun z250 => (!z250))).map some else some none) fun x34 =>
      Option.bind (if x30 then x34 else some false) fun x35 =>
      let x37 := (if x35 = true then some x20.2.1 else none)
      Option.bind (if x35 = true then (((x37.bind (fun z251 => some (z251, ([102, 105, 114, 109, 47] : List UInt8)))).map (fun z253 => (z253.1, z253.2))).bind (fun z254 => law34_begins z254)).map some else some none) fun x38 =>
      Option.bind (if x35 = true then (x38.map (fun z255 => (!z255))).map some else some none) fun x39 =>
      Option.bind (if x35 then x39 else some false) fun x40 =>
      if x40 then (
        Option.bind ((lAt x0 x4).map (fun y => y)) fun x44 =>
        let l46 := ([x44] : List ((List UInt8) × (List UInt8) × Int × (List UInt8)))
        Option.bind (if ((l1003.length : Int) + (l46.length : Int)) * (56 : Int) ≤ 140737488355328 ∧ (l1003.length : Int) + (l46.length : Int) ≤ 4611686018427387904 then some (l1003 ++ l46) else none) fun l1003 =>
        some (x0, x4, l1003, (), ()))
      else (
        some (x0, x4, l1003, (), ())))) fun o =>
    let x0 := o.1
    let x4 := o.2.1
    let l1003 := o.2.2.1
    let x12 := IntKind.i64.wrap (x4 + (1 : Int))
    some (Sum.inl (x0, x12, l1003, (), ())))
  else (
    some (Sum.inr (l1003, (), ())))
noncomputable def law34_held (a : (List ((List UInt8) × (List UInt8) × Int × (List UInt8)))) : Option (List ((List UInt8) × (List UInt8) × Int × (List UInt8))) :=
  let x0 := a
  Option.bind (iter law34_held_loop1 (x0, (0 : Int), ([] : List ((List UInt8) × (List UInt8) × Int × (List UInt8))), (), ())) fun o =>
  let l1003 := o.1
  some l1003
noncomputable def law34_PostNets (a : (Int × Int × (List (Int × (List UInt8) × Int))) × (List ((List UInt8) × Int)) × (List ((List UInt8) × Int))) : Option (Bool) :=
  let x0 := a.1
  let x1 := a.2.1
  let x2 := a.2.2
  Option.bind (law34_great ((x0.1, x0.2.1, x0.2.2), x1)) fun x13 =>
  let x15 := (if x13 = false then some x2 else none)
  Option.bind (if x13 = false then (x15.map (fun z21 => (z21.length : Int))).map some else some none) fun x16 =>
  Option.bind (if x13 = false then ((x16.bind (fun z22 => some (z22, (70 : Int)))).map (fun z24 => (decide (z24.1 > z24.2)))).map some else some none) fun x17 =>
  Option.bind (if x13 then some true else x17.map (fun z25 => z25)) fun x18 =>
  if x18 then (
    Option.bind (law34_awake ()) fun x19 =>
    some x19)
  else (
    Option.bind (post_Of ((x0.1, x0.2.1, x0.2.2), x1)) fun x23 =>
    Option.bind (post_Of ((x0.1, x0.2.1, x0.2.2), x2)) fun x29 =>
    let x33 := (x23.2 != (0 : Int))
    let x35 := (if x33 = false then some x29.2 else none)
    Option.bind (if x33 = false then ((x35.bind (fun z42 => some (z42, (0 : Int)))).map (fun z44 => (z44.1 != z44.2))).map some else some none) fun x36 =>
    Option.bind (if x33 then some true else x36.map (fun z45 => z45)) fun x37 =>
    if x37 then (
      Option.bind (law34_awake ()) fun x38 =>
      some x38)
    else (
      Option.bind (law34_sum (x23.1, ([110, 101, 116] : List UInt8))) fun x40 =>
      Option.bind (law34_sum (x29.1, ([110, 101, 116] : List UInt8))) fun x42 =>
      let x43 := (x40 == x42)
      let x45 := (if x43 = true then some x23.1 else none)
      Option.bind (if x43 = true then (((x45.bind (fun z106 => some (z106, ([111, 119, 101, 100, 47] : List UInt8)))).map (fun z108 => (z108.1, z108.2))).bind (fun z109 => law34_sum z109)).map some else some none) fun x46 =>
      let x47 := (if x43 = true then some x29.1 else none)
      Option.bind (if x43 = true then (((x47.bind (fun z110 => some (z110, ([111, 119, 101, 100, 47] : List UInt8)))).map (fun z112 => (z112.1, z112.2))).bind (fun z113 => law34_sum z113)).map some else some none) fun x48 =>
      Option.bind (if x43 = true then ((x46.bind (fun z114 => x48.map (fun z115 => (z114, z115)))).map (fun z116 => (z116.1 == z116.2))).map some else some none) fun x49 =>
      Option.bind (if x43 then x49 else some false) fun x50 =>
      let x52 := (if x50 = true then some x23.1 else none)
      Option.bind (if x50 = true then (((x52.bind (fun z117 => some (z117, ([119, 97, 103, 101, 115, 47] : List UInt8)))).map (fun z119 => (z119.1, z119.2))).bind (fun z120 => law34_sum z120)).map some else some none) fun x53 =>
      let x54 := (if x50 = true then some x29.1 else none)
      Option.bind (if x50 = true then (((x54.bind (fun z121 => some (z121, ([119, 97, 103, 101, 115, 47] : List UInt8)))).map (fun z123 => (z123.1, z123.2))).bind (fun z124 => law34_sum z124)).map some else some none) fun x55 =>
      Option.bind (if x50 = true then ((x53.bind (fun z125 => x55.map (fun z126 => (z125, z126)))).map (fun z127 => (z127.1 == z127.2))).map some else some none) fun x56 =>
      Option.bind (if x50 then x56 else some false) fun x57 =>
      let x59 := (if x57 = true then some x23.1 else none)
      Option.bind (if x57 = true then ((x59.map (fun z128 => z128)).bind (fun z129 => law34_held z129)).map some else some none) fun x60 =>
      let x61 := (if x57 = true then some x29.1 else none)
      Option.bind (if x57 = true then ((x61.map (fun z130 => z130)).bind (fun z131 => law34_held z131)).map some else some none) fun x62 =>
      Option.bind (if x57 = true then (((x60.bind (fun z132 => x62.map (fun z133 => (z132, z133)))).map (fun z134 => (z134.1, z134.2))).bind (fun z135 => law34_same z135)).map some else some none) fun x63 =>
      Option.bind (if x57 then x63 else some false) fun x64 =>
      Option.bind (if x64 = true then (law34_awake ()).map some else some none) fun x66 =>
      Option.bind (if x64 then x66 else some false) fun x67 =>
      some x67))
noncomputable def slip_sum_loop1 (s : (Int) × (Int) × (Int) × (List (Int × (List UInt8) × Int)) × (Int) × (Int) × Unit) : Option (((Int) × (Int) × (Int) × (List (Int × (List UInt8) × Int)) × (Int) × (Int) × Unit) ⊕ (((Int) × Unit))) :=
  let x1 := s.1
  let x2 := s.2.1
  let x7 := s.2.2.1
  let x11 := s.2.2.2.1
  let x12 := s.2.2.2.2.1
  let x13 := s.2.2.2.2.2.1
  let x14 := (decide (x13 < x12))
  if x14 then (
    Option.bind (show Option (((Int) × (Int) × (Int) × (List (Int × (List UInt8) × Int)) × (Int) × (Int) × Unit)) from (
      Option.bind ((lAt x11 x13).map (fun y => y)) fun x15 =>
      let x20 := (decide (x15.1 ≥ x1))
      let x22 := (if x20 = true then some () else none)
      Option.bind (if x20 = true then (x22.map (fun z65 => x15.1)).map some else some none) fun x23 =>
      let x24 := (if x20 = true then some x2 else none)
      Option.bind (if x20 = true then ((x23.bind (fun z66 => x24.map (fun z67 => (z66, z67)))).map (fun z68 => (decide (z68.1 ≤ z68.2)))).map some else some none) fun x25 =>
      Option.bind (if x20 then x25 else some false) fun x26 =>
      if x26 then (
        let x30 := IntKind.i64.wrap (x7 + x15.2.2)
        some (x1, x2, x30, x11, x12, x13, ()))
      else (
        some (x1, x2, x7, x11, x12, x13, ())))) fun o =>
    let x1 := o.1
    let x2 := o.2.1
    let x7 := o.2.2.1
    let x11 := o.2.2.2.1
    let x12 := o.2.2.2.2.1
    let x13 := o.2.2.2.2.2.1
    let x31 := IntKind.i64.wrap (x13 + (1 : Int))
    some (Sum.inl (x1, x2, x7, x11, x12, x31, ())))
  else (
    some (Sum.inr (x7, ())))
noncomputable def slip_sum (a : (Int × Int × (List (Int × (List UInt8) × Int))) × Int × Int) : Option (Int) :=
  let x0 := a.1
  let x1 := a.2.1
  let x2 := a.2.2
  let x12 := (x0.2.2.length : Int)
  Option.bind (iter slip_sum_loop1 (x1, x2, (0 : Int), x0.2.2, x12, (0 : Int), ())) fun o =>
  let x7 := o.1
  some x7
noncomputable def slip_Sums_loop1 (s : (Int) × (Int) × (Int) × (Int) × (Int) × (Int) × (List (Int)) × (Unit) × Unit) : Option (((Int) × (Int) × (Int) × (Int) × (Int) × (Int) × (List (Int)) × (Unit) × Unit) ⊕ (((Int) × (Int) × (Int) × (Int) × Unit) ⊕ (Int × Int × Int × Int × Int))) :=
  let x2 := s.1
  let x3 := s.2.1
  let x4 := s.2.2.1
  let x5 := s.2.2.2.1
  let x29 := s.2.2.2.2.1
  let x30 := s.2.2.2.2.2.1
  let l28 := s.2.2.2.2.2.2.1
  let x31 := (decide (x30 < x29))
  if x31 then (
    Option.bind (if 0 ≤ x30 ∧ x30 < (l28.length : Int) then some x30.toNat else none) fun x32 =>
    Option.bind ((l28[x32]?).map (fun y => y)) fun x33 =>
    Option.bind (cents_Fits x33) fun x35 =>
    let x36 := (!x35)
    if x36 then (
      some (Sum.inr (Sum.inr ((0 : Int), (0 : Int), (0 : Int), (0 : Int), (9 : Int)))))
    else (
      let x37 := IntKind.i64.wrap (x30 + (1 : Int))
      some (Sum.inl (x2, x3, x4, x5, x29, x37, l28, (), ()))))
  else (
    some (Sum.inr (Sum.inl (x2, x3, x4, x5, ()))))
noncomputable def slip_Sums (a : (Int × Int × (List (Int × (List UInt8) × Int)))) : Option (Int × Int × Int × Int × Int) :=
  let x0 := a
  Option.bind (slip_Check (x0.1, x0.2.1, x0.2.2)) fun x11 =>
  let x13 := (x11 != (0 : Int))
  if x13 then (
    some ((0 : Int), (0 : Int), (0 : Int), (0 : Int), x11))
  else (
    Option.bind (slip_sum ((x0.1, x0.2.1, x0.2.2), (0 : Int), (0 : Int))) fun x16 =>
    Option.bind (slip_sum ((x0.1, x0.2.1, x0.2.2), (1 : Int), (5 : Int))) fun x18 =>
    Option.bind (slip_sum ((x0.1, x0.2.1, x0.2.2), (6 : Int), (6 : Int))) fun x20 =>
    let x23 := IntKind.i64.wrap (x16 - x18)
    let l28 := ([x16, x18, x23, x20] : List (Int))
    let x29 := (l28.length : Int)
    Option.bind (iter slip_Sums_loop1 (x16, x18, x23, x20, x29, (0 : Int), l28, (), ())) fun o =>
    match o with
    | Sum.inl p1 => (
      let x2 := p1.1
      let x3 := p1.2.1
      let x4 := p1.2.2.1
      let x5 := p1.2.2.2.1
      some (x2, x3, x4, x5, (0 : Int)))
    | Sum.inr q2 => (
      some q2))
noncomputable def law34_PostSums (a : (Int × Int × (List (Int × (List UInt8) × Int))) × (List ((List UInt8) × Int))) : Option (Bool) :=
  let x0 := a.1
  let x1 := a.2
  Option.bind (law34_great ((x0.1, x0.2.1, x0.2.2), x1)) fun x14 =>
  if x14 then (
    Option.bind (law34_awake ()) fun x15 =>
    some x15)
  else (
    Option.bind (post_Of ((x0.1, x0.2.1, x0.2.2), x1)) fun x19 =>
    let x23 := (x19.2 != (0 : Int))
    if x23 then (
      Option.bind (law34_awake ()) fun x24 =>
      some x24)
    else (
      Option.bind (slip_Sums (x0.1, x0.2.1, x0.2.2)) fun x27 =>
      let x34 := (x27.2.2.2.2 != (0 : Int))
      if x34 then (
        Option.bind (law34_awake ()) fun x35 =>
        some x35)
      else (
        Option.bind (law34_sum (x19.1, ([119, 97, 103, 101, 115, 47] : List UInt8))) fun x37 =>
        let x39 := (x37 == x27.1)
        let x41 := (if x39 = true then some x19.1 else none)
        Option.bind (if x39 = true then (((x41.bind (fun z53 => some (z53, ([102, 105, 114, 109, 47] : List UInt8)))).map (fun z55 => (z55.1, z55.2))).bind (fun z56 => law34_sum z56)).map some else some none) fun x42 =>
        let x43 := (if x39 = true then some x27.2.2.2.1 else none)
        Option.bind (if x39 = true then ((x42.bind (fun z57 => x43.map (fun z58 => (z57, z58)))).map (fun z59 => (z59.1 == z59.2))).map some else some none) fun x44 =>
        Option.bind (if x39 then x44 else some false) fun x45 =>
        let x47 := (if x45 = true then some x19.1 else none)
        Option.bind (if x45 = true then (((x47.bind (fun z60 => some (z60, ([110, 101, 116] : List UInt8)))).map (fun z62 => (z62.1, z62.2))).bind (fun z63 => law34_sum z63)).map some else some none) fun x48 =>
        let x49 := (if x45 = true then some x27.2.2.1 else none)
        Option.bind (if x45 = true then (x49.map (fun z64 => IntKind.i64.wrap (0 - z64))).map some else some none) fun x50 =>
        Option.bind (if x45 = true then ((x48.bind (fun z65 => x50.map (fun z66 => (z65, z66)))).map (fun z67 => (z67.1 == z67.2))).map some else some none) fun x51 =>
        Option.bind (if x45 then x51 else some false) fun x52 =>
        let x54 := (if x52 = true then some x19.1 else none)
        Option.bind (if x52 = true then (((x54.bind (fun z68 => some (z68, ([111, 119, 101, 100, 47] : List UInt8)))).map (fun z70 => (z70.1, z70.2))).bind (fun z71 => law34_sum z71)).map some else some none) fun x55 =>
        let x56 := (if x52 = true then some x27.2.1 else none)
        Option.bind (if x52 = true then (x56.map (fun z72 => IntKind.i64.wrap (0 - z72))).map some else some none) fun x57 =>
        let x58 := (if x52 = true then some x27.2.2.2.1 else none)
        Option.bind (if x52 = true then ((x57.bind (fun z73 => x58.map (fun z74 => (z73, z74)))).map (fun z75 => IntKind.i64.wrap (z75.1 - z75.2))).map some else some none) fun x59 =>
        Option.bind (if x52 = true then ((x55.bind (fun z76 => x59.map (fun z77 => (z76, z77)))).map (fun z78 => (z78.1 == z78.2))).map some else some none) fun x60 =>
        Option.bind (if x52 then x60 else some false) fun x61 =>
        Option.bind (if x61 = true then (law34_awake ()).map some else some none) fun x63 =>
        Option.bind (if x61 then x63 else some false) fun x64 =>
        some x64)))
end WB
namespace WB
open Go Go.RowKit

theorem Mul64_eq {n m : Nat} (hn : n < 18446744073709551616) (hm : m < 18446744073709551616) :
    math_bits_Mul64 ((n : Int), (m : Int)) = some (((n * m / 18446744073709551616 : Nat) : Int), ((n * m % 18446744073709551616 : Nat) : Int)) := by
  unfold math_bits_Mul64
  obtain ⟨h1, h2, h3, h4⟩ := Go.Lib.mul64_hi n m hn hm
  have l : ∀ {a : Nat}, a < 18446744073709551616 → IntKind.u64.wrap (a : Int) = (a : Int) := fun h => wu64 h
  have h6 : n * m / 18446744073709551616 < 18446744073709551616 := by
    rw [Nat.div_lt_iff_lt_mul (by decide)]
    exact Nat.mul_lt_mul'' hn hm
  have e1 := Int.natCast_mul (n % 4294967296) (m % 4294967296)
  have e2 := Int.natCast_mul (n / 4294967296) (m % 4294967296)
  have e3 := Int.natCast_mul (n % 4294967296) (m / 4294967296)
  have e4 := Int.natCast_mul (n / 4294967296) (m / 4294967296)
  have e5 := Int.natCast_mul n m
  dsimp only
  rw [shr32, bs, shr32, bs, mask32 hn, mask32 hm, ← e1, ← e2, ← e3, ← e4, ← e5]
  generalize n % 4294967296 * (m % 4294967296) = A at *
  generalize n / 4294967296 * (m % 4294967296) = B at *
  generalize n % 4294967296 * (m / 4294967296) = C at *
  generalize n / 4294967296 * (m / 4294967296) = E at *
  generalize n * m = F at *
  rw [wu64 h1, shr32, bs, wu64 (show B < 18446744073709551616 by omega), ← Int.natCast_add, wu64 h2, shr32, bs, mask32 h2, wu64 (show C < 18446744073709551616 by omega), ← Int.natCast_add, wu64 h3, shr32, bs, wu64 (show E < 18446744073709551616 by omega), ← Int.natCast_add, wu64 (show E + (B + A / 4294967296) / 4294967296 < 18446744073709551616 by omega), ← Int.natCast_add, h4, wu64 h6, wu64m]

theorem shrK (n k : Nat) (hk : k ≤ 64) : (if (k : Int) < 0 then none else some ((n : Int).fdiv (2 ^ (min (k : Int).toNat 64)))) = some ((n / 2 ^ k : Nat) : Int) := by
  rw [if_neg (by omega), Int.toNat_natCast, Nat.min_eq_left hk, Int.fdiv_eq_ediv_of_nonneg _ (Int.pow_nonneg (by decide))]
  congr 1
theorem shr16 (n : Nat) : (if (16 : Int) < 0 then none else some ((n : Int).fdiv (2 ^ (min (16 : Int).toNat 64)))) = some ((n / 65536 : Nat) : Int) := shrK n 16 (by decide)
theorem shr8 (n : Nat) : (if (8 : Int) < 0 then none else some ((n : Int).fdiv (2 ^ (min (8 : Int).toNat 64)))) = some ((n / 256 : Nat) : Int) := shrK n 8 (by decide)

theorem len8L : ∀ n : Fin 256, ([0, 1, 2, 2, 3, 3, 3, 3, 4, 4, 4, 4, 4, 4, 4, 4, 5, 5, 5, 5, 5, 5, 5, 5, 5, 5, 5, 5, 5, 5, 5, 5, 6, 6, 6, 6, 6, 6, 6, 6, 6, 6, 6, 6, 6, 6, 6, 6, 6, 6, 6, 6, 6, 6, 6, 6, 6, 6, 6, 6, 6, 6, 6, 6, 7, 7, 7, 7, 7, 7, 7, 7, 7, 7, 7, 7, 7, 7, 7, 7, 7, 7, 7, 7, 7, 7, 7, 7, 7, 7, 7, 7, 7, 7, 7, 7, 7, 7, 7, 7, 7, 7, 7, 7, 7, 7, 7, 7, 7, 7, 7, 7, 7, 7, 7, 7, 7, 7, 7, 7, 7, 7, 7, 7, 7, 7, 7, 7, 8, 8, 8, 8, 8, 8, 8, 8, 8, 8, 8, 8, 8, 8, 8, 8, 8, 8, 8, 8, 8, 8, 8, 8, 8, 8, 8, 8, 8, 8, 8, 8, 8, 8, 8, 8, 8, 8, 8, 8, 8, 8, 8, 8, 8, 8, 8, 8, 8, 8, 8, 8, 8, 8, 8, 8, 8, 8, 8, 8, 8, 8, 8, 8, 8, 8, 8, 8, 8, 8, 8, 8, 8, 8, 8, 8, 8, 8, 8, 8, 8, 8, 8, 8, 8, 8, 8, 8, 8, 8, 8, 8, 8, 8, 8, 8, 8, 8, 8, 8, 8, 8, 8, 8, 8, 8, 8, 8, 8, 8, 8, 8, 8, 8, 8, 8, 8, 8, 8, 8, 8, 8, 8, 8, 8, 8, 8, 8] : List UInt8)[n.val]? = some (UInt8.ofNat (Go.Lib.bitLen n.val)) := by decide +kernel

theorem Len64_eq {n : Nat} (hn : n < 18446744073709551616) : math_bits_Len64 (n : Int) = some (Go.Lib.bitLen n : Int) := by
  unfold math_bits_Len64
  have a1 : ∃ n1 k1 : Nat, n1 < 4294967296 ∧ k1 ≤ 32 ∧ Go.Lib.bitLen n = k1 + Go.Lib.bitLen n1 ∧ (if decide ((n : Int) ≥ (4294967296 : Int)) = true then
      Option.bind (if (32 : Int) < 0 then none else some ((n : Int).fdiv (2 ^ (min (32 : Int).toNat 64)))) fun x6 => some (x6, (32 : Int), ()) else some ((n : Int), (0 : Int), ())) = some ((n1 : Int), (k1 : Int), ()) := by
    by_cases h : 4294967296 ≤ n
    · refine ⟨n / 4294967296, 32, by omega, by omega, Go.Lib.bitLen_shift32 n h hn, ?_⟩
      rw [if_pos (by simpa using by omega), shr32]; rfl
    · refine ⟨n, 0, by omega, by omega, by omega, ?_⟩
      rw [if_neg (by simpa using by omega)]; rfl
  obtain ⟨n1, k1, hn1, hk1, hl1, he1⟩ := a1
  have a2 : ∃ n2 k2 : Nat, n2 < 65536 ∧ k2 ≤ 48 ∧ Go.Lib.bitLen n = k2 + Go.Lib.bitLen n2 ∧ (if decide ((n1 : Int) ≥ (65536 : Int)) = true then
      Option.bind (if (16 : Int) < 0 then none else some ((n1 : Int).fdiv (2 ^ (min (16 : Int).toNat 64)))) fun x6 => some (x6, IntKind.i64.wrap ((k1 : Int) + (16 : Int)), ()) else some ((n1 : Int), (k1 : Int), ())) = some ((n2 : Int), (k2 : Int), ()) := by
    by_cases h : 65536 ≤ n1
    · refine ⟨n1 / 65536, k1 + 16, by omega, by omega, by rw [hl1, Go.Lib.bitLen_shift16 n1 h (by omega)]; omega, ?_⟩
      rw [if_pos (by simpa using by omega), shr16, w64' (by omega) (by omega)]; rfl
    · refine ⟨n1, k1, by omega, by omega, by omega, ?_⟩
      rw [if_neg (by simpa using by omega)]
  obtain ⟨n2, k2, hn2, hk2, hl2, he2⟩ := a2
  have a3 : ∃ n3 k3 : Nat, n3 < 256 ∧ k3 ≤ 56 ∧ Go.Lib.bitLen n = k3 + Go.Lib.bitLen n3 ∧ (if decide ((n2 : Int) ≥ (256 : Int)) = true then
      Option.bind (if (8 : Int) < 0 then none else some ((n2 : Int).fdiv (2 ^ (min (8 : Int).toNat 64)))) fun x6 => some (x6, IntKind.i64.wrap ((k2 : Int) + (8 : Int)), ()) else some ((n2 : Int), (k2 : Int), ())) = some ((n3 : Int), (k3 : Int), ()) := by
    by_cases h : 256 ≤ n2
    · refine ⟨n2 / 256, k2 + 8, by omega, by omega, by rw [hl2, Go.Lib.bitLen_shift8 n2 h (by omega)]; omega, ?_⟩
      rw [if_pos (by simpa using by omega), shr8, w64' (by omega) (by omega)]; rfl
    · refine ⟨n2, k2, by omega, by omega, by omega, ?_⟩
      rw [if_neg (by simpa using by omega)]
  obtain ⟨n3, k3, hn3, hk3, hl3, he3⟩ := a3
  have h8 : Go.Lib.bitLen n3 ≤ 8 := Go.Lib.bitLen_le8 ⟨n3, hn3⟩
  dsimp only
  rw [he1, bs]
  dsimp only
  rw [he2, bs]
  dsimp only
  rw [he3, bs]
  dsimp only
  have hw : IntKind.u8.wrap (n3 : Int) = (n3 : Int) := by rw [IntKind.wrap_u8]; omega
  rw [hw, sAt_nat (len8L ⟨n3, hn3⟩), bs]
  have hb : ((UInt8.ofNat (Go.Lib.bitLen n3)).toNat) = Go.Lib.bitLen n3 := by rw [UInt8.toNat_ofNat']; omega
  rw [hb, w64' (n := (Go.Lib.bitLen n3 : Int)) (by omega) (by omega), w64' (by omega) (by omega), hl3]
  rfl
theorem LeadingZeros64_eq {n : Nat} (hn : n < 18446744073709551616) : math_bits_LeadingZeros64 (n : Int) = some (64 - (Go.Lib.bitLen n : Int)) := by
  unfold math_bits_LeadingZeros64
  have : Go.Lib.bitLen n ≤ 64 := Go.Lib.bitLen_le n 64 (by omega) hn
  dsimp only
  rw [Len64_eq hn, bs, w64' (by omega) (by omega)]
end WB
namespace WB
open Go Go.RowKit

theorem bitLen_bd : ∀ (n : Nat), n < 18446744073709551616 → n ≠ 0 → 2 ^ Go.Lib.bitLen n ≤ 2 * n ∧ n < 2 ^ Go.Lib.bitLen n := by
  intro n
  induction n using Nat.strongRecOn with
  | _ n ih =>
    intro h h0
    rw [Go.Lib.bitLen_half n h0 h]
    by_cases h1 : n / 2 = 0
    · have : n = 1 := by omega
      subst this
      decide
    · obtain ⟨a, b⟩ := ih (n / 2) (by omega) (by omega) h1
      rw [Nat.add_comm 1, Nat.pow_succ]
      omega

section
variable {p z u n : Nat}
/-- One turn of guessing: the guess is too great just if the test says so; what is left says whether to go on. -/
theorem kn_turn (hz : z < 4294967296) (hn : n < 4294967296) (hu : u < p * 4294967296 + z) {q r : Nat} (h : q * p + r = u) (hQ : (u * 4294967296 + n) / (p * 4294967296 + z) ≤ q) (hq : q ≤ 4294967297) (hr : r < 4294967296) :
    q * z < 18446744073709551616 ∧ 4294967296 * r + n < 18446744073709551616 ∧
    ((q < 4294967296 ∧ q * z ≤ 4294967296 * r + n → q = (u * 4294967296 + n) / (p * 4294967296 + z))
    ∧ (4294967296 ≤ q ∨ 4294967296 * r + n < q * z → 1 ≤ q ∧ (q - 1) * p + (r + p) = u ∧ (u * 4294967296 + n) / (p * 4294967296 + z) ≤ q - 1 ∧ (4294967296 ≤ r + p → q - 1 = (u * 4294967296 + n) / (p * 4294967296 + z)))) := by
  have hd : 0 < p * 4294967296 + z := by omega
  have h1 : q * z ≤ 4294967297 * 4294967295 := Nat.mul_le_mul hq (by omega)
  refine ⟨by omega, by omega, fun ⟨a, b⟩ => ?_, fun a => ?_⟩
  · refine Nat.le_antisymm ?_ hQ
    rw [Nat.le_div_iff_mul_le hd]
    have := (kn_test (b := 4294967296) (z := z) (n := n) h)
    omega
  · have hlt : (u * 4294967296 + n) / (p * 4294967296 + z) < q := by
      rcases a with a | a
      · exact Nat.lt_of_lt_of_le (kn_digit hn hu) a
      · exact (kn_lt hd).1 ((kn_test h).1 a)
    have h1 : 1 ≤ q := Nat.lt_of_le_of_lt (Nat.zero_le _) hlt
    have e : (q - 1) * p + (r + p) = u := by
      obtain ⟨k, rfl⟩ : ∃ k, q = k + 1 := ⟨q - 1, by omega⟩
      rw [Nat.add_mul] at h
      simp only [Nat.add_sub_cancel]
      omega
    refine ⟨h1, e, Nat.le_sub_one_of_lt hlt, fun hb => ?_⟩
    refine Nat.le_antisymm ?_ (Nat.le_sub_one_of_lt hlt)
    rw [Nat.le_div_iff_mul_le hd]
    exact kn_break hb (by omega) hz e

theorem Div64_loop1_eq (hp : 2147483648 ≤ p) (hp2 : p < 4294967296) (hz : z < 4294967296) (hn : n < 4294967296) (hu : u < p * 4294967296 + z) (y s n0 : Int) :
    iter math_bits_Div64_loop1 (y, s, (p : Int), (z : Int), (u : Int), (n : Int), n0, ((u / p : Nat) : Int), ((u % p : Nat) : Int), ()) = some (y, s, (p : Int), (z : Int), (u : Int), (n : Int), n0, (((u * 4294967296 + n) / (p * 4294967296 + z) : Nat) : Int), ()) := by
  obtain ⟨f1, f2⟩ := kn_first (b := 4294967296) (p := p) (by omega) (by omega) hz hn hu
  refine iter_inv (fun m st => ∃ q r : Nat, st = (y, s, (p : Int), (z : Int), (u : Int), (n : Int), n0, (q : Int), (r : Int), ()) ∧ q * p + r = u ∧ (u * 4294967296 + n) / (p * 4294967296 + z) ≤ q ∧ q ≤ 4294967297 ∧ r < 4294967296 ∧ m = q) ?_ (u / p) _ ⟨u / p, u % p, rfl, Nat.div_add_mod' u p, f1, by omega, Nat.lt_of_lt_of_le (Nat.mod_lt _ (by omega)) (by omega), rfl⟩
  rintro m st ⟨q, r, rfl, h1, h2, h3, h4, hm⟩
  obtain ⟨b1, b2, c1, c2⟩ := kn_turn hz hn hu h1 h2 h3 h4
  have w1 : IntKind.u64.wrap ((q : Int) * (z : Int)) = ((q * z : Nat) : Int) := by rw [← Int.natCast_mul]; exact wu64 b1
  have w2 : IntKind.u64.wrap ((4294967296 : Int) * (r : Int)) = ((4294967296 * r : Nat) : Int) := by rw [wu64' (by omega) (by omega)]; omega
  have w3 : IntKind.u64.wrap (((4294967296 * r : Nat) : Int) + (n : Int)) = ((4294967296 * r + n : Nat) : Int) := by rw [wu64' (by omega) (by omega)]; omega
  have w5 : IntKind.u64.wrap ((r : Int) + (p : Int)) = ((r + p : Nat) : Int) := by rw [wu64' (by omega) (by omega)]; omega
  have hT : ∃ t : Bool, (t = true ↔ (4294967296 ≤ q ∨ 4294967296 * r + n < q * z)) ∧ math_bits_Div64_loop1 (y, s, (p : Int), (z : Int), (u : Int), (n : Int), n0, (q : Int), (r : Int), ()) = (if t then (if 4294967296 ≤ r + p then some (Sum.inr (y, s, (p : Int), (z : Int), (u : Int), (n : Int), n0, IntKind.u64.wrap ((q : Int) - 1), ())) else some (Sum.inl (y, s, (p : Int), (z : Int), (u : Int), (n : Int), n0, IntKind.u64.wrap ((q : Int) - 1), ((r + p : Nat) : Int), ()))) else some (Sum.inr (y, s, (p : Int), (z : Int), (u : Int), (n : Int), n0, (q : Int), ()))) := by
    unfold math_bits_Div64_loop1
    dsimp only
    rw [w5]
    have g2 : decide (((r + p : Nat) : Int) ≥ 4294967296) = decide (4294967296 ≤ r + p) := by apply decide_eq_decide.2; omega
    rw [g2]
    by_cases hb : 4294967296 ≤ q
    · have g1 : decide ((q : Int) ≥ 4294967296) = true := by simpa using by omega
      refine ⟨true, by simp [hb], ?_⟩
      simp only [g1, Bool.true_eq_false, if_false, if_true, bs, decide_eq_true_eq]
    · have g1 : decide ((q : Int) ≥ 4294967296) = false := by simpa using by omega
      refine ⟨decide (4294967296 * r + n < q * z), by simp [hb], ?_⟩
      have g3 : decide (((q * z : Nat) : Int) > ((4294967296 * r + n : Nat) : Int)) = decide (4294967296 * r + n < q * z) := by apply decide_eq_decide.2; omega
      simp only [g1, if_true, bs, ms, w1, w2, w3, g3, Bool.false_eq_true, if_false, decide_eq_true_eq]
  obtain ⟨t, ht, e⟩ := hT
  rw [e]
  cases t with
  | false =>
    refine .inr ?_
    have := c1 (by have := mt ht.2 (by decide); omega)
    rw [if_neg (by decide), ← this]
  | true =>
    obtain ⟨d1, d2, d3, d4⟩ := c2 (ht.1 rfl)
    have w6 : IntKind.u64.wrap ((q : Int) - 1) = ((q - 1 : Nat) : Int) := by rw [wu64' (by omega) (by omega)]; omega
    rw [if_pos rfl, w6]
    by_cases hb : 4294967296 ≤ r + p
    · rw [if_pos hb, d4 hb]
      exact .inr rfl
    · rw [if_neg hb]
      exact .inl ⟨_, rfl, q - 1, by omega, q - 1, r + p, rfl, d2, d3, by omega, by omega, rfl⟩
theorem Div64_loop2_eq (hp : 2147483648 ≤ p) (hp2 : p < 4294967296) (hz : z < 4294967296) (hn : n < 4294967296) (hu : u < p * 4294967296 + z) (y s x15 x17 : Int) :
    iter math_bits_Div64_loop2 (y, s, (p : Int), (z : Int), (n : Int), x15, ((u % p : Nat) : Int), x17, ((u / p : Nat) : Int), ()) = some (y, s, (n : Int), x15, x17, (((u * 4294967296 + n) / (p * 4294967296 + z) : Nat) : Int), ()) := by
  obtain ⟨f1, f2⟩ := kn_first (b := 4294967296) (p := p) (by omega) (by omega) hz hn hu
  refine iter_inv (fun m st => ∃ q r : Nat, st = (y, s, (p : Int), (z : Int), (n : Int), x15, (r : Int), x17, (q : Int), ()) ∧ q * p + r = u ∧ (u * 4294967296 + n) / (p * 4294967296 + z) ≤ q ∧ q ≤ 4294967297 ∧ r < 4294967296 ∧ m = q) ?_ (u / p) _ ⟨u / p, u % p, rfl, Nat.div_add_mod' u p, f1, by omega, Nat.lt_of_lt_of_le (Nat.mod_lt _ (by omega)) (by omega), rfl⟩
  rintro m st ⟨q, r, rfl, h1, h2, h3, h4, hm⟩
  obtain ⟨b1, b2, c1, c2⟩ := kn_turn hz hn hu h1 h2 h3 h4
  have w1 : IntKind.u64.wrap ((q : Int) * (z : Int)) = ((q * z : Nat) : Int) := by rw [← Int.natCast_mul]; exact wu64 b1
  have w2 : IntKind.u64.wrap ((4294967296 : Int) * (r : Int)) = ((4294967296 * r : Nat) : Int) := by rw [wu64' (by omega) (by omega)]; omega
  have w3 : IntKind.u64.wrap (((4294967296 * r : Nat) : Int) + (n : Int)) = ((4294967296 * r + n : Nat) : Int) := by rw [wu64' (by omega) (by omega)]; omega
  have w5 : IntKind.u64.wrap ((r : Int) + (p : Int)) = ((r + p : Nat) : Int) := by rw [wu64' (by omega) (by omega)]; omega
  have hT : ∃ t : Bool, (t = true ↔ (4294967296 ≤ q ∨ 4294967296 * r + n < q * z)) ∧ math_bits_Div64_loop2 (y, s, (p : Int), (z : Int), (n : Int), x15, (r : Int), x17, (q : Int), ()) = (if t then (if 4294967296 ≤ r + p then some (Sum.inr (y, s, (n : Int), x15, x17, IntKind.u64.wrap ((q : Int) - 1), ())) else some (Sum.inl (y, s, (p : Int), (z : Int), (n : Int), x15, ((r + p : Nat) : Int), x17, IntKind.u64.wrap ((q : Int) - 1), ()))) else some (Sum.inr (y, s, (n : Int), x15, x17, (q : Int), ()))) := by
    unfold math_bits_Div64_loop2
    dsimp only
    rw [w5]
    have g2 : decide (((r + p : Nat) : Int) ≥ 4294967296) = decide (4294967296 ≤ r + p) := by apply decide_eq_decide.2; omega
    rw [g2]
    by_cases hb : 4294967296 ≤ q
    · have g1 : decide ((q : Int) ≥ 4294967296) = true := by simpa using by omega
      refine ⟨true, by simp [hb], ?_⟩
      simp only [g1, Bool.true_eq_false, if_false, if_true, bs, decide_eq_true_eq]
    · have g1 : decide ((q : Int) ≥ 4294967296) = false := by simpa using by omega
      refine ⟨decide (4294967296 * r + n < q * z), by simp [hb], ?_⟩
      have g3 : decide (((q * z : Nat) : Int) > ((4294967296 * r + n : Nat) : Int)) = decide (4294967296 * r + n < q * z) := by apply decide_eq_decide.2; omega
      simp only [g1, if_true, bs, ms, w1, w2, w3, g3, Bool.false_eq_true, if_false, decide_eq_true_eq]
  obtain ⟨t, ht, e⟩ := hT
  rw [e]
  cases t with
  | false =>
    refine .inr ?_
    have := c1 (by have := mt ht.2 (by decide); omega)
    rw [if_neg (by decide), ← this]
  | true =>
    obtain ⟨d1, d2, d3, d4⟩ := c2 (ht.1 rfl)
    have w6 : IntKind.u64.wrap ((q : Int) - 1) = ((q - 1 : Nat) : Int) := by rw [wu64' (by omega) (by omega)]; omega
    rw [if_pos rfl, w6]
    by_cases hb : 4294967296 ≤ r + p
    · rw [if_pos hb, d4 hb]
      exact .inr rfl
    · rw [if_neg hb]
      exact .inl ⟨_, rfl, q - 1, by omega, q - 1, r + p, rfl, d2, d3, by omega, by omega, rfl⟩
end
end WB
namespace WB
open Go Go.RowKit

theorem shlK (n k : Nat) (hk : k ≤ 64) : (if (k : Int) < 0 then none else some (IntKind.u64.wrap ((n : Int) * 2 ^ (min (k : Int).toNat 64)))) = some ((n * 2 ^ k % 18446744073709551616 : Nat) : Int) := by
  rw [if_neg (by omega), Int.toNat_natCast, Nat.min_eq_left hk]
  refine congrArg some ?_
  rw [show (n : Int) * 2 ^ k = ((n * 2 ^ k : Nat) : Int) by rw [Int.natCast_mul, Int.natCast_pow]; rfl]
  exact wu64m _
theorem orJ {x y k : Nat} (hx : x % 2 ^ k = 0) (hx1 : x < 18446744073709551616) (hy : y < 2 ^ k) (hy1 : y < 18446744073709551616) : bitZ .or .u64 (x : Int) (y : Int) = ((x + y : Nat) : Int) := by
  rw [bitZ_bits _ _ _ _ (.inr rfl)]
  have h := bits_join .u64 64 (by decide) (fun n h1 h2 => wu64' h1 (by simpa using h2)) k (x : Int) (y : Int) (by omega) (by
      have : ((x % 2 ^ k : Nat) : Int) = 0 := by rw [hx]; rfl
      rw [Int.natCast_emod, Int.natCast_pow] at this
      exact this) (by have : ((2 : Int) ^ 64) = 18446744073709551616 := by decide
                      omega) (by omega) (by
      have : (y : Int) < ((2 ^ k : Nat) : Int) := by omega
      rw [Int.natCast_pow] at this
      exact this) (by have : ((2 : Int) ^ 64) = 18446744073709551616 := by decide
                      omega)
  rw [h]; omega

theorem quoN {a b : Nat} (hb : b ≠ 0) (ha : a < 18446744073709551616) : (if (b : Int) = 0 then none else some (IntKind.u64.wrap ((a : Int).tdiv (b : Int)))) = some ((a / b : Nat) : Int) := by
  rw [if_neg (by omega)]
  congr 1
  rw [Int.tdiv_eq_ediv_of_nonneg (by omega), ← Int.natCast_ediv]
  exact wu64 (Nat.lt_of_le_of_lt (Nat.div_le_self _ _) ha)
theorem remN {a b : Nat} (hb : b ≠ 0) : (if (b : Int) = 0 then none else some ((a : Int).tmod (b : Int))) = some ((a % b : Nat) : Int) := by
  rw [if_neg (by omega)]
  congr 1
/-- What is left, with words that wrap. -/
theorem left64 {a b m q : Nat} (hd : 0 < m) (hm : m < 18446744073709551616) (h : q = (a * 4294967296 + b) / m) :
    IntKind.u64.wrap (IntKind.u64.wrap (IntKind.u64.wrap ((a : Int) * 4294967296) + (b : Int)) - IntKind.u64.wrap ((q : Int) * (m : Int))) = (((a * 4294967296 + b) % m : Nat) : Int) := by
  have h1 := Nat.div_add_mod (a * 4294967296 + b) m
  rw [← h] at h1
  have h2 := Nat.mod_lt (a * 4294967296 + b) hd
  generalize (a * 4294967296 + b) % m = r at *
  rw [← Int.natCast_mul, Nat.mul_comm q m]
  generalize m * q = t at *
  simp only [IntKind.wrap_u64]
  omega

theorem tot64 {u vh vl w A1 A0 r v : Nat} (h1 : A1 + w = u * 4294967296 + vh) (h2 : A0 + r = w * 4294967296 + vl) (h3 : vh * 4294967296 + vl = v) : u * 18446744073709551616 + v = A1 * 4294967296 + A0 + r := by
  have e : u * 18446744073709551616 = u * 4294967296 * 4294967296 := by rw [Nat.mul_assoc]
  rw [e, ← h3, ← Nat.add_assoc, ← Nat.add_mul, ← h1, Nat.add_mul, Nat.add_assoc, ← h2, Nat.add_assoc]
theorem Div64_eq {hi lo y : Nat} (hy : y < 18446744073709551616) (hlo : lo < 18446744073709551616) (hh : hi < y) :
    math_bits_Div64 ((hi : Int), (lo : Int), (y : Int)) = some ((((hi * 18446744073709551616 + lo) / y : Nat) : Int), (((hi * 18446744073709551616 + lo) % y : Nat) : Int)) := by
  have hy0 : y ≠ 0 := by omega
  have g1 : ((y : Int) == 0) = false := by simpa using by omega
  have g2 : decide ((y : Int) ≤ (hi : Int)) = false := by simpa using by omega
  by_cases h0 : hi = 0
  · subst h0
    unfold math_bits_Div64
    dsimp only
    rw [g1, g2, quoN hy0 hlo, remN hy0]
    simp
  obtain ⟨k1, k2⟩ := bitLen_bd y hy hy0
  have k3 : Go.Lib.bitLen y ≤ 64 := Go.Lib.bitLen_le y 64 (by omega) hy
  have k4 : 1 ≤ Go.Lib.bitLen y := by
    rcases Nat.eq_zero_or_pos (Go.Lib.bitLen y) with h | h
    · rw [h] at k2; omega
    · exact h
  -- the shift
  obtain ⟨s, hs⟩ : ∃ s, s = 64 - Go.Lib.bitLen y := ⟨_, rfl⟩
  have e64 : 2 ^ Go.Lib.bitLen y * 2 ^ s = 18446744073709551616 := by
    rw [← Nat.pow_add, show Go.Lib.bitLen y + s = 64 by omega]
  have ps : 0 < 2 ^ s := Nat.pow_pos (by decide)
  have n1 : 9223372036854775808 ≤ y * 2 ^ s := by
    have := Nat.mul_le_mul_right (2 ^ s) k1
    rw [Nat.mul_assoc] at this
    omega
  have n2 : y * 2 ^ s < 18446744073709551616 := by rw [← e64]; exact Nat.mul_lt_mul_of_pos_right k2 ps
  have n3 : hi * 2 ^ s + 2 ^ s ≤ y * 2 ^ s := by
    have := Nat.mul_le_mul_right (2 ^ s) (show hi + 1 ≤ y from hh)
    rwa [Nat.add_mul, Nat.one_mul] at this
  have n4 : lo / 2 ^ Go.Lib.bitLen y < 2 ^ s := by rw [Nat.div_lt_iff_lt_mul (Nat.pow_pos (by decide)), Nat.mul_comm, e64]; exact hlo
  have n5 : lo * 2 ^ s / 18446744073709551616 = lo / 2 ^ Go.Lib.bitLen y := by rw [← e64, Nat.mul_div_mul_right _ _ ps]
  have n6 := Nat.div_add_mod (lo * 2 ^ s) 18446744073709551616
  rw [n5] at n6
  have n7 : lo * 2 ^ s % 18446744073709551616 < 18446744073709551616 := Nat.mod_lt _ (by decide)
  have n8 : (hi * 18446744073709551616 + lo) * 2 ^ s = (hi * 2 ^ s + lo / 2 ^ Go.Lib.bitLen y) * 18446744073709551616 + lo * 2 ^ s % 18446744073709551616 := by
    rw [Nat.add_mul, Nat.add_mul, Nat.mul_right_comm]
    omega
  have o1 := orJ (x := hi * 2 ^ s) (y := lo / 2 ^ Go.Lib.bitLen y) (k := s) (Nat.mul_mod_left _ _) (by omega) n4 (by omega)
  unfold math_bits_Div64
  dsimp only
  have g3 : ((hi : Int) == 0) = false := by simpa using by omega
  have a0 : IntKind.u64.wrap (64 - (Go.Lib.bitLen y : Int)) = (s : Int) := by rw [wu64' (by omega) (by omega)]; omega
  have a1 : IntKind.u64.wrap (64 - (s : Int)) = (Go.Lib.bitLen y : Int) := by rw [wu64' (by omega) (by omega)]; omega
  rw [g1, g2, g3, LeadingZeros64_eq hy]
  simp only [Bool.false_eq_true, if_false]
  rw [bs, a0, a1, shlK y s (by omega), bs, shlK hi s (by omega), shlK lo s (by omega), Nat.mod_eq_of_lt n2, Nat.mod_eq_of_lt (show hi * 2 ^ s < 18446744073709551616 by omega), shrK lo _ k3]
  simp only [bs]
  rw [o1, mask32 n2, shr32, shr32, mask32 n7]
  simp only [bs]
  generalize hP : y * 2 ^ s = Y at *
  generalize hU : hi * 2 ^ s + lo / 2 ^ Go.Lib.bitLen y = u at *
  generalize hV : lo * 2 ^ s % 18446744073709551616 = v at *
  have eY : Y / 4294967296 * 4294967296 + Y % 4294967296 = Y := Nat.div_add_mod' Y 4294967296
  have eV : v / 4294967296 * 4294967296 + v % 4294967296 = v := Nat.div_add_mod' v 4294967296
  have hu : u < Y := by omega
  have hp0 : Y / 4294967296 ≠ 0 := by omega
  have qr (a : Nat) (ha : a < 18446744073709551616) : IntKind.u64.wrap ((a : Int) - IntKind.u64.wrap (((a / (Y / 4294967296) : Nat) : Int) * ((Y / 4294967296 : Nat) : Int))) = ((a % (Y / 4294967296) : Nat) : Int) := by
    have h1 := Nat.div_add_mod' a (Y / 4294967296)
    rw [← Int.natCast_mul]
    generalize a / (Y / 4294967296) * (Y / 4294967296) = t at *
    generalize a % (Y / 4294967296) = r at *
    rw [wu64 (show t < 18446744073709551616 by omega), wu64' (by omega) (by omega)]
    omega
  rw [quoN hp0 (show u < 18446744073709551616 by omega), bs, qr u (by omega)]
  rw [Div64_loop1_eq (by omega) (by omega) (by omega) (by omega) (by rw [eY]; exact hu), eY]
  simp only [bs]
  obtain ⟨q1, hq1⟩ : ∃ x, (u * 4294967296 + v / 4294967296) / Y = x := ⟨_, rfl⟩
  rw [hq1]
  have l1 := left64 (show 0 < Y by omega) n2 hq1.symm
  rw [l1]
  obtain ⟨w, hw⟩ : ∃ x, (u * 4294967296 + v / 4294967296) % Y = x := ⟨_, rfl⟩
  rw [hw]
  have hw1 : w < Y := by rw [← hw]; exact Nat.mod_lt _ (by omega)
  rw [quoN hp0 (show w < 18446744073709551616 by omega), bs, qr w (by omega)]
  rw [Div64_loop2_eq (by omega) (by omega) (by omega) (by omega) (by rw [eY]; exact hw1), eY]
  simp only [bs]
  obtain ⟨q0, hq0⟩ : ∃ x, (w * 4294967296 + v % 4294967296) / Y = x := ⟨_, rfl⟩
  rw [hq0]
  have l2 := left64 (show 0 < Y by omega) n2 hq0.symm
  rw [l2, shrK _ s (by omega), bs]
  have e1 := Nat.div_add_mod (u * 4294967296 + v / 4294967296) Y
  have e2 := Nat.div_add_mod (w * 4294967296 + v % 4294967296) Y
  have r1 : (w * 4294967296 + v % 4294967296) % Y < Y := Nat.mod_lt _ (by omega)
  rw [hq1, hw] at e1
  rw [hq0] at e2
  obtain ⟨r, hr0⟩ : ∃ x, (w * 4294967296 + v % 4294967296) % Y = x := ⟨_, rfl⟩
  rw [hr0] at e2 r1
  rw [hr0]
  -- put together
  have d0 : q0 < 4294967296 := by rw [← hq0, ← eY]; exact kn_digit (by omega) (by rw [eY]; exact hw1)
  have d1 : q1 < 4294967296 := by rw [← hq1]; conv => lhs; rw [← eY]
                                  exact kn_digit (by omega) (by rw [eY]; exact hu)
  have tot : (hi * 18446744073709551616 + lo) * 2 ^ s = y * (q1 * 4294967296 + q0) * 2 ^ s + r := by
    have h3 : Y * (q1 * 4294967296 + q0) = Y * q1 * 4294967296 + Y * q0 := by rw [Nat.mul_add, ← Nat.mul_assoc]
    rw [Nat.mul_right_comm y, hP, n8, h3]
    exact tot64 e1 e2 eV
  have rm : 2 ^ s ∣ r := by
    have h1 : 2 ^ s ∣ (hi * 18446744073709551616 + lo) * 2 ^ s := Nat.dvd_mul_left _ _
    rw [tot] at h1
    exact (Nat.dvd_add_right (Nat.dvd_mul_left _ _)).1 h1
  obtain ⟨c, hc⟩ := rm
  have hr : r / 2 ^ s = c := by rw [hc, Nat.mul_div_cancel_left _ ps]
  have tot2 : hi * 18446744073709551616 + lo = y * (q1 * 4294967296 + q0) + c := by
    rw [hc, Nat.mul_comm (2 ^ s) c, ← Nat.add_mul] at tot
    exact Nat.eq_of_mul_eq_mul_right ps tot
  have hcy : c < y := by
    rw [hc, ← hP, Nat.mul_comm] at r1
    exact Nat.lt_of_mul_lt_mul_right r1
  rw [tot2, Nat.mul_add_div (by omega), Nat.mul_add_mod, Nat.div_eq_of_lt hcy, Nat.mod_eq_of_lt hcy, hr, Nat.add_zero]
  have f1 : IntKind.u64.wrap (IntKind.u64.wrap ((q1 : Int) * 4294967296) + (q0 : Int)) = ((q1 * 4294967296 + q0 : Nat) : Int) := by
    simp only [IntKind.wrap_u64]; omega
  rw [f1]
end WB
namespace WB
open Go Go.RowKit

theorem itL {S T : Type} {b : S → Option (S ⊕ T)} {s s' : S} (h : b s = some (.inl s')) : iter b s = iter b s' := by rw [iter_eq, h]; rfl
theorem itR {S T : Type} {b : S → Option (S ⊕ T)} {s : S} {t : T} (h : b s = some (.inr t)) : iter b s = some t := by rw [iter_eq, h]; rfl
theorem sAt_mid' {pre t : List UInt8} {b : UInt8} : sAt (pre ++ b :: t) (pre.length : Int) = some (b.toNat : Int) := sAt_nat (by simp)
/-- A byte of a name. -/
def okb (b : UInt8) : Bool := !((decide ((b.toNat : Int) < 97) || decide ((b.toNat : Int) > 122)) && (decide ((b.toNat : Int) < 48) || decide ((b.toNat : Int) > 57)) && ((b.toNat : Int) != 46) && ((b.toNat : Int) != 95) && ((b.toNat : Int) != 45))
/-- Is a text a name. -/
def nameB (s : List UInt8) : Bool := s.all okb && !(s == []) && !(s == [45]) && decide ((s.length : Int) ≤ 32)

theorem isName_step {pre t : List UInt8} {b : UInt8} {n : Int} (c : decide ((pre.length : Int) < n) = true) :
    fact_isName_loop1 (pre ++ b :: t, n, (pre.length : Int), ()) = some (if okb b = true then .inl (pre ++ b :: t, n, IntKind.i64.wrap ((pre.length : Int) + 1), ()) else .inr (.inr false)) := by
  unfold fact_isName_loop1
  dsimp only
  simp only [gPi, gSS, gPb, gPm, gPs, gM, gM2, gAnd, gOr, gAndI, gOrI, gAA, gAO, gOA, gOO, gAAf, gAOf, gOAf, gOOf, gAMf, gOMf, gId]
  simp only [gIn1, gIn2, gIn3, gIn4, gIn5, gIn6, gIn7, gIn8, gId, gIdF, gMb, gMm, gBm, gBb, bs, ms]
  simp only [c, if_true, sAt_mid', bs]
  unfold okb
  generalize decide ((b.toNat : Int) < 97) = q1
  generalize decide ((b.toNat : Int) > 122) = q2
  generalize decide ((b.toNat : Int) < 48) = q3
  generalize decide ((b.toNat : Int) > 57) = q4
  generalize ((b.toNat : Int) != 46) = q5
  generalize ((b.toNat : Int) != 95) = q6
  generalize ((b.toNat : Int) != 45) = q7
  cases q1 <;> cases q2 <;> cases q3 <;> cases q4 <;> cases q5 <;> cases q6 <;> cases q7 <;> rfl
theorem isName_loop : ∀ (t pre : List UInt8), pre.length + t.length ≤ 4611686018427387904 → iter fact_isName_loop1 (pre ++ t, ((pre ++ t).length : Int), (pre.length : Int), ()) = some (if t.all okb then .inl (pre ++ t, ()) else .inr false)
  | [], pre, h2 => by
    refine itR ?_
    unfold fact_isName_loop1
    dsimp only
    have c : decide ((pre.length : Int) < (((pre ++ []) : List UInt8).length : Int)) = false := decide_eq_false (by simp)
    simp only [c, Bool.false_eq_true, if_false, List.all_nil, if_true]
  | b :: t, pre, h2 => by
    simp only [List.length_cons] at h2
    have w1 : IntKind.i64.wrap ((pre.length : Int) + 1) = ((pre ++ [b]).length : Int) := by rw [w64' (by omega) (by omega)]; simp
    have c : decide ((pre.length : Int) < (((pre ++ b :: t) : List UInt8).length : Int)) = true := decide_eq_true (by simp; omega)
    by_cases hd : okb b = true
    · have e := isName_loop t (pre ++ [b]) (by simp; omega)
      rw [List.append_assoc, List.singleton_append] at e
      refine (itL (s' := (pre ++ b :: t, ((pre ++ b :: t).length : Int), ((pre ++ [b]).length : Int), ())) ?_).trans (e.trans ?_)
      · rw [isName_step c, if_pos hd, w1]
      · simp [hd]
    · refine (itR (t := Sum.inr false) ?_).trans ?_
      · rw [isName_step c, if_neg hd]
      · simp [hd]
theorem isName_eq {s : List UInt8} (h : s.length ≤ 4611686018427387904) : fact_isName s = some (nameB s) := by
  unfold fact_isName
  dsimp only
  simp only [gPi, gSS, gPb, gPm, gPs, gM, gM2, gAnd, gOr, gAndI, gOrI, gAA, gAO, gOA, gOO, gAAf, gAOf, gOAf, gOOf, gAMf, gOMf, gId]
  simp only [gIn1, gIn2, gIn3, gIn4, gIn5, gIn6, gIn7, gIn8, gId, gIdF, gMb, gMm, gBm, gBb, bs, ms]
  have := isName_loop s [] (by simpa using h)
  simp only [List.nil_append, List.length_nil] at this
  rw [show ((0 : Nat) : Int) = 0 from rfl] at this
  rw [this]
  unfold nameB
  cases hh : s.all okb with
  | true =>
    simp only [if_true, bs]
    cases s == [] <;> cases s == [45] <;> rfl
  | false => rfl

theorem refName_step {pre t : List UInt8} {b : UInt8} (c : decide ((pre.length : Int) < ((pre ++ b :: t : List UInt8).length : Int)) = true) :
    ref25_Name_loop1 (pre ++ b :: t, (pre.length : Int), ()) = some (if okb b = true then .inl (pre ++ b :: t, IntKind.i64.wrap ((pre.length : Int) + 1), ()) else .inr (.inr false)) := by
  unfold ref25_Name_loop1
  dsimp only
  simp only [gPi, gSS, gPb, gPm, gPs, gM, gM2, gAnd, gOr, gAndI, gOrI, gAA, gAO, gOA, gOO, gAAf, gAOf, gOAf, gOOf, gAMf, gOMf, gId]
  simp only [gIn1, gIn2, gIn3, gIn4, gIn5, gIn6, gIn7, gIn8, gId, gIdF, gMb, gMm, gBm, gBb, bs, ms]
  simp only [c, if_true, sAt_mid', bs]
  unfold okb
  have e1 : decide ((b.toNat : Int) ≥ 97) = !decide ((b.toNat : Int) < 97) := by by_cases h : (b.toNat : Int) < 97 <;> simp [h] <;> omega
  have e2 : decide ((b.toNat : Int) ≤ 122) = !decide ((b.toNat : Int) > 122) := by by_cases h : (b.toNat : Int) ≤ 122 <;> simp [h] <;> omega
  have e3 : decide ((b.toNat : Int) ≥ 48) = !decide ((b.toNat : Int) < 48) := by by_cases h : (b.toNat : Int) < 48 <;> simp [h] <;> omega
  have e4 : decide ((b.toNat : Int) ≤ 57) = !decide ((b.toNat : Int) > 57) := by by_cases h : (b.toNat : Int) ≤ 57 <;> simp [h] <;> omega
  have e5 : ((b.toNat : Int) == 46) = !((b.toNat : Int) != 46) := by simp [bne]
  have e6 : ((b.toNat : Int) == 95) = !((b.toNat : Int) != 95) := by simp [bne]
  have e7 : ((b.toNat : Int) == 45) = !((b.toNat : Int) != 45) := by simp [bne]
  rw [e1, e2, e3, e4, e5, e6, e7]
  generalize decide ((b.toNat : Int) < 97) = q1
  generalize decide ((b.toNat : Int) > 122) = q2
  generalize decide ((b.toNat : Int) < 48) = q3
  generalize decide ((b.toNat : Int) > 57) = q4
  generalize ((b.toNat : Int) != 46) = q5
  generalize ((b.toNat : Int) != 95) = q6
  generalize ((b.toNat : Int) != 45) = q7
  cases q1 <;> cases q2 <;> cases q3 <;> cases q4 <;> cases q5 <;> cases q6 <;> cases q7 <;> rfl
theorem refName_loop : ∀ (t pre : List UInt8), pre.length + t.length ≤ 4611686018427387904 → iter ref25_Name_loop1 (pre ++ t, (pre.length : Int), ()) = some (if t.all okb then .inl () else .inr false)
  | [], pre, h2 => by
    refine itR ?_
    unfold ref25_Name_loop1
    dsimp only
    have c : decide ((pre.length : Int) < (((pre ++ []) : List UInt8).length : Int)) = false := decide_eq_false (by simp)
    simp only [c, Bool.false_eq_true, if_false, List.all_nil, if_true]
  | b :: t, pre, h2 => by
    simp only [List.length_cons] at h2
    have w1 : IntKind.i64.wrap ((pre.length : Int) + 1) = ((pre ++ [b]).length : Int) := by rw [w64' (by omega) (by omega)]; simp
    have c : decide ((pre.length : Int) < (((pre ++ b :: t) : List UInt8).length : Int)) = true := decide_eq_true (by simp; omega)
    by_cases hd : okb b = true
    · have e := refName_loop t (pre ++ [b]) (by simp; omega)
      rw [List.append_assoc, List.singleton_append] at e
      refine (itL (s' := (pre ++ b :: t, ((pre ++ [b]).length : Int), ())) ?_).trans (e.trans ?_)
      · rw [refName_step c, if_pos hd, w1]
      · simp [hd]
    · refine (itR (t := Sum.inr false) ?_).trans ?_
      · rw [refName_step c, if_neg hd]
      · simp [hd]
theorem refName_eq (s : List UInt8) : ref25_Name s = some (nameB s) := by
  unfold ref25_Name
  dsimp only
  simp only [gPi, gSS, gPb, gPm, gPs, gM, gM2, gAnd, gOr, gAndI, gOrI, gAA, gAO, gOA, gOO, gAAf, gAOf, gOAf, gOOf, gAMf, gOMf, gId]
  simp only [gIn1, gIn2, gIn3, gIn4, gIn5, gIn6, gIn7, gIn8, gId, gIdF, gMb, gMm, gBm, gBb, bs, ms]
  unfold nameB
  by_cases h : (s.length : Int) ≤ 32
  · have h1 : decide ((s.length : Int) > 32) = false := decide_eq_false (by omega)
    have h2 : decide ((s.length : Int) ≤ 32) = true := decide_eq_true h
    have := refName_loop s [] (by simp; omega)
    simp only [List.nil_append, List.length_nil] at this
    rw [show ((0 : Nat) : Int) = 0 from rfl] at this
    rw [this, h1, h2]
    cases s.all okb <;> cases s == [] <;> cases s == [45] <;> rfl
  · have h1 : decide ((s.length : Int) > 32) = true := decide_eq_true (by omega)
    have h2 : decide ((s.length : Int) ≤ 32) = false := decide_eq_false h
    rw [h1, h2]
    cases s.all okb <;> cases s == [] <;> cases s == [45] <;> rfl
end WB
namespace WB
open Go Go.RowKit

theorem pname_eq {s : List UInt8} : post_name s = some (nameB s) := by
  unfold post_name
  dsimp only
  have key : fact_Fact_Check (0, 1, 13, 0, 0, [], 0, s) = some (if nameB s = true then 0 else if decide ((s.length : Int) > 4096) = true then 4 else 3) := by
    unfold fact_Fact_Check
    dsimp only
    rw [show fact_known 13 = some true from rfl]
    rw [show fact_rules () = some _ from rfl]
    simp only [gPi, gSS, gPb, gPm, gPs, gM, gM2, gAnd, gOr, gAndI, gOrI, gAA, gAO, gOA, gOO, gAAf, gAOf, gOAf, gOOf, gAMf, gOMf, gId]
    simp only [gIn1, gIn2, gIn3, gIn4, gIn5, gIn6, gIn7, gIn8, gId, gIdF, gMb, gMm, gBm, gBb, bs, ms]
    rw [if_neg (by decide)]
    rw [show lAt _ (13 : Int) = some _ from lAt_nat (i := 13) rfl, bs]
    dsimp only
    rw [if_neg (by decide)]
    rw [show fact_Fact_days ((0, 1, 13, 0, 0, [], 0, s), [98, 97, 110, 107], false, true, Sum.inl (), 0, 0, Sum.inr (Sum.inr (Sum.inr (Sum.inr (Sum.inl ()))))) = some 0 from rfl, bs]
    rw [if_neg (by decide)]
    rw [show fact_empty [] = some true from rfl, bs]
    rw [if_neg (by decide)]
    rw [show (if decide ((0 : Int) < 0) = true then some true else some (decide ((0 : Int) > 0))) = some false from rfl, bs]
    rw [if_neg (by decide)]
    by_cases h : (s.length : Int) > 4096
    · have d : decide ((s.length : Int) > 4096) = true := decide_eq_true h
      have e : nameB s = false := by
        have : decide ((s.length : Int) ≤ 32) = false := decide_eq_false (by omega)
        simp [nameB, this]
      rw [d, if_pos rfl, e, if_neg (by decide), if_pos rfl]
    · have d : decide ((s.length : Int) > 4096) = false := decide_eq_false h
      rw [d, if_neg (by decide)]
      unfold fact_rules_2
      dsimp only
      rw [isName_eq (by omega), bs, bs]
      cases nameB s <;> rfl
  rw [key, bs]
  by_cases h : nameB s = true
  · rw [if_pos h, h]; rfl
  · rw [if_neg h]
    have : nameB s = false := by simpa using h
    rw [this]
    split <;> rfl
end WB
