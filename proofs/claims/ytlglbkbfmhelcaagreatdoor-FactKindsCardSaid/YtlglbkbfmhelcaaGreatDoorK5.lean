/-
  OWN TEXTS, MERGED (wip/merge.py): Piter, Pgd, Pfold, LibPu, LibPi. No condition of their own.
-/
import Derived.Test.YtlglbkbfmhelcaaGreatDoorK4
import Derived.Shelf.Strconv.ParseUint10At
import Derived.Lib.SmallJoins
import Derived.Lib.AtoiErrMem
import Derived.Shelf.Strconv.ParseIntPublic10
set_option linter.unusedVariables false
set_option linter.unusedSimpArgs false
namespace WB
open Go Go.RowKit

/-- Kept from simp's eye as no equation by reckoning (great bounds in a goal send the kernel deep). -/
theorem bs {α β : Type} (a : α) (f : α → Option β) : (some a).bind f = f a := (Option.bind_some a f).trans (Eq.refl _)
theorem ms {α β : Type} (a : α) (f : α → β) : (some a).map f = some (f a) := (Option.map_some (f := f) (a := a)).trans (Eq.refl _)

/-- A loop by an invariant with a measure. -/
theorem iter_inv {S T : Type} {b : S → Option (S ⊕ T)} {t : T} (I : Nat → S → Prop) (h : ∀ n s, I n s → (∃ s', b s = some (.inl s') ∧ ∃ m, m < n ∧ I m s') ∨ b s = some (.inr t)) : ∀ n s, I n s → iter b s = some t := by
  intro n
  induction n using Nat.strongRecOn with
  | _ n ih =>
    intro s hs
    rw [iter_eq]
    rcases h n s hs with ⟨s', h1, m, hm, h2⟩ | h1
    · rw [h1]; exact ih m hm s' h2
    · rw [h1]; rfl

theorem lAt_nat {α : Type} {xs : List α} {i : Nat} {a : α} (h : xs[i]? = some a) : lAt xs (i : Int) = some a := by
  have := (List.getElem?_eq_some_iff.1 h).1
  unfold lAt
  rw [if_pos ⟨by omega, by omega⟩]
  simpa using h
theorem sAt_nat {s : List UInt8} {i : Nat} {b : UInt8} (h : s[i]? = some b) : sAt s (i : Int) = some (b.toNat : Int) := by
  have := (List.getElem?_eq_some_iff.1 h).1
  unfold sAt
  rw [if_pos ⟨by omega, by omega⟩]
  simp [h]
theorem lSub_nat {α : Type} {xs : List α} {i j : Nat} (h1 : i ≤ j) (h2 : j ≤ xs.length) : lSub xs (i : Int) (j : Int) = some ((xs.take j).drop i) := by
  unfold lSub
  rw [if_pos ⟨by omega, by omega, by omega⟩]
  simp
theorem w64' {n : Int} (h1 : -9223372036854775808 ≤ n) (h2 : n ≤ 9223372036854775807) : IntKind.i64.wrap n = n := Go.IntWalk.i64_in n ⟨h1, h2⟩
theorem alGet_put {α β : Type} {eq : α → α → Bool} (he : ∀ a b, eq a b = true ↔ a = b) (z : β) (k k' : α) [Decidable (k = k')] (v : β) : ∀ (m : List (α × β)), alGet eq z k (alPut eq k' v m) = if k = k' then (v, true) else alGet eq z k m
  | [] => by
    unfold alPut alGet
    by_cases h : k = k'
    · subst h; simp [(he k k).2 rfl]
    · have : eq k k' = false := by
        cases hh : eq k k' with
        | false => rfl
        | true => exact absurd ((he _ _).1 hh) h
      simp [this, h, alGet]
  | p :: m => by
    unfold alPut
    by_cases hp : eq k' p.1 = true
    · rw [if_pos hp]
      have e := (he _ _).1 hp
      unfold alGet
      by_cases h : k = k'
      · subst h; simp [hp]
      · have : eq k p.1 = false := by
          cases hh : eq k p.1 with
          | false => rfl
          | true => exact absurd (((he _ _).1 hh).trans e.symm) h
        simp [this, h]
    · rw [if_neg hp]
      unfold alGet
      by_cases hq : eq k p.1 = true
      · have e := (he _ _).1 hq
        have : k ≠ k' := fun h => hp ((he _ _).2 (h.symm.trans e))
        simp [hq, this]
      · simp only [hq, Bool.false_eq_true, if_false]
        exact alGet_put he z k k' v m
theorem app1 {α : Type} {xs ys : List α} {k : Int} (hx : xs.length ≤ 1000000) (hy : ys.length ≤ 1000000) (hk : 0 ≤ k ∧ k ≤ 1000) :
    (if ((xs.length : Int) + (ys.length : Int)) * k ≤ 140737488355328 ∧ (xs.length : Int) + (ys.length : Int) ≤ 4611686018427387904 then some (xs ++ ys) else none) = some (xs ++ ys) := by
  rw [if_pos]
  refine ⟨?_, by omega⟩
  have h1 : ((xs.length : Int) + (ys.length : Int)) * k ≤ 2000000 * 1000 := Int.mul_le_mul (by omega) hk.2 hk.1 (by omega)
  omega
end WB
namespace WB
open Go Go.RowKit

section
variable {α β γ δ : Type} {p : Prop} [Decidable p]
theorem gPb (X : Option α) (f : α → Option β) : (if p then X else none).bind f = if p then X.bind f else none := by by_cases h : p <;> simp [h]
theorem gPm (X : Option α) (f : α → β) : (if p then X else none).map f = if p then X.map f else none := by by_cases h : p <;> simp [h]
theorem gPs (Y Z : Option β) (W : Option β) : (if p then (if p then Z else W) else Y) = if p then Z else Y := by by_cases h : p <;> simp [h]
theorem gPsm (Z W : Option α) (Y : Option (Option α)) : (if p then (if p then Z else W).map some else Y) = if p then Z.map some else Y := by by_cases h : p <;> simp [h]
theorem gM (A : Option α) (B : Option α → Option β) (K : Option β → Option γ) : (Option.bind (if p then A.map some else some none) fun x => Option.bind (if p then (B x).map some else some none) K) = Option.bind (if p then (A.bind fun v => B (some v)).map some else some none) K := by by_cases h : p <;> cases A <;> simp [h]
theorem gM2 (A : Option α) (B : Option α → Option β) (C : Option α → Option β → Option γ) (K : Option γ → Option δ) : (Option.bind (if p then A.map some else some none) fun x => Option.bind (if p then (B x).map some else some none) fun y => Option.bind (if p then (C x y).map some else some none) K) = Option.bind (if p then (A.bind fun v => (B (some v)).bind fun w => C (some v) (some w)).map some else some none) K := by
  by_cases h : p
  · cases A with
    | none => simp [h]
    | some v => simp only [h, if_true, Option.map_some, Option.bind_some]; cases B (some v) <;> simp
  · simp [h]
/-- The ends: and, or. -/
theorem gAnd (c : Bool) (A : Option α) (B : Option α → Option Bool) (K : Bool → Option β) : (Option.bind (if c = true then A.map some else some none) fun x => Option.bind (if c = true then B x else some false) K) = Option.bind (if c = true then A.bind fun v => B (some v) else some false) K := by cases c <;> cases A <;> simp
theorem gOr (c : Bool) (A : Option α) (B : Option α → Option Bool) (K : Bool → Option β) : (Option.bind (if c = false then A.map some else some none) fun x => Option.bind (if c = true then some true else B x) K) = Option.bind (if c = true then some true else A.bind fun v => B (some v)) K := by cases c <;> cases A <;> simp
/-- An and, or an or, within a guarded chain. -/
theorem gAndI (A B : Option Bool) (K : Option Bool → Option β) : (Option.bind (if p then A.map some else some none) fun g => Option.bind (if g = some true then B.map some else some none) fun x => Option.bind (if p then (g.bind fun z => if z = true then x else some false).map some else some none) K) = Option.bind (if p then (A.bind fun z => if z = true then B else some false).map some else some none) K := by
  by_cases h : p
  · cases A with
    | none => simp [h]
    | some v => cases v <;> cases B <;> simp [h]
  · simp [h]
theorem gOrI (A B : Option Bool) (K : Option Bool → Option β) : (Option.bind (if p then A.map some else some none) fun g => Option.bind (if g = some false then B.map some else some none) fun x => Option.bind (if p then (g.bind fun z => if z = true then some true else x).map some else some none) K) = Option.bind (if p then (A.bind fun z => if z = true then some true else B).map some else some none) K := by
  by_cases h : p
  · cases A with
    | none => simp [h]
    | some v => cases v <;> cases B <;> simp [h]
  · simp [h]
theorem gAA (c : Bool) (A : Option Bool) (B : Option α) (C : Option α → Option Bool) (K : Bool → Option β) : (Option.bind (if c = true then A.map some else some none) fun g => Option.bind (if g = some true then B.map some else some none) fun x => Option.bind (if c = true then g.bind fun z => if z = true then C x else some false else some false) K) = Option.bind (if c = true then A.bind fun z => if z = true then B.bind fun v => C (some v) else some false else some false) K := by
  cases c <;> cases A <;> first | (simp; done) | (rename_i v; cases v <;> cases B <;> simp)
theorem gAO (c : Bool) (A : Option Bool) (B : Option α) (C : Option α → Option Bool) (K : Bool → Option β) : (Option.bind (if c = false then A.map some else some none) fun g => Option.bind (if g = some true then B.map some else some none) fun x => Option.bind (if c = true then some true else g.bind fun z => if z = true then C x else some false) K) = Option.bind (if c = true then some true else A.bind fun z => if z = true then B.bind fun v => C (some v) else some false) K := by
  cases c <;> cases A <;> first | (simp; done) | (rename_i v; cases v <;> cases B <;> simp)
theorem gOA (c : Bool) (A : Option Bool) (B : Option α) (C : Option α → Option Bool) (K : Bool → Option β) : (Option.bind (if c = true then A.map some else some none) fun g => Option.bind (if g = some false then B.map some else some none) fun x => Option.bind (if c = true then g.bind fun z => if z = true then some true else C x else some false) K) = Option.bind (if c = true then A.bind fun z => if z = true then some true else B.bind fun v => C (some v) else some false) K := by
  cases c <;> cases A <;> first | (simp; done) | (rename_i v; cases v <;> cases B <;> simp)
theorem gOO (c : Bool) (A : Option Bool) (B : Option α) (C : Option α → Option Bool) (K : Bool → Option β) : (Option.bind (if c = false then A.map some else some none) fun g => Option.bind (if g = some false then B.map some else some none) fun x => Option.bind (if c = true then some true else g.bind fun z => if z = true then some true else C x) K) = Option.bind (if c = true then some true else A.bind fun z => if z = true then some true else B.bind fun v => C (some v)) K := by
  cases c <;> cases A <;> first | (simp; done) | (rename_i v; cases v <;> cases B <;> simp)
theorem gAAf (c : Bool) (A : Option Bool) (B : Option α) (C : Option α → Option Bool) (F : Bool → Option Bool) (K : Bool → Option β) : (Option.bind (if c = true then A.map some else some none) fun g => Option.bind (if g = some true then B.map some else some none) fun x => Option.bind (if c = true then (g.bind fun z => if z = true then C x else some false).bind F else some false) K) = Option.bind (if c = true then (A.bind fun z => if z = true then B.bind fun v => C (some v) else some false).bind F else some false) K := by
  cases c <;> cases A <;> first | (simp ; done) | (rename_i v; cases v <;> cases B <;> simp )
theorem gAOf (c : Bool) (A : Option Bool) (B : Option α) (C : Option α → Option Bool) (F : Bool → Option Bool) (K : Bool → Option β) : (Option.bind (if c = false then A.map some else some none) fun g => Option.bind (if g = some true then B.map some else some none) fun x => Option.bind (if c = true then some true else (g.bind fun z => if z = true then C x else some false).bind F) K) = Option.bind (if c = true then some true else (A.bind fun z => if z = true then B.bind fun v => C (some v) else some false).bind F) K := by
  cases c <;> cases A <;> first | (simp ; done) | (rename_i v; cases v <;> cases B <;> simp )
theorem gOAf (c : Bool) (A : Option Bool) (B : Option α) (C : Option α → Option Bool) (F : Bool → Option Bool) (K : Bool → Option β) : (Option.bind (if c = true then A.map some else some none) fun g => Option.bind (if g = some false then B.map some else some none) fun x => Option.bind (if c = true then (g.bind fun z => if z = true then some true else C x).bind F else some false) K) = Option.bind (if c = true then (A.bind fun z => if z = true then some true else B.bind fun v => C (some v)).bind F else some false) K := by
  cases c <;> cases A <;> first | (simp ; done) | (rename_i v; cases v <;> cases B <;> simp )
theorem gOOf (c : Bool) (A : Option Bool) (B : Option α) (C : Option α → Option Bool) (F : Bool → Option Bool) (K : Bool → Option β) : (Option.bind (if c = false then A.map some else some none) fun g => Option.bind (if g = some false then B.map some else some none) fun x => Option.bind (if c = true then some true else (g.bind fun z => if z = true then some true else C x).bind F) K) = Option.bind (if c = true then some true else (A.bind fun z => if z = true then some true else B.bind fun v => C (some v)).bind F) K := by
  cases c <;> cases A <;> first | (simp ; done) | (rename_i v; cases v <;> cases B <;> simp )
theorem gAMf (A : Option Bool) (B : Option α) (C : Option α → Option Bool) (F : Bool → Option γ) (K : Option γ → Option β) : (Option.bind (if p then A.map some else some none) fun g => Option.bind (if g = some true then B.map some else some none) fun x => Option.bind (if p then ((g.bind fun z => if z = true then C x else some false).bind F).map some else some none) K) = Option.bind (if p then ((A.bind fun z => if z = true then B.bind fun v => C (some v) else some false).bind F).map some else some none) K := by
  by_cases h : p <;> cases A <;> first | (simp [h]; done) | (rename_i v; cases v <;> cases B <;> simp [h])
theorem gOMf (A : Option Bool) (B : Option α) (C : Option α → Option Bool) (F : Bool → Option γ) (K : Option γ → Option β) : (Option.bind (if p then A.map some else some none) fun g => Option.bind (if g = some false then B.map some else some none) fun x => Option.bind (if p then ((g.bind fun z => if z = true then some true else C x).bind F).map some else some none) K) = Option.bind (if p then ((A.bind fun z => if z = true then some true else B.bind fun v => C (some v)).bind F).map some else some none) K := by
  by_cases h : p <;> cases A <;> first | (simp [h]; done) | (rename_i v; cases v <;> cases B <;> simp [h])
theorem gIn1 (A : Option α) (X Y : α → Option β) (R : α → β → Option γ) (Z : Option γ) : (if p then (A.bind fun v => (if p then X v else Y v).bind (R v)) else Z) = if p then (A.bind fun v => (X v).bind (R v)) else Z := by by_cases h : p <;> simp [h]
theorem gIn2 (A : Option α) (X Y : α → Option β) (R : α → β → γ) (Z : Option γ) : (if p then (A.bind fun v => (if p then X v else Y v).map (R v)) else Z) = if p then (A.bind fun v => (X v).map (R v)) else Z := by by_cases h : p <;> simp [h]
theorem gIn3 (X Y : Option β) (R : β → Option γ) (Z : Option γ) : (if p then ((if p then X else Y).bind R) else Z) = if p then (X.bind R) else Z := by by_cases h : p <;> simp [h]
theorem gIn4 (X Y : Option β) (R : β → γ) (Z : Option γ) : (if p then ((if p then X else Y).map R) else Z) = if p then (X.map R) else Z := by by_cases h : p <;> simp [h]
theorem gIn5 (c : Bool) (X Y : Option β) (R : β → Option γ) (Z : Option γ) : (if c = true then Z else ((if c = false then X else Y).bind R)) = if c = true then Z else X.bind R := by cases c <;> simp
theorem gIn6 (c : Bool) (A : Option α) (X Y : α → Option β) (R : α → β → Option γ) (Z : Option γ) : (if c = true then Z else (A.bind fun v => (if c = false then X v else Y v).bind (R v))) = if c = true then Z else (A.bind fun v => (X v).bind (R v)) := by cases c <;> simp
theorem gIn7 (c : Bool) (A : Option α) (X Y : α → Option β) (R : α → β → γ) (Z : Option γ) : (if c = true then Z else (A.bind fun v => (if c = false then X v else Y v).map (R v))) = if c = true then Z else (A.bind fun v => (X v).map (R v)) := by cases c <;> simp
theorem gIn8 (c : Bool) (X Y : Option β) (R : β → γ) (Z : Option γ) : (if c = true then Z else ((if c = false then X else Y).map R)) = if c = true then Z else X.map R := by cases c <;> simp
theorem gPi (X : Option α) (Y W : α → Option β) (Z : Option β) : (if p then (X.bind fun z => if p then Y z else W z) else Z) = if p then X.bind Y else Z := by by_cases h : p <;> simp [h]
theorem gSS (v : α) (Z : Option (Option α)) : (if p then some (some v) else Z) = if p then (some v).map some else Z := rfl
theorem gId (X : Option α) : X.map (fun z => z) = X := by cases X <;> rfl
theorem gIdF (X : Option α) : (X.bind fun z => some z) = X := by cases X <;> rfl
theorem gMb (X : Option α) (f : α → β) (g : β → Option γ) : (X.map f).bind g = X.bind fun v => g (f v) := by cases X <;> rfl
theorem gMm (X : Option α) (f : α → β) (g : β → γ) : (X.map f).map g = X.map fun v => g (f v) := by cases X <;> rfl
theorem gBm (X : Option α) (f : α → Option β) (g : β → γ) : (X.bind f).map g = X.bind fun v => (f v).map g := by cases X <;> rfl
theorem gBb (X : Option α) (f : α → Option β) (g : β → Option γ) : (X.bind f).bind g = X.bind fun v => (f v).bind g := by cases X <;> rfl
end
end WB
namespace WB
open Go Go.RowKit

/-- A fold that may end early. -/
def foldE {α A T : Type} (step : A → α → A ⊕ T) (fin : A → T) : A → List α → T
  | a, [] => fin a
  | a, x :: l => match step a x with
    | .inl a' => foldE step fin a' l
    | .inr t => t
/-- A turn's end, in the loop's words. -/
def turnE {S A T : Type} (mk : A → S) : A ⊕ T → S ⊕ T
  | .inl a => .inl (mk a)
  | .inr t => .inr t
theorem iter_fold {α S T A : Type} {b : S → Option (S ⊕ T)} (mk : Nat → A → S) (step : A → α → A ⊕ T) (fin : A → T) (I : Nat → A → Prop) (l0 : List α)
    (hs : ∀ i x a, l0[i]? = some x → I i a → b (mk i a) = some (turnE (mk (i + 1)) (step a x)))
    (hI : ∀ i x a a', l0[i]? = some x → I i a → step a x = .inl a' → I (i + 1) a')
    (he : ∀ a, I l0.length a → b (mk l0.length a) = some (.inr (fin a))) :
    ∀ (l : List α) (i : Nat) (a : A), l0.drop i = l → i ≤ l0.length → I i a → iter b (mk i a) = some (foldE step fin a l)
  | [], i, a, hd, hi, h => by
    have : i = l0.length := by
      have := congrArg List.length hd
      simp at this
      omega
    subst this
    rw [iter_eq, he a h]
    rfl
  | x :: l, i, a, hd, hi, h => by
    have hx : l0[i]? = some x := by
      have := congrArg (fun q => q[0]?) hd
      simpa using this
    have hlt : i < l0.length := (List.getElem?_eq_some_iff.1 hx).1
    rw [iter_eq, hs i x a hx h]
    cases hst : step a x with
    | inl a' =>
      have e := iter_fold mk step fin I l0 hs hI he l (i + 1) a' (by rw [← List.tail_drop, hd]; rfl) hlt (hI i x a a' hx h hst)
      show iter b (mk (i + 1) a') = _
      rw [e, foldE, hst]
    | inr t =>
      show some t = _
      rw [foldE, hst]
theorem iter_fold0 {α S T A : Type} {b : S → Option (S ⊕ T)} (mk : Nat → A → S) (step : A → α → A ⊕ T) (fin : A → T) (I : Nat → A → Prop) (l : List α) {a : A} (h : I 0 a)
    (hs : ∀ i x a, l[i]? = some x → I i a → b (mk i a) = some (turnE (mk (i + 1)) (step a x)))
    (hI : ∀ i x a a', l[i]? = some x → I i a → step a x = .inl a' → I (i + 1) a')
    (he : ∀ a, I l.length a → b (mk l.length a) = some (.inr (fin a))) : iter b (mk 0 a) = some (foldE step fin a l) :=
  iter_fold mk step fin I l hs hI he l 0 a rfl (by omega) h
theorem lt_len {α : Type} {l : List α} {i : Nat} {x : α} (h : l[i]? = some x) : decide ((i : Int) < (l.length : Int)) = true :=
  decide_eq_true (by have := (List.getElem?_eq_some_iff.1 h).1; omega)
theorem nlt_len {α : Type} (l : List α) : decide ((l.length : Int) < (l.length : Int)) = false := decide_eq_false (by omega)
theorem w_succ {i : Nat} (h : i < 9223372036854775807) : IntKind.i64.wrap ((i : Int) + 1) = ((i + 1 : Nat) : Int) := by
  rw [w64' (by omega) (by omega)]; simp
theorem lAt_mid' {α : Type} {pre t : List α} {b : α} : lAt (pre ++ b :: t) (pre.length : Int) = some b := lAt_nat (by simp)
theorem appOk' {α : Type} {xs ys : List α} {k : Int} (hx : xs.length + ys.length ≤ 1000000) (hk : 0 ≤ k ∧ k ≤ 1000) {β : Type} {f : Option β} :
    (if ((xs.length : Int) + (ys.length : Int)) * k ≤ 140737488355328 ∧ (xs.length : Int) + (ys.length : Int) ≤ 4611686018427387904 then f else none) = f := by
  rw [if_pos]
  refine ⟨?_, by omega⟩
  have h1 : ((xs.length : Int) + (ys.length : Int)) * k ≤ 1000000 * 1000 := Int.mul_le_mul (by omega) hk.2 hk.1 (by omega)
  omega
theorem foldE_app {α β T : Type} (f : α → List β) (fin : List β → T) : ∀ (l : List α) (a : List β), foldE (fun a x => Sum.inl (a ++ f x)) fin a l = fin (a ++ l.flatMap f)
  | [], a => by simp [foldE]
  | x :: l, a => by rw [foldE]; simp only; rw [foldE_app f fin l (a ++ f x)]; simp
end WB
namespace WB
open Go Go.RowKit

def internal_strconv_ParseUint : List UInt8 × Int × Int → Option (Int × Bool) := fun x =>
  if x.2.1 = 10 ∧ x.2.2 = 64 ∧ x.1.length ≤ 9223372036854775806 then some (match Lib.parseUintB 64 x.1 with | .ok n => ((n : Int), true) | .syntax => (0, false) | .range => (18446744073709551615, false)) else none
theorem internal_strconv_ParseUint_ok {P : Program} {B : TB} {f : Nat} (hb : hasBody P f = true) {T e8 : TypeId}
    (hc : ∀ (t : ByteArray) (_ : t.size ≤ 9223372036854775806) (w : World), Calls P f #[.string t, .int .i64 10, .int .i64 64] w fun e w' => e = .returned (Lib.uintTupleM T 18446744073709551615 (Lib.parseUintB 64 t.data.toList)) ∧ (w' = w ∨ w' = Lib.bytesWorld w e8 t))
    {x : D (.cons .str (.cons (.int .i64) (.one (.int .i64))))} {l : List CV} {y : D (.tup (.cons (.int .u64) (.one .err)))} (hx : Can (.cons .str (.cons (.int .i64) (.one (.int .i64)))) x l) (hy : internal_strconv_ParseUint x = some y) :
    hasBody P f = true ∧ CallsTo P B.G f l (.val (enc (.tup (.cons (.int .u64) (.one .err))) y)) := by
  refine ⟨hb, fun w M vs hM hGk hL => ?_⟩
  obtain ⟨s, b, k⟩ := x
  simp only [internal_strconv_ParseUint] at hy
  split at hy
  · rename_i h
    obtain ⟨rfl, rfl, h1⟩ := h
    simp only [Option.some.injEq] at hy
    unfold Can at hx
    obtain ⟨c1, l', rfl, h2, h3⟩ := hx
    unfold Can at h2 h3
    obtain ⟨c2, l'', rfl, h4, h5⟩ := h3
    unfold Can at h4 h5
    obtain ⟨c3, rfl, h6⟩ := h5
    unfold Can at h6
    cases h2; cases h4; cases h6
    unfold RelL RelC at hL
    obtain ⟨v, vs', rfl, rfl, hL⟩ := hL
    unfold RelL RelC at hL
    obtain ⟨v, vs', rfl, rfl, hL⟩ := hL
    unfold RelL RelC at hL
    obtain ⟨v, vs', rfl, rfl, hL⟩ := hL
    unfold RelL at hL
    subst hL
    refine (hc ⟨⟨s⟩⟩ (by simpa [ByteArray.size] using h1) w).mono fun e w' he => ?_
    obtain ⟨rfl, hw⟩ := he
    have hbw : Below w.heap.size w w' := by
      rcases hw with rfl | rfl
      · exact Below.refl _ _
      · exact (by first | exact Lib.bytesWorld_below _ _ _ | exact below_bytesWorld _ _ _ _ (Nat.le_refl _) | exact Go.Proofs.below_bytesWorld _ _ _ _ (Nat.le_refl _))
    refine ⟨_, rfl, hbw, ?_⟩
    subst hy
    cases Lib.parseUintB 64 s with
    | ok n => exact ⟨_, rfl, _, _, rfl, rfl, _, _, rfl, rfl, rfl⟩
    | «syntax» => exact ⟨_, rfl, _, _, rfl, rfl, _, _, rfl, ⟨_, _, rfl⟩, rfl⟩
    | range => exact ⟨_, rfl, _, _, rfl, rfl, _, _, rfl, ⟨_, _, rfl⟩, rfl⟩
  · cases hy
end WB
namespace WB
open Go Go.RowKit

def strconv_ParseInt : List UInt8 × Int × Int → Option (Int × Bool) := fun x =>
  if x.2.1 = 10 ∧ x.2.2 = 64 ∧ x.1.length ≤ 9223372036854775806 then (match Lib.parseIntB 64 x.1 with | .ok n => some (n, true) | _ => none) else none
theorem strconv_ParseInt_ok {P : Program} {B : TB} {f : Nat} (hb : hasBody P f = true) {e8 : TypeId}
    (hc : ∀ (s : ByteArray) (_ : s.size ≤ 9223372036854775806) (v : Int) (_ : Lib.parseIntB 64 s.data.toList = .ok v) (w : World), Calls P f #[.string s, .int .i64 10, .int .i64 64] w fun e w' => e = .returned (.tuple #[.int .i64 v, .nilIface]) ∧ (w' = w ∨ ∃ t, w' = Lib.bytesWorld w e8 t))
    {x : D (.cons .str (.cons (.int .i64) (.one (.int .i64))))} {l : List CV} {y : D (.tup (.cons (.int .i64) (.one .err)))} (hx : Can (.cons .str (.cons (.int .i64) (.one (.int .i64)))) x l) (hy : strconv_ParseInt x = some y) :
    hasBody P f = true ∧ CallsTo P B.G f l (.val (enc (.tup (.cons (.int .i64) (.one .err))) y)) := by
  refine ⟨hb, fun w M vs hM hGk hL => ?_⟩
  obtain ⟨s, b, k⟩ := x
  simp only [strconv_ParseInt] at hy
  split at hy
  · rename_i h
    obtain ⟨rfl, rfl, h1⟩ := h
    split at hy <;> try (cases hy; done)
    rename_i n hn
    cases hy
    unfold Can at hx
    obtain ⟨c1, l', rfl, h2, h3⟩ := hx
    unfold Can at h2 h3
    obtain ⟨c2, l'', rfl, h4, h5⟩ := h3
    unfold Can at h4 h5
    obtain ⟨c3, rfl, h6⟩ := h5
    unfold Can at h6
    cases h2; cases h4; cases h6
    unfold RelL RelC at hL
    obtain ⟨v, vs', rfl, rfl, hL⟩ := hL
    unfold RelL RelC at hL
    obtain ⟨v, vs', rfl, rfl, hL⟩ := hL
    unfold RelL RelC at hL
    obtain ⟨v, vs', rfl, rfl, hL⟩ := hL
    unfold RelL at hL
    subst hL
    refine (hc ⟨⟨s⟩⟩ (by simpa [ByteArray.size] using h1) n hn w).mono fun e w' he => ?_
    obtain ⟨rfl, hw⟩ := he
    have hbw : Below w.heap.size w w' := by
      rcases hw with rfl | ⟨t, rfl⟩
      · exact Below.refl _ _
      · exact (by first | exact Lib.bytesWorld_below _ _ _ | exact Go.Joins.below_bytesWorld _ _ _ _ (Nat.le_refl _))
    exact ⟨_, rfl, hbw, _, rfl, _, _, rfl, rfl, _, _, rfl, rfl, rfl⟩
  · cases hy
end WB
