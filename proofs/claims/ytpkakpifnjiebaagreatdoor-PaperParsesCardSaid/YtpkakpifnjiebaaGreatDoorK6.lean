/-
 OWN TEXTS, MERGED (wip/merge.py): Piter, Pgd, Pfold, Pu64, Pdg, LibIt, LibSk, LibBw, LibPq, LibAt, LibCt. No condition of their own.
-/
import Derived.Test.YtpkakpifnjiebaaGreatDoorK4
import Derived.Lib.Mul64
import Derived.Laws.Bits64b
import Derived.Laws.BitsLemmas
import Derived.Lib.ItoaNum
import Derived.Sort.KeysCollected
import Derived.Shelf.Strings.BuilderK
import Derived.Shelf.Strings.BuilderCap
import Derived.Shelf.Pu.ParseUintPublic10
import Derived.Lib.SmallJoins
import Derived.Lib.AtoiErrMem
import Derived.Lib.AtoiAll
set_option linter.unusedVariables false
set_option linter.unusedSimpArgs false
namespace WB
open Go Go.RowKit
theorem bs {α β : Type} (a : α) (f : α → Option β) : (some a).bind f = f a := (Option.bind_some a f).trans (Eq.refl _)
theorem ms {α β : Type} (a : α) (f : α → β) : (some a).map f = some (f a) := (Option.map_some (f := f) (a := a)).trans (Eq.refl _)
theorem lAt_nat {α : Type} {xs : List α} {i : Nat} {a : α} (h : xs[i]? = some a) : lAt xs (i : Int) = some a := by
 have := (List.getElem?_eq_some_iff.1 h).1
 unfold lAt
 rw [if_pos ⟨by omega, by omega⟩]
 simpa using h
theorem sAt_nat {s : List UInt8} {i : Nat} {b : UInt8} (h : s[i]? = some b) : sAt s (i : Int) = some (b.toNat : Int) := by
 have := (List.getElem?_eq_some_iff.1 h).1
 unfold sAt
 rw [if_pos ⟨by omega, by omega⟩]
 simp [h]
theorem lSub_nat {α : Type} {xs : List α} {i j : Nat} (h1 : i ≤ j) (h2 : j ≤ xs.length) : lSub xs (i : Int) (j : Int) = some ((xs.take j).drop i) := by
 unfold lSub
 rw [if_pos ⟨by omega, by omega, by omega⟩]
 simp
theorem w64' {n : Int} (h1 : -9223372036854775808 ≤ n) (h2 : n ≤ 9223372036854775807) : IntKind.i64.wrap n = n := Go.IntWalk.i64_in n ⟨h1, h2⟩
theorem alGet_put {α β : Type} {eq : α → α → Bool} (he : ∀ a b, eq a b = true ↔ a = b) (z : β) (k k' : α) [Decidable (k = k')] (v : β) : ∀ (m : List (α × β)), alGet eq z k (alPut eq k' v m) = if k = k' then (v, true) else alGet eq z k m
 | [] => by
  unfold alPut alGet
  by_cases h : k = k'
  ·subst h; simp [(he k k).2 rfl]
  ·have : eq k k' = false := by
    cases hh : eq k k' with
    | false => rfl
    | true => exact absurd ((he _ _).1 hh) h
   simp [this, h, alGet]
 | p :: m => by
  unfold alPut
  by_cases hp : eq k' p.1 = true
  ·rw [if_pos hp]
   have e := (he _ _).1 hp
   unfold alGet
   by_cases h : k = k'
   ·subst h; simp [hp]
   ·have : eq k p.1 = false := by
     cases hh : eq k p.1 with
     | false => rfl
     | true => exact absurd (((he _ _).1 hh).trans e.symm) h
    simp [this, h]
  ·rw [if_neg hp]
   unfold alGet
   by_cases hq : eq k p.1 = true
   ·have e := (he _ _).1 hq
    have : k ≠ k' := fun h => hp ((he _ _).2 (h.symm.trans e))
    simp [hq, this]
   ·simp only [hq, Bool.false_eq_true, if_false]
    exact alGet_put he z k k' v m
end WB
namespace WB
open Go Go.RowKit
section
variable {α β γ δ : Type} {p : Prop} [Decidable p]
theorem gPb (X : Option α) (f : α → Option β) : (if p then X else none).bind f = if p then X.bind f else none := by by_cases h : p <;> simp [h]
theorem gPm (X : Option α) (f : α → β) : (if p then X else none).map f = if p then X.map f else none := by by_cases h : p <;> simp [h]
theorem gPs (Y Z : Option β) (W : Option β) : (if p then (if p then Z else W) else Y) = if p then Z else Y := by by_cases h : p <;> simp [h]
theorem gM (A : Option α) (B : Option α → Option β) (K : Option β → Option γ) : (Option.bind (if p then A.map some else some none) fun x => Option.bind (if p then (B x).map some else some none) K) = Option.bind (if p then (A.bind fun v => B (some v)).map some else some none) K := by by_cases h : p <;> cases A <;> simp [h]
theorem gM2 (A : Option α) (B : Option α → Option β) (C : Option α → Option β → Option γ) (K : Option γ → Option δ) : (Option.bind (if p then A.map some else some none) fun x => Option.bind (if p then (B x).map some else some none) fun y => Option.bind (if p then (C x y).map some else some none) K) = Option.bind (if p then (A.bind fun v => (B (some v)).bind fun w => C (some v) (some w)).map some else some none) K := by
 by_cases h : p
 ·cases A with
  | none => simp [h]
  | some v => simp only [h, if_true, Option.map_some, Option.bind_some]; cases B (some v) <;> simp
 ·simp [h]
theorem gAnd (c : Bool) (A : Option α) (B : Option α → Option Bool) (K : Bool → Option β) : (Option.bind (if c = true then A.map some else some none) fun x => Option.bind (if c = true then B x else some false) K) = Option.bind (if c = true then A.bind fun v => B (some v) else some false) K := by cases c <;> cases A <;> simp
theorem gOr (c : Bool) (A : Option α) (B : Option α → Option Bool) (K : Bool → Option β) : (Option.bind (if c = false then A.map some else some none) fun x => Option.bind (if c = true then some true else B x) K) = Option.bind (if c = true then some true else A.bind fun v => B (some v)) K := by cases c <;> cases A <;> simp
theorem gAndI (A B : Option Bool) (K : Option Bool → Option β) : (Option.bind (if p then A.map some else some none) fun g => Option.bind (if g = some true then B.map some else some none) fun x => Option.bind (if p then (g.bind fun z => if z = true then x else some false).map some else some none) K) = Option.bind (if p then (A.bind fun z => if z = true then B else some false).map some else some none) K := by
 by_cases h : p
 ·cases A with
  | none => simp [h]
  | some v => cases v <;> cases B <;> simp [h]
 ·simp [h]
theorem gOrI (A B : Option Bool) (K : Option Bool → Option β) : (Option.bind (if p then A.map some else some none) fun g => Option.bind (if g = some false then B.map some else some none) fun x => Option.bind (if p then (g.bind fun z => if z = true then some true else x).map some else some none) K) = Option.bind (if p then (A.bind fun z => if z = true then some true else B).map some else some none) K := by
 by_cases h : p
 ·cases A with
  | none => simp [h]
  | some v => cases v <;> cases B <;> simp [h]
 ·simp [h]
theorem gAA (c : Bool) (A : Option Bool) (B : Option α) (C : Option α → Option Bool) (K : Bool → Option β) : (Option.bind (if c = true then A.map some else some none) fun g => Option.bind (if g = some true then B.map some else some none) fun x => Option.bind (if c = true then g.bind fun z => if z = true then C x else some false else some false) K) = Option.bind (if c = true then A.bind fun z => if z = true then B.bind fun v => C (some v) else some false else some false) K := by
 cases c <;> cases A <;> first | (simp; done) | (rename_i v; cases v <;> cases B <;> simp)
theorem gAO (c : Bool) (A : Option Bool) (B : Option α) (C : Option α → Option Bool) (K : Bool → Option β) : (Option.bind (if c = false then A.map some else some none) fun g => Option.bind (if g = some true then B.map some else some none) fun x => Option.bind (if c = true then some true else g.bind fun z => if z = true then C x else some false) K) = Option.bind (if c = true then some true else A.bind fun z => if z = true then B.bind fun v => C (some v) else some false) K := by
 cases c <;> cases A <;> first | (simp; done) | (rename_i v; cases v <;> cases B <;> simp)
theorem gOA (c : Bool) (A : Option Bool) (B : Option α) (C : Option α → Option Bool) (K : Bool → Option β) : (Option.bind (if c = true then A.map some else some none) fun g => Option.bind (if g = some false then B.map some else some none) fun x => Option.bind (if c = true then g.bind fun z => if z = true then some true else C x else some false) K) = Option.bind (if c = true then A.bind fun z => if z = true then some true else B.bind fun v => C (some v) else some false) K := by
 cases c <;> cases A <;> first | (simp; done) | (rename_i v; cases v <;> cases B <;> simp)
theorem gOO (c : Bool) (A : Option Bool) (B : Option α) (C : Option α → Option Bool) (K : Bool → Option β) : (Option.bind (if c = false then A.map some else some none) fun g => Option.bind (if g = some false then B.map some else some none) fun x => Option.bind (if c = true then some true else g.bind fun z => if z = true then some true else C x) K) = Option.bind (if c = true then some true else A.bind fun z => if z = true then some true else B.bind fun v => C (some v)) K := by
 cases c <;> cases A <;> first | (simp; done) | (rename_i v; cases v <;> cases B <;> simp)
theorem gAAf (c : Bool) (A : Option Bool) (B : Option α) (C : Option α → Option Bool) (F : Bool → Option Bool) (K : Bool → Option β) : (Option.bind (if c = true then A.map some else some none) fun g => Option.bind (if g = some true then B.map some else some none) fun x => Option.bind (if c = true then (g.bind fun z => if z = true then C x else some false).bind F else some false) K) = Option.bind (if c = true then (A.bind fun z => if z = true then B.bind fun v => C (some v) else some false).bind F else some false) K := by
 cases c <;> cases A <;> first | (simp ; done) | (rename_i v; cases v <;> cases B <;> simp )
theorem gAOf (c : Bool) (A : Option Bool) (B : Option α) (C : Option α → Option Bool) (F : Bool → Option Bool) (K : Bool → Option β) : (Option.bind (if c = false then A.map some else some none) fun g => Option.bind (if g = some true then B.map some else some none) fun x => Option.bind (if c = true then some true else (g.bind fun z => if z = true then C x else some false).bind F) K) = Option.bind (if c = true then some true else (A.bind fun z => if z = true then B.bind fun v => C (some v) else some false).bind F) K := by
 cases c <;> cases A <;> first | (simp ; done) | (rename_i v; cases v <;> cases B <;> simp )
theorem gOAf (c : Bool) (A : Option Bool) (B : Option α) (C : Option α → Option Bool) (F : Bool → Option Bool) (K : Bool → Option β) : (Option.bind (if c = true then A.map some else some none) fun g => Option.bind (if g = some false then B.map some else some none) fun x => Option.bind (if c = true then (g.bind fun z => if z = true then some true else C x).bind F else some false) K) = Option.bind (if c = true then (A.bind fun z => if z = true then some true else B.bind fun v => C (some v)).bind F else some false) K := by
 cases c <;> cases A <;> first | (simp ; done) | (rename_i v; cases v <;> cases B <;> simp )
theorem gOOf (c : Bool) (A : Option Bool) (B : Option α) (C : Option α → Option Bool) (F : Bool → Option Bool) (K : Bool → Option β) : (Option.bind (if c = false then A.map some else some none) fun g => Option.bind (if g = some false then B.map some else some none) fun x => Option.bind (if c = true then some true else (g.bind fun z => if z = true then some true else C x).bind F) K) = Option.bind (if c = true then some true else (A.bind fun z => if z = true then some true else B.bind fun v => C (some v)).bind F) K := by
 cases c <;> cases A <;> first | (simp ; done) | (rename_i v; cases v <;> cases B <;> simp )
theorem gAMf (A : Option Bool) (B : Option α) (C : Option α → Option Bool) (F : Bool → Option γ) (K : Option γ → Option β) : (Option.bind (if p then A.map some else some none) fun g => Option.bind (if g = some true then B.map some else some none) fun x => Option.bind (if p then ((g.bind fun z => if z = true then C x else some false).bind F).map some else some none) K) = Option.bind (if p then ((A.bind fun z => if z = true then B.bind fun v => C (some v) else some false).bind F).map some else some none) K := by
 by_cases h : p <;> cases A <;> first | (simp [h]; done) | (rename_i v; cases v <;> cases B <;> simp [h])
theorem gOMf (A : Option Bool) (B : Option α) (C : Option α → Option Bool) (F : Bool → Option γ) (K : Option γ → Option β) : (Option.bind (if p then A.map some else some none) fun g => Option.bind (if g = some false then B.map some else some none) fun x => Option.bind (if p then ((g.bind fun z => if z = true then some true else C x).bind F).map some else some none) K) = Option.bind (if p then ((A.bind fun z => if z = true then some true else B.bind fun v => C (some v)).bind F).map some else some none) K := by
 by_cases h : p <;> cases A <;> first | (simp [h]; done) | (rename_i v; cases v <;> cases B <;> simp [h])
theorem gIn1 (A : Option α) (X Y : α → Option β) (R : α → β → Option γ) (Z : Option γ) : (if p then (A.bind fun v => (if p then X v else Y v).bind (R v)) else Z) = if p then (A.bind fun v => (X v).bind (R v)) else Z := by by_cases h : p <;> simp [h]
theorem gIn2 (A : Option α) (X Y : α → Option β) (R : α → β → γ) (Z : Option γ) : (if p then (A.bind fun v => (if p then X v else Y v).map (R v)) else Z) = if p then (A.bind fun v => (X v).map (R v)) else Z := by by_cases h : p <;> simp [h]
theorem gIn3 (X Y : Option β) (R : β → Option γ) (Z : Option γ) : (if p then ((if p then X else Y).bind R) else Z) = if p then (X.bind R) else Z := by by_cases h : p <;> simp [h]
theorem gIn4 (X Y : Option β) (R : β → γ) (Z : Option γ) : (if p then ((if p then X else Y).map R) else Z) = if p then (X.map R) else Z := by by_cases h : p <;> simp [h]
theorem gIn5 (c : Bool) (X Y : Option β) (R : β → Option γ) (Z : Option γ) : (if c = true then Z else ((if c = false then X else Y).bind R)) = if c = true then Z else X.bind R := by cases c <;> simp
theorem gIn6 (c : Bool) (A : Option α) (X Y : α → Option β) (R : α → β → Option γ) (Z : Option γ) : (if c = true then Z else (A.bind fun v => (if c = false then X v else Y v).bind (R v))) = if c = true then Z else (A.bind fun v => (X v).bind (R v)) := by cases c <;> simp
theorem gIn7 (c : Bool) (A : Option α) (X Y : α → Option β) (R : α → β → γ) (Z : Option γ) : (if c = true then Z else (A.bind fun v => (if c = false then X v else Y v).map (R v))) = if c = true then Z else (A.bind fun v => (X v).map (R v)) := by cases c <;> simp
theorem gIn8 (c : Bool) (X Y : Option β) (R : β → γ) (Z : Option γ) : (if c = true then Z else ((if c = false then X else Y).map R)) = if c = true then Z else X.map R := by cases c <;> simp
theorem gPi (X : Option α) (Y W : α → Option β) (Z : Option β) : (if p then (X.bind fun z => if p then Y z else W z) else Z) = if p then X.bind Y else Z := by by_cases h : p <;> simp [h]
theorem gSS (v : α) (Z : Option (Option α)) : (if p then some (some v) else Z) = if p then (some v).map some else Z := rfl
theorem gId (X : Option α) : X.map (fun z => z) = X := by cases X <;> rfl
theorem gIdF (X : Option α) : (X.bind fun z => some z) = X := by cases X <;> rfl
theorem gMb (X : Option α) (f : α → β) (g : β → Option γ) : (X.map f).bind g = X.bind fun v => g (f v) := by cases X <;> rfl
theorem gMm (X : Option α) (f : α → β) (g : β → γ) : (X.map f).map g = X.map fun v => g (f v) := by cases X <;> rfl
theorem gBm (X : Option α) (f : α → Option β) (g : β → γ) : (X.bind f).map g = X.bind fun v => (f v).map g := by cases X <;> rfl
theorem gBb (X : Option α) (f : α → Option β) (g : β → Option γ) : (X.bind f).bind g = X.bind fun v => (f v).bind g := by cases X <;> rfl
end
end WB
namespace WB
open Go Go.RowKit
def foldE {α A T : Type} (step : A → α → A ⊕ T) (fin : A → T) : A → List α → T
 | a, [] => fin a
 | a, x :: l => match step a x with
  | .inl a' => foldE step fin a' l
  | .inr t => t
def turnE {S A T : Type} (mk : A → S) : A ⊕ T → S ⊕ T
 | .inl a => .inl (mk a)
 | .inr t => .inr t
theorem iter_fold {α S T A : Type} {b : S → Option (S ⊕ T)} (mk : Nat → A → S) (step : A → α → A ⊕ T) (fin : A → T) (I : Nat → A → Prop) (l0 : List α)
  (hs : ∀ i x a, l0[i]? = some x → I i a → b (mk i a) = some (turnE (mk (i + 1)) (step a x)))
  (hI : ∀ i x a a', l0[i]? = some x → I i a → step a x = .inl a' → I (i + 1) a')
  (he : ∀ a, I l0.length a → b (mk l0.length a) = some (.inr (fin a))) :
  ∀ (l : List α) (i : Nat) (a : A), l0.drop i = l → i ≤ l0.length → I i a → iter b (mk i a) = some (foldE step fin a l)
 | [], i, a, hd, hi, h => by
  have : i = l0.length := by
   have := congrArg List.length hd
   simp at this
   omega
  subst this
  rw [iter_eq, he a h]
  rfl
 | x :: l, i, a, hd, hi, h => by
  have hx : l0[i]? = some x := by
   have := congrArg (fun q => q[0]?) hd
   simpa using this
  have hlt : i < l0.length := (List.getElem?_eq_some_iff.1 hx).1
  rw [iter_eq, hs i x a hx h]
  cases hst : step a x with
  | inl a' =>
   have e := iter_fold mk step fin I l0 hs hI he l (i + 1) a' (by rw [← List.tail_drop, hd]; rfl) hlt (hI i x a a' hx h hst)
   show iter b (mk (i + 1) a') = _
   rw [e, foldE, hst]
  | inr t =>
   show some t = _
   rw [foldE, hst]
theorem iter_fold0 {α S T A : Type} {b : S → Option (S ⊕ T)} (mk : Nat → A → S) (step : A → α → A ⊕ T) (fin : A → T) (I : Nat → A → Prop) (l : List α) {a : A} (h : I 0 a)
  (hs : ∀ i x a, l[i]? = some x → I i a → b (mk i a) = some (turnE (mk (i + 1)) (step a x)))
  (hI : ∀ i x a a', l[i]? = some x → I i a → step a x = .inl a' → I (i + 1) a')
  (he : ∀ a, I l.length a → b (mk l.length a) = some (.inr (fin a))) : iter b (mk 0 a) = some (foldE step fin a l) :=
 iter_fold mk step fin I l hs hI he l 0 a rfl (by omega) h
theorem lt_len {α : Type} {l : List α} {i : Nat} {x : α} (h : l[i]? = some x) : decide ((i : Int) < (l.length : Int)) = true :=
 decide_eq_true (by have := (List.getElem?_eq_some_iff.1 h).1; omega)
theorem nlt_len {α : Type} (l : List α) : decide ((l.length : Int) < (l.length : Int)) = false := decide_eq_false (by omega)
theorem w_succ {i : Nat} (h : i < 9223372036854775807) : IntKind.i64.wrap ((i : Int) + 1) = ((i + 1 : Nat) : Int) := by
 rw [w64' (by omega) (by omega)]; simp
theorem appOk' {α : Type} {xs ys : List α} {k : Int} (hx : xs.length + ys.length ≤ 1000000) (hk : 0 ≤ k ∧ k ≤ 1000) {β : Type} {f : Option β} :
  (if ((xs.length : Int) + (ys.length : Int)) * k ≤ 140737488355328 ∧ (xs.length : Int) + (ys.length : Int) ≤ 4611686018427387904 then f else none) = f := by
 rw [if_pos]
 refine ⟨?_, by omega⟩
 have h1 : ((xs.length : Int) + (ys.length : Int)) * k ≤ 1000000 * 1000 := Int.mul_le_mul (by omega) hk.2 hk.1 (by omega)
 omega
end WB
namespace WB
open Go Go.RowKit
end WB
namespace WB
open Go Go.RowKit
def dgt (b : UInt8) : Bool := !(decide ((b.toNat : Int) < 48) || decide ((b.toNat : Int) > 57))
def numV (a : Nat) (s : List UInt8) : Nat := s.foldl (fun a c => a * 10 + (c.toNat - 48)) a
theorem numV_le : ∀ (s : List UInt8) (a : Nat), a ≤ numV a s
 | [], a => Nat.le_refl _
 | c :: s, a => by
  have := numV_le s (a * 10 + (c.toNat - 48))
  show a ≤ numV (a * 10 + (c.toNat - 48)) s
  omega
theorem dgt_iff {b : UInt8} : dgt b = true ↔ 48 ≤ b.toNat ∧ b.toNat ≤ 57 := by
 unfold dgt
 by_cases h1 : (b.toNat : Int) < 48 <;> by_cases h2 : (b.toNat : Int) > 57 <;> simp [h1, h2] <;> omega
def canon (s : List UInt8) : Bool := !(s == []) && !(decide ((s.length : Int) > 1) && s.head? == some 48) && s.all dgt
theorem numV_app (a : Nat) (s : List UInt8) (b : UInt8) : numV a (s ++ [b]) = numV a s * 10 + (b.toNat - 48) := by simp [numV]
def noughty (w : List UInt8) : Bool := decide ((w.length : Int) > 1) && w.head? == some 48
theorem canon_of (w : List UInt8) (h : w.all dgt = true) : canon w = (!(w == []) && !noughty w) := by
 unfold canon noughty
 rw [h, Bool.and_true]
def dg9 (n : Nat) : UInt8 := UInt8.ofNat (48 + n)
theorem dg9_nat {n : Nat} (h : n < 10) : (dg9 n).toNat = 48 + n := by
 unfold dg9
 show (48 + n) % 256 = 48 + n
 omega
theorem dgt_dg9 {n : Nat} (h : n < 10) : dgt (dg9 n) = true := dgt_iff.2 (by rw [dg9_nat h]; omega)
theorem digits_small {n : Nat} (h : n < 10) : Lib.decDigits n = [dg9 n] := Lib.decDigits_one h
theorem digits_big {n : Nat} (h : ¬ n < 10) : Lib.decDigits n = Lib.decDigits (n / 10) ++ [dg9 (n % 10)] := by rw [Lib.decDigits, dif_neg h]; rfl
theorem digits_all : ∀ (n : Nat), (Lib.decDigits n).all dgt = true := by
 intro n
 induction n using Nat.strongRecOn with
 | _ n ih =>
  by_cases h : n < 10
  ·rw [digits_small h]
   simp [dgt_dg9 h]
  ·rw [digits_big h, List.all_append, ih _ (by omega)]
   have h2 : n % 10 < 10 := Nat.mod_lt _ (by omega)
   simp [dgt_dg9 h2]
theorem digits_ne (n : Nat) : Lib.decDigits n ≠ [] := by
 by_cases h : n < 10
 ·rw [digits_small h]; simp
 ·rw [digits_big h]; simp
theorem digits_num : ∀ (n : Nat), numV 0 (Lib.decDigits n) = n := by
 intro n
 induction n using Nat.strongRecOn with
 | _ n ih =>
  by_cases h : n < 10
  ·rw [digits_small h]
   show 0 * 10 + ((dg9 n).toNat - 48) = n
   rw [dg9_nat h]; omega
  ·rw [digits_big h, numV_app, ih (n / 10) (by omega), dg9_nat (Nat.mod_lt _ (by omega))]
   omega
theorem headApp {α : Type} {l m : List α} (h : l ≠ []) : (l ++ m).head? = l.head? := by
 cases l with
 | nil => exact absurd rfl h
 | cons _ _ => rfl
theorem digits_head {n : Nat} (h : 0 < n) : (Lib.decDigits n).head? ≠ some 48 := by
 induction n using Nat.strongRecOn with
 | _ n ih =>
  by_cases h9 : n < 10
  ·rw [digits_small h9]
   intro e
   have : (dg9 n).toNat = 48 := by simp at e; rw [e]; rfl
   rw [dg9_nat h9] at this
   omega
  ·rw [digits_big h9, headApp (digits_ne _)]
   exact ih _ (by omega) (by omega)
theorem dg9_byte {b : UInt8} (h : dgt b = true) : dg9 (b.toNat - 48) = b := by
 have h3 := dgt_iff.1 h
 apply UInt8.toNat_inj.1
 rw [dg9_nat (by omega)]
 omega
theorem numV_pos : ∀ {s : List UInt8} {a : Nat}, 0 < a → 0 < numV a s := fun {s a} h => Nat.lt_of_lt_of_le h (numV_le s a)
theorem numV_head {c : UInt8} {s : List UInt8} (h : dgt c = true) (h0 : c ≠ 48) : 0 < numV 0 (c :: s) := by
 have h3 := dgt_iff.1 h
 have : c.toNat ≠ 48 := fun e => h0 (UInt8.toNat_inj.1 e)
 exact numV_pos (s := s) (a := 0 * 10 + (c.toNat - 48)) (by omega)
theorem canon_digits (n : Nat) : canon (Lib.decDigits n) = true := by
 rw [canon_of _ (digits_all n)]
 have h1 : (Lib.decDigits n == []) = false := by simpa using digits_ne n
 rw [h1]
 unfold noughty
 by_cases h : n < 10
 ·rw [digits_small h]; rfl
 ·have h2 := digits_head (n := n) (by omega)
  have : ((Lib.decDigits n).head? == some 48) = false := by simpa using h2
  rw [this]; simp
theorem digits_of {D : List UInt8} : canon D = true → Lib.decDigits (numV 0 D) = D := by
 induction hn : D.length using Nat.strongRecOn generalizing D with
 | _ n ih =>
  intro hc
  have hd : D.all dgt = true := by
   unfold canon at hc
   simp only [Bool.and_eq_true] at hc
   exact hc.2
  rw [canon_of D hd] at hc
  simp only [Bool.and_eq_true, Bool.not_eq_true', beq_eq_false_iff_ne] at hc
  rcases List.eq_nil_or_concat D with rfl | ⟨Q, x, rfl⟩
  ·exact absurd rfl hc.1
  ·simp only [List.concat_eq_append] at *
   rw [List.all_append, Bool.and_eq_true] at hd
   replace hd : Q.all dgt = true ∧ dgt x = true := ⟨hd.1, by simpa using hd.2⟩
   have hx := dgt_iff.1 hd.2
   rw [numV_app]
   by_cases hQ : Q = []
   ·subst hQ
    have : numV 0 [] * 10 + (x.toNat - 48) = x.toNat - 48 := by show 0 * 10 + _ = _; omega
    rw [this, digits_small (by omega), dg9_byte hd.2]
    rfl
   ·cases Q with
    | nil => exact absurd rfl hQ
    | cons q Q =>
     have hq : q ≠ 48 := by
      intro e
      have := hc.2
      unfold noughty at this
      rw [e] at this
      simp at this
      omega
     have hd1 := hd.1
     simp only [List.all_cons, Bool.and_eq_true] at hd1
     have hp := numV_head (s := Q) hd1.1 hq
     have hcQ : canon (q :: Q) = true := by
      rw [canon_of _ hd.1]
      unfold noughty
      have : ((q :: Q).head? == some 48) = false := by simpa using hq
      rw [this]; simp
     have i := ih (q :: Q).length (by rw [← hn]; simp) rfl hcQ
     rw [digits_big (by omega), show (numV 0 (q :: Q) * 10 + (x.toNat - 48)) / 10 = numV 0 (q :: Q) by omega, show (numV 0 (q :: Q) * 10 + (x.toNat - 48)) % 10 = x.toNat - 48 by omega, i, dg9_byte hd.2]
theorem digits_len : ∀ {n k : Nat}, 0 < k → n < 10 ^ k → (Lib.decDigits n).length ≤ k := by
 intro n k
 induction k generalizing n with
 | zero => intro h; omega
 | succ k ih =>
  intro _ h
  by_cases h9 : n < 10
  ·rw [digits_small h9]; simp
  ·rw [digits_big h9, List.length_append]
   have : 0 < k := by
    rcases Nat.eq_zero_or_pos k with rfl | h0
    ·simp at h; omega
    ·exact h0
   have := ih (n := n / 10) this (by rw [Nat.pow_succ] at h; omega)
   simp only [List.length_singleton]
   omega
end WB
namespace WB
open Go Go.RowKit
def strconv_Itoa : Int → Option (List UInt8) := fun x => if -9223372036854775808 ≤ x ∧ x ≤ 9223372036854775807 then some (Lib.itoa x) else none
theorem strconv_Itoa_ok {P : Program} {B : TB} {f : Nat} (hb : hasBody P f = true) {g : Nat} (hg : P.globalNamed "internal/strconv.uint64pow10" = some g) (hG : B.G g = Lib.pow10Tab.map fun z => CV.int .u64 z)
  (hc : ∀ (n : Int) (_ : -9223372036854775808 ≤ n) (_ : n ≤ 9223372036854775807) (w : World) (_ : Lib.TabIs P w "internal/strconv.uint64pow10" .u64 Lib.pow10Tab),
   Calls P f #[.int .i64 n] w fun e w' => e = .returned (.string ⟨(Lib.itoa n).toArray⟩) ∧ ∃ k os, w' = Sort.grow (w.drewN k) os)
  {x : D (.one (.int .i64))} {l : List CV} {y : D .str} (hx : Can (.one (.int .i64)) x l) (hy : strconv_Itoa x = some y) : hasBody P f = true ∧ CallsTo P B.G f l (.val (enc .str y)) := by
 refine ⟨hb, fun w M vs hM hGk hL => ?_⟩
 simp only [strconv_Itoa] at hy
 split at hy
 ·rename_i h
  obtain ⟨h0, h1⟩ := h
  cases hy
  unfold Can at hx
  obtain ⟨c, rfl, hx⟩ := hx
  unfold Can at hx
  cases hx
  unfold RelL RelC at hL
  obtain ⟨v, vs', rfl, rfl, hL⟩ := hL
  unfold RelL at hL
  subst hL
  have htab : Lib.TabIs P w "internal/strconv.uint64pow10" .u64 Lib.pow10Tab := hGk.tab hg hG (by simp [Lib.pow10Tab])
  refine (hc x h0 h1 w htab).mono fun e w' he => ?_
  obtain ⟨rfl, k, os, rfl⟩ := he
  refine ⟨_, rfl, Lib.below_grow _ _ (Nat.le_refl _) _ _, ?_⟩
  simp [RelR, enc, encL, RelC]
 ·cases hy
end WB
namespace WB
open Go Go.RowKit Go.Maps Go.Sort
open Go.WideElems (Fit rd rg)
open Go.WideMaps (keyOf_string_mk)
open Go.Proofs (encStr)
def leT (x y : List UInt8) : Bool := decide (x ≤ y)
def slices_Sorted {β : Type} : List (List UInt8 × β) → Option (List (List UInt8)) := fun m => if m.length ≤ 1000000 ∧ (m.all fun p => decide (p.1.length ≤ 1000000)) = true then some ((m.map (·.1)).mergeSort leT) else none
theorem leT_sort {a b : List (List UInt8)} (h : a.Perm b) : a.mergeSort leT = b.mergeSort leT := by
 have hp : ∀ l : List (List UInt8), (l.mergeSort leT).Pairwise fun x y => leT x y = true := fun l => List.pairwise_mergeSort (fun a b c h1 h2 => by
  simp only [leT, decide_eq_true_eq] at *
  exact List.le_trans h1 h2) (fun a b => by
  simp only [leT, Bool.or_eq_true, decide_eq_true_eq]
  exact List.le_total a b) l
 refine List.Perm.eq_of_pairwise (le := fun x y => leT x y = true) (fun a b _ _ h1 h2 => ?_) (hp a) (hp b) (((List.mergeSort_perm a leT).trans h).trans (List.mergeSort_perm b leT).symm)
 simp only [leT, decide_eq_true_eq] at h1 h2
 exact List.le_antisymm h1 h2
theorem keys_strs {w : World} {M : Nat → Prop} {β : Type} : ∀ {m : List (List UInt8 × β)} {ks : List CV} {vs : List Value}, CanAll (fun (x : List UInt8 × β) c => Can .str x.1 [c]) m ks → RelL w M ks vs → vs = m.map fun p => Value.string ⟨⟨p.1⟩⟩
 | [], ks, vs, h, hl => by
  unfold CanAll at h
  subst h
  unfold RelL at hl
  subst hl
  rfl
 | p :: m, ks, vs, h, hl => by
  unfold CanAll at h
  obtain ⟨c, ks', rfl, h1, h2⟩ := h
  unfold Can at h1
  cases h1
  unfold RelL at hl
  obtain ⟨v, vs', rfl, h3, hl⟩ := hl
  unfold RelC at h3
  subst h3
  rw [keys_strs h2 hl]
  rfl
theorem rowStr {w : World} {M : Nat → Prop} {B : Nat} {et : TypeId} {ss : List (List UInt8)} {v : Value} (hB : ∀ g, M g → g < B) (h : w.ownsRow B et 1 v ss.length (ss.map encStr)) : RelC w M (enc (.sl .str) ss) v := by
 have hes : enc (.sl .str) ss = .sl none (ss.map fun s => CV.str s) := by simp [enc, encL]
 rw [hes]
 unfold RelC
 rcases h.2 with ⟨e1, e2⟩ | ⟨g, cap, cur, e1, e2, e3, e4, e5, e6, e7⟩
 ·have : ss = [] := List.eq_nil_of_length_eq_zero e2
  subst this
  exact ⟨none, 0, 0, e1, rfl, Nat.le_refl _, (fun hh => by cases hh), (fun hh => by cases hh), fun _ => rfl, fun hne => absurd rfl hne⟩
 ·refine ⟨some ⟨g, 0, none⟩, ss.length, cap, e1, by simp, e4, (fun hh => by cases hh), (fun hh => by cases hh), (fun hh => by cases hh), fun _ => ⟨⟨g, 0, none⟩, 1, rfl, heap_lt e3, fun hm => ?_, ?_⟩⟩
  ·have := hB g hm; omega
  refine RelE_of_get fun k el hel => ?_
  rw [List.getElem?_map, Option.map_eq_some_iff] at hel
  obtain ⟨s, hs, rfl⟩ := hel
  refine ⟨.string ⟨⟨s⟩⟩, by unfold RelC; rfl, rfl, fun j u' hu => ?_⟩
  have hj : j = 0 ∧ u' = .string ⟨⟨s⟩⟩ := by
   cases j with
   | zero => exact ⟨rfl, by simpa [Value.cells] using hu.symm⟩
   | succ j => simp [Value.cells] at hu
  obtain ⟨rfl, rfl⟩ := hj
  rw [addr_add, cell_of_row w g _ cur et (0, 0) e3]
  have h8 : (cur.toList.take (ss.length * 1))[k]? = some (.string ⟨⟨s⟩⟩) := by
   rw [e7, List.getElem?_map, hs]
   rfl
  rw [List.getElem?_take] at h8
  split at h8
  ·simpa using h8
  ·cases h8
theorem slices_Sorted_ok {P : Program} {B : TB} {f g : Nat} {kT : TypeId} {t : Ty} (hb : hasBody P f = true) (hk : P.underlying kT = some .string)
  (hc : ∀ (Bm b nn : Nat) (D0 : DataW Value) (R : Value → Option (DataW Value × List MemPlace)) (w : World), Bm < w.heap.size → w.cell? ⟨Bm, 0, none⟩ = some (.map (some b)) → w.ownsMap P kT R b nn D0 → Maps.size D0 ≤ maxLen → Maps.size D0 * 16 ≤ 140737488355328 →
   Calls P f #[.func (.func g) #[] #[.pointer (some ⟨Bm, 0, none⟩)]] w fun e w' => ∃ (v : Value) (ss : List (List UInt8)), e = .returned v ∧ ss.Perm (strKeys D0) ∧ w'.ownsRow w.heap.size kT 1 v ss.length ((ss.mergeSort (fun x y => decide (x ≤ y))).map encStr) ∧ (v = .slice none 0 0 ↔ ss = []) ∧ Below w.heap.size w w')
  (hn : ∀ (Bm : Nat) (w : World), Bm < w.heap.size → w.cell? ⟨Bm, 0, none⟩ = some (.map none) →
   Calls P f #[.func (.func g) #[] #[.pointer (some ⟨Bm, 0, none⟩)]] w fun e w' => ∃ (v : Value) (ss : List (List UInt8)), e = .returned v ∧ ss = [] ∧ w'.ownsRow w.heap.size kT 1 v ss.length ((ss.mergeSort (fun x y => decide (x ≤ y))).map encStr) ∧ (v = .slice none 0 0 ↔ ss = []) ∧ Below w.heap.size w w')
  {x : D (.one (.clo g (.one (.pt (.one (.map .str t))))))} {l : List CV} {y : D (.sl .str)} (hx : Can (.one (.clo g (.one (.pt (.one (.map .str t)))))) x l) (hy : slices_Sorted x = some y) :
  hasBody P f = true ∧ CallsTo P B.G f l (.val (enc (.sl .str) y)) := by
 refine ⟨hb, fun w M vs hM hGk hL => ?_⟩
 simp only [slices_Sorted] at hy
 split at hy
 case isFalse => cases hy
 rename_i hdom
 obtain ⟨hlen, hall⟩ := hdom
 cases hy
 unfold Can at hx
 obtain ⟨c, rfl, hx⟩ := hx
 unfold Can at hx
 obtain ⟨l1, e, hx⟩ := hx
 cases e
 unfold Can at hx
 obtain ⟨c, rfl, hx⟩ := hx
 unfold Can at hx
 obtain ⟨l1, e, hx⟩ := hx
 cases e
 unfold Can at hx
 obtain ⟨c, rfl, hx⟩ := hx
 unfold Can at hx
 obtain ⟨nl, ks, us, e, hks, hus⟩ := hx
 cases e
 unfold RelL at hL
 obtain ⟨v, vs', rfl, h1, hL⟩ := hL
 unfold RelL at hL
 subst hL
 unfold RelC at h1
 obtain ⟨caps, rfl, h1⟩ := h1
 unfold RelL at h1
 obtain ⟨v, vs', rfl, h1, hL⟩ := h1
 unfold RelL at hL
 subst hL
 unfold RelC at h1
 obtain ⟨Bm, ty, vs2, rfl, hheap, hnm, h1⟩ := h1
 unfold RelL at h1
 obtain ⟨v, vs', rfl, h1, hL⟩ := h1
 unfold RelL at hL
 subst hL
 unfold RelC at h1
 obtain ⟨r, rfl, _, _, hnil, hsome⟩ := h1
 have hcell : w.cell? ⟨Bm, 0, none⟩ = some (.map r) := by
  simp [World.cell?, hheap]
 have hlt := heap_lt hheap
 have fin : ∀ {e : Ending} {w' : World} {ss : List (List UInt8)} {v : Value}, e = .returned v → ss.Perm (x.map (·.1)) → w'.ownsRow w.heap.size kT 1 v ss.length ((ss.mergeSort (fun x y => decide (x ≤ y))).map encStr) → Below w.heap.size w w' →
   ∃ v, e = .returned v ∧ Below w.heap.size w w' ∧ RelR P w' M w.heap.size v (.val (enc (.sl .str) ((x.map (·.1)).mergeSort leT))) := by
  intro e w' ss v he hp hrow hbw
  refine ⟨v, he, hbw, ?_⟩
  show RelC _ M _ _
  rw [← leT_sort hp]
  refine rowStr (B := w.heap.size) (et := kT) hM ?_
  rw [List.length_mergeSort]
  exact hrow
 cases r with
 | none =>
  obtain ⟨rfl, rfl⟩ := hnil rfl
  have hx0 : x = [] := by
   have := hks.length
   exact List.eq_nil_of_length_eq_zero (by simpa using this.symm)
  subst hx0
  refine (hn Bm w hlt hcell).mono fun e w' ⟨v, ss, he, hss, hrow, _, hbw⟩ => fin he (by rw [hss]; exact List.Perm.refl _) hrow hbw
 | some b =>
  obtain ⟨_, ens, ens', clk, hh, hE, hpm, hrk, _⟩ := hsome b rfl
  have hkeys := keys_strs hks hrk
  have rdE : ∀ en ∈ ens, ∃ y, rd P kT rHeld en = some y := by
   intro en hen
   have : en.key ∈ ens'.map (·.key) := List.mem_map_of_mem (hpm.mem_iff.2 hen)
   rw [hkeys, List.mem_map] at this
   obtain ⟨p, hp, hpe⟩ := this
   have hl : p.1.length ≤ 1000000 := by
    have := List.all_eq_true.1 hall p hp
    simpa using this
   unfold rd
   rw [← hpe, keyOf_string_mk hk (by simp only [ByteArray.size, List.size_toArray]; unfold maxLen; omega)]
   exact ⟨_, rfl⟩
  have hlen2 : ens.length = x.length := by
   have h3 := congrArg List.length hkeys
   rw [List.length_map, List.length_map] at h3
   rw [← hpm.length_eq, h3]
  have ho : w.ownsMap P kT rHeld b ens.length (.map ((ens.map (rg P kT rHeld)).foldr DataW.insert [])) :=
   ⟨⟨ens⟩, clk, hh, ⟨by simp only [List.size_toArray]; unfold maxLen; omega, ⟨hE.2.1, hE.2.2, hE.1⟩, rdE⟩, by simp, rfl⟩
  have hsz : Maps.size (DataW.map ((ens.map (rg P kT rHeld)).foldr DataW.insert [])) = ens.length := by
   show ((ens.map (rg P kT rHeld)).foldr DataW.insert []).length = _
   rw [(WideShapes.sorted_perm _).length_eq, List.length_map]
  refine (hc Bm b ens.length _ rHeld w hlt hcell ho (by rw [hsz]; unfold maxLen; omega) (by rw [hsz]; omega)).mono fun e w' ⟨v, ss, he, hss, hrow, _, hbw⟩ => fin he ?_ hrow hbw
  refine hss.trans ?_
  have p1 := (WideShapes.sorted_perm (ens.map (rg P kT rHeld))).map fun p => strOf p.1
  refine p1.trans ?_
  rw [List.map_map]
  have e1 : ens.map ((fun p => strOf p.1) ∘ rg P kT rHeld) = ens.map fun en => (match en.key with | .string s => s.data.toList | _ => []) := List.map_congr_left fun en hen => by
   obtain ⟨y, hy⟩ := rdE en hen
   simp only [Function.comp_apply]
   unfold rg
   rw [hy]
   unfold rd at hy
   simp only [Option.bind_eq_some_iff, rHeld, Option.map_some, Option.some.injEq] at hy
   obtain ⟨lt, hl1, rfl⟩ := hy
   rw [keyOf_string hk] at hl1
   cases hq : en.key <;> rw [hq] at hl1 <;> simp [mapKey, hk] at hl1
   obtain ⟨_, rfl⟩ := hl1
   simp [strOf]
  rw [e1]
  have e2 : (ens.map fun en => (match en.key with | .string s => s.data.toList | _ => [])) = (ens.map (·.key)).map fun v => (match v with | .string s => s.data.toList | _ => []) := by
   rw [List.map_map]; rfl
  rw [e2]
  have p3 := (hpm.symm.map (·.key)).map fun v => (match v with | .string s => s.data.toList | _ => ([] : List UInt8))
  refine p3.trans ?_
  rw [hkeys, List.map_map]
  exact List.Perm.refl _
end WB
namespace WB
open Go Go.RowKit Go.Lib
section
variable {P : Program} (w : World)
theorem run_app3 (base : Nat) (t u ty e : TypeId) (i : TypeInfo) (ht : P.underlying t = some (.slice e)) (hu : P.underlying u = some .string) (hi : P.info? e = some i) (hz : i.zero = some (.int .u8 0))
  (hsize : i.size = 1) (hby : i.bytes = 1) (v : Value) (n : Nat) (xs : List Value) (hown : w.ownsRowF base e 1 v n xs) (s : ByteArray) (hbytes : n + s.size ≤ 140737488355328) (hbase : base ≤ w.heap.size) :
  ∃ v' w', (Builtin.append_ #[t, u] ty #[v, .string s]).run P w = .ok v' w' ∧ w'.ownsRowF base e 1 v' (n + s.size) (xs ++ strCells s) ∧ w.grownBy w' v.ownBlock ∧
   ∀ g, v'.ownBlock = some g → v.ownBlock = some g ∨ w.heap.size ≤ g := by
 have h63 : n + s.size ≤ maxLen := by unfold maxLen; omega
 rcases hown.2 with ⟨rfl, rfl⟩ | ⟨g, cap, cur, fz, rfl, hbg, hg, hfz, hnc, hcm, hcs, htake⟩
 ·obtain ⟨v', w', h1, h2, h3, _⟩ := run_append_own_string (P := P) w w.heap.size t u ty e i ht hu hi hz hsize hby (.slice none 0 0) 0 xs ⟨hown.1, .inl ⟨rfl, rfl⟩⟩ s h63 hbytes (Nat.le_refl _)
  have h4 := World.ownsRowF_of h2
  refine ⟨v', w', h1, ⟨h4.1, ?_⟩, h3, fun g hg => .inr (World.ownsRowF.lt h4 g hg).1⟩
  rcases h4.2 with hn | ⟨g, cap, cur, fz, e1, e2, r⟩
  ·exact .inl hn
  ·exact .inr ⟨g, cap, cur, fz, e1, Nat.le_trans hbase e2, r⟩
 ·have hxl : xs.length = n := by simpa using hown.1
  have hlen : (xs ++ strCells s).length = (n + s.size) * 1 := by rw [List.length_append, hxl, strCells_length, Nat.mul_one]
  by_cases hroom : n + s.size ≤ cap
  ·have hcs' : cur.size = cap := by simpa using hcs
   have hr := run_append_room_stringF (P := P) w t u ty e i ht hu hi hsize g n cap cur fz hg (by simpa using hfz) s hroom (by omega)
   refine ⟨_, _, hr, ⟨hlen, .inr ⟨g, cap, _, fz, rfl, hbg, setRow_heap w g cur _ e _ hg, by omega, hroom, hcm, ?_, ?_⟩⟩, ⟨rfl, rfl, rfl, by simp, fun k _ hk => setRow_other w g k _ (fun e => hk (by simp [Value.ownBlock, e]))⟩, fun k hk => .inl hk⟩
   ·simp only [List.size_toArray, List.length_append, List.length_take, List.length_drop, Array.length_toList, strCells_length]
    omega
   ·have ht' : cur.toList.take n = xs := by simpa using htake
    rw [ht', ← hlen]
    exact List.take_left
  ·have holds : ∀ j u, xs[j]? = some u → w.cell? ((⟨g, 0, none⟩ : Addr).add j) = some u := hown.cells (g := g) rfl
   have hr := run_append_grow_string (P := P) w t u ty e i (.int .u8 0) ht hu hi hz ⟨g, 0, none⟩ n cap xs (by rw [hsize]; simpa using hxl) holds s (by omega) (by omega) (by rw [hby]; exact growslice_fits (by omega) (by omega))
   have hge := grownCap_ge w (n + s.size) cap e
   have hcm2 : grownCap w (n + s.size) cap e ≤ maxLen := grownCap_le_maxLen w (n + s.size) cap e h63
   refine ⟨_, _, hr, ⟨hlen, .inr ⟨w.heap.size, _, _, (0, 0), rfl, hbase, heap_alloc_new w.drew _, Nat.zero_le _, hge, hcm2, ?_, ?_⟩⟩, ⟨rfl, rfl, rfl, by simp, fun k hk _ => by first | exact heap_alloc_old w.drew _ k hk | exact heap_alloc_old w.drew _ hk⟩, fun k hk => .inr ?_⟩
   ·have hz1 : (Value.int IntKind.u8 0).cells.size = 1 := rfl
    simp only [Array.size_append, List.size_toArray, size_zeroCells, hz1, hxl, strCells_length]
    omega
   ·simp only [Array.toList_append, List.append_assoc]
    rw [← List.append_assoc, ← hlen]
    exact List.take_left
   ·simp only [Value.ownBlock, Option.some.injEq] at hk
    omega
theorem wpList_app3 {ops : Array Oper} {rest : List Oper} {o : Oper} {a : Act} {Q : Exit → Act → World → Prop} (hgd : o.guard = none) (sl x : Operand) (t u : TypeId)
  (ho : o.op = .call { callee := .builtin .append, args := #[sl, x], argTypes := #[t, u] })
  (base : Nat) (e : TypeId) (i : TypeInfo) (ht : P.underlying t = some (.slice e)) (hu : P.underlying u = some .string) (hi : P.info? e = some i) (hz : i.zero = some (.int .u8 0))
  (hsize : i.size = 1) (hby : i.bytes = 1) (v : Value) (n : Nat) (xs : List Value) (hs : a.eval sl = v) (hown : w.ownsRowF base e 1 v n xs) (s : ByteArray) (hx : a.eval x = .string s)
  (hbytes : n + s.size ≤ 140737488355328) (hbase : base ≤ w.heap.size)
  (h : ∀ v' w', w'.ownsRowF base e 1 v' (n + s.size) (xs ++ strCells s) → w.grownBy w' v.ownBlock → (∀ g, v'.ownBlock = some g → v.ownBlock = some g ∨ w.heap.size ≤ g) → wpList P ops Q rest (a.put o.dst v') w') : wpList P ops Q (o :: rest) a w := by
 refine wpList_plain hgd fun K hK => ?_
 obtain ⟨v', w', hr, h2, h3, h4⟩ := run_app3 (P := P) w base t u o.type e i ht hu hi hz hsize hby v n xs hown s hbytes hbase
 unfold Oper.wp execOp
 simp only [ho, resolve, invoke, builtin, Sem.run_bind, Sem.run_pure, Result.andThen_ok, List.map_toArray, List.map_cons, List.map_nil, hs, hx, hr]
 exact hK _ _ (h v' w' h2 h3 h4)
end
end WB
namespace Go.Proofs
open Go.Shelf Go.RowKit
variable {P : Program} {ρ : Ren}
set_option maxHeartbeats 2000000 in
set_option maxRecDepth 100000 in
theorem Any.write_used (L : Lays.n166 P ρ) (X : Builder.Extra P ρ) (B b : Nat) (v : Value) (bs : List Value) (s : ByteArray) (w : World) (hB : B ≤ b) (hBw : B ≤ w.heap.size) (hbk : w.heap[b]? = some (.cells #[.pointer (some ⟨b, 0, none⟩), v] (ρ.t 72) (0, 0)))
  (hown : w.ownsRowF B (ρ.t 5) 1 v bs.length bs) (hne : v.ownBlock ≠ some b) (hlen : bs.length + s.size ≤ 140737488355328) (w00 : World)
  (hcc : ∀ W, W = w00 → Calls P (ρ.f 240) #[.pointer (some ⟨b, 0, none⟩)] W fun e w' => e = .returned (.tuple #[]) ∧ w' = w) :
  Calls P (ρ.f 166) #[.pointer (some ⟨b, 0, none⟩), .string s] w00 fun e w' => e = .returned (.tuple #[.int .i64 s.size, .nilIface]) ∧ ∃ v', w'.heap[b]? = some (.cells #[.pointer (some ⟨b, 0, none⟩), v'] (ρ.t 72) (0, 0)) ∧ w'.ownsRowF B (ρ.t 5) 1 v' (bs.length + s.size) (bs ++ Lib.strCells s) ∧
   v'.ownBlock ≠ some b ∧ (∀ g, v'.ownBlock = some g → v.ownBlock = some g ∨ w.heap.size ≤ g) ∧ w'.os = w.os ∧ w'.tape = w.tape ∧ w'.output = w.output ∧ w.heap.size ≤ w'.heap.size ∧ ∀ g, g < w.heap.size → g ≠ b → v.ownBlock ≠ some g → w'.heap[g]? = w.heap[g]? := by
 obtain ⟨i0, hi, hz0, hz1, hz2⟩ := info_parts X.infoByte
 have mixed := L.mixed
 have t72 := L.t72; have a72 := L.a72; have z72 := L.z72; have v72 := L.v72; have u72 := run_underlying L.t72
 have t70 := L.t70; have a70 := L.a70; have z70 := L.z70; have v70 := L.v70; have u70 := run_underlying L.t70
 have t37 := L.t37; have a37 := L.a37; have z37 := L.z37; have v37 := L.v37; have u37 := run_underlying L.t37
 have t3 := L.t3; have a3 := L.a3; have z3 := L.z3; have v3 := L.v3; have u3 := run_underlying L.t3
 have t9 := L.t9; have a9 := L.a9; have z9 := L.z9; have v9 := L.v9; have u9 := run_underlying L.t9
 have t4 := L.t4; have a4 := L.a4; have z4 := L.z4; have v4 := L.v4; have u4 := run_underlying L.t4
 have t164 := L.t164; have a164 := L.a164; have z164 := L.z164; have v164 := L.v164; have u164 := run_underlying L.t164
 have t5 := X.t5; have a5 := X.a5; have z5 := X.z5; have v5 := X.v5; have u5 := run_underlying X.t5
 have e240 : ∀ args w, (callFunc (ρ.f 240) args).run P w = .ok (.enter (ρ.f 240) args) w := enters_of L.f240 (by kernel_rfl) rfl
 have hlt : b < w.heap.size := by
  rcases Nat.lt_or_ge b w.heap.size with h' | h'
  ·exact h'
  ·simp [Array.getElem?_eq_none h'] at hbk
 have c0 : w.cell? ⟨b, 0, none⟩ = some (.pointer (some ⟨b, 0, none⟩)) := by rw [Lib.cell_of_heap hbk]; rfl
 have c1 : w.cell? ⟨b, 1, none⟩ = some v := by rw [Lib.cell_of_heap hbk]; rfl
 go_enter L.f166, Body.n166_ntmps ρ
 go_wp2_with (go_at_fn (ρ.f 240); refine (hcc _ rfl).mono ?_)
 rintro e w1 ⟨rfl, rfl⟩
 go_wp2_with (at_builtin; refine WB.wpList_app3 _ rfl _ _ (ρ.t 37) (ρ.t 9) rfl B (ρ.t 5) i0 L.t37 L.t9 hi hz0 hz1 hz2 _ _ _ rfl hown s rfl ?c4 hBw ?_)
 case c4 => omega
 intro v' w2 hown' hgrow hnew
 have hb2 : w2.heap[b]? = some (.cells #[.pointer (some ⟨b, 0, none⟩), v] (ρ.t 72) (0, 0)) := by
  rw [hgrow.block b hlt (fun e => hne e.symm)]
  exact hbk
 have d0 : w2.cell? ⟨b, 0, none⟩ = some (.pointer (some ⟨b, 0, none⟩)) := by rw [Lib.cell_of_heap hb2]; rfl
 have d1 : w2.cell? ⟨b, 1, none⟩ = some v := by rw [Lib.cell_of_heap hb2]; rfl
 have f1 : w2.frozen? ⟨b, 1, none⟩ = false := Lib.frozen_of_heap hb2 1
 obtain ⟨ao, n', cap, rfl⟩ : ∃ ao n' cap, v' = .slice ao n' cap := by
  rcases hown'.2 with ⟨hv, _⟩ | ⟨g, cap, cur, fz, hv, _⟩
  ·exact ⟨_, _, _, hv⟩
  ·exact ⟨_, _, _, hv⟩
 go_wp2
 go_ret2
 have hne' : (Value.slice ao n' cap).ownBlock ≠ some b := fun hh => by
  rcases hnew b hh with h' | h'
  ·exact hne h'
  ·omega
 have hsz : (w2.setCell ⟨b, 1, none⟩ (.slice ao n' cap)).heap.size = w2.heap.size := by simp [World.setCell]
 refine ⟨rfl, .slice ao n' cap, ?_, ?_, hne', hnew, hgrow.os, hgrow.tape, hgrow.output, by rw [hsz]; exact hgrow.size, fun g hg h1 h2 => ?_⟩
 ·simp [World.setCell, Array.getElem?_modify, hb2]
 ·exact hown'.kept (row := some b) ⟨rfl, rfl, rfl, by simp [World.setCell], fun k _ hk => Below.heap_setCell _ _ _ _ (fun e => hk (by simp [e]))⟩ (Or.inr hne')
 ·rw [Below.heap_setCell _ _ _ _ (fun e => h1 (by simpa using e))]
  exact hgrow.block g hg (fun e => h2 e.symm)
end Go.Proofs
namespace WB
open Go Go.RowKit Go.Shelf Go.Proofs
variable {P : Program} {ρ : Ren}
theorem writeC_of (L : Lays.n166 P ρ) (X : Builder.Extra P ρ) (hb : hasBody P (ρ.f 166) = true) : WriteC P (ρ.f 166) (ρ.t 72) (ρ.t 5) := by
 refine ⟨hb, fun B b p v bs t w hB hBw hbk hp hown hne hlen => ?_⟩
 have hl1 : (Lib.byteCells bs).length = bs.length := by simp [Lib.byteCells]
 have hs : (⟨⟨t⟩⟩ : ByteArray).size = t.length := rfl
 have hcat : Lib.byteCells bs ++ Lib.strCells ⟨⟨t⟩⟩ = Lib.byteCells (bs ++ t) := by rw [Lib.strCells_eq, Lib.byteCells_append]
 have L240 : Lays.n240 P ρ := { L with }
 have go : ∀ (w1 : World), w1.heap[b]? = some (.cells #[.pointer (some ⟨b, 0, none⟩), v] (ρ.t 72) (0, 0)) → w1.ownsRowF B (ρ.t 5) 1 v bs.length (Lib.byteCells bs) → w1.os = w.os → w1.tape = w.tape → w1.output = w.output → w1.heap.size = w.heap.size → (∀ g, g ≠ b → w1.heap[g]? = w.heap[g]?) →
   Calls P (ρ.f 240) #[.pointer (some ⟨b, 0, none⟩)] w (fun e w' => e = .returned (.tuple #[]) ∧ w' = w1) →
   Calls P (ρ.f 166) #[.pointer (some ⟨b, 0, none⟩), .string ⟨⟨t⟩⟩] w fun e' w' => e' = .returned (.tuple #[.int .i64 t.length, .nilIface]) ∧ ∃ v', w'.heap[b]? = some (.cells #[.pointer (some ⟨b, 0, none⟩), v'] (ρ.t 72) (0, 0)) ∧
    w'.ownsRowF B (ρ.t 5) 1 v' (bs ++ t).length (Lib.byteCells (bs ++ t)) ∧ v'.ownBlock ≠ some b ∧ (∀ g, v'.ownBlock = some g → v.ownBlock = some g ∨ w.heap.size ≤ g) ∧
    w'.os = w.os ∧ w'.tape = w.tape ∧ w'.output = w.output ∧ w.heap.size ≤ w'.heap.size ∧ ∀ g, g < w.heap.size → g ≠ b → v.ownBlock ≠ some g → w'.heap[g]? = w.heap[g]? := by
  intro w1 h1 h2 e1 e2 e3 e4 h3 hcc
  refine (Any.write_used L X B b v (Lib.byteCells bs) ⟨⟨t⟩⟩ w1 hB (by rw [e4]; exact hBw) h1 (by rw [hl1]; exact h2) hne (by rw [hl1, hs]; exact hlen) w (fun W hW => by subst hW; exact hcc)).mono fun e' w' hx => ?_
  obtain ⟨rfl, v', k1, k2, k3, k4, k5, k6, k7, k8, k9⟩ := hx
  rw [hl1, hs, hcat] at k2
  refine ⟨rfl, v', k1, by rw [List.length_append]; exact k2, k3, fun g hg => by rw [← e4]; exact k4 g hg, k5.trans e1, k6.trans e2, k7.trans e3, by rw [← e4]; exact k8, fun g hg g1 g2 => ?_⟩
  rw [k9 g (by rw [e4]; exact hg) g1 g2, h3 g g1]
 rcases hp with rfl | rfl
 ·have hA : Lib.BuilderAtF (ρ.t 72) (ρ.t 5) B b (.pointer none) (Lib.byteCells bs) w := ⟨hB, v, hbk, by rw [hl1]; exact hown, hne⟩
  refine go (w.setCell ⟨b, 0, none⟩ (.pointer (some ⟨b, 0, none⟩))) (by simp [World.setCell, Array.getElem?_modify, hbk]) ?_ rfl rfl rfl (by simp [World.setCell]) (fun g hg => Below.heap_setCell _ _ _ _ (fun e => hg (by simpa using e))) ?_
  ·exact hown.kept (row := some b) ⟨rfl, rfl, rfl, by simp [World.setCell], fun k _ hk => Below.heap_setCell _ _ _ _ (fun e => hk (by simp [e]))⟩ (Or.inr hne)
  ·exact Any.Builder_copyCheck_fresh L240 X.toX72 b w hA.cell0 hA.shape (Lib.frozen_of_heap hbk 0)
 ·refine go w hbk hown rfl rfl rfl rfl (fun _ _ => rfl) ?_
  exact Any.Builder_copyCheck_used L240 X.toX72 b w (by rw [Lib.cell_of_heap hbk]; rfl)
theorem stringC_of (L : Lays.n169 P ρ) (X : Builder.Extra P ρ) (hb : hasBody P (ρ.f 169) = true) : StringC P (ρ.f 169) (ρ.t 72) (ρ.t 5) := by
 refine ⟨hb, fun B b p v bs w hB hBw hbk hp hown hne => ?_⟩
 have hl1 : (Lib.byteCells bs).length = bs.length := by simp [Lib.byteCells]
 have hA : Lib.BuilderAtF (ρ.t 72) (ρ.t 5) B b p (Lib.byteCells bs) w := ⟨hB, v, hbk, by rw [hl1]; exact hown, hne⟩
 refine (Any.Builder_String_any_k L X B b bs w (by
  rcases hp with rfl | rfl
  ·exact .inl hA
  ·exact .inr hA) hBw).mono fun e' w' hx => ?_
 exact ⟨hx.1, hx.2.2.1⟩
end WB
namespace WB
open Go Go.RowKit
theorem Pq.err_of {G : Nat → List CV} {w : World} {M : Nat → Prop} (h : GOk G w M) {g : Nat} (hG : G g = [.ifc]) : ∃ te pe, w.cell? ⟨g, 0, none⟩ = some (.iface te pe) := by
 obtain ⟨h1, _⟩ := h g (by rw [hG]; simp)
 rw [hG] at h1
 unfold RelC at h1
 obtain ⟨ad, vs, e, _, _, hl, hc⟩ := h1
 cases e
 unfold RelL RelC at hl
 obtain ⟨v, vs', rfl, ⟨te, pe, rfl⟩, _⟩ := hl
 refine ⟨te, pe, ?_⟩
 have := hc 0 (.iface te pe) (by simp)
 simpa [Addr.add] using this
def strconv_ParseUint : List UInt8 × Int × Int → Option (Int × Bool) := fun x =>
 if x.2.1 = 10 ∧ x.2.2 = 32 ∧ x.1.length ≤ 281474976710656 then some (match Lib.parseUintB 32 x.1 with | .ok n => ((n : Int), true) | .range => (4294967295, false) | _ => (0, false)) else none
theorem strconv_ParseUint_ok {P : Program} {B : TB} {f g0 g1 : Nat} (hb : hasBody P f = true) (hg0 : B.G g0 = [.ifc]) (hg1 : B.G g1 = [.ifc]) {e8 t1 t2 : TypeId} {n1 : ByteArray}
  (h_ok : ∀ (s : ByteArray) (_ : s.size ≤ 9223372036854775806) (v : Nat) (_ : Lib.parseUintB 32 s.data.toList = .ok v) (w : World), Calls P f #[.string s, .int .i64 10, .int .i64 32] w fun e w' => e = .returned (.tuple #[.int .u64 v, .nilIface]) ∧ (w' = w ∨ w' = Lib.bytesWorld w e8 s))
  (h_syn : ∀ (s : ByteArray) (_ : s.size ≤ 281474976710656) (_ : Lib.parseUintB 32 s.data.toList = Lib.NumEnd.syntax) (ev : Value) (w : World) (_ : w.cell? ⟨g0, 0, none⟩ = some ev) (_ : ev = .nilIface ∨ ∃ te pe, ev = .iface te pe), Calls P f #[.string s, .int .i64 10, .int .i64 32] w fun e w' => ∃ N, e = .returned (.tuple #[.int .u64 0, .iface t1 (.pointer (some ⟨N, 0, none⟩))]) ∧ w.heap.size ≤ N ∧ w'.heap[N]? = some (.cells #[.string n1, .string s, ev] t2 (0, 0)) ∧ Below w.heap.size w w')
  (h_rng : ∀ (s : ByteArray) (_ : s.size ≤ 281474976710656) (_ : Lib.parseUintB 32 s.data.toList = Lib.NumEnd.range) (ev : Value) (w : World) (_ : w.cell? ⟨g1, 0, none⟩ = some ev) (_ : ev = .nilIface ∨ ∃ te pe, ev = .iface te pe), Calls P f #[.string s, .int .i64 10, .int .i64 32] w fun e w' => ∃ N, e = .returned (.tuple #[.int .u64 4294967295, .iface t1 (.pointer (some ⟨N, 0, none⟩))]) ∧ w.heap.size ≤ N ∧ w'.heap[N]? = some (.cells #[.string n1, .string s, ev] t2 (0, 0)) ∧ Below w.heap.size w w')
  {x : D (.cons .str (.cons (.int .i64) (.one (.int .i64))))} {l : List CV} {y : D (.tup (.cons (.int .u64) (.one .err)))} (hx : Can (.cons .str (.cons (.int .i64) (.one (.int .i64)))) x l) (hy : strconv_ParseUint x = some y) :
  hasBody P f = true ∧ CallsTo P B.G f l (.val (enc (.tup (.cons (.int .u64) (.one .err))) y)) := by
 refine ⟨hb, fun w M vs hM hGk hL => ?_⟩
 obtain ⟨te0, pe0, ev0⟩ := Pq.err_of hGk hg0
 obtain ⟨te1, pe1, ev1⟩ := Pq.err_of hGk hg1
 obtain ⟨s, b, k⟩ := x
 simp only [strconv_ParseUint] at hy
 split at hy <;> try (cases hy; done)
 rename_i h
 obtain ⟨rfl, rfl, h1⟩ := h
 simp only [Option.some.injEq] at hy
 unfold Can at hx
 obtain ⟨c1, l', rfl, h2, h3⟩ := hx
 unfold Can at h2 h3
 obtain ⟨c2, l'', rfl, h4, h5⟩ := h3
 unfold Can at h4 h5
 obtain ⟨c3, rfl, h6⟩ := h5
 unfold Can at h6
 cases h2; cases h4; cases h6
 unfold RelL RelC at hL
 obtain ⟨v, vs', rfl, rfl, hL⟩ := hL
 unfold RelL RelC at hL
 obtain ⟨v, vs', rfl, rfl, hL⟩ := hL
 unfold RelL RelC at hL
 obtain ⟨v, vs', rfl, rfl, hL⟩ := hL
 unfold RelL at hL
 subst hL
 have hsz : (⟨⟨s⟩⟩ : ByteArray).size = s.length := rfl
 rcases hp : Lib.parseUintB 32 s with n | _ | _
 ·
  rw [hp] at hy
  subst hy
  refine (h_ok ⟨⟨s⟩⟩ (by rw [hsz]; omega) n hp w).mono fun e w' he => ?_
  obtain ⟨rfl, hw⟩ := he
  have hbw : Below w.heap.size w w' := by
   rcases hw with rfl | rfl
   ·exact Below.refl _ _
   ·exact (by first | exact Lib.bytesWorld_below _ _ _ | exact Go.Joins.below_bytesWorld _ _ _ _ (Nat.le_refl _) | exact below_bytesWorld _ _ _ _ (Nat.le_refl _))
  exact ⟨_, rfl, hbw, _, rfl, _, _, rfl, rfl, _, _, rfl, rfl, rfl⟩
 ·
  rw [hp] at hy
  subst hy
  refine (h_syn ⟨⟨s⟩⟩ (by rw [hsz]; exact h1) hp _ w ev0 (.inr ⟨_, _, rfl⟩)).mono fun e w' he => ?_
  obtain ⟨N, rfl, _, _, hbw⟩ := he
  exact ⟨_, rfl, hbw, _, rfl, _, _, rfl, rfl, _, _, rfl, ⟨_, _, rfl⟩, rfl⟩
 ·
  rw [hp] at hy
  subst hy
  refine (h_rng ⟨⟨s⟩⟩ (by rw [hsz]; exact h1) hp _ w ev1 (.inr ⟨_, _, rfl⟩)).mono fun e w' he => ?_
  obtain ⟨N, rfl, _, _, hbw⟩ := he
  exact ⟨_, rfl, hbw, _, rfl, _, _, rfl, rfl, _, _, rfl, ⟨_, _, rfl⟩, rfl⟩
end WB
namespace WB
open Go Go.RowKit
theorem At.err_of {G : Nat → List CV} {w : World} {M : Nat → Prop} (h : GOk G w M) {g : Nat} (hG : G g = [.ifc]) : ∃ te pe, w.cell? ⟨g, 0, none⟩ = some (.iface te pe) := by
 obtain ⟨h1, _⟩ := h g (by rw [hG]; simp)
 rw [hG] at h1
 unfold RelC at h1
 obtain ⟨ad, vs, e, _, _, hl, hc⟩ := h1
 cases e
 unfold RelL RelC at hl
 obtain ⟨v, vs', rfl, ⟨te, pe, rfl⟩, _⟩ := hl
 refine ⟨te, pe, ?_⟩
 have := hc 0 (.iface te pe) (by simp)
 simpa [Addr.add] using this
def strconv_Atoi : List UInt8 → Option (Int × Bool) := fun x =>
 if x.length ≤ 281474976710656 then some (match Lib.atoiAll x with | .ok n => (n, true) | .range => (Lib.atoiSat x, false) | _ => (0, false)) else none
theorem strconv_Atoi_ok {P : Program} {B : TB} {f g0 g1 : Nat} (hb : hasBody P f = true) (hg0 : B.G g0 = [.ifc]) (hg1 : B.G g1 = [.ifc]) {e8 t1 t2 : TypeId} {n1 : ByteArray}
  (h_ok : ∀ (s : ByteArray) (_ : s.size ≤ 9223372036854775806) (v : Int) (_ : Lib.atoiAll s.data.toList = .ok v) (w : World), Calls P f #[.string s] w fun e w' => e = .returned (.tuple #[.int .i64 v, .nilIface]) ∧ (w' = w ∨ ∃ t, w' = Lib.bytesWorld w e8 t))
  (h_syn : ∀ (s : ByteArray) (_ : s.size ≤ 281474976710656) (_ : Lib.atoiAll s.data.toList = Lib.NumEnd.syntax) (ev : Value) (w : World) (_ : w.cell? ⟨g0, 0, none⟩ = some ev) (_ : ev = .nilIface ∨ ∃ te pe, ev = .iface te pe), Calls P f #[.string s] w fun e w' => ∃ N, e = .returned (.tuple #[.int .i64 0, .iface t1 (.pointer (some ⟨N, 0, none⟩))]) ∧ w.heap.size ≤ N ∧ w'.heap[N]? = some (.cells #[.string n1, .string s, ev] t2 (0, 0)) ∧ Below w.heap.size w w')
  (h_rng : ∀ (s : ByteArray) (_ : s.size ≤ 281474976710656) (_ : Lib.atoiAll s.data.toList = Lib.NumEnd.range) (ev : Value) (w : World) (_ : w.cell? ⟨g1, 0, none⟩ = some ev) (_ : ev = .nilIface ∨ ∃ te pe, ev = .iface te pe), Calls P f #[.string s] w fun e w' => ∃ N, e = .returned (.tuple #[.int .i64 (Lib.atoiSat s.data.toList), .iface t1 (.pointer (some ⟨N, 0, none⟩))]) ∧ w.heap.size ≤ N ∧ w'.heap[N]? = some (.cells #[.string n1, .string s, ev] t2 (0, 0)) ∧ Below w.heap.size w w')
  {s : D (.one .str)} {l : List CV} {y : D (.tup (.cons (.int .i64) (.one .err)))} (hx : Can (.one .str) s l) (hy : strconv_Atoi s = some y) :
  hasBody P f = true ∧ CallsTo P B.G f l (.val (enc (.tup (.cons (.int .i64) (.one .err))) y)) := by
 refine ⟨hb, fun w M vs hM hGk hL => ?_⟩
 obtain ⟨te0, pe0, ev0⟩ := At.err_of hGk hg0
 obtain ⟨te1, pe1, ev1⟩ := At.err_of hGk hg1
 simp only [strconv_Atoi] at hy
 split at hy <;> try (cases hy; done)
 rename_i h1
 simp only [Option.some.injEq] at hy
 unfold Can at hx
 obtain ⟨c1, rfl, h2⟩ := hx
 unfold Can at h2
 cases h2
 unfold RelL RelC at hL
 obtain ⟨v, vs', rfl, rfl, hL⟩ := hL
 unfold RelL at hL
 subst hL
 have hsz : (⟨⟨s⟩⟩ : ByteArray).size = List.length s := rfl
 rcases hp : Lib.atoiAll s with n | _ | _
 ·
  rw [hp] at hy
  subst hy
  refine (h_ok ⟨⟨s⟩⟩ (by rw [hsz]; omega) n hp w).mono fun e w' he => ?_
  obtain ⟨rfl, hw⟩ := he
  have hbw : Below w.heap.size w w' := by
   rcases hw with rfl | ⟨t, rfl⟩
   ·exact Below.refl _ _
   ·exact (by first | exact Lib.bytesWorld_below _ _ _ | exact Go.Joins.below_bytesWorld _ _ _ _ (Nat.le_refl _) | exact below_bytesWorld _ _ _ _ (Nat.le_refl _))
  exact ⟨_, rfl, hbw, _, rfl, _, _, rfl, rfl, _, _, rfl, rfl, rfl⟩
 ·
  rw [hp] at hy
  subst hy
  refine (h_syn ⟨⟨s⟩⟩ (by rw [hsz]; exact h1) hp _ w ev0 (.inr ⟨_, _, rfl⟩)).mono fun e w' he => ?_
  obtain ⟨N, rfl, _, _, hbw⟩ := he
  exact ⟨_, rfl, hbw, _, rfl, _, _, rfl, rfl, _, _, rfl, ⟨_, _, rfl⟩, rfl⟩
 ·
  rw [hp] at hy
  subst hy
  refine (h_rng ⟨⟨s⟩⟩ (by rw [hsz]; exact h1) hp _ w ev1 (.inr ⟨_, _, rfl⟩)).mono fun e w' he => ?_
  obtain ⟨N, rfl, _, _, hbw⟩ := he
  exact ⟨_, rfl, hbw, _, rfl, _, _, rfl, rfl, _, _, rfl, ⟨_, _, rfl⟩, rfl⟩
end WB
namespace WB
open Go Go.RowKit
def strings_Count : List UInt8 × List UInt8 → Option Int := fun x => match x.2 with
 | [c] => some (x.1.count c : Int)
 | _ => none
theorem strings_Count_ok {P : Program} {B : TB} {f : Nat} (hb : hasBody P f = true)
  (hc : ∀ (s : ByteArray) (c : UInt8) (w : World), Calls P f #[.string s, .string ⟨#[c]⟩] w fun e w' => e = .returned (.int .i64 (Lib.countByte s.data.toList c)) ∧ w' = w)
  {x : D (.cons .str (.one .str))} {l : List CV} {y : D (.int .i64)} (hx : Can (.cons .str (.one .str)) x l) (hy : strings_Count x = some y) : hasBody P f = true ∧ CallsTo P B.G f l (.val (enc (.int .i64) y)) := by
 refine ⟨hb, fun w M vs hM hGk hL => ?_⟩
 rw [rel_str2 hx hL]
 obtain ⟨s, b⟩ := x
 simp only [strings_Count] at hy
 split at hy <;> try (cases hy; done)
 rename_i c
 cases hy
 refine (hc ⟨⟨s⟩⟩ c w).mono fun e w' he => ?_
 obtain ⟨rfl, rfl⟩ := he
 refine ⟨_, rfl, Below.refl _ _, ?_⟩
 simp [RelR, enc, encL, RelC, Lib.countByte]
end WB

