/-
 OWN TEXTS, MERGED (wip/merge.py): Piter, Pgd, Pfold, Pu64, Pdg, LibPx, LibPj, LibCt. No condition of their own.
-/
import Derived.Test.YtlglbkbfmhelcaaGreatDoorK4
import Derived.Lib.Mul64
import Derived.Laws.Bits64b
import Derived.Laws.BitsLemmas
import Derived.Lib.ItoaNum
import Derived.Shelf.Pu.ParseUintPublic10
import Derived.Lib.SmallJoins
import Derived.Lib.AtoiErrMem
import Derived.Shelf.Strconv.ParseIntPublic10
set_option linter.unusedVariables false
set_option linter.unusedSimpArgs false
namespace WB
open Go Go.RowKit
theorem bs {α β : Type} (a : α) (f : α → Option β) : (some a).bind f = f a := (Option.bind_some a f).trans (Eq.refl _)
theorem ms {α β : Type} (a : α) (f : α → β) : (some a).map f = some (f a) := (Option.map_some (f := f) (a := a)).trans (Eq.refl _)
end WB
namespace WB
open Go Go.RowKit
section
variable {α β γ δ : Type} {p : Prop} [Decidable p]
theorem gPb (X : Option α) (f : α → Option β) : (if p then X else none).bind f = if p then X.bind f else none := by by_cases h : p <;> simp [h]
theorem gPm (X : Option α) (f : α → β) : (if p then X else none).map f = if p then X.map f else none := by by_cases h : p <;> simp [h]
theorem gPs (Y Z : Option β) (W : Option β) : (if p then (if p then Z else W) else Y) = if p then Z else Y := by by_cases h : p <;> simp [h]
theorem gM (A : Option α) (B : Option α → Option β) (K : Option β → Option γ) : (Option.bind (if p then A.map some else some none) fun x => Option.bind (if p then (B x).map some else some none) K) = Option.bind (if p then (A.bind fun v => B (some v)).map some else some none) K := by by_cases h : p <;> cases A <;> simp [h]
theorem gM2 (A : Option α) (B : Option α → Option β) (C : Option α → Option β → Option γ) (K : Option γ → Option δ) : (Option.bind (if p then A.map some else some none) fun x => Option.bind (if p then (B x).map some else some none) fun y => Option.bind (if p then (C x y).map some else some none) K) = Option.bind (if p then (A.bind fun v => (B (some v)).bind fun w => C (some v) (some w)).map some else some none) K := by
 by_cases h : p
 ·cases A with
  | none => simp [h]
  | some v => simp only [h, if_true, Option.map_some, Option.bind_some]; cases B (some v) <;> simp
 ·simp [h]
theorem gAnd (c : Bool) (A : Option α) (B : Option α → Option Bool) (K : Bool → Option β) : (Option.bind (if c = true then A.map some else some none) fun x => Option.bind (if c = true then B x else some false) K) = Option.bind (if c = true then A.bind fun v => B (some v) else some false) K := by cases c <;> cases A <;> simp
theorem gOr (c : Bool) (A : Option α) (B : Option α → Option Bool) (K : Bool → Option β) : (Option.bind (if c = false then A.map some else some none) fun x => Option.bind (if c = true then some true else B x) K) = Option.bind (if c = true then some true else A.bind fun v => B (some v)) K := by cases c <;> cases A <;> simp
theorem gAndI (A B : Option Bool) (K : Option Bool → Option β) : (Option.bind (if p then A.map some else some none) fun g => Option.bind (if g = some true then B.map some else some none) fun x => Option.bind (if p then (g.bind fun z => if z = true then x else some false).map some else some none) K) = Option.bind (if p then (A.bind fun z => if z = true then B else some false).map some else some none) K := by
 by_cases h : p
 ·cases A with
  | none => simp [h]
  | some v => cases v <;> cases B <;> simp [h]
 ·simp [h]
theorem gOrI (A B : Option Bool) (K : Option Bool → Option β) : (Option.bind (if p then A.map some else some none) fun g => Option.bind (if g = some false then B.map some else some none) fun x => Option.bind (if p then (g.bind fun z => if z = true then some true else x).map some else some none) K) = Option.bind (if p then (A.bind fun z => if z = true then some true else B).map some else some none) K := by
 by_cases h : p
 ·cases A with
  | none => simp [h]
  | some v => cases v <;> cases B <;> simp [h]
 ·simp [h]
theorem gAA (c : Bool) (A : Option Bool) (B : Option α) (C : Option α → Option Bool) (K : Bool → Option β) : (Option.bind (if c = true then A.map some else some none) fun g => Option.bind (if g = some true then B.map some else some none) fun x => Option.bind (if c = true then g.bind fun z => if z = true then C x else some false else some false) K) = Option.bind (if c = true then A.bind fun z => if z = true then B.bind fun v => C (some v) else some false else some false) K := by
 cases c <;> cases A <;> first | (simp; done) | (rename_i v; cases v <;> cases B <;> simp)
theorem gAO (c : Bool) (A : Option Bool) (B : Option α) (C : Option α → Option Bool) (K : Bool → Option β) : (Option.bind (if c = false then A.map some else some none) fun g => Option.bind (if g = some true then B.map some else some none) fun x => Option.bind (if c = true then some true else g.bind fun z => if z = true then C x else some false) K) = Option.bind (if c = true then some true else A.bind fun z => if z = true then B.bind fun v => C (some v) else some false) K := by
 cases c <;> cases A <;> first | (simp; done) | (rename_i v; cases v <;> cases B <;> simp)
theorem gOA (c : Bool) (A : Option Bool) (B : Option α) (C : Option α → Option Bool) (K : Bool → Option β) : (Option.bind (if c = true then A.map some else some none) fun g => Option.bind (if g = some false then B.map some else some none) fun x => Option.bind (if c = true then g.bind fun z => if z = true then some true else C x else some false) K) = Option.bind (if c = true then A.bind fun z => if z = true then some true else B.bind fun v => C (some v) else some false) K := by
 cases c <;> cases A <;> first | (simp; done) | (rename_i v; cases v <;> cases B <;> simp)
theorem gOO (c : Bool) (A : Option Bool) (B : Option α) (C : Option α → Option Bool) (K : Bool → Option β) : (Option.bind (if c = false then A.map some else some none) fun g => Option.bind (if g = some false then B.map some else some none) fun x => Option.bind (if c = true then some true else g.bind fun z => if z = true then some true else C x) K) = Option.bind (if c = true then some true else A.bind fun z => if z = true then some true else B.bind fun v => C (some v)) K := by
 cases c <;> cases A <;> first | (simp; done) | (rename_i v; cases v <;> cases B <;> simp)
theorem gAAf (c : Bool) (A : Option Bool) (B : Option α) (C : Option α → Option Bool) (F : Bool → Option Bool) (K : Bool → Option β) : (Option.bind (if c = true then A.map some else some none) fun g => Option.bind (if g = some true then B.map some else some none) fun x => Option.bind (if c = true then (g.bind fun z => if z = true then C x else some false).bind F else some false) K) = Option.bind (if c = true then (A.bind fun z => if z = true then B.bind fun v => C (some v) else some false).bind F else some false) K := by
 cases c <;> cases A <;> first | (simp ; done) | (rename_i v; cases v <;> cases B <;> simp )
theorem gAOf (c : Bool) (A : Option Bool) (B : Option α) (C : Option α → Option Bool) (F : Bool → Option Bool) (K : Bool → Option β) : (Option.bind (if c = false then A.map some else some none) fun g => Option.bind (if g = some true then B.map some else some none) fun x => Option.bind (if c = true then some true else (g.bind fun z => if z = true then C x else some false).bind F) K) = Option.bind (if c = true then some true else (A.bind fun z => if z = true then B.bind fun v => C (some v) else some false).bind F) K := by
 cases c <;> cases A <;> first | (simp ; done) | (rename_i v; cases v <;> cases B <;> simp )
theorem gOAf (c : Bool) (A : Option Bool) (B : Option α) (C : Option α → Option Bool) (F : Bool → Option Bool) (K : Bool → Option β) : (Option.bind (if c = true then A.map some else some none) fun g => Option.bind (if g = some false then B.map some else some none) fun x => Option.bind (if c = true then (g.bind fun z => if z = true then some true else C x).bind F else some false) K) = Option.bind (if c = true then (A.bind fun z => if z = true then some true else B.bind fun v => C (some v)).bind F else some false) K := by
 cases c <;> cases A <;> first | (simp ; done) | (rename_i v; cases v <;> cases B <;> simp )
theorem gOOf (c : Bool) (A : Option Bool) (B : Option α) (C : Option α → Option Bool) (F : Bool → Option Bool) (K : Bool → Option β) : (Option.bind (if c = false then A.map some else some none) fun g => Option.bind (if g = some false then B.map some else some none) fun x => Option.bind (if c = true then some true else (g.bind fun z => if z = true then some true else C x).bind F) K) = Option.bind (if c = true then some true else (A.bind fun z => if z = true then some true else B.bind fun v => C (some v)).bind F) K := by
 cases c <;> cases A <;> first | (simp ; done) | (rename_i v; cases v <;> cases B <;> simp )
theorem gAMf (A : Option Bool) (B : Option α) (C : Option α → Option Bool) (F : Bool → Option γ) (K : Option γ → Option β) : (Option.bind (if p then A.map some else some none) fun g => Option.bind (if g = some true then B.map some else some none) fun x => Option.bind (if p then ((g.bind fun z => if z = true then C x else some false).bind F).map some else some none) K) = Option.bind (if p then ((A.bind fun z => if z = true then B.bind fun v => C (some v) else some false).bind F).map some else some none) K := by
 by_cases h : p <;> cases A <;> first | (simp [h]; done) | (rename_i v; cases v <;> cases B <;> simp [h])
theorem gOMf (A : Option Bool) (B : Option α) (C : Option α → Option Bool) (F : Bool → Option γ) (K : Option γ → Option β) : (Option.bind (if p then A.map some else some none) fun g => Option.bind (if g = some false then B.map some else some none) fun x => Option.bind (if p then ((g.bind fun z => if z = true then some true else C x).bind F).map some else some none) K) = Option.bind (if p then ((A.bind fun z => if z = true then some true else B.bind fun v => C (some v)).bind F).map some else some none) K := by
 by_cases h : p <;> cases A <;> first | (simp [h]; done) | (rename_i v; cases v <;> cases B <;> simp [h])
theorem gIn1 (A : Option α) (X Y : α → Option β) (R : α → β → Option γ) (Z : Option γ) : (if p then (A.bind fun v => (if p then X v else Y v).bind (R v)) else Z) = if p then (A.bind fun v => (X v).bind (R v)) else Z := by by_cases h : p <;> simp [h]
theorem gIn2 (A : Option α) (X Y : α → Option β) (R : α → β → γ) (Z : Option γ) : (if p then (A.bind fun v => (if p then X v else Y v).map (R v)) else Z) = if p then (A.bind fun v => (X v).map (R v)) else Z := by by_cases h : p <;> simp [h]
theorem gIn3 (X Y : Option β) (R : β → Option γ) (Z : Option γ) : (if p then ((if p then X else Y).bind R) else Z) = if p then (X.bind R) else Z := by by_cases h : p <;> simp [h]
theorem gIn4 (X Y : Option β) (R : β → γ) (Z : Option γ) : (if p then ((if p then X else Y).map R) else Z) = if p then (X.map R) else Z := by by_cases h : p <;> simp [h]
theorem gIn5 (c : Bool) (X Y : Option β) (R : β → Option γ) (Z : Option γ) : (if c = true then Z else ((if c = false then X else Y).bind R)) = if c = true then Z else X.bind R := by cases c <;> simp
theorem gIn6 (c : Bool) (A : Option α) (X Y : α → Option β) (R : α → β → Option γ) (Z : Option γ) : (if c = true then Z else (A.bind fun v => (if c = false then X v else Y v).bind (R v))) = if c = true then Z else (A.bind fun v => (X v).bind (R v)) := by cases c <;> simp
theorem gIn7 (c : Bool) (A : Option α) (X Y : α → Option β) (R : α → β → γ) (Z : Option γ) : (if c = true then Z else (A.bind fun v => (if c = false then X v else Y v).map (R v))) = if c = true then Z else (A.bind fun v => (X v).map (R v)) := by cases c <;> simp
theorem gIn8 (c : Bool) (X Y : Option β) (R : β → γ) (Z : Option γ) : (if c = true then Z else ((if c = false then X else Y).map R)) = if c = true then Z else X.map R := by cases c <;> simp
theorem gPi (X : Option α) (Y W : α → Option β) (Z : Option β) : (if p then (X.bind fun z => if p then Y z else W z) else Z) = if p then X.bind Y else Z := by by_cases h : p <;> simp [h]
theorem gSS (v : α) (Z : Option (Option α)) : (if p then some (some v) else Z) = if p then (some v).map some else Z := rfl
theorem gId (X : Option α) : X.map (fun z => z) = X := by cases X <;> rfl
theorem gIdF (X : Option α) : (X.bind fun z => some z) = X := by cases X <;> rfl
theorem gMb (X : Option α) (f : α → β) (g : β → Option γ) : (X.map f).bind g = X.bind fun v => g (f v) := by cases X <;> rfl
theorem gMm (X : Option α) (f : α → β) (g : β → γ) : (X.map f).map g = X.map fun v => g (f v) := by cases X <;> rfl
theorem gBm (X : Option α) (f : α → Option β) (g : β → γ) : (X.bind f).map g = X.bind fun v => (f v).map g := by cases X <;> rfl
theorem gBb (X : Option α) (f : α → Option β) (g : β → Option γ) : (X.bind f).bind g = X.bind fun v => (f v).bind g := by cases X <;> rfl
end
end WB
namespace WB
open Go Go.RowKit
end WB
namespace WB
open Go Go.RowKit
end WB
namespace WB
open Go Go.RowKit
def dg9 (n : Nat) : UInt8 := UInt8.ofNat (48 + n)
end WB
namespace WB
open Go Go.RowKit
theorem Px.err_of {G : Nat → List CV} {w : World} {M : Nat → Prop} (h : GOk G w M) {g : Nat} (hG : G g = [.ifc]) : ∃ te pe, w.cell? ⟨g, 0, none⟩ = some (.iface te pe) := by
 obtain ⟨h1, _⟩ := h g (by rw [hG]; simp)
 rw [hG] at h1
 unfold RelC at h1
 obtain ⟨ad, vs, e, _, _, hl, hc⟩ := h1
 cases e
 unfold RelL RelC at hl
 obtain ⟨v, vs', rfl, ⟨te, pe, rfl⟩, _⟩ := hl
 refine ⟨te, pe, ?_⟩
 have := hc 0 (.iface te pe) (by simp)
 simpa [Addr.add] using this
def strconv_ParseUint : List UInt8 × Int × Int → Option (Int × Bool) := fun x =>
 if x.2.1 = 10 ∧ x.2.2 = 64 ∧ x.1.length ≤ 281474976710656 then some (match Lib.parseUintB 64 x.1 with | .ok n => ((n : Int), true) | .range => (18446744073709551615, false) | _ => (0, false)) else none
theorem strconv_ParseUint_ok {P : Program} {B : TB} {f g0 g1 : Nat} (hb : hasBody P f = true) (hg0 : B.G g0 = [.ifc]) (hg1 : B.G g1 = [.ifc]) {e8 t1 t2 : TypeId} {n1 : ByteArray}
  (h_ok : ∀ (s : ByteArray) (_ : s.size ≤ 9223372036854775806) (v : Nat) (_ : Lib.parseUintB 64 s.data.toList = .ok v) (w : World), Calls P f #[.string s, .int .i64 10, .int .i64 64] w fun e w' => e = .returned (.tuple #[.int .u64 v, .nilIface]) ∧ (w' = w ∨ w' = Lib.bytesWorld w e8 s))
  (h_syn : ∀ (s : ByteArray) (_ : s.size ≤ 281474976710656) (_ : Lib.parseUintB 64 s.data.toList = Lib.NumEnd.syntax) (ev : Value) (w : World) (_ : w.cell? ⟨g0, 0, none⟩ = some ev) (_ : ev = .nilIface ∨ ∃ te pe, ev = .iface te pe), Calls P f #[.string s, .int .i64 10, .int .i64 64] w fun e w' => ∃ N, e = .returned (.tuple #[.int .u64 0, .iface t1 (.pointer (some ⟨N, 0, none⟩))]) ∧ w.heap.size ≤ N ∧ w'.heap[N]? = some (.cells #[.string n1, .string s, ev] t2 (0, 0)) ∧ Below w.heap.size w w')
  (h_rng : ∀ (s : ByteArray) (_ : s.size ≤ 281474976710656) (_ : Lib.parseUintB 64 s.data.toList = Lib.NumEnd.range) (ev : Value) (w : World) (_ : w.cell? ⟨g1, 0, none⟩ = some ev) (_ : ev = .nilIface ∨ ∃ te pe, ev = .iface te pe), Calls P f #[.string s, .int .i64 10, .int .i64 64] w fun e w' => ∃ N, e = .returned (.tuple #[.int .u64 18446744073709551615, .iface t1 (.pointer (some ⟨N, 0, none⟩))]) ∧ w.heap.size ≤ N ∧ w'.heap[N]? = some (.cells #[.string n1, .string s, ev] t2 (0, 0)) ∧ Below w.heap.size w w')
  {x : D (.cons .str (.cons (.int .i64) (.one (.int .i64))))} {l : List CV} {y : D (.tup (.cons (.int .u64) (.one .err)))} (hx : Can (.cons .str (.cons (.int .i64) (.one (.int .i64)))) x l) (hy : strconv_ParseUint x = some y) :
  hasBody P f = true ∧ CallsTo P B.G f l (.val (enc (.tup (.cons (.int .u64) (.one .err))) y)) := by
 refine ⟨hb, fun w M vs hM hGk hL => ?_⟩
 obtain ⟨te0, pe0, ev0⟩ := Px.err_of hGk hg0
 obtain ⟨te1, pe1, ev1⟩ := Px.err_of hGk hg1
 obtain ⟨s, b, k⟩ := x
 simp only [strconv_ParseUint] at hy
 split at hy <;> try (cases hy; done)
 rename_i h
 obtain ⟨rfl, rfl, h1⟩ := h
 simp only [Option.some.injEq] at hy
 unfold Can at hx
 obtain ⟨c1, l', rfl, h2, h3⟩ := hx
 unfold Can at h2 h3
 obtain ⟨c2, l'', rfl, h4, h5⟩ := h3
 unfold Can at h4 h5
 obtain ⟨c3, rfl, h6⟩ := h5
 unfold Can at h6
 cases h2; cases h4; cases h6
 unfold RelL RelC at hL
 obtain ⟨v, vs', rfl, rfl, hL⟩ := hL
 unfold RelL RelC at hL
 obtain ⟨v, vs', rfl, rfl, hL⟩ := hL
 unfold RelL RelC at hL
 obtain ⟨v, vs', rfl, rfl, hL⟩ := hL
 unfold RelL at hL
 subst hL
 have hsz : (⟨⟨s⟩⟩ : ByteArray).size = s.length := rfl
 rcases hp : Lib.parseUintB 64 s with n | _ | _
 ·
  rw [hp] at hy
  subst hy
  refine (h_ok ⟨⟨s⟩⟩ (by rw [hsz]; omega) n hp w).mono fun e w' he => ?_
  obtain ⟨rfl, hw⟩ := he
  have hbw : Below w.heap.size w w' := by
   rcases hw with rfl | rfl
   ·exact Below.refl _ _
   ·exact (by first | exact Lib.bytesWorld_below _ _ _ | exact Go.Joins.below_bytesWorld _ _ _ _ (Nat.le_refl _) | exact below_bytesWorld _ _ _ _ (Nat.le_refl _))
  exact ⟨_, rfl, hbw, _, rfl, _, _, rfl, rfl, _, _, rfl, rfl, rfl⟩
 ·
  rw [hp] at hy
  subst hy
  refine (h_syn ⟨⟨s⟩⟩ (by rw [hsz]; exact h1) hp _ w ev0 (.inr ⟨_, _, rfl⟩)).mono fun e w' he => ?_
  obtain ⟨N, rfl, _, _, hbw⟩ := he
  exact ⟨_, rfl, hbw, _, rfl, _, _, rfl, rfl, _, _, rfl, ⟨_, _, rfl⟩, rfl⟩
 ·
  rw [hp] at hy
  subst hy
  refine (h_rng ⟨⟨s⟩⟩ (by rw [hsz]; exact h1) hp _ w ev1 (.inr ⟨_, _, rfl⟩)).mono fun e w' he => ?_
  obtain ⟨N, rfl, _, _, hbw⟩ := he
  exact ⟨_, rfl, hbw, _, rfl, _, _, rfl, rfl, _, _, rfl, ⟨_, _, rfl⟩, rfl⟩
end WB
namespace WB
open Go Go.RowKit
theorem Pj.err_of {G : Nat → List CV} {w : World} {M : Nat → Prop} (h : GOk G w M) {g : Nat} (hG : G g = [.ifc]) : ∃ te pe, w.cell? ⟨g, 0, none⟩ = some (.iface te pe) := by
 obtain ⟨h1, _⟩ := h g (by rw [hG]; simp)
 rw [hG] at h1
 unfold RelC at h1
 obtain ⟨ad, vs, e, _, _, hl, hc⟩ := h1
 cases e
 unfold RelL RelC at hl
 obtain ⟨v, vs', rfl, ⟨te, pe, rfl⟩, _⟩ := hl
 refine ⟨te, pe, ?_⟩
 have := hc 0 (.iface te pe) (by simp)
 simpa [Addr.add] using this
def strconv_ParseInt : List UInt8 × Int × Int → Option (Int × Bool) := fun x =>
 if x.2.1 = 10 ∧ x.2.2 = 64 ∧ x.1.length ≤ 281474976710656 then some (match Lib.parseIntB 64 x.1 with | .ok n => (n, true) | .range => ((Lib.intSat 64) x.1, false) | _ => ((0), false)) else none
theorem strconv_ParseInt_ok {P : Program} {B : TB} {f g0 g1 : Nat} (hb : hasBody P f = true) (hg0 : B.G g0 = [.ifc]) (hg1 : B.G g1 = [.ifc]) {e8 t1 t2 : TypeId} {n1 : ByteArray}
  (h_ok : ∀ (s : ByteArray) (_ : s.size ≤ 9223372036854775806) (v : Int) (_ : Lib.parseIntB 64 s.data.toList = .ok v) (w : World), Calls P f #[.string s, .int .i64 10, .int .i64 64] w fun e w' => e = .returned (.tuple #[.int .i64 v, .nilIface]) ∧ (w' = w ∨ ∃ t, w' = Lib.bytesWorld w e8 t))
  (h_syn : ∀ (s : ByteArray) (_ : s.size ≤ 281474976710656) (_ : Lib.parseIntB 64 s.data.toList = Lib.NumEnd.syntax) (ev : Value) (w : World) (_ : w.cell? ⟨g0, 0, none⟩ = some ev) (_ : ev = .nilIface ∨ ∃ te pe, ev = .iface te pe), Calls P f #[.string s, .int .i64 10, .int .i64 64] w fun e w' => ∃ N, e = .returned (.tuple #[.int .i64 (0), .iface t1 (.pointer (some ⟨N, 0, none⟩))]) ∧ w.heap.size ≤ N ∧ w'.heap[N]? = some (.cells #[.string n1, .string s, ev] t2 (0, 0)) ∧ Below w.heap.size w w')
  (h_rng : ∀ (s : ByteArray) (_ : s.size ≤ 281474976710656) (_ : Lib.parseIntB 64 s.data.toList = Lib.NumEnd.range) (ev : Value) (w : World) (_ : w.cell? ⟨g1, 0, none⟩ = some ev) (_ : ev = .nilIface ∨ ∃ te pe, ev = .iface te pe), Calls P f #[.string s, .int .i64 10, .int .i64 64] w fun e w' => ∃ N, e = .returned (.tuple #[.int .i64 ((Lib.intSat 64) s.data.toList), .iface t1 (.pointer (some ⟨N, 0, none⟩))]) ∧ w.heap.size ≤ N ∧ w'.heap[N]? = some (.cells #[.string n1, .string s, ev] t2 (0, 0)) ∧ Below w.heap.size w w')
  {x : D (.cons .str (.cons (.int .i64) (.one (.int .i64))))} {l : List CV} {y : D (.tup (.cons (.int .i64) (.one .err)))} (hx : Can (.cons .str (.cons (.int .i64) (.one (.int .i64)))) x l) (hy : strconv_ParseInt x = some y) :
  hasBody P f = true ∧ CallsTo P B.G f l (.val (enc (.tup (.cons (.int .i64) (.one .err))) y)) := by
 refine ⟨hb, fun w M vs hM hGk hL => ?_⟩
 obtain ⟨te0, pe0, ev0⟩ := Pj.err_of hGk hg0
 obtain ⟨te1, pe1, ev1⟩ := Pj.err_of hGk hg1
 obtain ⟨s, b, k⟩ := x
 simp only [strconv_ParseInt] at hy
 split at hy <;> try (cases hy; done)
 rename_i h
 obtain ⟨rfl, rfl, h1⟩ := h
 simp only [Option.some.injEq] at hy
 unfold Can at hx
 obtain ⟨c1, l', rfl, h2, h3⟩ := hx
 unfold Can at h2 h3
 obtain ⟨c2, l'', rfl, h4, h5⟩ := h3
 unfold Can at h4 h5
 obtain ⟨c3, rfl, h6⟩ := h5
 unfold Can at h6
 cases h2; cases h4; cases h6
 unfold RelL RelC at hL
 obtain ⟨v, vs', rfl, rfl, hL⟩ := hL
 unfold RelL RelC at hL
 obtain ⟨v, vs', rfl, rfl, hL⟩ := hL
 unfold RelL RelC at hL
 obtain ⟨v, vs', rfl, rfl, hL⟩ := hL
 unfold RelL at hL
 subst hL
 have hsz : (⟨⟨s⟩⟩ : ByteArray).size = s.length := rfl
 rcases hp : Lib.parseIntB 64 s with n | _ | _
 ·
  rw [hp] at hy
  subst hy
  refine (h_ok ⟨⟨s⟩⟩ (by rw [hsz]; omega) n hp w).mono fun e w' he => ?_
  obtain ⟨rfl, hw⟩ := he
  have hbw : Below w.heap.size w w' := by
   rcases hw with rfl | ⟨t, rfl⟩
   ·exact Below.refl _ _
   ·exact (by first | exact Lib.bytesWorld_below _ _ _ | exact Go.Joins.below_bytesWorld _ _ _ _ (Nat.le_refl _) | exact below_bytesWorld _ _ _ _ (Nat.le_refl _))
  exact ⟨_, rfl, hbw, _, rfl, _, _, rfl, rfl, _, _, rfl, rfl, rfl⟩
 ·
  rw [hp] at hy
  subst hy
  refine (h_syn ⟨⟨s⟩⟩ (by rw [hsz]; exact h1) hp _ w ev0 (.inr ⟨_, _, rfl⟩)).mono fun e w' he => ?_
  obtain ⟨N, rfl, _, _, hbw⟩ := he
  exact ⟨_, rfl, hbw, _, rfl, _, _, rfl, rfl, _, _, rfl, ⟨_, _, rfl⟩, rfl⟩
 ·
  rw [hp] at hy
  subst hy
  refine (h_rng ⟨⟨s⟩⟩ (by rw [hsz]; exact h1) hp _ w ev1 (.inr ⟨_, _, rfl⟩)).mono fun e w' he => ?_
  obtain ⟨N, rfl, _, _, hbw⟩ := he
  exact ⟨_, rfl, hbw, _, rfl, _, _, rfl, rfl, _, _, rfl, ⟨_, _, rfl⟩, rfl⟩
end WB
namespace WB
open Go Go.RowKit
def strings_Count : List UInt8 × List UInt8 → Option Int := fun x => match x.2 with
 | [c] => some (x.1.count c : Int)
 | _ => none
theorem strings_Count_ok {P : Program} {B : TB} {f : Nat} (hb : hasBody P f = true)
  (hc : ∀ (s : ByteArray) (c : UInt8) (w : World), Calls P f #[.string s, .string ⟨#[c]⟩] w fun e w' => e = .returned (.int .i64 (Lib.countByte s.data.toList c)) ∧ w' = w)
  {x : D (.cons .str (.one .str))} {l : List CV} {y : D (.int .i64)} (hx : Can (.cons .str (.one .str)) x l) (hy : strings_Count x = some y) : hasBody P f = true ∧ CallsTo P B.G f l (.val (enc (.int .i64) y)) := by
 refine ⟨hb, fun w M vs hM hGk hL => ?_⟩
 rw [rel_str2 hx hL]
 obtain ⟨s, b⟩ := x
 simp only [strings_Count] at hy
 split at hy <;> try (cases hy; done)
 rename_i c
 cases hy
 refine (hc ⟨⟨s⟩⟩ c w).mono fun e w' he => ?_
 obtain ⟨rfl, rfl⟩ := he
 refine ⟨_, rfl, Below.refl _ _, ?_⟩
 simp [RelR, enc, encL, RelC, Lib.countByte]
end WB

