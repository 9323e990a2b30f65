/-
  THE OWN LAYER, TO: functions over plain data, and environments of them.
-/
import Derived.Test.YtpkoilfecgmogaaCoreTn
namespace WB
open Go Go.RowKit

structure AF where
  n : Nat
  code : AC
  res : List SRes

@[reducible] def slotsT : Ty → Nat → TC
  | .one t, i => [(.s i, .v t)]
  | .cons t r, i => (.s i, .v t) :: slotsT r (i + 1)
  | _, _ => []
def slotsP : (a : Ty) → (i : Nat) → D a → HS (slotsT a i)
  | .one _, _, x => (x, ())
  | .cons _ r, i, x => (x.1, slotsP r (i + 1) x.2)
  | .int _, _, _ | .bool, _, _ | .str, _, _ | .err, _, _ | .clo _ _, _, _ | .nsl, _, _ | .nmap, _, _ | .agg _, _, _ | .tup _, _, _ | .sl _, _, _ | .map _ _, _, _ | .nil, _, _ => ()

theorem slots_get : ∀ {a : Ty} {i : Nat} {x : D a} {l : List CV} {p : Key} {q : Σ k : EK, HS (slotsT a i) → DK k}, Can a x l → get (slotsT a i) p = some q → ∃ j c, p = .s (i + j) ∧ l[j]? = some c ∧ RS q.1 (q.2 (slotsP a i x)) (.c c)
  | .one t, i, x, l, p, q, hc, hg => by
    unfold Can at hc
    obtain ⟨c, rfl, hc⟩ := hc
    by_cases hp : Key.s i = p
    · subst hp
      have hg' : get ((Key.s i, EK.v t) :: []) (Key.s i) = some q := hg
      rw [get_eq] at hg'
      cases hg'
      exact ⟨0, c, rfl, rfl, c, rfl, hc⟩
    · obtain ⟨f, hf, _⟩ := get_ne hp hg
      cases hf
  | .cons t r, i, x, l, p, q, hc, hg => by
    unfold Can at hc
    obtain ⟨c, l', rfl, h1, h2⟩ := hc
    by_cases hp : Key.s i = p
    · subst hp
      have hg' : get ((Key.s i, EK.v t) :: slotsT r (i + 1)) (Key.s i) = some q := hg
      rw [get_eq] at hg'
      cases hg'
      exact ⟨0, c, rfl, rfl, c, rfl, h1⟩
    · obtain ⟨f, hf, hx⟩ := get_ne hp hg
      obtain ⟨j, c', h3, h4, h5⟩ := slots_get (i := i + 1) h2 hf
      refine ⟨j + 1, c', by rw [h3]; congr 1; omega, by simpa using h4, ?_⟩
      have e := hx (slotsP (.cons t r) i x)
      rw [e]; exact h5
  | .int _, _, _, _, _, _, _, hg => by cases hg
  | .bool, _, _, _, _, _, _, hg => by cases hg
  | .str, _, _, _, _, _, _, hg => by cases hg
  | .err, _, _, _, _, _, _, hg => by cases hg
  | .clo _ _, _, _, _, _, _, _, hg => by cases hg
  | .nsl, _, _, _, _, _, _, hg => by cases hg
  | .nmap, _, _, _, _, _, _, hg => by cases hg
  | .agg _, _, _, _, _, _, _, hg => by cases hg
  | .tup _, _, _, _, _, _, _, hg => by cases hg
  | .sl _, _, _, _, _, _, _, hg => by cases hg
  | .map _ _, _, _, _, _, _, _, hg => by cases hg
  | .nil, _, _, _, _, _, _, hg => by cases hg

theorem init_rep {a : Ty} {x : D a} {l : List CV} (hc : Can a x l) : Rep (slotsT a 0) (slotsP a 0 x) (init l) := by
  refine ⟨fun i q hq => ?_, fun id q hq => ?_⟩
  · obtain ⟨j, c, h1, h2, h3⟩ := slots_get hc hq
    simp only [Nat.zero_add, Key.s.injEq] at h1
    subst h1
    simp only [init, h2]
    exact h3
  · obtain ⟨j, c, h1, _⟩ := slots_get hc hq
    cases h1

def kN : (rs : List SRes) → (Rt : Ty) → Option (D Rt)
  | [], .tup .nil => some ()
  | _, _ => none
theorem kN_some {rs : List SRes} {Rt : Ty} {y : D Rt} (h : kN rs Rt = some y) (st : St) : ∃ c, resOf st rs = some c ∧ Can Rt y [c] := by
  unfold kN at h
  split at h
  · exact ⟨.tup [], rfl, by unfold Can; exact ⟨[], rfl, by unfold Can; rfl⟩⟩
  · cases h

noncomputable def funT (X : TP) (a Rt : Ty) (m : AF) : Option (D a → Option (D Rt)) :=
  match den X m.res Rt m.code (D Rt) [] [] (slotsT a 0) with
  | some d => some fun x => d (slotsP a 0 x) ⟨fun _ => kN m.res Rt, (), fun y => some y⟩
  | none => none

theorem funT_ok {P : Program} {X : TP} {E : Env} (hE : EOk P E) (hT : TOk X E) {a Rt : Ty} {m : AF} {g : D a → Option (D Rt)} (h : funT X a Rt m = some g) {f : FuncId} (hc : compF P f = some ⟨m.n, erase m.code, m.res⟩) {k : Nat} (hl : lenR a = some k) (hk : k ≤ m.n)
    {x : D a} {l : List CV} {y : D Rt} (hx : Can a x l) (hy : g x = some y) : hasBody P f = true ∧ CallsTo P E.G f l (.val (enc Rt y)) := by
  unfold funT at h
  split at h <;> try (cases h; done)
  rename_i d hd
  cases h
  refine fn_okT hE hc (by rw [lenR_can hl hx]; exact hk) (pwpS_mono _ (fun e st hp => ?_) (den_ok hT m.code hd (init_rep hx) hy))
  cases e with
  | normal =>
    obtain ⟨ρ, _, h2⟩ := hp
    exact kN_some h2 st
  | exit i =>
    obtain ⟨Γi, s, ρ, h1, _⟩ := hp
    cases h1
  | ret =>
    obtain ⟨v, c, h1, h2, h3⟩ := hp
    cases h3
    exact ⟨c, h1, h2⟩

/-! ### Environments -/

structure TB where
  G : Nat → List CV
  TT : Nat → Option Ty
  TM : Nat → Option (Ty × Ty)

def lookS : List (FuncId × Sig) → FuncId → Option Sig
  | [], _ => none
  | e :: L, f => if e.1 = f then some e.2 else lookS L f
def tp (B : TB) (L : List (FuncId × Sig)) : TP := ⟨B.G, lookS L, B.TT, B.TM⟩

open Classical in
noncomputable def envT (X : TP) : Env := { G := X.G, fn := fun f l => match X.T f with
  | some s => if h : ∃ x, Can s.a x l then (s.fn (choose h)).map fun y => .val (enc s.r y) else none
  | none => none }

theorem envT_fn {X : TP} {f : FuncId} {s : Sig} (hs : X.T f = some s) {x : D s.a} {l : List CV} {y : D s.r} (hx : Can s.a x l) (hy : s.fn x = some y) : (envT X).fn f l = some (.val (enc s.r y)) := by
  have hh : ∃ x, Can s.a x l := ⟨x, hx⟩
  simp only [envT, hs, dif_pos hh]
  rw [Can.uniq s.a (Classical.choose_spec hh) hx, hy]; rfl
theorem envT_some {X : TP} {f : FuncId} {l : List CV} {r : Res} (h : (envT X).fn f l = some r) : ∃ s x y, X.T f = some s ∧ Can s.a x l ∧ s.fn x = some y ∧ r = .val (enc s.r y) := by
  simp only [envT] at h
  split at h <;> try (cases h; done)
  rename_i s hs
  split at h <;> try (cases h; done)
  rename_i hh
  obtain ⟨y, h1, h2⟩ := Option.map_eq_some_iff.1 h
  exact ⟨s, _, y, hs, Classical.choose_spec hh, h1, h2.symm⟩

structure GoodT (P : Program) (B : TB) (L : List (FuncId × Sig)) : Prop where
  E : EOk P (envT (tp B L))
  T : TOk (tp B L) (envT (tp B L))

theorem GoodT.nil (P : Program) (B : TB) : GoodT P B [] := by
  refine ⟨fun f l r h => ?_, rfl, fun f s h => ?_⟩
  · obtain ⟨s, x, y, h1, _⟩ := envT_some h
    cases h1
  · cases h

/-- A function whose contract is shown otherwise. -/
theorem GoodT.addM {P : Program} {B : TB} {L : List (FuncId × Sig)} (h : GoodT P B L) (f : FuncId) (s : Sig) (hv : (s.r.val && s.r.ok) = true) (hf : ∀ x l y, Can s.a x l → s.fn x = some y → hasBody P f = true ∧ CallsTo P B.G f l (.val (enc s.r y))) : GoodT P B ((f, s) :: L) := by
  simp only [Bool.and_eq_true] at hv
  refine ⟨fun g l r hr => ?_, rfl, fun g s' hs => ?_⟩
  · obtain ⟨s', x, y, h1, h2, h3, rfl⟩ := envT_some hr
    have h1' : lookS ((f, s) :: L) g = some s' := h1
    unfold lookS at h1'
    by_cases hg : f = g
    · subst hg
      simp only [if_true, Option.some.injEq] at h1'
      subst h1'
      exact hf x l y h2 h3
    · simp only [hg, if_false] at h1'
      exact h.E g l _ (envT_fn (X := tp B L) h1' h2 h3)
  · refine ⟨?_, ?_, fun x l y hx hy => envT_fn hs hx hy⟩ <;>
    · have h1' : lookS ((f, s) :: L) g = some s' := hs
      unfold lookS at h1'
      by_cases hg : f = g
      · simp only [hg, if_true, Option.some.injEq] at h1'
        subst h1'
        first | exact hv.1 | exact hv.2
      · simp only [hg, if_false] at h1'
        first | exact (h.T.fn g s' h1').1 | exact (h.T.fn g s' h1').2.1

/-- A function read over plain data. -/
theorem GoodT.add {P : Program} {B : TB} {L : List (FuncId × Sig)} (h : GoodT P B L) (f : FuncId) (s : Sig) (m : AF) (hc : compF P f = some ⟨m.n, erase m.code, m.res⟩) (hg : funT (tp B L) s.a s.r m = some s.fn) {k : Nat} (hl : lenR s.a = some k) (hk : Nat.ble k m.n = true) (hv : (s.r.val && s.r.ok) = true) : GoodT P B ((f, s) :: L) :=
  h.addM f s hv fun _ _ _ hx hy => funT_ok h.E h.T hg hc hl (Nat.le_of_ble_eq_true hk) hx hy

theorem GoodT.call {P : Program} {B : TB} {L : List (FuncId × Sig)} (h : GoodT P B L) {f : FuncId} {s : Sig} (hs : lookS L f = some s) {x : D s.a} {l : List CV} {y : D s.r} (hx : Can s.a x l) (hy : s.fn x = some y) : CallsTo P B.G f l (.val (enc s.r y)) :=
  (h.E f l _ (envT_fn (X := tp B L) hs hx hy)).2
end WB
