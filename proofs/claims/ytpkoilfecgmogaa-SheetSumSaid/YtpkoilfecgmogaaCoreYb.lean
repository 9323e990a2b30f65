/-
  THE OWN LAYER, YB: functions that hand over a new object.
-/
import Derived.Test.YtpkoilfecgmogaaCoreZa
namespace WB
open Go Go.RowKit

/-- How a body ends well that hands over a new slice or map. -/
def finN (rs : List SRes) (o : Ob) (e : Ex) (st : St) : Prop :=
  match e with
  | .exit _ => False
  | _ => ∃ t, rs = [.tmp t] ∧ ((∃ id, (st.fr t = .osl id ∨ st.fr t = .omap id) ∧ st.ob id = o ∧ handy o = true) ∨ (st.fr t = .c (.sl (some true) []) ∧ ∃ e size, o = .arr e size []))

def finR (rs : List SRes) : Res → Ex → St → Prop
  | .val v => fin rs v
  | .new o => finN rs o

section
variable {P : Program} {E : Env} {w0 : World} {M0 : Nat → Prop} {n : Nat} {st : St} {a : Act} {w : World} {z : Cz}

theorem new_rel {G : Nat → List CV} (h : SR P G w0 M0 n st a w z) {rvs : List ResultVar} {rs : List SRes} (hc : allM (compR P) rvs = some rs) {e : Ex} {o : Ob} (hq : finN rs o e st) :
    ∃ t, rvs = [.tmp t] ∧ RelR P w M0 w0.heap.size (a.tmps.getD t undef) (.new o) := by
  have hq' : ∃ t, rs = [.tmp t] ∧ ((∃ id, (st.fr t = .osl id ∨ st.fr t = .omap id) ∧ st.ob id = o ∧ handy o = true) ∨ (st.fr t = .c (.sl (some true) []) ∧ ∃ e size, o = .arr e size [])) := by
    cases e with
    | exit i => exact hq.elim
    | normal => exact hq
    | ret => exact hq
  clear hq
  obtain ⟨t, ht, hq⟩ := hq'
  subst ht
  have hrv : rvs = [.tmp t] := by
    cases rvs with
    | nil => simp [allM] at hc
    | cons rv rvs =>
      simp only [allM, Option.bind_eq_some_iff, Option.map_eq_some_iff, List.cons.injEq] at hc
      obtain ⟨s, hs, ss, hss, rfl, rfl⟩ := hc
      have : rvs = [] := by
        cases rvs with
        | nil => rfl
        | cons rv' rvs =>
          simp only [allM, Option.bind_eq_some_iff, Option.map_eq_some_iff] at hss
          obtain ⟨_, _, _, _, hss⟩ := hss
          cases hss
      subst this
      cases rv with
      | tmp t' => simp only [compR, Option.some.injEq] at hs; cases hs; rfl
      | cell b ty => simp [compR] at hs
  refine ⟨t, hrv, ?_⟩
  have hr := h.fr t
  rcases hq with ⟨id, hfr, hob, hh⟩ | ⟨hfr, e, size, rfl⟩
  · have hlive : st.ob id ≠ .none := by rw [hob]; intro e; rw [e] at hh; cases hh
    have hv : a.tmps.getD t undef = z.σ id := by
      rcases hfr with hfr | hfr <;> rw [hfr] at hr <;> exact hr.2
    have ho := h.ob id
    rw [hob] at ho
    rw [hv]
    refine ⟨hh, fun g hg => h.lo id g hlive hg, RelO_marks (Nat.le_refl _) hh (fun g _ hg => ?_) (fun k b hb => hb) ho⟩
    rcases hg with hg | hg
    · exact .inl hg
    · exact .inr ⟨id, hlive, hg⟩
  · rw [hfr] at hr
    unfold RelS RelC at hr
    obtain ⟨ad, n', c, e1, e2, e3, e4, _, e6, _⟩ := hr
    have ha := e4 rfl
    subst ha
    have hc0 := e6 rfl
    subst hc0
    have hn0 : n' = 0 := e2
    subst hn0
    rw [e1]
    exact ⟨rfl, fun g hg => (by cases hg), [], ⟨by simp, .inl ⟨rfl, rfl⟩⟩, rfl⟩

theorem fin_osl {t id : Nat} {o : Ob} (h1 : st.fr t = .osl id) (h2 : st.ob id = o) (h3 : handy o = true) : finR [.tmp t] (.new o) .ret st := ⟨t, rfl, .inl ⟨id, .inl h1, h2, h3⟩⟩
theorem fin_nil {t e size : Nat} {es : List CV} (h1 : st.fr t = .c (.sl (some true) [])) (h2 : es = []) : finR [.tmp t] (.new (.arr e size es)) .ret st := by
  subst h2
  exact ⟨t, rfl, .inr ⟨h1, e, size, rfl⟩⟩
theorem finR_ret {rs : List SRes} {r : CV} (h : resOf st rs = some r) : finR rs (.val r) .ret st := h

theorem fn_okR (hE : EOk P E) {f : FuncId} {m : Model} (hc : compF P f = some m) {l : List CV} {r : Res} (hl : l.length ≤ m.n) (h : pwp E m.code (finR m.res r) (init l)) : hasBody P f = true ∧ CallsTo P E.G f l r := by
  cases r with
  | val v => exact fn_ok hE hc hl h
  | new o =>
    unfold compF at hc
    split at hc <;> try (cases hc; done)
    rename_i hb
    refine ⟨hb, ?_⟩
    simp only [Option.bind_eq_some_iff, Option.map_eq_some_iff] at hc
    obtain ⟨fn, hf, b, hbody, c, hcode, rs, hrs, rfl⟩ := hc
    intro w M vs hM hG hL
    refine calls_of_wp hf hbody (wp_mono (code_sound hE b hcode (init_rel hM hG hl hL) h) fun e a' w' hpost => ?_)
    obtain ⟨e', st', z', he, hq, hS⟩ := hpost
    subst he
    obtain ⟨t, hrv, hR⟩ := new_rel hS hrs hq
    have hfr : fn.results = #[.tmp t] := by
      apply Array.toList_inj.1
      simpa using hrv
    have hrun : (results fn a'.tmps).run P w' = .ok (a'.tmps.getD t undef) w' := by
      simp [results, hfr]
    have fin_ : a'.defers = [] ∧ ∃ v, (results fn a'.tmps).run P w' = .ok v w' ∧ ∃ u, Ending.returned v = .returned u ∧ Below w.heap.size w w' ∧ RelR P w' M w.heap.size u (.new o) :=
      ⟨hS.defers, _, hrun, _, rfl, hS.below, hR⟩
    cases e' with
    | normal => exact fin_
    | exit i => exact hq.elim
    | ret => exact fin_

/-- An environment that grows, function by function. -/
theorem EOk.addR (hE : EOk P E) {f : FuncId} {m : Model} (hc : compF P f = some m) {F : List CV → Option Res} (h : ∀ l r, F l = some r → l.length ≤ m.n ∧ pwp E m.code (finR m.res r) (init l)) :
    EOk P { E with fn := fun g l => if g = f then F l else E.fn g l } := by
  intro g l r hr
  simp only at hr
  split at hr
  · rename_i e
    subst e
    obtain ⟨h1, h2⟩ := h l r hr
    exact fn_okR hE hc h1 h2
  · exact hE g l r hr
theorem EOk.nil (G : Nat → List CV) : EOk P { G := G, fn := fun _ _ => none } := fun _ _ _ h => by cases h

/-- A call that hands over a new object. -/
theorem c_callN {D : Option (List Nat)} {K : St → Prop} {ls : List SL} {d : Nat} {f : FuncId} {args : List SO} {l : List CV} {o : Ob} (h1 : allM (fun x => close (mask D st.ob) (so E.G st.fr x)) args = some l) (h2 : E.fn f l = some (.new o)) (h3 : ((args.all fun x => isC (so E.G st.fr x)) || (Res.new o).memless) = true) (h4 : st.ob d = .none) (h : pLs E D ls K (newS st d (refOf d o) o)) : pLs E D (⟨some d, .call f args, none⟩ :: ls) K st := by
  refine c_one ?_ h
  simp only [evalL, evalOp, SOp.cls, callOp, h1, Option.bind_some, List.append_nil, h2, h3, if_true, setRes, addNew, h4, newS, Option.getD_some]
end
end WB
