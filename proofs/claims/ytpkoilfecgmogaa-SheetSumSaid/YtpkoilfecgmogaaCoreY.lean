/-
  THE OWN LAYER, Y: functions.
-/
import Derived.Test.YtpkoilfecgmogaaCoreX
namespace WB
open Go Go.RowKit

inductive SRes where
  | tmp (t : Nat)
  | cell (t : Nat) (sz : Option Nat)

def compR (P : Program) : ResultVar → Option SRes
  | .tmp t => some (.tmp t)
  | .cell a t => (szOf P t).map (.cell a)

def oneRes (st : St) : SRes → Option CV
  | .tmp t => close st.ob (st.fr t)
  | .cell a sz => (loadV st.ob sz (st.fr a)).bind (close st.ob)

def packRes : List CV → CV
  | [c] => c
  | l => .tup l

def resOf (st : St) (rs : List SRes) : Option CV := (allM (oneRes st) rs).map packRes

structure Model where
  n : Nat
  code : SCode
  res : List SRes

def compF (P : Program) (f : FuncId) : Option Model :=
  if hasBody P f then (P.funcs[f]?).bind fun fn => fn.body.bind fun b => (compC P fn.ntmps b).bind fun c => (allM (compR P) fn.results.toList).map fun rs => ⟨fn.ntmps, c, rs⟩ else none

/-- The state that a call begins in. -/
def init (l : List CV) : St := { fr := fun i => match l[i]? with | some c => .c c | none => .undef, ob := fun _ => .none }

/-- How a body ends well. -/
def fin (rs : List SRes) (r : CV) (e : Ex) (st : St) : Prop :=
  match e with
  | .exit _ => False
  | _ => resOf st rs = some r

section
variable {P : Program} {E : Env} {w0 : World} {M0 : Nat → Prop} {n : Nat} {st : St} {a : Act} {w : World} {z : Cz}

theorem one_res {G : Nat → List CV} (h : SR P G w0 M0 n st a w z) {rv : ResultVar} {sr : SRes} (hc : compR P rv = some sr) {c : CV} (ho : oneRes st sr = some c) :
    ∃ v, (match rv with | .tmp t => pure (a.tmps.getD t undef) | .cell b t => (asAddr (a.tmps.getD b undef) >>= fun ad => loadVar t ad) : Sem Value).run P w = .ok v w ∧ RelC w M0 c v := by
  cases rv with
  | tmp t =>
    simp only [compR, Option.some.injEq] at hc
    subst hc
    exact ⟨_, rfl, close_rel h (fun _ => .inr rfl) (h.fr t) ho⟩
  | cell b t =>
    simp only [compR, Option.map_eq_some_iff] at hc
    obtain ⟨sz, hs, rfl⟩ := hc
    simp only [oneRes, Option.bind_eq_some_iff] at ho
    obtain ⟨sv, hl, hcl⟩ := ho
    obtain ⟨v, h1, h2⟩ := val_load (x := .tmp b) (sx := .t b) h.ctx (fun _ => .inr rfl) hs rfl hl
    have hp : ∃ ad, a.tmps.getD b undef = .pointer (some ad) := by
      have hr := h.fr b
      generalize st.fr b = q at hr hl
      generalize a.tmps.getD b undef = u at hr
      cases q <;> try (simp only [loadV, reduceCtorEq] at hl; done)
      · rename_i cv
        cases cv <;> try (simp only [loadV, reduceCtorEq] at hl; done)
        unfold RelS RelC at hr
        obtain ⟨ad, _, e, _⟩ := hr
        exact ⟨ad, e⟩
      · obtain ⟨_, g, _, e⟩ := hr
        exact ⟨_, e⟩
      · obtain ⟨_, g, _, _, _, e⟩ := hr
        exact ⟨_, e⟩
    obtain ⟨ad, hp⟩ := hp
    refine ⟨v, ?_, close_rel h (fun _ => .inr rfl) h2 hcl⟩
    have he : a.eval (.tmp b) = .pointer (some ad) := hp
    rw [he] at h1
    simp only [hp]
    exact h1

theorem all_res {G : Nat → List CV} (h : SR P G w0 M0 n st a w z) {f : ResultVar → Sem Value} (hf : ∀ rv, f rv = (match rv with | .tmp t => pure (a.tmps.getD t undef) | .cell b t => (asAddr (a.tmps.getD b undef) >>= fun ad => loadVar t ad))) : ∀ {rvs : List ResultVar} {srs : List SRes} {cs : List CV}, allM (compR P) rvs = some srs → allM (oneRes st) srs = some cs →
    ∃ vs, (rvs.mapM f).run P w = .ok vs w ∧ RelL w M0 cs vs
  | [], srs, cs, h1, h2 => by
    simp only [allM, Option.some.injEq] at h1; subst h1
    simp only [allM, Option.some.injEq] at h2; subst h2
    exact ⟨[], by simp, RelL.nil⟩
  | rv :: rvs, srs, cs, h1, h2 => by
    simp only [allM, Option.bind_eq_some_iff, Option.map_eq_some_iff] at h1
    obtain ⟨s, hs, ss, hss, rfl⟩ := h1
    simp only [allM, Option.bind_eq_some_iff, Option.map_eq_some_iff] at h2
    obtain ⟨c, hc, cs', hcs, rfl⟩ := h2
    obtain ⟨v, g1, g2⟩ := one_res h hs hc
    obtain ⟨vs, g3, g4⟩ := all_res h hf hss hcs
    rw [← hf] at g1
    exact ⟨v :: vs, by rw [List.mapM_cons]; simp [g1, g3], RelL.cons g2 g4⟩

theorem res_run {G : Nat → List CV} (h : SR P G w0 M0 n st a w z) {fn : Func} {rs : List SRes} (hc : allM (compR P) fn.results.toList = some rs) {c : CV} (ho : resOf st rs = some c) :
    ∃ v, (results fn a.tmps).run P w = .ok v w ∧ RelC w M0 c v := by
  simp only [resOf, Option.map_eq_some_iff] at ho
  obtain ⟨cs, hcs, rfl⟩ := ho
  obtain ⟨vs, h1, h2⟩ := all_res h (f := fun rv => match rv with | .tmp t => pure (a.tmps.getD t undef) | .cell b t => do loadVar t (← asAddr (a.tmps.getD b undef))) (fun rv => by cases rv <;> rfl) hc hcs
  have hr : (results fn a.tmps).run P w = .ok (if h : (⟨vs⟩ : Array Value).size = 1 then (⟨vs⟩ : Array Value)[0] else .tuple ⟨vs⟩) w := by
    have e : results fn a.tmps = (fn.results.mapM (fun rv => match rv with | .tmp t => pure (a.tmps.getD t undef) | .cell b t => do loadVar t (← asAddr (a.tmps.getD b undef))) >>= fun (vs : Array Value) => pure (if h : vs.size = 1 then vs[0] else .tuple vs)) := rfl
    rw [e, Array.mapM_eq_mapM_toList]
    generalize (fun (rv : ResultVar) => (match rv with | .tmp t => pure (a.tmps.getD t undef) | .cell b t => do loadVar t (← asAddr (a.tmps.getD b undef)) : Sem Value)) = f at h1
    simp [h1]
  refine ⟨_, hr, ?_⟩
  have hlen := h2.length
  match cs, vs, h2, hlen with
  | [], [], h2, _ =>
    simp only [packRes]
    unfold RelC
    exact ⟨[], rfl, h2⟩
  | [c], [v], h2, _ =>
    simp only [packRes]
    unfold RelL at h2
    obtain ⟨v', vs', e, h3, _⟩ := h2
    cases e
    exact h3
  | c :: c' :: cs, v :: v' :: vs, h2, _ =>
    simp only [packRes]
    unfold RelC
    exact ⟨v :: v' :: vs, by simp, h2⟩

theorem RelL_get {M : Nat → Prop} {l : List CV} {vs : List Value} (h : RelL w M l vs) {i : Nat} {c : CV} (hc : l[i]? = some c) : ∃ v, vs[i]? = some v ∧ RelC w M c v := RelL.get h hc

theorem init_rel {P : Program} {G : Nat → List CV} {w : World} {M : Nat → Prop} {n : Nat} {l : List CV} {vs : List Value} (hM : ∀ g, M g → g < w.heap.size) (hG : ∀ i, G i ≠ [] → RelC w M (.rp (G i)) (.pointer (some ⟨i, 0, none⟩))) (hl : l.length ≤ n) (h : RelL w M l vs) :
    SR P G w M n (init l) { tmps := (⟨vs⟩ : Array Value) ++ Array.replicate (n - (⟨vs⟩ : Array Value).size) undef, defers := [] } w (z0 undef) := by
  have hlen := h.length
  refine ⟨?_, rfl, Below.refl _ _, hM, hG, fun i => ?_, fun id => trivial, fun id g h' => absurd rfl h', fun i j g _ h' => absurd rfl h'⟩
  · simp; omega
  · simp only [init]
    cases hi : l[i]? with
    | none => trivial
    | some c =>
      obtain ⟨v, h1, h2⟩ := h.get hi
      have hk : Keeps w M w (mutb M (z0 undef) fun _ => Ob.none) := ⟨Nat.le_refl _, fun _ _ _ => rfl, fun g _ hg => by
        rcases hg with hg | ⟨id, h', _⟩
        · exact hg
        · exact absurd rfl h'⟩
      have hv : ((⟨vs⟩ : Array Value) ++ Array.replicate (n - (⟨vs⟩ : Array Value).size) undef).getD i undef = v := by
        have : i < vs.length := (List.getElem?_eq_some_iff.1 h1).1
        rw [Array.getD_eq_getD_getElem?, Array.getElem?_append_left (by simpa using this)]
        simp [h1]
      show RelC w _ c _
      simp only [hv]
      exact RelC.keep hk c v h2

/-- A function does what its model does. -/
theorem fn_ok (hE : EOk P E) {f : FuncId} {m : Model} (hc : compF P f = some m) {l : List CV} {r : CV} (hl : l.length ≤ m.n) (h : pwp E m.code (fin m.res r) (init l)) : hasBody P f = true ∧ CallsTo P E.G f l (.val r) := by
  unfold compF at hc
  split at hc <;> try (cases hc; done)
  rename_i hb
  refine ⟨hb, ?_⟩
  simp only [Option.bind_eq_some_iff, Option.map_eq_some_iff] at hc
  obtain ⟨fn, hf, b, hbody, c, hcode, rs, hrs, rfl⟩ := hc
  intro w M vs hM hG hL
  refine calls_of_wp hf hbody (wp_mono (code_sound hE b hcode (init_rel hM hG hl hL) h) fun e a' w' hpost => ?_)
  obtain ⟨e', st', z', he, hq, hS⟩ := hpost
  subst he
  have fin_ : resOf st' rs = some r → a'.defers = [] ∧ ∃ v, (results fn a'.tmps).run P w' = .ok v w' ∧ ∃ u, Ending.returned v = .returned u ∧ Below w.heap.size w w' ∧ RelR P w' M w.heap.size u (.val r) := fun hr => by
    obtain ⟨v, h1, h2⟩ := res_run hS hrs hr
    exact ⟨hS.defers, v, h1, v, rfl, hS.below, h2⟩
  cases e' with
  | normal => exact fin_ hq
  | exit i => exact hq.elim
  | ret => exact fin_ hq

/-- An environment that grows, function by function. -/
theorem EOk.add (hE : EOk P E) {f : FuncId} {m : Model} (hc : compF P f = some m) {F : List CV → Option CV} (h : ∀ l r, F l = some r → l.length ≤ m.n ∧ pwp E m.code (fin m.res r) (init l)) :
    EOk P { E with fn := fun g l => if g = f then (F l).map .val else E.fn g l } := by
  intro g l r hr
  simp only at hr
  split at hr
  · rename_i e
    subst e
    simp only [Option.map_eq_some_iff] at hr
    obtain ⟨r, hr, rfl⟩ := hr
    obtain ⟨h1, h2⟩ := h l r hr
    exact fn_ok hE hc h1 h2
  · exact hE g l r hr
end
end WB
