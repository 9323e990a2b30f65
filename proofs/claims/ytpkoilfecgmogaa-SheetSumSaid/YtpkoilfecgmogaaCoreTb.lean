/-
  THE OWN LAYER, TB: rows of cells, constants, and typed contexts; what it is for an abstract state to fit one.
-/
import Derived.Test.YtpkoilfecgmogaaCoreTa
namespace WB
open Go Go.RowKit

/-! ### Rows -/

def lenR : Ty → Option Nat
  | .nil => some 0
  | .one _ => some 1
  | .cons _ r => (lenR r).map (· + 1)
  | _ => none
def rowOf : Ty → Ty
  | .agg r => r
  | t => .one t
def rowD : (t : Ty) → D t → D (rowOf t)
  | .int _, x | .bool, x | .str, x | .err, x | .clo _ _, x | .nsl, x | .nmap, x | .agg _, x | .tup _, x | .sl _, x | .map _ _, x | .nil, x | .one _, x | .cons _ _, x => x
def unrowD : (t : Ty) → D (rowOf t) → D t
  | .int _, x | .bool, x | .str, x | .err, x | .clo _ _, x | .nsl, x | .nmap, x | .agg _, x | .tup _, x | .sl _, x | .map _ _, x | .nil, x | .one _, x | .cons _ _, x => x

def dropR : (r : Ty) → Nat → Option (Σ q : Ty, D r → D q)
  | r, 0 => some ⟨r, fun x => x⟩
  | .one _, 1 => some ⟨.nil, fun _ => ()⟩
  | .cons _ r, n + 1 => match dropR r n with
    | some q => some ⟨q.1, fun x => q.2 x.2⟩
    | none => none
  | _, _ => none
def takeR : (r : Ty) → Nat → Option (Σ q : Ty, D r → D q)
  | .one t, 1 => some ⟨.one t, fun x => x⟩
  | .cons t _, 1 => some ⟨.one t, fun x => x.1⟩
  | .cons t r, n + 2 => match takeR r (n + 1) with
    | some q => some ⟨.cons t q.1, fun x => (x.1, q.2 x.2)⟩
    | none => none
  | _, 0 => some ⟨.nil, fun _ => ()⟩
  | _, _ => none
def nthR : (r : Ty) → Nat → Option (Σ t : Ty, D r → D t)
  | .one t, 0 => some ⟨t, fun x => x⟩
  | .cons t _, 0 => some ⟨t, fun x => x.1⟩
  | .cons _ r, n + 1 => match nthR r n with
    | some q => some ⟨q.1, fun x => q.2 x.2⟩
    | none => none
  | _, _ => none
/-- Some cells of a row. -/
def subR (r : Ty) (off n : Nat) : Option (Σ q : Ty, D r → D q) :=
  match dropR r off with
  | some p => match takeR p.1 n with
    | some q => some ⟨q.1, fun x => q.2 (p.2 x)⟩
    | none => none
  | none => none
/-- A row with one cell set. -/
def setR : (r : Ty) → Nat → (t : Ty) → Option (Σ q : Ty, D r → D t → D q)
  | .one _, 0, t => some ⟨.one t, fun _ y => y⟩
  | .cons _ r, 0, t => some ⟨.cons t r, fun x y => (y, x.2)⟩
  | .cons u r, n + 1, t => match setR r n t with
    | some q => some ⟨.cons u q.1, fun x y => (x.1, q.2 x.2 y)⟩
    | none => none
  | _, _, _ => none
/-- A row with some cells set. -/
def putR : (p : Ty) → (r : Ty) → Nat → Option (Σ q : Ty, D r → D p → D q)
  | .one t, r, off => setR r off t
  | .cons t p, r, off => match setR r off t with
    | some q => match putR p q.1 (off + 1) with
      | some q' => some ⟨q'.1, fun x y => q'.2 (q.2 x y.1) y.2⟩
      | none => none
    | none => none
  | _, _, _ => none

theorem lenR_can : ∀ {r : Ty} {n : Nat} {x : D r} {l : List CV}, lenR r = some n → Can r x l → l.length = n
  | .nil, _, _, _, hn, h => by unfold Can at h; subst h; simpa [lenR] using hn
  | .one t, _, _, _, hn, h => by unfold Can at h; obtain ⟨c, rfl, _⟩ := h; simpa [lenR] using hn
  | .cons t r, n, x, l, hn, h => by
    unfold Can at h
    obtain ⟨c, l', rfl, _, h⟩ := h
    simp only [lenR, Option.map_eq_some_iff] at hn
    obtain ⟨m, hm, rfl⟩ := hn
    simp [lenR_can hm h]

theorem dropR_can : ∀ {r : Ty} {n : Nat} {q : Σ q : Ty, D r → D q} {x : D r} {l : List CV}, dropR r n = some q → Can r x l → Can q.1 (q.2 x) (l.drop n) ∧ (n = 0 ∨ n ≤ l.length) := by
  intro r n
  induction n generalizing r with
  | zero =>
    intro q x l h hc
    have e : dropR r 0 = some ⟨r, fun x => x⟩ := by cases r <;> rfl
    rw [e] at h; cases h
    exact ⟨hc, .inl rfl⟩
  | succ n ih =>
    intro q x l h hc
    cases r <;> try (simp [dropR] at h; done)
    · rename_i t
      cases n with
      | zero =>
        change (some (⟨.nil, fun _ => ()⟩ : Σ q : Ty, D (.one t) → D q)) = some q at h
        cases h
        unfold Can at hc
        obtain ⟨c, rfl, _⟩ := hc
        exact ⟨by simp [Can], .inr (by simp)⟩
      | succ n => simp [dropR] at h
    · rename_i t r
      unfold Can at hc
      obtain ⟨c, l', rfl, _, hc⟩ := hc
      simp only [dropR] at h
      split at h <;> try (cases h; done)
      rename_i p hp
      cases h
      obtain ⟨h1, h2⟩ := ih hp hc
      exact ⟨by simpa using h1, .inr (by simp; omega)⟩

theorem takeR_can : ∀ {n : Nat} {r : Ty} {q : Σ q : Ty, D r → D q} {x : D r} {l : List CV}, takeR r n = some q → Can r x l → Can q.1 (q.2 x) (l.take n) ∧ n ≤ l.length := by
  intro n
  induction n with
  | zero =>
    intro r q x l h hc
    have e : takeR r 0 = some ⟨.nil, fun _ => ()⟩ := by cases r <;> rfl
    rw [e] at h; cases h
    exact ⟨by simp [Can], by omega⟩
  | succ n ih =>
    intro r q x l h hc
    cases r <;> try (simp [takeR] at h; done)
    · rename_i t
      cases n with
      | zero =>
        change (some (⟨.one t, fun x => x⟩ : Σ q : Ty, D (.one t) → D q)) = some q at h
        cases h
        have hc' := hc
        unfold Can at hc'
        obtain ⟨c, rfl, _⟩ := hc'
        exact ⟨hc, by simp⟩
      | succ n => simp [takeR] at h
    · rename_i t r
      unfold Can at hc
      obtain ⟨c, l', rfl, h1, hc⟩ := hc
      cases n with
      | zero =>
        change (some (⟨.one t, fun x => x.1⟩ : Σ q : Ty, D (.cons t r) → D q)) = some q at h
        cases h
        refine ⟨?_, by simp⟩
        simp only [List.take_succ_cons, List.take_zero]
        unfold Can
        exact ⟨c, rfl, h1⟩
      | succ n =>
        simp only [takeR] at h
        split at h <;> try (cases h; done)
        rename_i p hp
        cases h
        obtain ⟨h3, h4⟩ := ih hp hc
        refine ⟨?_, by simp; omega⟩
        simp only [List.take_succ_cons]
        unfold Can
        exact ⟨c, _, rfl, h1, h3⟩

theorem subR_can {r : Ty} {off n : Nat} {q : Σ q : Ty, D r → D q} {x : D r} {l : List CV} (h : subR r off n = some q) (hc : Can r x l) : Can q.1 (q.2 x) ((l.drop off).take n) ∧ (n ≤ l.length - off) := by
  unfold subR at h
  split at h <;> try (cases h; done)
  rename_i p hp
  split at h <;> try (cases h; done)
  rename_i q' hq
  cases h
  obtain ⟨h1, h2⟩ := takeR_can hq (dropR_can hp hc).1
  exact ⟨h1, by simpa using h2⟩

theorem nthR_can : ∀ {r : Ty} {n : Nat} {q : Σ q : Ty, D r → D q} {x : D r} {l : List CV}, nthR r n = some q → Can r x l → ∃ c, l[n]? = some c ∧ Can q.1 (q.2 x) [c] := by
  intro r n
  induction n generalizing r with
  | zero =>
    intro q x l h hc
    cases r <;> try (simp [nthR] at h; done)
    · simp only [nthR, Option.some.injEq] at h
      subst h
      unfold Can at hc
      obtain ⟨c, rfl, h1⟩ := hc
      exact ⟨c, rfl, h1⟩
    · simp only [nthR, Option.some.injEq] at h
      subst h
      unfold Can at hc
      obtain ⟨c, l', rfl, h1, hc⟩ := hc
      exact ⟨c, rfl, h1⟩
  | succ n ih =>
    intro q x l h hc
    cases r <;> try (simp [nthR] at h; done)
    rename_i t r
    unfold Can at hc
    obtain ⟨c, l', rfl, h1, hc⟩ := hc
    simp only [nthR] at h
    split at h <;> try (cases h; done)
    rename_i p hp
    cases h
    simpa using ih hp hc

theorem setR_can : ∀ {n : Nat} {r t : Ty} {q : Σ q : Ty, D r → D t → D q} {x : D r} {y : D t} {l : List CV} {c : CV}, setR r n t = some q → Can r x l → Can t y [c] → Can q.1 (q.2 x y) (l.set n c) ∧ n < l.length := by
  intro n
  induction n with
  | zero =>
    intro r t q x y l c h hc hy
    cases r <;> try (simp [setR] at h; done)
    · simp only [setR, Option.some.injEq] at h
      subst h
      unfold Can at hc
      obtain ⟨d, rfl, h1⟩ := hc
      refine ⟨?_, by simp⟩
      simp only [List.set_cons_zero]
      unfold Can
      exact ⟨c, rfl, hy⟩
    · simp only [setR, Option.some.injEq] at h
      subst h
      unfold Can at hc
      obtain ⟨d, l', rfl, h1, hc⟩ := hc
      refine ⟨?_, by simp⟩
      simp only [List.set_cons_zero]
      unfold Can
      exact ⟨c, _, rfl, hy, hc⟩
  | succ n ih =>
    intro r t q x y l c h hc hy
    cases r <;> try (simp [setR] at h; done)
    rename_i u r
    unfold Can at hc
    obtain ⟨d, l', rfl, h1, hc⟩ := hc
    simp only [setR] at h
    split at h <;> try (cases h; done)
    rename_i p hp
    cases h
    obtain ⟨h2, h3⟩ := ih hp hc hy
    refine ⟨?_, by simp; omega⟩
    simp only [List.set_cons_succ]
    unfold Can
    exact ⟨d, _, rfl, h1, h2⟩

theorem putR_can : ∀ {p r : Ty} {off : Nat} {q : Σ q : Ty, D r → D p → D q} {x : D r} {y : D p} {l cs : List CV}, putR p r off = some q → Can r x l → Can p y cs → Can q.1 (q.2 x y) (l.take off ++ cs ++ l.drop (off + cs.length)) ∧ off + cs.length ≤ l.length := by
  intro p
  induction p with
  | one t iht =>
    intro r off q x y l cs h hc hy
    have h' : setR r off t = some q := h
    unfold Can at hy
    obtain ⟨c, rfl, hy⟩ := hy
    obtain ⟨h1, h2⟩ := setR_can h' hc hy
    refine ⟨?_, by simp; omega⟩
    rw [List.set_eq_take_append_cons_drop, if_pos h2] at h1
    simpa using h1
  | cons t p iht ihp =>
    intro r off q x y l cs h hc hy
    unfold Can at hy
    obtain ⟨c, cs', rfl, hy1, hy2⟩ := hy
    have h' := h
    unfold putR at h'
    split at h' <;> try (cases h'; done)
    rename_i q1 hq1
    split at h' <;> try (cases h'; done)
    rename_i q2 hq2
    cases h'
    obtain ⟨h1, h2⟩ := setR_can hq1 hc hy1
    obtain ⟨h3, h4⟩ := ihp hq2 h1 hy2
    simp only [List.length_set] at h4
    refine ⟨?_, by simp; omega⟩
    have e1 : (l.set off c).take (off + 1) = l.take off ++ [c] := by
      rw [List.set_eq_take_append_cons_drop, if_pos h2]
      rw [List.take_append, List.take_of_length_le (by simp; omega)]
      have : off + 1 - (l.take off).length = 1 := by simp; omega
      rw [this]
      simp
    have e2 : (l.set off c).drop (off + 1 + cs'.length) = l.drop (off + (cs'.length + 1)) := by
      rw [List.drop_set_of_lt (by omega)]
      congr 1
      omega
    rw [e1, e2] at h3
    simpa using h3
  | _ => intro r off q x y l cs h; cases h

theorem rowOf_can {t : Ty} {x : D t} {c : CV} (hv : t.val = true) (h : Can t x [c]) : Can (rowOf t) (rowD t x) c.cells := by
  cases t <;> (try (simp [Ty.val] at hv; done))
  case agg =>
    unfold Can at h
    obtain ⟨l, e, h⟩ := h
    cases e
    exact h
  all_goals (simp only [rowOf, rowD]; have h' := h; unfold Can at h')
  case clo => obtain ⟨l, e, _⟩ := h'; cases e; unfold Can; exact ⟨_, rfl, h⟩
  case tup => obtain ⟨l, e, _⟩ := h'; cases e; unfold Can; exact ⟨_, rfl, h⟩
  case sl => obtain ⟨_, _, e, _⟩ := h'; cases e; unfold Can; exact ⟨_, rfl, h⟩
  case map => obtain ⟨_, _, _, e, _⟩ := h'; cases e; unfold Can; exact ⟨_, rfl, h⟩
  case err => cases h'; unfold Can; cases x <;> exact ⟨_, rfl, h⟩
  all_goals (cases h'; unfold Can; exact ⟨_, rfl, h⟩)

/-! ### Constants and wider types -/

mutual
def constT : CV → Option (Σ t : Ty, D t)
  | .int k n => some ⟨.int k, n⟩
  | .bool b => some ⟨.bool, b⟩
  | .str s => some ⟨.str, s⟩
  | .nilif => some ⟨.err, true⟩
  | .sl (some true) [] => some ⟨.nsl, ()⟩
  | .map (some true) [] [] => some ⟨.nmap, ()⟩
  | .agg cs => match constR cs with
    | some q => some ⟨.agg q.1, q.2⟩
    | none => none
  | _ => none
def constR : List CV → Option (Σ t : Ty, D t)
  | [] => some ⟨.nil, ()⟩
  | [c] => match constT c with
    | some q => some ⟨.one q.1, q.2⟩
    | none => none
  | c :: d :: cs => match constT c, constR (d :: cs) with
    | some q, some p => some ⟨.cons q.1 p.1, (q.2, p.2)⟩
    | _, _ => none
end
mutual
theorem constT_can : ∀ {c : CV} {q : Σ t : Ty, D t}, constT c = some q → Can q.1 q.2 [c]
  | .int k n, q, h => by simp only [constT, Option.some.injEq] at h; subst h; unfold Can; rfl
  | .bool b, q, h => by simp only [constT, Option.some.injEq] at h; subst h; unfold Can; rfl
  | .str s, q, h => by simp only [constT, Option.some.injEq] at h; subst h; unfold Can; rfl
  | .nilif, q, h => by simp only [constT, Option.some.injEq] at h; subst h; unfold Can; rfl
  | .sl nl es, q, h => by
    match nl, es, h with
    | some true, [], h => simp only [constT, Option.some.injEq] at h; subst h; unfold Can; rfl
    | none, _, h => simp [constT] at h
    | some false, _, h => simp [constT] at h
    | some true, _ :: _, h => simp [constT] at h
  | .map nl ks vs, q, h => by
    match nl, ks, vs, h with
    | some true, [], [], h => simp only [constT, Option.some.injEq] at h; subst h; unfold Can; rfl
    | none, _, _, h => simp [constT] at h
    | some false, _, _, h => simp [constT] at h
    | some true, _ :: _, _, h => simp [constT] at h
    | some true, [], _ :: _, h => simp [constT] at h
  | .agg cs, q, h => by
    simp only [constT] at h
    split at h <;> try (cases h; done)
    rename_i p hp
    cases h
    unfold Can
    exact ⟨cs, rfl, constR_can hp⟩
  | .rp _, q, h => by simp [constT] at h
  | .fn _ _, q, h => by simp [constT] at h
  | .tup _, q, h => by simp [constT] at h
  | .ifc, q, h => by simp [constT] at h
theorem constR_can : ∀ {cs : List CV} {q : Σ t : Ty, D t}, constR cs = some q → Can q.1 q.2 cs
  | [], q, h => by simp only [constR, Option.some.injEq] at h; subst h; unfold Can; rfl
  | [c], q, h => by
    simp only [constR] at h
    split at h <;> try (cases h; done)
    rename_i p hp
    cases h
    unfold Can
    exact ⟨c, rfl, constT_can hp⟩
  | c :: d :: cs, q, h => by
    simp only [constR] at h
    split at h <;> try (cases h; done)
    rename_i p p' hp hp'
    cases h
    unfold Can
    exact ⟨c, _, rfl, constT_can hp, constR_can hp'⟩
end

/-- A type's value as one of a wider type. -/
def coeT : (t u : Ty) → Option (D t → D u)
  | .nsl, .sl _ => some fun _ => []
  | .nmap, .map _ _ => some fun _ => []
  | .agg r, .agg r' => coeT r r'
  | .tup r, .tup r' => coeT r r'
  | .one t, .one t' => coeT t t'
  | .cons t r, .cons t' r' => match coeT t t', coeT r r' with
    | some f, some g => some fun x => (f x.1, g x.2)
    | _, _ => none
  | t, u => if h : t = u then some fun x => h ▸ x else none

theorem coeT_eq {t u : Ty} {f : D t → D u} (h : (if h : t = u then some (fun x => h ▸ x : D t → D u) else none) = some f) {x : D t} {cs : List CV} (hc : Can t x cs) : Can u (f x) cs := by
  split at h <;> try (cases h; done)
  rename_i e
  subst e
  cases h
  exact hc

theorem coeT_can : ∀ (t u : Ty) {f : D t → D u} {x : D t} {cs : List CV}, coeT t u = some f → Can t x cs → Can u (f x) cs := by
  intro t
  induction t with
  | nsl =>
    intro u f x cs h hc
    cases u with
    | sl e =>
      simp only [coeT, Option.some.injEq] at h
      subst h
      unfold Can at hc ⊢
      exact ⟨_, _, hc, rfl⟩
    | _ => exact coeT_eq h hc
  | nmap =>
    intro u f x cs h hc
    cases u with
    | map k v =>
      simp only [coeT, Option.some.injEq] at h
      subst h
      unfold Can at hc ⊢
      exact ⟨_, _, _, hc, rfl, rfl⟩
    | _ => exact coeT_eq h hc
  | agg r ih =>
    intro u f x cs h hc
    cases u with
    | agg r' =>
      unfold Can at hc ⊢
      obtain ⟨l, e, hc⟩ := hc
      exact ⟨l, e, ih r' h hc⟩
    | _ => exact coeT_eq h hc
  | tup r ih =>
    intro u f x cs h hc
    cases u with
    | tup r' =>
      unfold Can at hc ⊢
      obtain ⟨l, e, hc⟩ := hc
      exact ⟨l, e, ih r' h hc⟩
    | _ => exact coeT_eq h hc
  | one t ih =>
    intro u f x cs h hc
    cases u with
    | one t' =>
      unfold Can at hc ⊢
      obtain ⟨c, e, hc⟩ := hc
      exact ⟨c, e, ih t' h hc⟩
    | _ => exact coeT_eq h hc
  | cons t r iht ihr =>
    intro u f x cs h hc
    cases u with
    | cons t' r' =>
      simp only [coeT] at h
      split at h <;> try (cases h; done)
      rename_i f1 g1 hf hg
      cases h
      unfold Can at hc ⊢
      obtain ⟨c, l, e, h1, h2⟩ := hc
      exact ⟨c, l, e, iht t' hf h1, ihr r' hg h2⟩
    | _ => exact coeT_eq h hc
  | _ => intro u f x cs h hc; exact coeT_eq (by cases u <;> exact h) hc

/-! ### Reckonings, whole or in part -/

inductive Dyn (A B : Type) where
  | tot (f : A → B)
  | par (f : A → Option B)
def Dyn.val {A B : Type} : Dyn A B → A → Option B
  | .tot f, a => some (f a)
  | .par f, a => f a
def Dyn.app {A B R : Type} (d : Dyn A B) (a : A) (K : B → Option R) : Option R :=
  match d with
  | .tot f => K (f a)
  | .par f => (f a).bind K
def Dyn.map {A B C : Type} (g : A → B → C) : Dyn A B → Dyn A C
  | .tot f => .tot fun a => g a (f a)
  | .par f => .par fun a => (f a).map (g a)
def Dyn.both {A B C : Type} : Dyn A B → Dyn A C → Dyn A (B × C)
  | .tot f, .tot g => .tot fun a => (f a, g a)
  | d, e => .par fun a => (d.val a).bind fun b => (e.val a).map fun c => (b, c)
def Dyn.comp {A B C : Type} : Dyn A B → Dyn B C → Dyn A C
  | .tot f, .tot g => .tot fun a => g (f a)
  | .tot f, .par g => .par fun a => g (f a)
  | .par f, .tot g => .par fun a => (f a).map g
  | .par f, .par g => .par fun a => (f a).bind g

section
variable {A B C R : Type}
theorem Dyn.app_some {d : Dyn A B} {a : A} {K : B → Option R} {r : R} (h : d.app a K = some r) : ∃ b, d.val a = some b ∧ K b = some r := by
  cases d with
  | tot f => exact ⟨_, rfl, h⟩
  | par f => exact Option.bind_eq_some_iff.1 h
theorem Dyn.map_val {g : A → B → C} {d : Dyn A B} {a : A} {c : C} (h : (d.map g).val a = some c) : ∃ b, d.val a = some b ∧ c = g a b := by
  cases d with
  | tot f => cases h; exact ⟨_, rfl, rfl⟩
  | par f =>
    obtain ⟨b, h1, h2⟩ := Option.map_eq_some_iff.1 h
    exact ⟨b, h1, h2.symm⟩
theorem Dyn.both_val {d : Dyn A B} {e : Dyn A C} {a : A} {p : B × C} (h : (d.both e).val a = some p) : d.val a = some p.1 ∧ e.val a = some p.2 := by
  have key : ∀ {x : Option B} {y : Option C}, (x.bind fun b => y.map fun c => (b, c)) = some p → x = some p.1 ∧ y = some p.2 := by
    intro x y h
    obtain ⟨b, h1, h2⟩ := Option.bind_eq_some_iff.1 h
    obtain ⟨c, h3, h4⟩ := Option.map_eq_some_iff.1 h2
    subst h4
    exact ⟨h1, h3⟩
  cases d <;> cases e
  · cases h; exact ⟨rfl, rfl⟩
  all_goals exact key h
theorem Dyn.comp_val {d : Dyn A B} {e : Dyn B C} {a : A} {c : C} (h : (d.comp e).val a = some c) : ∃ b, d.val a = some b ∧ e.val b = some c := by
  cases d <;> cases e
  · exact ⟨_, rfl, h⟩
  · exact ⟨_, rfl, h⟩
  · obtain ⟨b, h1, h2⟩ := Option.map_eq_some_iff.1 h
    exact ⟨b, h1, by rw [← h2]; rfl⟩
  · exact Option.bind_eq_some_iff.1 h
end

/-! ### Contexts -/

inductive EK where
  | v (t : Ty)
  | opt (k : EK)
  | rp (ex : Bool) (r : Ty)
  | ptr (id off : Nat)
  | eptr (id size off : Nat)
  | own (id : Nat)
  | mp (id : Nat)
  | iter (id : Nat)
  | ent (id : Nat) (k v : Ty)
  | stamp (id : Nat) (k : Ty)
  | undef
  | box (n : Nat)
  | arr (e size : Nat) (t : Ty)
  | mob (mt : Nat) (k v : Ty)
  | sit
  | gone
  deriving DecidableEq
@[reducible] def DK : EK → Type
  | .v t => D t
  | .opt k => Option (DK k)
  | .rp _ r => D r
  | .eptr _ _ _ => Nat
  | .ent _ k v => D k × D v
  | .stamp _ k => D k
  | .arr _ _ t => List (D t)
  | .mob _ k v => List (D k × D v)
  | .sit => List UInt8 × Nat
  | _ => Unit

inductive Key where
  | s (i : Nat)
  | o (id : Nat)
  | c (id j : Nat)
  deriving DecidableEq

abbrev TC := List (Key × EK)
@[reducible] def HS : TC → Type
  | [] => Unit
  | e :: Γ => DK e.2 × HS Γ

def get : (Γ : TC) → Key → Option (Σ k : EK, HS Γ → DK k)
  | [], _ => none
  | e :: Γ, p => if e.1 = p then some ⟨e.2, fun ρ => ρ.1⟩ else match get Γ p with
    | some q => some ⟨q.1, fun ρ => q.2 ρ.2⟩
    | none => none

theorem get_eq (Γ : TC) (p : Key) (k : EK) : get ((p, k) :: Γ) p = some ⟨k, fun ρ => ρ.1⟩ := by simp [get]
theorem get_ne {Γ : TC} {q p : Key} {k : EK} (h : q ≠ p) {r : Σ k' : EK, HS ((q, k) :: Γ) → DK k'} (hg : get ((q, k) :: Γ) p = some r) : ∃ f, get Γ p = some ⟨r.1, f⟩ ∧ ∀ ρ, r.2 ρ = f ρ.2 := by
  unfold get at hg
  rw [if_neg h] at hg
  split at hg <;> try (cases hg; done)
  rename_i t ht
  cases hg
  exact ⟨t.2, ht, fun _ => rfl⟩

def ktT1 : Ty → KT
  | .int k => .int k
  | .str => .str
  | .bool => .bool
  | _ => .struct []
def ktRow : Ty → List KT
  | .one t => [ktT1 t]
  | .cons t r => ktT1 t :: ktRow r
  | _ => []
def ktT : Ty → KT
  | .agg r => .struct (ktRow r)
  | t => ktT1 t

/-- The zero of a type. -/
def zeroT : (t : Ty) → D t
  | .int _ => 0
  | .bool => false
  | .str => []
  | .err => true
  | .clo _ r => zeroT r
  | .nsl => ()
  | .nmap => ()
  | .agg r => zeroT r
  | .tup r => zeroT r
  | .sl _ => []
  | .map _ _ => []
  | .nil => ()
  | .one t => zeroT t
  | .cons t r => (zeroT t, zeroT r)

/-- What a slot or a cell holds. -/
def RS : (k : EK) → DK k → SV → Prop
  | .v t, x, sv => ∃ c, sv = .c c ∧ Can t x [c]
  | .opt k, x, sv => match x with
    | none => sv = skipped
    | some y => RS k y sv
  | .rp ex r, x, sv => ∃ cs rest, sv = .c (.rp (cs ++ rest)) ∧ Can r x cs ∧ (ex = true → rest = [])
  | .ptr id o, _, sv => sv = .ptr id o
  | .eptr id s o, i, sv => sv = .eptr id i s o
  | .own id, _, sv => sv = .osl id
  | .mp id, _, sv => sv = .omap id
  | .iter id, _, sv => sv = .iter id
  | .ent id k v, x, sv => ∃ ck cv, sv = .ent id ck cv ∧ Can k x.1 [ck] ∧ Can v x.2 [cv]
  | .stamp id k, x, sv => ∃ ck, sv = .stamp id ck ∧ Can k x [ck]
  | .undef, _, _ => True
  | _, _, _ => False

/-- What an object is. -/
def RO (Γ : TC) (ρ : HS Γ) (id : Nat) : (k : EK) → DK k → Ob → Prop
  | .box n, _, ob => ∃ cs, ob = .box cs ∧ cs.length = n ∧ ∀ j q, j < n → get Γ (.c id j) = some q → ∃ sv, cs[j]? = some sv ∧ RS q.1 (q.2 ρ) sv
  | .arr e size t, xs, ob => ∃ es, ob = .arr e size es ∧ CanAll (fun x c => Can t x [c]) xs es
  | .mob mt k v, m, ob => ∃ z ks vs, ob = .map mt (ktT k) z ks vs ∧ Can v (zeroT v) [z] ∧ CanAll (fun x c => Can k x.1 [c]) m ks ∧ CanAll (fun x c => Can v x.2 [c]) m vs
  | .sit, x, ob => ob = .siter x.1 x.2
  | .gone, _, ob => ob = .none
  | .undef, _, _ => True
  | _, _, _ => False

structure Rep (Γ : TC) (ρ : HS Γ) (st : St) : Prop where
  s : ∀ i q, get Γ (.s i) = some q → RS q.1 (q.2 ρ) (st.fr i)
  o : ∀ id q, get Γ (.o id) = some q → RO Γ ρ id q.1 (q.2 ρ) (st.ob id)

theorem RO.congr {Γ Γ' : TC} {ρ : HS Γ} {ρ' : HS Γ'} {id : Nat} {k : EK} {x : DK k} {ob : Ob} (h : RO Γ ρ id k x ob) (hc : ∀ j q, get Γ' (.c id j) = some q → ∃ f, get Γ (.c id j) = some ⟨q.1, f⟩ ∧ q.2 ρ' = f ρ) : RO Γ' ρ' id k x ob := by
  cases k <;> try exact h
  unfold RO at h ⊢
  obtain ⟨cs, e, hl, hh⟩ := h
  refine ⟨cs, e, hl, fun j q hj hq => ?_⟩
  obtain ⟨f, hf, hx⟩ := hc j q hq
  obtain ⟨sv, h1, h2⟩ := hh j _ hj hf
  exact ⟨sv, h1, hx ▸ h2⟩

/-- A slot is set. -/
theorem Rep.set {Γ : TC} {ρ : HS Γ} {st : St} (h : Rep Γ ρ st) {d : Nat} {k : EK} {x : DK k} {sv : SV} (hs : RS k x sv) : Rep ((.s d, k) :: Γ) (x, ρ) (st.set (some d) (sv)) := by
  refine ⟨fun i q hq => ?_, fun id q hq => ?_⟩
  · by_cases hi : d = i
    · subst hi
      rw [get_eq] at hq
      cases hq
      simpa [St.set, upd] using hs
    · obtain ⟨f, hf, hx⟩ := get_ne (by simpa using hi) hq
      have := h.s i _ hf
      rw [hx]
      simpa [St.set, upd, Ne.symm hi] using this
  · obtain ⟨f, hf, hx⟩ := get_ne (by simp) hq
    have := h.o id _ hf
    rw [hx]
    refine RO.congr this fun j q' hq' => ?_
    obtain ⟨f', hf', hx'⟩ := get_ne (by simp) hq'
    exact ⟨f', hf', hx' _⟩
end WB
