/-
  THE OWN LAYER, TL: code over plain data: what it comes to, as a function.
-/
import Derived.Test.YtpkoilfecgmogaaCoreTk
namespace WB
open Go Go.RowKit

/-! ### Turns of the state alone -/

inductive Gh where
  | own (i id e size : Nat)
  | ownc (b j id e size : Nat)
  | frz (i : Nat)
  | frzc (b j : Nat)

structure GhD (Γ : TC) where
  Γ' : TC
  up : HS Γ → HS Γ'

def ghT (X : TP) (Γ : TC) : Gh → Option (GhD Γ)
  | .own i id e size => match get (killT [id] Γ) (.s i), X.TT e with
    | some ⟨.v .nsl, _⟩, some t => some ⟨(.s i, .own id) :: (.o id, .arr e size t) :: killT [id] Γ, fun ρ => ((), [], killP [id] ρ)⟩
    | _, _ => none
  | .ownc b j id e size => match X.TT e with
    | some t => match get ((.o id, .arr e size t) :: killT [id] Γ) (.o b), get ((.o id, .arr e size t) :: killT [id] Γ) (.c b j) with
      | some ⟨.box n, _⟩, some ⟨.v .nsl, _⟩ => if j < n ∧ b ≠ id then some ⟨(.c b j, .own id) :: (.o id, .arr e size t) :: killT [id] Γ, fun ρ => ((), [], killP [id] ρ)⟩ else none
      | _, _ => none
    | none => none
  | .frz i => match get Γ (.s i) with
    | some ⟨.own id, _⟩ => match get Γ (.o id) with
      | some ⟨.arr _ _ t, xs⟩ => some ⟨(.s i, .v (.sl t)) :: killT [id] Γ, fun ρ => (xs ρ, killP [id] ρ)⟩
      | _ => none
    | some ⟨.mp id, _⟩ => match get Γ (.o id) with
      | some ⟨.mob _ k v, xs⟩ => some ⟨(.s i, .v (.map k v)) :: killT [id] Γ, fun ρ => (xs ρ, killP [id] ρ)⟩
      | _ => none
    | _ => none
  | .frzc b j => match get Γ (.o b), get Γ (.c b j) with
    | some ⟨.box n, _⟩, some ⟨.own id, _⟩ => match get Γ (.o id), get (killT [id] Γ) (.o b) with
      | some ⟨.arr _ _ t, xs⟩, some ⟨.box n', _⟩ => if j < n ∧ j < n' then some ⟨(.c b j, .v (.sl t)) :: killT [id] Γ, fun ρ => (xs ρ, killP [id] ρ)⟩ else none
      | _, _ => none
    | _, _ => none

theorem ghT_ok {X : TP} {Γ : TC} {ρ : HS Γ} {st : St} {g : Gh} {q : GhD Γ} (h : ghT X Γ g = some q) (hr : Rep Γ ρ st) : ∃ st', Seen st st' ∧ Rep q.Γ' (q.up ρ) st' := by
  cases g with
  | own i id e size =>
    simp only [ghT] at h
    split at h <;> try (cases h; done)
    rename_i f t hg ht
    cases h
    have hk := hr.kill [id]
    obtain ⟨c, e1, e2⟩ := hk.s i _ hg
    unfold Can at e2
    cases e2
    refine ⟨_, Seen.trans (Seen.kill st [id]) (Seen.own (i := i) (id := id) (e := e) (size := size) e1 (by simp [WB.kill])), Rep.newObjS hk (k := .own id) (ko := .arr e size t) (x := ()) (y := []) (v := .osl id) ⟨[], rfl, rfl⟩ rfl⟩
  | ownc b j id e size =>
    simp only [ghT] at h
    split at h <;> try (cases h; done)
    rename_i t ht
    split at h <;> try (cases h; done)
    rename_i n fb f hb hg
    split at h <;> try (cases h; done)
    rename_i hh
    cases h
    have hk := hr.kill [id]
    have hk1 := Rep.turnObj hk (id := id) (k := .arr e size t) (y := []) (o := .arr e size []) ⟨[], rfl, rfl⟩
    obtain ⟨cs, e1, e2, e3⟩ := hk1.o b _ hb
    obtain ⟨sv, e4, c, e5, e6⟩ := e3 j _ hh.1 hg
    unfold Can at e6
    cases e6
    subst e5
    have e1' : (WB.kill [id] st).ob b = .box cs := by simpa [upd, hh.2] using e1
    refine ⟨_, Seen.trans (Seen.kill st [id]) (Seen.ownc (b := b) (j := j) (id := id) (e := e) (size := size) e1' e4 (by simp [WB.kill])), cell_turn hk1 hb e2 e3 hh.1 (k := .own id) (x := ()) (sv := .osl id) rfl⟩
  | frz i =>
    simp only [ghT] at h
    split at h <;> try (cases h; done)
    · rename_i id f hg
      split at h <;> try (cases h; done)
      rename_i e size t xs ho
      cases h
      have h1 : st.fr i = .osl id := hr.s i _ hg
      obtain ⟨es, h2, h3⟩ := hr.o id _ ho
      exact ⟨_, Seen.frz h1 h2, Rep.set (hr.kill [id]) (d := i) (k := .v (.sl t)) (x := xs ρ) ⟨_, rfl, by unfold Can; exact ⟨_, _, rfl, h3⟩⟩⟩
    · rename_i id f hg
      split at h <;> try (cases h; done)
      rename_i mt k v xs ho
      cases h
      have h1 : st.fr i = .omap id := hr.s i _ hg
      obtain ⟨z, ks, vs, h2, _, h3, h4⟩ := hr.o id _ ho
      exact ⟨_, Seen.frzm h1 h2, Rep.set (hr.kill [id]) (d := i) (k := .v (.map k v)) (x := xs ρ) ⟨_, rfl, by unfold Can; exact ⟨_, _, _, rfl, h3, h4⟩⟩⟩
  | frzc b j =>
    simp only [ghT] at h
    split at h <;> try (cases h; done)
    rename_i n fb id f hb hg
    split at h <;> try (cases h; done)
    rename_i e size t xs n' fb' ho hb'
    split at h <;> try (cases h; done)
    rename_i hh
    cases h
    obtain ⟨cs, e1, e2, e3⟩ := hr.o b _ hb
    obtain ⟨sv, e4, e5⟩ := e3 j _ hh.1 hg
    have e5' : sv = .osl id := e5
    subst e5'
    obtain ⟨es, h2, h3⟩ := hr.o id _ ho
    have hk := hr.kill [id]
    obtain ⟨cs', k1, k2, k3⟩ := hk.o b _ hb'
    have hne : b ≠ id := fun e => by rw [e, h2] at e1; cases e1
    have hcs : cs' = cs.map (killSV [id]) := by
      have : (WB.kill [id] st).ob b = .box (cs.map (killSV [id])) := by simp [WB.kill, hne, e1, killOb]
      rw [this] at k1
      cases k1; rfl
    subst hcs
    exact ⟨_, Seen.frzc e1 e4 h2, cell_turn hk hb' k2 k3 hh.2 (k := .v (.sl t)) (x := xs ρ) ⟨_, rfl, by unfold Can; exact ⟨_, _, rfl, h3⟩⟩⟩

/-! ### From one context to another -/

def coeK : (k k' : EK) → Option (DK k → DK k')
  | .v t, .v t' => coeT t t'
  | k, k' => if h : k = k' then some fun x => h ▸ x else none
theorem coeK_eq {k k' : EK} {f : DK k → DK k'} (h : (if h : k = k' then some (fun x => h ▸ x : DK k → DK k') else none) = some f) : ∃ e : k = k', ∀ x, f x = e ▸ x := by
  split at h <;> try (cases h; done)
  rename_i e
  subst e
  cases h
  exact ⟨rfl, fun _ => rfl⟩
theorem coeK_ok {k k' : EK} {f : DK k → DK k'} (h : coeK k k' = some f) {x : DK k} {sv : SV} (hs : RS k x sv) : RS k' (f x) sv := by
  unfold coeK at h
  split at h
  · obtain ⟨c, e, hc⟩ := hs
    exact ⟨c, e, coeT_can _ _ h hc⟩
  · obtain ⟨e, hf⟩ := coeK_eq h
    subst e
    rw [hf]; exact hs
theorem coeK_ro {k k' : EK} {f : DK k → DK k'} (h : coeK k k' = some f) {Γ Γ' : TC} {ρ : HS Γ} {ρ' : HS Γ'} {id : Nat} {x : DK k} {ob : Ob} (ho : RO Γ ρ id k x ob)
    (hc : ∀ j q, get Γ' (.c id j) = some q → ∃ p g, get Γ (.c id j) = some p ∧ coeK p.1 q.1 = some g ∧ q.2 ρ' = g (p.2 ρ)) : RO Γ' ρ' id k' (f x) ob := by
  unfold coeK at h
  split at h
  · exact ho.elim
  · obtain ⟨e, hf⟩ := coeK_eq h
    subst e
    rw [hf]
    cases k <;> try exact ho
    obtain ⟨cs, e, hl, hh⟩ := ho
    refine ⟨cs, e, hl, fun j q hj hq => ?_⟩
    obtain ⟨p, g, h1, h2, h3⟩ := hc j q hq
    obtain ⟨sv, h4, h5⟩ := hh j p hj h1
    exact ⟨sv, h4, h3 ▸ coeK_ok h2 h5⟩

def coeC (Γ : TC) : (Γ' : TC) → Option (HS Γ → HS Γ')
  | [] => some fun _ => ()
  | e :: Γ' => match get Γ e.1, coeC Γ Γ' with
    | some q, some f => match coeK q.1 e.2 with
      | some g => some fun ρ => (g (q.2 ρ), f ρ)
      | none => none
    | _, _ => none
theorem coeC_get {Γ : TC} {ρ : HS Γ} : ∀ {Γ' : TC} {f : HS Γ → HS Γ'}, coeC Γ Γ' = some f → ∀ p q, get Γ' p = some q → ∃ r g, get Γ p = some r ∧ coeK r.1 q.1 = some g ∧ q.2 (f ρ) = g (r.2 ρ)
  | [], f, h, p, q, hq => by cases hq
  | e :: Γ', f, h, p, q, hq => by
    simp only [coeC] at h
    split at h <;> try (cases h; done)
    rename_i r f' hr hf'
    split at h <;> try (cases h; done)
    rename_i g hg
    cases h
    obtain ⟨key, k⟩ := e
    by_cases hk : key = p
    · subst hk
      rw [get_eq] at hq
      cases hq
      exact ⟨r, g, hr, hg, rfl⟩
    · obtain ⟨f2, h2, h3⟩ := get_ne hk hq
      obtain ⟨r2, g2, h4, h5, h6⟩ := coeC_get (ρ := ρ) hf' p _ h2
      exact ⟨r2, g2, h4, h5, (h3 _).trans h6⟩
theorem coeC_ok {Γ Γ' : TC} {ρ : HS Γ} {st : St} {f : HS Γ → HS Γ'} (h : coeC Γ Γ' = some f) (hr : Rep Γ ρ st) : Rep Γ' (f ρ) st := by
  refine ⟨fun i q hq => ?_, fun id q hq => ?_⟩
  · obtain ⟨r, g, h1, h2, h3⟩ := coeC_get (ρ := ρ) h _ q hq
    rw [h3]
    exact coeK_ok h2 (hr.s i r h1)
  · obtain ⟨r, g, h1, h2, h3⟩ := coeC_get (ρ := ρ) h _ q hq
    rw [h3]
    exact coeK_ro h2 (hr.o id r h1) fun j q' hq' => coeC_get (ρ := ρ) h _ q' hq'

/-! ### A loop's turns -/

def iterN {S T : Type} (b : S → Option (S ⊕ T)) : Nat → S → Option T
  | 0, _ => none
  | n + 1, s => (b s).bind fun o => match o with
    | .inl s' => iterN b n s'
    | .inr t => some t
open Classical in
/-- What a loop comes to, if it comes to an end. -/
noncomputable def iter {S T : Type} (b : S → Option (S ⊕ T)) (s : S) : Option T :=
  if h : ∃ t n, iterN b n s = some t then some (choose h) else none

theorem iterN_mono {S T : Type} {b : S → Option (S ⊕ T)} : ∀ {n m : Nat} {s : S} {t : T}, n ≤ m → iterN b n s = some t → iterN b m s = some t
  | 0, _, _, _, _, h => by cases h
  | n + 1, 0, _, _, hnm, _ => by omega
  | n + 1, m + 1, s, t, hnm, h => by
    simp only [iterN] at h ⊢
    obtain ⟨o, h1, h2⟩ := Option.bind_eq_some_iff.1 h
    rw [h1, Option.bind_some]
    cases o with
    | inl s' => exact iterN_mono (by omega) h2
    | inr t' => exact h2
theorem iter_some {S T : Type} {b : S → Option (S ⊕ T)} {s : S} {t : T} : iter b s = some t ↔ ∃ n, iterN b n s = some t := by
  unfold iter
  constructor
  · intro h
    split at h <;> try (cases h; done)
    rename_i hh
    cases h
    exact Classical.choose_spec hh
  · rintro ⟨n, h⟩
    have hh : ∃ t n, iterN b n s = some t := ⟨t, n, h⟩
    rw [dif_pos hh]
    obtain ⟨m, hm⟩ := Classical.choose_spec hh
    have h1 := iterN_mono (Nat.le_max_left n m) h
    have h2 := iterN_mono (Nat.le_max_right n m) hm
    rw [h1] at h2
    rw [Option.some.inj h2]
/-- A loop, one turn unrolled. -/
theorem iter_eq {S T : Type} (b : S → Option (S ⊕ T)) (s : S) : iter b s = (b s).bind fun o => match o with
    | .inl s' => iter b s'
    | .inr t => some t := by
  cases hb : b s with
  | none =>
    rw [Option.bind_none]
    cases h : iter b s with
    | none => rfl
    | some t =>
      obtain ⟨n, hn⟩ := iter_some.1 h
      cases n with
      | zero => cases hn
      | succ n => simp [iterN, hb] at hn
  | some o =>
    rw [Option.bind_some]
    cases o with
    | inr t => exact iter_some.2 ⟨1, by simp [iterN, hb]⟩
    | inl s' =>
      simp only
      apply Option.ext
      intro t
      rw [iter_some, iter_some]
      constructor
      · rintro ⟨n, hn⟩
        cases n with
        | zero => cases hn
        | succ n =>
          refine ⟨n, ?_⟩
          simpa [iterN, hb] using hn
      · rintro ⟨n, hn⟩
        exact ⟨n + 1, by simpa [iterN, hb] using hn⟩

/-! ### Ways out -/

abbrev XC := List (Nat × TC)
@[reducible] def KE (A : Type) : XC → Type
  | [] => Unit
  | e :: xs => (HS e.2 → Option A) × KE A xs
structure DKn (A : Type) (xs : XC) (Γn : TC) (R : Type) where
  n : HS Γn → Option A
  e : KE A xs
  r : R → Option A

def findE (A : Type) : (xs : XC) → Nat → Option (Σ Γ : TC, KE A xs → HS Γ → Option A)
  | [], _ => none
  | e :: xs, i => if e.1 = i then some ⟨e.2, fun k => k.1⟩ else match findE A xs i with
    | some q => some ⟨q.1, fun k => q.2 k.2⟩
    | none => none

/-- Some of the ways out. -/
def selX (xs : XC) : List Nat → Option XC
  | [] => some []
  | i :: is => match xs.find? (fun e => e.1 == i), selX xs is with
    | some e, some ys => some ((i, e.2) :: ys)
    | _, _ => none
def selE (A : Type) (xs : XC) : (ys : XC) → Option (KE A xs → KE A ys)
  | [] => some fun _ => ()
  | e :: ys => match findE A xs e.1, selE A xs ys with
    | some q, some g => if h : q.1 = e.2 then some fun k => (h ▸ q.2 k, g k) else none
    | _, _ => none

@[reducible] def OutX (R : Type) : XC → Bool → Type
  | [], true => R
  | [], false => Empty
  | [e], false => HS e.2
  | [e], true => HS e.2 ⊕ R
  | e :: xs, rt => HS e.2 ⊕ OutX R xs rt
def keX {R B : Type} : (xs : XC) → (rt : Bool) → (OutX R xs rt → B) → KE B xs
  | [], _, _ => ()
  | [_], false, f => (fun ρ => some (f ρ), ())
  | [_], true, f => (fun ρ => some (f (.inl ρ)), ())
  | _ :: e :: xs, rt, f => (fun ρ => some (f (.inl ρ)), keX (e :: xs) rt (fun o => f (.inr o)))
def rtX {R B : Type} : (xs : XC) → (rt : Bool) → (OutX R xs rt → B) → R → Option B
  | [], true, f => fun r => some (f r)
  | [], false, _ => fun _ => none
  | [_], false, _ => fun _ => none
  | [_], true, f => fun r => some (f (.inr r))
  | _ :: e :: xs, rt, f => rtX (e :: xs) rt (fun o => f (.inr o))
def elX {R A : Type} : (xs : XC) → (rt : Bool) → KE A xs → (R → Option A) → OutX R xs rt → Option A
  | [], true, _, kr => fun o => kr o
  | [], false, _, _ => fun o => nomatch o
  | [_], false, k, _ => fun o => k.1 o
  | [_], true, k, kr => fun o => match o with
    | .inl ρ => k.1 ρ
    | .inr r => kr r
  | _ :: e :: xs, rt, k, kr => fun o => match o with
    | .inl ρ => k.1 ρ
    | .inr o => elX (e :: xs) rt k.2 kr o
end WB
