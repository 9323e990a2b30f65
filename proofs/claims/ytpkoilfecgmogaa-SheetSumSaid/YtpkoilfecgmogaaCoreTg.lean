/-
  THE OWN LAYER, TG: typed contexts as objects come, turn and go.
-/
import Derived.Test.YtpkoilfecgmogaaCoreTf
namespace WB
open Go Go.RowKit

def EK.refs : EK → Option Nat
  | .ptr id _ | .eptr id _ _ | .own id | .mp id | .iter id | .ent id _ _ | .stamp id _ => some id
  | .opt k => k.refs
  | _ => none

def kindOf : TC → Key → Option EK
  | [], _ => none
  | e :: Γ, p => if e.1 = p then some e.2 else kindOf Γ p
theorem kindOf_get : ∀ {Γ : TC} {p : Key} {q : Σ k : EK, HS Γ → DK k}, get Γ p = some q → kindOf Γ p = some q.1
  | [], p, q, h => by cases h
  | e :: Γ, p, q, h => by
    unfold get at h
    unfold kindOf
    split at h
    · rename_i he
      cases h
      rw [if_pos he]
    · rename_i he
      rw [if_neg he]
      split at h <;> try (cases h; done)
      rename_i t ht
      cases h
      exact kindOf_get ht

def deadKeys (Γ : TC) (ids : List Nat) : List Key := (Γ.map (·.1)).filter fun p => match kindOf Γ p with
  | some k => match k.refs with
    | some id => ids.contains id
    | none => false
  | none => false
def shT : List Key → TC → TC
  | [], Γ => Γ
  | k :: ks, Γ => (k, .undef) :: shT ks Γ
def shP {Γ : TC} : (ks : List Key) → HS Γ → HS (shT ks Γ)
  | [], ρ => ρ
  | _ :: ks, ρ => ((), shP ks ρ)
def goT : List Nat → TC → TC
  | [], Γ => Γ
  | d :: ds, Γ => (.o d, .gone) :: goT ds Γ
def goP {Γ : TC} : (ds : List Nat) → HS Γ → HS (goT ds Γ)
  | [], ρ => ρ
  | _ :: ds, ρ => ((), goP ds ρ)
def killT (ids : List Nat) (Γ : TC) : TC := goT ids (shT (deadKeys Γ ids) Γ)
def killP (ids : List Nat) {Γ : TC} (ρ : HS Γ) : HS (killT ids Γ) := goP ids (shP (deadKeys Γ ids) ρ)

section
variable {Γ : TC} {ρ : HS Γ} {st : St}

theorem get_sh (ρ : HS Γ) : ∀ {ks : List Key} {p : Key} {q : Σ k : EK, HS (shT ks Γ) → DK k}, get (shT ks Γ) p = some q → (p ∈ ks ∧ q.1 = .undef) ∨ (p ∉ ks ∧ ∃ f, get Γ p = some ⟨q.1, f⟩ ∧ q.2 (shP ks ρ) = f ρ)
  | [], p, q, h => .inr ⟨by simp, q.2, h, rfl⟩
  | k :: ks, p, q, h => by
    by_cases hk : k = p
    · subst hk
      change get ((k, .undef) :: shT ks Γ) k = some q at h
      rw [get_eq] at h
      cases h
      exact .inl ⟨by simp, rfl⟩
    · obtain ⟨f, hf, hx⟩ := get_ne hk h
      rcases get_sh ρ hf with ⟨h1, h2⟩ | ⟨h1, g, h2, h3⟩
      · exact .inl ⟨by simp [h1], h2⟩
      · refine .inr ⟨by simp [h1, Ne.symm hk], g, h2, ?_⟩
        exact (hx _).trans h3
theorem get_go (ρ : HS Γ) : ∀ {ds : List Nat} {p : Key} {q : Σ k : EK, HS (goT ds Γ) → DK k}, get (goT ds Γ) p = some q → (∃ d ∈ ds, p = .o d ∧ q.1 = .gone) ∨ ((∀ d ∈ ds, p ≠ .o d) ∧ ∃ f, get Γ p = some ⟨q.1, f⟩ ∧ q.2 (goP ds ρ) = f ρ)
  | [], p, q, h => .inr ⟨by simp, q.2, h, rfl⟩
  | d :: ds, p, q, h => by
    by_cases hk : Key.o d = p
    · subst hk
      change get ((.o d, .gone) :: goT ds Γ) (.o d) = some q at h
      rw [get_eq] at h
      cases h
      exact .inl ⟨d, by simp, rfl, rfl⟩
    · obtain ⟨f, hf, hx⟩ := get_ne hk h
      rcases get_go ρ hf with ⟨d', h0, h1, h2⟩ | ⟨h1, g, h2, h3⟩
      · exact .inl ⟨d', by simp [h0], h1, h2⟩
      · refine .inr ⟨fun d' hd' => ?_, g, h2, ?_⟩
        · simp only [List.mem_cons] at hd'
          rcases hd' with rfl | hd'
          · exact Ne.symm hk
          · exact h1 d' hd'
        · exact (hx _).trans h3

theorem get_mem : ∀ {Γ : TC} {p : Key} {k : EK}, kindOf Γ p = some k → p ∈ Γ.map (·.1)
  | [], p, k, h => by cases h
  | e :: Γ, p, k, h => by
    unfold kindOf at h
    split at h
    · rename_i he; simp [← he]
    · simp only [List.map_cons, List.mem_cons]; exact .inr (get_mem h)

theorem RS.kill {ids : List Nat} {k : EK} {x : DK k} {sv : SV} (h : RS k x sv) (hn : ∀ id, k.refs = some id → ids.contains id = false) : RS k x (killSV ids sv) := by
  induction k
  case v t => obtain ⟨c, rfl, hc⟩ := h; exact ⟨c, rfl, hc⟩
  case opt k ih =>
    unfold RS at h ⊢
    cases x with
    | none => simp only at h; subst h; rfl
    | some y => exact ih h hn
  case rp ex r => obtain ⟨cs, rest, rfl, hc⟩ := h; exact ⟨cs, rest, rfl, hc⟩
  case undef => trivial
  case ptr id o => have := hn id rfl; unfold RS at h; subst h; simp [RS, killSV]; simpa using this
  case eptr id s o => have := hn id rfl; unfold RS at h; subst h; simp [RS, killSV]; simpa using this
  case own id => have := hn id rfl; unfold RS at h; subst h; simp [RS, killSV]; simpa using this
  case mp id => have := hn id rfl; unfold RS at h; subst h; simp [RS, killSV]; simpa using this
  case iter id => have := hn id rfl; unfold RS at h; subst h; simp [RS, killSV]; simpa using this
  case ent id k v =>
    have := hn id rfl
    obtain ⟨ck, cv, rfl, h1, h2⟩ := h
    refine ⟨ck, cv, ?_, h1, h2⟩
    simp only [killSV, this, Bool.false_eq_true, if_false]
  case stamp id k =>
    have := hn id rfl
    obtain ⟨ck, rfl, h1⟩ := h
    refine ⟨ck, ?_, h1⟩
    simp only [killSV, this, Bool.false_eq_true, if_false]
  all_goals exact h

theorem live_of (ids : List Nat) {p : Key} {k : EK} {f : HS Γ → DK k} (hg : get Γ p = some ⟨k, f⟩) (hp : p ∉ deadKeys Γ ids) : ∀ id, k.refs = some id → ids.contains id = false := by
  intro id hid
  have hk := kindOf_get hg
  cases hc : ids.contains id with
  | false => rfl
  | true =>
    exfalso
    apply hp
    unfold deadKeys
    rw [List.mem_filter]
    refine ⟨get_mem hk, ?_⟩
    simp only at hk
    simp only [hk, hid, hc]

theorem Rep.kill (h : Rep Γ ρ st) (ids : List Nat) : Rep (killT ids Γ) (killP ids ρ) (WB.kill ids st) := by
  have look : ∀ p q, (∀ d, p ≠ .o d) → get (killT ids Γ) p = some q → q.1 = .undef ∨ ∃ f, get Γ p = some ⟨q.1, f⟩ ∧ q.2 (killP ids ρ) = f ρ ∧ ∀ id, q.1.refs = some id → ids.contains id = false := by
    intro p q hp hq
    rcases get_go (shP (deadKeys Γ ids) ρ) hq with ⟨d, _, h1, _⟩ | ⟨_, f, h2, h3⟩
    · exact absurd h1 (hp d)
    · rcases get_sh ρ h2 with ⟨_, h4⟩ | ⟨h4, g, h5, h6⟩
      · exact .inl h4
      · refine .inr ⟨g, h5, ?_, live_of ids h5 h4⟩
        rw [← h6]; exact h3
  have key : ∀ q : Σ k : EK, HS (killT ids Γ) → DK k, q.1 = .undef → ∀ sv, RS q.1 (q.2 (killP ids ρ)) sv := by
    intro q hq sv
    obtain ⟨k, f⟩ := q
    simp only at hq
    subst hq
    trivial
  refine ⟨fun i q hq => ?_, fun id q hq => ?_⟩
  · rcases look _ q (by simp) hq with h1 | ⟨f, h1, h2, h3⟩
    · exact key q h1 _
    · rw [h2]
      exact RS.kill (h.s i _ h1) h3
  · rcases get_go (shP (deadKeys Γ ids) ρ) hq with ⟨d, hd, h1, h2⟩ | ⟨hnd, f, h2, h3⟩
    · cases h1
      obtain ⟨k, f⟩ := q
      simp only at h2
      subst h2
      have : ids.contains id = true := by simpa using hd
      show (WB.kill ids st).ob id = .none
      simp only [WB.kill, this, if_true]
    · have hnc : ids.contains id = false := by
        cases hc : ids.contains id with
        | false => rfl
        | true => exact absurd rfl (hnd id (by simpa using hc))
      rcases get_sh ρ h2 with ⟨_, h4⟩ | ⟨h4, g, h5, h6⟩
      · obtain ⟨k, f'⟩ := q
        simp only at h4
        subst h4
        trivial
      · have hob := h.o id _ h5
        have e : q.2 (killP ids ρ) = g ρ := by rw [← h6]; exact h3
        rw [e]
        have e2 : (WB.kill ids st).ob id = killOb ids (st.ob id) := by simp only [WB.kill, hnc, Bool.false_eq_true, if_false]
        rw [e2]
        obtain ⟨k, f'⟩ := q
        simp only at hob ⊢
        cases k <;> try exact hob
        · obtain ⟨cs, h7, h8, h9⟩ := hob
          rw [h7]
          refine ⟨cs.map (killSV ids), rfl, by simp [h8], fun j q' hj hq' => ?_⟩
          rcases look _ q' (by simp) hq' with g1 | ⟨f2, g1, g2, g3⟩
          · exact ⟨killSV ids (cs[j]'(by omega)), by simp [List.getElem?_eq_getElem (show j < cs.length by omega)], key q' g1 _⟩
          · obtain ⟨sv, g4, g5⟩ := h9 j _ hj g1
            exact ⟨killSV ids sv, by simp [g4], g2 ▸ RS.kill g5 g3⟩
        all_goals first
          | (obtain ⟨es, h7, h8⟩ := hob; rw [h7]; exact ⟨es, rfl, h8⟩)
          | (obtain ⟨z, ks, vs, h7, h8⟩ := hob; rw [h7]; exact ⟨z, ks, vs, rfl, h8⟩)
          | (unfold RO at hob; rw [hob]; rfl)

/-- Contexts that differ by cells of one object. -/
def ExtC (id : Nat) (Γ : TC) (ρ : HS Γ) (Γc : TC) (ρc : HS Γc) : Prop := ∀ p q, get Γc p = some q → (∃ j, p = .c id j) ∨ ∃ f, get Γ p = some ⟨q.1, f⟩ ∧ q.2 ρc = f ρ
theorem ExtC.refl (id : Nat) : ExtC id Γ ρ Γ ρ := fun p q h => .inr ⟨q.2, h, rfl⟩

theorem Rep.newObj {Γc : TC} {ρc : HS Γc} {d : Nat} {k ko : EK} {x : DK k} {y : DK ko} {v : SV} {o : Ob} (h : Rep Γ ρ st) (hx : ExtC d Γ ρ Γc ρc) (ho : RO Γc ρc d ko y o) (hs : RS k x v) :
    Rep ((.s d, k) :: (.o d, ko) :: Γc) (x, y, ρc) { fr := upd st.fr d v, ob := upd st.ob d o } := by
  have down : ∀ p q, p ≠ .s d → p ≠ .o d → get ((.s d, k) :: (.o d, ko) :: Γc) p = some q → ∃ f, get Γc p = some ⟨q.1, f⟩ ∧ q.2 (x, y, ρc) = f ρc := by
    intro p q h1 h2 hq
    obtain ⟨f, hf, e⟩ := get_ne (Ne.symm h1) hq
    obtain ⟨g, hg, e2⟩ := get_ne (Ne.symm h2) hf
    exact ⟨g, hg, (e _).trans (e2 _)⟩
  refine ⟨fun i q hq => ?_, fun id q hq => ?_⟩
  · by_cases hi : i = d
    · subst hi
      rw [get_eq] at hq
      cases hq
      simpa [upd] using hs
    · obtain ⟨f, hf, e⟩ := down _ q (by simpa using hi) (by simp) hq
      rcases hx _ _ hf with ⟨j, hj⟩ | ⟨g, hg, e2⟩
      · cases hj
      · have := h.s i _ hg
        simp only at e2
        rw [e]
        simp only [upd, hi, if_false]
        rw [e2]; exact this
  · by_cases hi : id = d
    · subst hi
      obtain ⟨f, hf, e⟩ := get_ne (by simp) hq
      rw [get_eq] at hf
      obtain ⟨kq, fq⟩ := q
      simp only [Option.some.injEq, Sigma.mk.injEq] at hf
      obtain ⟨rfl, hf⟩ := hf
      cases eq_of_heq hf
      have e' := e (x, y, ρc)
      simp only at e'
      simp only [upd, if_true]
      rw [e']
      exact RO.congr ho fun j q' hq' => down _ q' (by simp) (by simp) hq'
    · obtain ⟨f, hf, e⟩ := down _ q (by simp) (by simpa using hi) hq
      rcases hx _ _ hf with ⟨j, hj⟩ | ⟨g, hg, e2⟩
      · cases hj
      · have := h.o id _ hg
        simp only at e2
        rw [e]
        simp only [upd, hi, if_false]
        rw [e2]
        refine RO.congr this fun j q' hq' => ?_
        obtain ⟨f', hf', e'⟩ := down _ q' (by simp) (by simp) hq'
        rcases hx _ _ hf' with ⟨j', hj'⟩ | ⟨g', hg', e2'⟩
        · cases hj'; exact absurd rfl hi
        · exact ⟨g', hg', e'.trans e2'⟩

/-- An object that has no cells of its own in the context turns. -/
theorem Rep.turnObj {id : Nat} {k : EK} {y : DK k} {o : Ob} (h : Rep Γ ρ st) (ho : RO Γ ρ id k y o) : Rep ((.o id, k) :: Γ) (y, ρ) { st with ob := upd st.ob id o } := by
  have down : ∀ p q, p ≠ .o id → get ((.o id, k) :: Γ) p = some q → ∃ f, get Γ p = some ⟨q.1, f⟩ ∧ q.2 (y, ρ) = f ρ := by
    intro p q h1 hq
    obtain ⟨f, hf, e⟩ := get_ne (Ne.symm h1) hq
    exact ⟨f, hf, e _⟩
  refine ⟨fun i q hq => ?_, fun id' q hq => ?_⟩
  · obtain ⟨f, hf, e⟩ := down _ q (by simp) hq
    rw [e]
    exact h.s i _ hf
  · by_cases hi : id' = id
    · subst hi
      rw [get_eq] at hq
      cases hq
      simp only [upd, if_true]
      exact RO.congr ho fun j q' hq' => down _ q' (by simp) hq'
    · obtain ⟨f, hf, e⟩ := down _ q (by simpa using hi) hq
      have := h.o id' _ hf
      rw [e]
      simp only [upd, hi, if_false]
      exact RO.congr this fun j q' hq' => down _ q' (by simp) hq'

/-- An object's cells turn. -/
theorem Rep.turnCells {Γc : TC} {ρc : HS Γc} {id n : Nat} {f : HS Γ → DK (.box n)} {cs : List SV} (h : Rep Γ ρ st) (hx : ExtC id Γ ρ Γc ρc) (hg : get Γ (.o id) = some ⟨.box n, f⟩) (hl : cs.length = n)
    (hc : ∀ j q, j < n → get Γc (.c id j) = some q → ∃ sv, cs[j]? = some sv ∧ RS q.1 (q.2 ρc) sv) : Rep Γc ρc { st with ob := upd st.ob id (.box cs) } := by
  refine ⟨fun i q hq => ?_, fun id' q hq => ?_⟩
  · rcases hx _ _ hq with ⟨j, hj⟩ | ⟨g, hg', e2⟩
    · cases hj
    · rw [e2]; exact h.s i _ hg'
  · rcases hx _ _ hq with ⟨j, hj⟩ | ⟨g, hg', e2⟩
    · cases hj
    · by_cases hi : id' = id
      · subst hi
        rw [hg] at hg'
        simp only [upd, if_true]
        obtain ⟨k, f'⟩ := q
        simp only [Option.some.injEq, Sigma.mk.injEq] at hg'
        obtain ⟨rfl, _⟩ := hg'
        exact ⟨cs, rfl, hl, hc⟩
      · have := h.o id' _ hg'
        rw [e2]
        simp only [upd, hi, if_false]
        refine RO.congr this fun j q' hq' => ?_
        rcases hx _ _ hq' with ⟨j', hj'⟩ | ⟨g', hg2, e3⟩
        · cases hj'; exact absurd rfl hi
        · exact ⟨g', hg2, e3⟩
end

/-- Is it a type of one cell. -/
def oneT : Ty → Bool
  | .agg _ | .tup _ | .nil | .one _ | .cons _ _ => false
  | _ => true
theorem oneT_can {t : Ty} {x : D t} {c : CV} (ho : oneT t = true) (h : Can t x [c]) : oneC c = true := by
  cases t <;> simp only [oneT, Bool.false_eq_true] at ho <;> unfold Can at h
  case clo => obtain ⟨l, e, _⟩ := h; cases e; rfl
  case sl => obtain ⟨_, _, e, _⟩ := h; cases e; rfl
  case map => obtain ⟨_, _, _, e, _⟩ := h; cases e; rfl
  case err => cases x <;> (cases h; rfl)
  all_goals (cases h; rfl)
def oneR : Ty → Bool
  | .nil => true
  | .one t => oneT t
  | .cons t r => oneT t && oneR r
  | _ => false
theorem oneR_can : ∀ {r : Ty} {x : D r} {l : List CV}, oneR r = true → Can r x l → l.all oneC = true := by
  intro r
  induction r with
  | nil => intro x l _ h; unfold Can at h; subst h; rfl
  | one t _ => intro x l ho h; unfold Can at h; obtain ⟨c, rfl, h⟩ := h; simp [oneT_can ho h]
  | cons t r _ ihr =>
    intro x l ho h
    simp only [oneR, Bool.and_eq_true] at ho
    unfold Can at h
    obtain ⟨c, l', rfl, h1, h2⟩ := h
    simp only [List.all_cons, Bool.and_eq_true]
    exact ⟨oneT_can ho.1 h1, ihr ho.2 h2⟩
  | _ => intro x l ho; cases ho

/-- Cells are laid. -/
def pushR (id : Nat) : (off : Nat) → (r : Ty) → (Γ : TC) → Option (Σ Γ' : TC, HS Γ → D r → HS Γ')
  | _, .nil, Γ => some ⟨Γ, fun ρ _ => ρ⟩
  | off, .one t, Γ => some ⟨(.c id off, .v t) :: Γ, fun ρ x => (x, ρ)⟩
  | off, .cons t r, Γ => match pushR id (off + 1) r Γ with
    | some p => some ⟨(.c id off, .v t) :: p.1, fun ρ x => (x.1, p.2 ρ x.2)⟩
    | none => none
  | _, _, _ => none
theorem pushR_ok {id : Nat} : ∀ {r : Ty} {off : Nat} {Γ : TC} {p : Σ Γ' : TC, HS Γ → D r → HS Γ'} {ρ : HS Γ} {x : D r} {l : List CV}, pushR id off r Γ = some p → Can r x l →
    ExtC id Γ ρ p.1 (p.2 ρ x) ∧ ∀ j q, get p.1 (.c id j) = some q → (off ≤ j ∧ ∃ c, l[j - off]? = some c ∧ RS q.1 (q.2 (p.2 ρ x)) (.c c)) ∨ ((j < off ∨ off + l.length ≤ j) ∧ ∃ f, get Γ (.c id j) = some ⟨q.1, f⟩ ∧ q.2 (p.2 ρ x) = f ρ) := by
  intro r
  induction r with
  | nil =>
    intro off Γ p ρ x l h hc
    simp only [pushR, Option.some.injEq] at h
    subst h
    unfold Can at hc
    subst hc
    refine ⟨ExtC.refl id, fun j q hq => .inr ⟨by simp; omega, q.2, hq, rfl⟩⟩
  | one t _ =>
    intro off Γ p ρ x l h hc
    simp only [pushR, Option.some.injEq] at h
    subst h
    unfold Can at hc
    obtain ⟨c, rfl, hc⟩ := hc
    refine ⟨fun p q hq => ?_, fun j q hq => ?_⟩
    · by_cases hp : Key.c id off = p
      · exact .inl ⟨off, hp.symm⟩
      · obtain ⟨f, hf, e⟩ := get_ne hp hq
        exact .inr ⟨f, hf, e _⟩
    · by_cases hj : j = off
      · subst hj
        rw [get_eq] at hq
        cases hq
        exact .inl ⟨Nat.le_refl _, c, by simp, c, rfl, hc⟩
      · obtain ⟨f, hf, e⟩ := get_ne (by simpa using Ne.symm hj) hq
        exact .inr ⟨by simp; omega, f, hf, e _⟩
  | cons t r _ ihr =>
    intro off Γ p ρ x l h hc
    simp only [pushR] at h
    split at h <;> try (cases h; done)
    rename_i p' hp'
    cases h
    unfold Can at hc
    obtain ⟨c, l', rfl, h1, h2⟩ := hc
    obtain ⟨g1, g2⟩ := ihr (ρ := ρ) hp' h2
    refine ⟨fun p q hq => ?_, fun j q hq => ?_⟩
    · by_cases hp : Key.c id off = p
      · exact .inl ⟨off, hp.symm⟩
      · obtain ⟨f, hf, e⟩ := get_ne hp hq
        rcases g1 _ _ hf with hh | ⟨f', hf', e'⟩
        · exact .inl hh
        · exact .inr ⟨f', hf', (e _).trans e'⟩
    · by_cases hj : j = off
      · subst hj
        rw [get_eq] at hq
        cases hq
        exact .inl ⟨Nat.le_refl _, c, by simp, c, rfl, h1⟩
      · obtain ⟨f, hf, e⟩ := get_ne (by simpa using Ne.symm hj) hq
        rcases g2 j _ hf with ⟨k1, c', k2, k3⟩ | ⟨k1, f', k2, k3⟩
        · refine .inl ⟨by omega, c', ?_, (e _) ▸ k3⟩
          have : j - off = (j - (off + 1)) + 1 := by omega
          rw [this]
          simpa using k2
        · exact .inr ⟨by simp; omega, f', k2, (e _).trans k3⟩
  | _ => intro off Γ p ρ x l h; cases h
end WB
