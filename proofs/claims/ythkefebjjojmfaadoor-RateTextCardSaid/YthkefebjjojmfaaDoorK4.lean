/-
  OWN TEXTS, MERGED (wip/merge.py): CoreTn, CoreTo, CoreLb, CoreZs. No condition of their own.
-/
import Derived.Test.YthkefebjjojmfaaDoorK3
import Derived.Lib.LaidTab
import Derived.Lib.ItoaNum
import Derived.Lib.TrimByte
import Derived.Lib.AppendIntMem
import Derived.Lib.Bytealg
import Derived.Test.YthkefebjjojmfaaDoorK2
set_option linter.unusedVariables false
set_option linter.unusedSimpArgs false
namespace WB
open Go Go.RowKit

section
variable {X : TP} {E : Env}

theorem opL_ok (hT : TOk X E) {Γ : TC} {msk : List Nat} {ρ : HS Γ} {st : St} (hr : Rep Γ ρ st) {D : Option (List Nat)} (hD : ∀ id, msk.contains id = false → mask D st.ob id = st.ob id) {l : SL} {o : OpD Γ} (h : opL X Γ msk l = some o) {b : o.B} (hb : o.d.val ρ = some b) :
    ∃ st', evalL E D l st = some st' ∧ Rep o.Γ' (o.up ρ b) st' := by
  obtain ⟨dst, op, guard⟩ := l
  cases guard with
  | none =>
    simp only [opL] at h
    split at h
    · rename_i hcls
      split at h <;> try (cases h; done)
      rename_i d
      split at h <;> try (cases h; done)
      rename_i f hg
      obtain ⟨v, ob, h1, h2⟩ := opNew_ok hr h hb
      have hn : st.ob d = .none := hr.o d _ hg
      rw [← hT.G] at h1
      exact ⟨_, by simp [evalL, evalOp, hcls, h1, addNew, hn], h2⟩
    · rename_i hcls
      obtain ⟨st', h1, h2⟩ := opEff_ok hr h hb
      rw [← hT.G] at h1
      exact ⟨st', by simp only [evalL, evalOp, hcls, h1], h2⟩
    · split at h <;> try (cases h; done)
      rename_i q hq
      split at h
      · rename_i d
        cases h
        obtain ⟨sv, h1, h2⟩ := softK_ok hT hr hD hq hb (some d)
        exact ⟨_, by simp only [evalL, h1], Rep.set hr h2⟩
      · cases h
        obtain ⟨sv, h1, h2⟩ := softK_ok hT hr hD hq hb none
        exact ⟨st, by simp only [evalL, h1, St.set], hr⟩
  | some g =>
    obtain ⟨g, want⟩ := g
    simp only [opL] at h
    split at h <;> try (cases h; done)
    rename_i q d hq
    split at h <;> try (cases h; done)
    · rename_i f hg
      cases h
      obtain ⟨c, e1, e2⟩ := hr.s g _ hg
      unfold Can at e2
      cases e2
      by_cases hw : f ρ = want
      · have : ∃ y, q.2.val ρ = some y ∧ b = some y := by
          cases hd : q.2 with
          | tot k => rw [hd] at hb; simp only [gD, Dyn.val, hw, if_true, Option.some.injEq] at hb; exact ⟨_, rfl, hb.symm⟩
          | par k =>
            rw [hd] at hb
            simp only [gD, Dyn.val, hw, if_true] at hb
            obtain ⟨y, h1, h2⟩ := Option.map_eq_some_iff.1 hb
            exact ⟨y, h1, h2.symm⟩
        obtain ⟨y, hy, rfl⟩ := this
        obtain ⟨sv, h1, h2⟩ := softK_ok hT hr hD hq hy (some d)
        refine ⟨_, by simp only [evalL, e1, hw, if_true]; exact h1, Rep.set hr ?_⟩
        exact h2
      · have : b = none := by
          cases hd : q.2 with
          | tot k => rw [hd] at hb; simp only [gD, Dyn.val, hw, if_false, Option.some.injEq] at hb; exact hb.symm
          | par k => rw [hd] at hb; simp only [gD, Dyn.val, hw, if_false, Option.some.injEq] at hb; exact hb.symm
        subst this
        exact ⟨st.set (some d) skipped, by simp only [evalL, e1, hw, if_false], Rep.set hr (k := .opt q.1) (x := none) rfl⟩
    · rename_i f hg
      cases h
      have hs := hr.s g _ hg
      unfold RS at hs
      by_cases hw : f ρ = some want
      · simp only [hw] at hs
        obtain ⟨c, e1, e2⟩ := hs
        unfold Can at e2
        cases e2
        have : ∃ y, q.2.val ρ = some y ∧ b = some y := by
          cases hd : q.2 with
          | tot k => rw [hd] at hb; simp only [gO, Dyn.val, hw, if_true, Option.some.injEq] at hb; exact ⟨_, rfl, hb.symm⟩
          | par k =>
            rw [hd] at hb
            simp only [gO, Dyn.val, hw, if_true] at hb
            obtain ⟨y, h1, h2⟩ := Option.map_eq_some_iff.1 hb
            exact ⟨y, h1, h2.symm⟩
        obtain ⟨y, hy, rfl⟩ := this
        obtain ⟨sv, h1, h2⟩ := softK_ok hT hr hD hq hy (some d)
        refine ⟨_, by simp only [evalL, e1, if_true]; exact h1, Rep.set hr ?_⟩
        exact h2
      · have : b = none := by
          cases hd : q.2 with
          | tot k => rw [hd] at hb; simp only [gO, Dyn.val, hw, if_false, Option.some.injEq] at hb; exact hb.symm
          | par k => rw [hd] at hb; simp only [gO, Dyn.val, hw, if_false, Option.some.injEq] at hb; exact hb.symm
        subst this
        cases hf : f ρ with
        | none =>
          simp only [hf] at hs
          exact ⟨st.set (some d) skipped, by simp only [evalL, hs, skipped], Rep.set hr (k := .opt q.1) (x := none) rfl⟩
        | some b' =>
          simp only [hf] at hs
          obtain ⟨c, e1, e2⟩ := hs
          unfold Can at e2
          cases e2
          have hne : b' ≠ want := fun e => hw (by rw [hf, e])
          exact ⟨st.set (some d) skipped, by simp only [evalL, e1, hne, if_false], Rep.set hr (k := .opt q.1) (x := none) rfl⟩

theorem denLs_ok (hT : TOk X E) {A : Type} {msk : List Nat} {D : Option (List Nat)} (hD : ∀ (ob : Nat → Ob) id, msk.contains id = false → mask D ob id = ob id) : ∀ {ls : List SL} {Γ : TC} {q : LsD A Γ} {ρ : HS Γ} {st : St} {K : HS q.Γ' → Option A} {r : A},
    denLs A X msk ls Γ = some q → Rep Γ ρ st → q.run ρ K = some r → ∃ st', evalLs E D ls st = some st' ∧ ∃ ρ', Rep q.Γ' ρ' st' ∧ K ρ' = some r
  | [], Γ, q, ρ, st, K, r, h, hr, hk => by
    simp only [denLs, Option.some.injEq] at h
    subst h
    exact ⟨st, rfl, ρ, hr, hk⟩
  | l :: ls, Γ, q, ρ, st, K, r, h, hr, hk => by
    simp only [denLs] at h
    split at h <;> try (cases h; done)
    rename_i o ho
    split at h <;> try (cases h; done)
    rename_i p hp
    cases h
    have hk' : o.d.app ρ (fun b => p.run (o.up ρ b) K) = some r := hk
    obtain ⟨b, h1, h2⟩ := Dyn.app_some hk'
    obtain ⟨st1, h3, h4⟩ := opL_ok hT hr (hD st.ob) ho h1
    obtain ⟨st2, h5, h6⟩ := denLs_ok hT hD hp h4 h2
    exact ⟨st2, by simp [evalLs, h3, h5], h6⟩

theorem denReg_ok (hT : TOk X E) {A : Type} {draw : Bool} {D : List Nat} {ls : List SL} {Γ : TC} {q : LsD A Γ} {ρ : HS Γ} {st : St} {K : HS q.Γ' → Option A} {r : A} (h : denReg A X draw D ls Γ = some q) (hr : Rep Γ ρ st) (hk : q.run ρ K = some r) :
    ∃ st', evalReg E draw D ls st = some st' ∧ ∃ ρ', Rep q.Γ' ρ' st' ∧ K ρ' = some r := by
  cases D with
  | nil =>
    simp only [denReg] at h
    obtain ⟨st', h1, h2⟩ := denLs_ok hT (D := if draw then some [] else none) (fun ob id _ => by cases draw <;> simp [mask]) h hr hk
    exact ⟨st', by simpa [evalReg] using h1, h2⟩
  | cons d ds =>
    simp only [denReg] at h
    split at h <;> try (cases h; done)
    rename_i p hp
    cases h
    obtain ⟨st', h1, h2⟩ := denLs_ok hT (D := if draw then some (d :: ds) else none) (fun ob id hid => by
      cases draw
      · rfl
      · simp only [if_true] at hid ⊢
        simp only [mask, hid, Bool.false_eq_true, if_false]) hp (hr.kill (d :: ds)) hk
    exact ⟨st', by simpa [evalReg] using h1, h2⟩

theorem denS_ok (hT : TOk X E) {A : Type} {Q : Ex → St → Prop} : ∀ {c : AC} {Γ : TC} {q : LsD A Γ} {ρ : HS Γ} {st : St} {K : HS q.Γ' → Option A} {r : A}, denS A X c Γ = some q → Rep Γ ρ st → q.run ρ K = some r →
    (∀ st' ρ', Rep q.Γ' ρ' st' → K ρ' = some r → Q .normal st') → pwpS E (erase c) Q st := by
  intro c
  induction c generalizing Q with
  | skip =>
    intro Γ q ρ st K r h hr hk hQ
    simp only [denS, Option.some.injEq] at h
    subst h
    exact ⟨st, Seen.refl st, hQ _ _ hr hk⟩
  | reg draw D ls =>
    intro Γ q ρ st K r h hr hk hQ
    obtain ⟨st', h1, ρ', h2, h3⟩ := denReg_ok hT (K := K) h hr hk
    exact ⟨st, Seen.refl st, st', h1, hQ _ _ h2 h3⟩
  | sq a b iha ihb =>
    intro Γ q ρ st K r h hr hk hQ
    simp only [denS] at h
    split at h <;> try (cases h; done)
    rename_i p hp
    split at h <;> try (cases h; done)
    rename_i p' hp'
    cases h
    exact ⟨st, Seen.refl st, iha hp hr hk fun st' ρ' h1 h2 => ihb hp' h1 h2 hQ⟩
  | gh g c ih =>
    intro Γ q ρ st K r h hr hk hQ
    simp only [denS] at h
    split at h <;> try (cases h; done)
    rename_i p hp
    split at h <;> try (cases h; done)
    rename_i p' hp'
    cases h
    obtain ⟨st', h1, h2⟩ := ghT_ok hp hr
    exact pwpS_seen h1 (ih hp' h2 hk hQ)
  | _ => intro Γ q ρ st K r h; cases h

theorem resT1_ok {Γ : TC} {ρ : HS Γ} {st : St} (hr : Rep Γ ρ st) {x : SRes} {q : Σ t : Ty, Dyn (HS Γ) (D t)} {y : D q.1} (h : resT1 X Γ x = some q) (hy : q.2.val ρ = some y) : ∃ c, oneRes st x = some c ∧ Can q.1 y [c] := by
  cases x with
  | tmp t =>
    simp only [resT1] at h
    split at h <;> try (cases h; done)
    rename_i p hp
    cases h
    obtain ⟨c, h1, h2, _⟩ := rdC_ok (msk := []) (rd := st.ob) (G := X.G) (fl := p.1) (q := p.2) hp hr (fun _ _ => rfl) hy
    exact ⟨c, h1, h2⟩
  | cell a sz =>
    simp only [resT1] at h
    split at h <;> try (cases h; done)
    rename_i k hk
    split at h <;> try (cases h; done)
    · rename_i t d hd
      cases h
      obtain ⟨sv, h1, c, h2, h3⟩ := loadT_ok (msk := []) (rd := st.ob) (sv := so X.G st.fr (.t a)) hr (fun _ _ => rfl) hd hy (fun x hx => rdK_ok hk hr hx)
      subst h2
      refine ⟨c, ?_, h3⟩
      have h1' : loadV st.ob sz (st.fr a) = some (.c c) := h1
      simp [oneRes, h1', close]
    · rename_i id f hd
      split at h <;> try (cases h; done)
      rename_i e size t xs ho
      cases h
      cases hy
      obtain ⟨sv, h1, h2⟩ := loadT_ok (msk := []) (rd := st.ob) (sv := so X.G st.fr (.t a)) (y := f ρ) hr (fun _ _ => rfl) hd rfl (fun x hx => rdK_ok hk hr hx)
      have h2' : sv = .osl id := h2
      subst h2'
      obtain ⟨es, h3, h4⟩ := hr.o id _ ho
      refine ⟨.sl none es, ?_, by unfold Can; exact ⟨_, _, rfl, h4⟩⟩
      have h1' : loadV st.ob sz (st.fr a) = some (.osl id) := h1
      simp [oneRes, h1', close, h3]
theorem resRow_ok {Γ : TC} {ρ : HS Γ} {st : St} (hr : Rep Γ ρ st) : ∀ {xs : List SRes} {q : Σ t : Ty, Dyn (HS Γ) (D t)} {y : D q.1}, resRow X Γ xs = some q → q.2.val ρ = some y → ∃ l, allM (oneRes st) xs = some l ∧ Can q.1 y l
  | [], q, y, h, hy => by
    simp only [resRow, Option.some.injEq] at h
    subst h
    exact ⟨[], rfl, by unfold Can; rfl⟩
  | [x], q, y, h, hy => by
    simp only [resRow] at h
    split at h <;> try (cases h; done)
    rename_i p hp
    cases h
    obtain ⟨c, h1, h2⟩ := resT1_ok hr hp hy
    exact ⟨[c], by simp [allM, h1], by unfold Can; exact ⟨c, rfl, h2⟩⟩
  | x :: z :: xs, q, y, h, hy => by
    simp only [resRow] at h
    split at h <;> try (cases h; done)
    rename_i p p' hp hp'
    cases h
    obtain ⟨g1, g2⟩ := Dyn.both_val hy
    obtain ⟨c, h1, h2⟩ := resT1_ok hr hp g1
    obtain ⟨l, h3, h4⟩ := resRow_ok hr hp' g2
    refine ⟨c :: l, ?_, by unfold Can; exact ⟨c, l, rfl, h2, h4⟩⟩
    have e : allM (oneRes st) (x :: z :: xs) = (oneRes st x).bind fun b => (allM (oneRes st) (z :: xs)).map fun bs => b :: bs := rfl
    rw [e, h1, h3]; rfl
theorem resT_ok {Γ : TC} {ρ : HS Γ} {st : St} (hr : Rep Γ ρ st) {xs : List SRes} {q : Σ t : Ty, Dyn (HS Γ) (D t)} {y : D q.1} (h : resT X Γ xs = some q) (hy : q.2.val ρ = some y) : ∃ c, resOf st xs = some c ∧ Can q.1 y [c] := by
  match xs, h with
  | [x], h =>
    obtain ⟨c, h1, h2⟩ := resT1_ok hr h hy
    exact ⟨c, by simp [resOf, allM, h1, packRes], h2⟩
  | [], h =>
    simp only [resT] at h
    split at h <;> try (cases h; done)
    rename_i p hp
    cases h
    obtain ⟨l, h1, h2⟩ := resRow_ok hr hp hy
    simp only [allM, Option.some.injEq] at h1
    subst h1
    exact ⟨.tup [], rfl, by unfold Can; exact ⟨[], rfl, h2⟩⟩
  | x :: z :: xs, h =>
    simp only [resT] at h
    split at h <;> try (cases h; done)
    rename_i p hp
    cases h
    obtain ⟨l, h1, h2⟩ := resRow_ok hr hp hy
    have hlen := allM_length h1
    refine ⟨.tup l, ?_, by unfold Can; exact ⟨l, rfl, h2⟩⟩
    simp only [resOf, h1, Option.map_some]
    match l, hlen with
    | c :: d :: l, _ => rfl

/-! ### Ways out -/

theorem keX_head {R A B : Type} {e : Nat × TC} {ys : XC} {rt : Bool} {f : OutX R (e :: ys) rt → B} {ρ : HS e.2} {b : B} {ke : KE A (e :: ys)} {kr : R → Option A} {r : A} (h : (keX (e :: ys) rt f).1 ρ = some b)
    (hk : ∀ o, f o = b → elX (e :: ys) rt ke kr o = some r) : ke.1 ρ = some r := by
  cases ys with
  | nil =>
    cases rt with
    | false => exact hk ρ (Option.some.inj h)
    | true => exact hk (.inl ρ) (Option.some.inj h)
  | cons e' ys => exact hk (.inl ρ) (Option.some.inj h)
theorem keX_find {R A B : Type} : ∀ {ys : XC} {rt : Bool} {f : OutX R ys rt → B} {i : Nat} {Γi : TC} {s : KE B ys → HS Γi → Option B} {ρ : HS Γi} {b : B} {ke : KE A ys} {kr : R → Option A} {r : A}, findE B ys i = some ⟨Γi, s⟩ → s (keX ys rt f) ρ = some b →
    (∀ o, f o = b → elX ys rt ke kr o = some r) → ∃ s', findE A ys i = some ⟨Γi, s'⟩ ∧ s' ke ρ = some r
  | [], rt, f, i, Γi, s, ρ, b, ke, kr, r, h, _, _ => by cases h
  | e :: ys, rt, f, i, Γi, s, ρ, b, ke, kr, r, h, hs, hk => by
    simp only [findE] at h ⊢
    split at h
    · rename_i hi
      cases h
      rw [if_pos hi]
      exact ⟨_, rfl, keX_head hs hk⟩
    · rename_i hi
      rw [if_neg hi]
      split at h <;> try (cases h; done)
      rename_i q hq
      cases h
      cases ys with
      | nil => cases hq
      | cons e' ys =>
        obtain ⟨s', h1, h2⟩ := keX_find (A := A) (f := fun o => f (.inr o)) (ke := ke.2) (kr := kr) (r := r) hq hs (fun o ho => hk (.inr o) ho)
        rw [h1]
        exact ⟨_, rfl, h2⟩
theorem keX_tail {R A B : Type} {e : Nat × TC} {ys : XC} {rt : Bool} {f : OutX R (e :: ys) rt → B} {i : Nat} {Γi : TC} {s : KE B ys → HS Γi → Option B} {ρ : HS Γi} {b : B} {ke : KE A (e :: ys)} {kr : R → Option A} {r : A} (h : findE B ys i = some ⟨Γi, s⟩) (hs : s (keX (e :: ys) rt f).2 ρ = some b)
    (hk : ∀ o, f o = b → elX (e :: ys) rt ke kr o = some r) : ∃ s', findE A ys i = some ⟨Γi, s'⟩ ∧ s' ke.2 ρ = some r := by
  cases ys with
  | nil => cases h
  | cons e' ys => exact keX_find (A := A) (f := fun o => f (.inr o)) (ke := ke.2) (kr := kr) (r := r) h hs (fun o ho => hk (.inr o) ho)
theorem rtX_ok {R A B : Type} : ∀ {ys : XC} {rt : Bool} {f : OutX R ys rt → B} {v : R} {b : B} {ke : KE A ys} {kr : R → Option A} {r : A}, rtX ys rt f v = some b → (∀ o, f o = b → elX ys rt ke kr o = some r) → kr v = some r
  | [], true, f, v, b, ke, kr, r, h, hk => hk v (Option.some.inj h)
  | [], false, f, v, b, ke, kr, r, h, hk => by cases h
  | [e], false, f, v, b, ke, kr, r, h, hk => by cases h
  | [e], true, f, v, b, ke, kr, r, h, hk => hk (.inr v) (Option.some.inj h)
  | e :: e' :: ys, rt, f, v, b, ke, kr, r, h, hk => rtX_ok (f := fun o => f (.inr o)) (ke := ke.2) h (fun o ho => hk (.inr o) ho)
theorem selE_ok {A : Type} {xs : XC} : ∀ {ys : XC} {g : KE A xs → KE A ys} {i : Nat} {Γi : TC} {s : KE A ys → HS Γi → Option A} {ke : KE A xs} {ρ : HS Γi} {r : A}, selE A xs ys = some g → findE A ys i = some ⟨Γi, s⟩ → s (g ke) ρ = some r → ∃ s', findE A xs i = some ⟨Γi, s'⟩ ∧ s' ke ρ = some r
  | [], g, i, Γi, s, ke, ρ, r, _, h, _ => by cases h
  | e :: ys, g, i, Γi, s, ke, ρ, r, hg, h, hs => by
    simp only [selE] at hg
    split at hg <;> try (cases hg; done)
    rename_i q g' hq hg'
    split at hg <;> try (cases hg; done)
    rename_i he
    cases hg
    obtain ⟨Γq, f⟩ := q
    simp only at he
    subst he
    simp only [findE] at h
    split at h
    · rename_i hi
      subst hi
      cases h
      exact ⟨f, hq, hs⟩
    · split at h <;> try (cases h; done)
      rename_i q' hq'
      cases h
      exact selE_ok hg' hq' hs

def PostT {A : Type} {xs : XC} {Γn : TC} (rs : List SRes) (Rt : Ty) (k : DKn A xs Γn (D Rt)) (r : A) : Ex → St → Prop
  | .normal, st => ∃ ρ, Rep Γn ρ st ∧ k.n ρ = some r
  | .exit i, st => ∃ Γi s ρ, findE A xs i = some ⟨Γi, s⟩ ∧ Rep Γi ρ st ∧ s k.e ρ = some r
  | .ret, st => ∃ v c, resOf st rs = some c ∧ Can Rt v [c] ∧ k.r v = some r

theorem den_ok (hT : TOk X E) {rs : List SRes} {Rt : Ty} : ∀ (c : AC) {A : Type} {xs : XC} {Γn Γ : TC} {d : HS Γ → DKn A xs Γn (D Rt) → Option A} {ρ : HS Γ} {k : DKn A xs Γn (D Rt)} {st : St} {r : A},
    den X rs Rt c A xs Γn Γ = some d → Rep Γ ρ st → d ρ k = some r → pwpS E (erase c) (PostT rs Rt k r) st := by
  intro c
  induction c with
  | skip =>
    intro A xs Γn Γ d ρ k st r h hr hd
    simp only [den] at h
    split at h <;> try (cases h; done)
    rename_i f hf
    cases h
    exact ⟨st, Seen.refl st, _, coeC_ok hf hr, hd⟩
  | reg draw D ls =>
    intro A xs Γn Γ d ρ k st r h hr hd
    simp only [den] at h
    split at h <;> try (cases h; done)
    rename_i q hq
    split at h <;> try (cases h; done)
    rename_i f hf
    cases h
    obtain ⟨st', h1, ρ', h2, h3⟩ := denReg_ok hT hq hr hd
    exact ⟨st, Seen.refl st, st', h1, _, coeC_ok hf h2, h3⟩
  | sq a b iha ihb =>
    intro A xs Γn Γ d ρ k st r h hr hd
    simp only [den] at h
    split at h <;> try (cases h; done)
    rename_i q hq
    split at h <;> try (cases h; done)
    rename_i db hdb
    cases h
    exact ⟨st, Seen.refl st, denS_ok hT hq hr hd fun st' ρ' h1 h2 => ihb hdb h1 h2⟩
  | seq Γm a b iha ihb =>
    intro A xs Γn Γ d ρ k st r h hr hd
    simp only [den] at h
    split at h <;> try (cases h; done)
    rename_i da db hda hdb
    cases h
    refine ⟨st, Seen.refl st, pwpS_mono _ (fun e s hp => ?_) (iha hda hr hd)⟩
    cases e with
    | normal =>
      obtain ⟨ρ', h1, h2⟩ := hp
      exact ihb hdb h1 h2
    | exit i => exact hp
    | ret => exact hp
  | join Γm ex rt a b iha ihb =>
    intro A xs Γn Γ d ρ k st r h hr hd
    simp only [den] at h
    split at h <;> try (cases h; done)
    rename_i ys hys
    split at h <;> try (cases h; done)
    rename_i g da db hg hda hdb
    cases h
    obtain ⟨o, h1, h2⟩ := Option.bind_eq_some_iff.1 hd
    refine ⟨st, Seen.refl st, pwpS_mono _ (fun e s hp => ?_) (iha hda hr h1)⟩
    have hk : ∀ o', o' = o → elX ((0, Γm) :: ys) rt (fun ρm => db ρm k, g k.e) k.r o' = some r := fun o' ho => ho ▸ h2
    cases e with
    | normal =>
      obtain ⟨ρ', h3, h4⟩ := hp
      exact ihb hdb h3 (keX_head (ke := (fun ρm => db ρm k, g k.e)) h4 hk)
    | exit i =>
      obtain ⟨Γi, s', ρ', h3, h4, h5⟩ := hp
      obtain ⟨s2, h6, h7⟩ := keX_tail (A := A) (ke := (fun ρm => db ρm k, g k.e)) h3 h5 hk
      obtain ⟨s3, h8, h9⟩ := selE_ok hg h6 h7
      exact ⟨Γi, s3, ρ', h8, h4, h9⟩
    | ret =>
      obtain ⟨v, c, h3, h4, h5⟩ := hp
      exact ⟨v, c, h3, h4, rtX_ok (ke := (fun ρm => db ρm k, g k.e)) h5 hk⟩
  | cond c x y ihx ihy =>
    intro A xs Γn Γ d ρ k st r h hr hd
    simp only [den] at h
    split at h <;> try (cases h; done)
    rename_i e dx dy he hdx hdy
    cases h
    obtain ⟨b, h1, h2⟩ := Dyn.app_some hd
    obtain ⟨cv, e1, e2⟩ := rdV_ok (G := X.G) he hr h1
    unfold Can at e2
    cases e2
    refine ⟨st, Seen.refl st, b, by rw [hT.G]; exact e1, fun hb => ?_, fun hb => ?_⟩
    · rw [if_pos hb] at h2
      exact ihx hdx hr h2
    · rw [if_neg (by simp [hb])] at h2
      exact ihy hdy hr h2
  | block id b ih =>
    intro A xs Γn Γ d ρ k st r h hr hd
    simp only [den] at h
    split at h <;> try (cases h; done)
    rename_i db hdb
    cases h
    refine ⟨st, Seen.refl st, pwpS_mono _ (fun e s hp => ?_) (ih hdb hr hd)⟩
    cases e with
    | normal => exact hp
    | exit i =>
      obtain ⟨Γi, s', ρ', h3, h4, h5⟩ := hp
      simp only [findE] at h3
      by_cases hi : i = id
      · subst hi
        simp only [if_true, Option.some.injEq, Sigma.mk.injEq] at h3
        obtain ⟨rfl, h3⟩ := h3
        cases eq_of_heq h3
        simp only [if_true]
        exact ⟨ρ', h4, h5⟩
      · simp only [if_neg hi]
        rw [if_neg (fun e => hi e.symm)] at h3
        split at h3 <;> try (cases h3; done)
        rename_i q hq
        cases h3
        exact ⟨_, _, ρ', hq, h4, h5⟩
    | ret => exact hp
  | loop Γh ex rt b ih =>
    intro A xs Γn Γ d ρ k st r h hr hd
    simp only [den] at h
    split at h <;> try (cases h; done)
    rename_i ys hys
    split at h <;> try (cases h; done)
    rename_i g f db hg hf hdb
    cases h
    obtain ⟨o, h1, h2⟩ := Option.bind_eq_some_iff.1 hd
    obtain ⟨n, hn⟩ := iter_some.1 h1
    refine ⟨st, Seen.refl st, fun m s => ∃ ρ, Rep Γh ρ s ∧ iterN (fun ρ => db ρ ⟨fun ρ' => some (.inl ρ'), keX ys rt Sum.inr, rtX ys rt Sum.inr⟩) m ρ = some o, ⟨n, f ρ, coeC_ok hf hr, hn⟩, fun m s hR => ?_⟩
    obtain ⟨ρ1, hr1, hi⟩ := hR
    cases m with
    | zero => cases hi
    | succ m =>
      simp only [iterN] at hi
      obtain ⟨w, h3, h4⟩ := Option.bind_eq_some_iff.1 hi
      refine pwpS_mono _ (fun e s' hp => ?_) (ih hdb hr1 h3)
      have hk : ∀ o', Sum.inr o' = w → elX ys rt (g k.e) k.r o' = some r := fun o' ho => by
        subst ho
        simp only [Option.some.injEq] at h4
        rw [h4]; exact h2
      cases e with
      | normal =>
        obtain ⟨ρ', h5, h6⟩ := hp
        cases h6
        exact ⟨m, by omega, ρ', h5, h4⟩
      | exit i =>
        obtain ⟨Γi, s2, ρ', h5, h6, h7⟩ := hp
        obtain ⟨s3, h8, h9⟩ := keX_find (A := A) (ke := g k.e) h5 h7 hk
        obtain ⟨s4, h10, h11⟩ := selE_ok hg h8 h9
        exact ⟨Γi, s4, ρ', h10, h6, h11⟩
      | ret =>
        obtain ⟨v, c, h5, h6, h7⟩ := hp
        exact ⟨v, c, h5, h6, rtX_ok (ke := g k.e) h7 hk⟩
  | exit i =>
    intro A xs Γn Γ d ρ k st r h hr hd
    simp only [den] at h
    split at h <;> try (cases h; done)
    rename_i q hq
    split at h <;> try (cases h; done)
    rename_i f hf
    cases h
    exact ⟨st, Seen.refl st, q.1, q.2, _, hq, coeC_ok hf hr, hd⟩
  | ret =>
    intro A xs Γn Γ d ρ k st r h hr hd
    simp only [den] at h
    split at h <;> try (cases h; done)
    rename_i q hq
    split at h <;> try (cases h; done)
    rename_i g hg
    cases h
    obtain ⟨v, h1, h2⟩ := Dyn.app_some hd
    obtain ⟨c, h3, h4⟩ := resT_ok hr hq h1
    exact ⟨st, Seen.refl st, _, c, h3, coeT_can _ _ hg h4, h2⟩
  | raw c =>
    intro A xs Γn Γ d ρ k st r h hr hd
    simp only [den, Option.some.injEq] at h
    subst h
    cases hd
  | gh g c ih =>
    intro A xs Γn Γ d ρ k st r h hr hd
    simp only [den] at h
    split at h <;> try (cases h; done)
    rename_i p hp
    split at h <;> try (cases h; done)
    rename_i dc hdc
    cases h
    obtain ⟨st', h1, h2⟩ := ghT_ok hp hr
    exact pwpS_seen h1 (ih hdc h2 hd)
end
end WB
namespace WB
open Go Go.RowKit

structure AF where
  n : Nat
  code : AC
  res : List SRes

@[reducible] def slotsT : Ty → Nat → TC
  | .one t, i => [(.s i, .v t)]
  | .cons t r, i => (.s i, .v t) :: slotsT r (i + 1)
  | _, _ => []
def slotsP : (a : Ty) → (i : Nat) → D a → HS (slotsT a i)
  | .one _, _, x => (x, ())
  | .cons _ r, i, x => (x.1, slotsP r (i + 1) x.2)
  | .int _, _, _ | .bool, _, _ | .str, _, _ | .err, _, _ | .clo _ _, _, _ | .nsl, _, _ | .nmap, _, _ | .agg _, _, _ | .tup _, _, _ | .sl _, _, _ | .map _ _, _, _ | .nil, _, _ => ()

theorem slots_get : ∀ {a : Ty} {i : Nat} {x : D a} {l : List CV} {p : Key} {q : Σ k : EK, HS (slotsT a i) → DK k}, Can a x l → get (slotsT a i) p = some q → ∃ j c, p = .s (i + j) ∧ l[j]? = some c ∧ RS q.1 (q.2 (slotsP a i x)) (.c c)
  | .one t, i, x, l, p, q, hc, hg => by
    unfold Can at hc
    obtain ⟨c, rfl, hc⟩ := hc
    by_cases hp : Key.s i = p
    · subst hp
      have hg' : get ((Key.s i, EK.v t) :: []) (Key.s i) = some q := hg
      rw [get_eq] at hg'
      cases hg'
      exact ⟨0, c, rfl, rfl, c, rfl, hc⟩
    · obtain ⟨f, hf, _⟩ := get_ne hp hg
      cases hf
  | .cons t r, i, x, l, p, q, hc, hg => by
    unfold Can at hc
    obtain ⟨c, l', rfl, h1, h2⟩ := hc
    by_cases hp : Key.s i = p
    · subst hp
      have hg' : get ((Key.s i, EK.v t) :: slotsT r (i + 1)) (Key.s i) = some q := hg
      rw [get_eq] at hg'
      cases hg'
      exact ⟨0, c, rfl, rfl, c, rfl, h1⟩
    · obtain ⟨f, hf, hx⟩ := get_ne hp hg
      obtain ⟨j, c', h3, h4, h5⟩ := slots_get (i := i + 1) h2 hf
      refine ⟨j + 1, c', by rw [h3]; congr 1; omega, by simpa using h4, ?_⟩
      have e := hx (slotsP (.cons t r) i x)
      rw [e]; exact h5
  | .int _, _, _, _, _, _, _, hg => by cases hg
  | .bool, _, _, _, _, _, _, hg => by cases hg
  | .str, _, _, _, _, _, _, hg => by cases hg
  | .err, _, _, _, _, _, _, hg => by cases hg
  | .clo _ _, _, _, _, _, _, _, hg => by cases hg
  | .nsl, _, _, _, _, _, _, hg => by cases hg
  | .nmap, _, _, _, _, _, _, hg => by cases hg
  | .agg _, _, _, _, _, _, _, hg => by cases hg
  | .tup _, _, _, _, _, _, _, hg => by cases hg
  | .sl _, _, _, _, _, _, _, hg => by cases hg
  | .map _ _, _, _, _, _, _, _, hg => by cases hg
  | .nil, _, _, _, _, _, _, hg => by cases hg

theorem init_rep {a : Ty} {x : D a} {l : List CV} (hc : Can a x l) : Rep (slotsT a 0) (slotsP a 0 x) (init l) := by
  refine ⟨fun i q hq => ?_, fun id q hq => ?_⟩
  · obtain ⟨j, c, h1, h2, h3⟩ := slots_get hc hq
    simp only [Nat.zero_add, Key.s.injEq] at h1
    subst h1
    simp only [init, h2]
    exact h3
  · obtain ⟨j, c, h1, _⟩ := slots_get hc hq
    cases h1

def kN : (rs : List SRes) → (Rt : Ty) → Option (D Rt)
  | [], .tup .nil => some ()
  | _, _ => none
theorem kN_some {rs : List SRes} {Rt : Ty} {y : D Rt} (h : kN rs Rt = some y) (st : St) : ∃ c, resOf st rs = some c ∧ Can Rt y [c] := by
  unfold kN at h
  split at h
  · exact ⟨.tup [], rfl, by unfold Can; exact ⟨[], rfl, by unfold Can; rfl⟩⟩
  · cases h

noncomputable def funT (X : TP) (a Rt : Ty) (m : AF) : Option (D a → Option (D Rt)) :=
  match den X m.res Rt m.code (D Rt) [] [] (slotsT a 0) with
  | some d => some fun x => d (slotsP a 0 x) ⟨fun _ => kN m.res Rt, (), fun y => some y⟩
  | none => none

theorem funT_ok {P : Program} {X : TP} {E : Env} (hE : EOk P E) (hT : TOk X E) {a Rt : Ty} {m : AF} {g : D a → Option (D Rt)} (h : funT X a Rt m = some g) {f : FuncId} (hc : compF P f = some ⟨m.n, erase m.code, m.res⟩) {k : Nat} (hl : lenR a = some k) (hk : k ≤ m.n)
    {x : D a} {l : List CV} {y : D Rt} (hx : Can a x l) (hy : g x = some y) : hasBody P f = true ∧ CallsTo P E.G f l (.val (enc Rt y)) := by
  unfold funT at h
  split at h <;> try (cases h; done)
  rename_i d hd
  cases h
  refine fn_okT hE hc (by rw [lenR_can hl hx]; exact hk) (pwpS_mono _ (fun e st hp => ?_) (den_ok hT m.code hd (init_rep hx) hy))
  cases e with
  | normal =>
    obtain ⟨ρ, _, h2⟩ := hp
    exact kN_some h2 st
  | exit i =>
    obtain ⟨Γi, s, ρ, h1, _⟩ := hp
    cases h1
  | ret =>
    obtain ⟨v, c, h1, h2, h3⟩ := hp
    cases h3
    exact ⟨c, h1, h2⟩

/-! ### Environments -/

structure TB where
  G : Nat → List CV
  TT : Nat → Option Ty
  TM : Nat → Option (Ty × Ty)

def lookS : List (FuncId × Sig) → FuncId → Option Sig
  | [], _ => none
  | e :: L, f => if e.1 = f then some e.2 else lookS L f
def tp (B : TB) (L : List (FuncId × Sig)) : TP := ⟨B.G, lookS L, B.TT, B.TM⟩

open Classical in
noncomputable def envT (X : TP) : Env := { G := X.G, fn := fun f l => match X.T f with
  | some s => if h : ∃ x, Can s.a x l then (s.fn (choose h)).map fun y => .val (enc s.r y) else none
  | none => none }

theorem envT_fn {X : TP} {f : FuncId} {s : Sig} (hs : X.T f = some s) {x : D s.a} {l : List CV} {y : D s.r} (hx : Can s.a x l) (hy : s.fn x = some y) : (envT X).fn f l = some (.val (enc s.r y)) := by
  have hh : ∃ x, Can s.a x l := ⟨x, hx⟩
  simp only [envT, hs, dif_pos hh]
  rw [Can.uniq s.a (Classical.choose_spec hh) hx, hy]; rfl
theorem envT_some {X : TP} {f : FuncId} {l : List CV} {r : Res} (h : (envT X).fn f l = some r) : ∃ s x y, X.T f = some s ∧ Can s.a x l ∧ s.fn x = some y ∧ r = .val (enc s.r y) := by
  simp only [envT] at h
  split at h <;> try (cases h; done)
  rename_i s hs
  split at h <;> try (cases h; done)
  rename_i hh
  obtain ⟨y, h1, h2⟩ := Option.map_eq_some_iff.1 h
  exact ⟨s, _, y, hs, Classical.choose_spec hh, h1, h2.symm⟩

structure GoodT (P : Program) (B : TB) (L : List (FuncId × Sig)) : Prop where
  E : EOk P (envT (tp B L))
  T : TOk (tp B L) (envT (tp B L))

theorem GoodT.nil (P : Program) (B : TB) : GoodT P B [] := by
  refine ⟨fun f l r h => ?_, rfl, fun f s h => ?_⟩
  · obtain ⟨s, x, y, h1, _⟩ := envT_some h
    cases h1
  · cases h

/-- A function whose contract is shown otherwise. -/
theorem GoodT.addM {P : Program} {B : TB} {L : List (FuncId × Sig)} (h : GoodT P B L) (f : FuncId) (s : Sig) (hv : (s.r.val && s.r.ok) = true) (hf : ∀ x l y, Can s.a x l → s.fn x = some y → hasBody P f = true ∧ CallsTo P B.G f l (.val (enc s.r y))) : GoodT P B ((f, s) :: L) := by
  simp only [Bool.and_eq_true] at hv
  refine ⟨fun g l r hr => ?_, rfl, fun g s' hs => ?_⟩
  · obtain ⟨s', x, y, h1, h2, h3, rfl⟩ := envT_some hr
    have h1' : lookS ((f, s) :: L) g = some s' := h1
    unfold lookS at h1'
    by_cases hg : f = g
    · subst hg
      simp only [if_true, Option.some.injEq] at h1'
      subst h1'
      exact hf x l y h2 h3
    · simp only [hg, if_false] at h1'
      exact h.E g l _ (envT_fn (X := tp B L) h1' h2 h3)
  · refine ⟨?_, ?_, fun x l y hx hy => envT_fn hs hx hy⟩ <;>
    · have h1' : lookS ((f, s) :: L) g = some s' := hs
      unfold lookS at h1'
      by_cases hg : f = g
      · simp only [hg, if_true, Option.some.injEq] at h1'
        subst h1'
        first | exact hv.1 | exact hv.2
      · simp only [hg, if_false] at h1'
        first | exact (h.T.fn g s' h1').1 | exact (h.T.fn g s' h1').2.1

/-- A function read over plain data. -/
theorem GoodT.add {P : Program} {B : TB} {L : List (FuncId × Sig)} (h : GoodT P B L) (f : FuncId) (s : Sig) (m : AF) (hc : compF P f = some ⟨m.n, erase m.code, m.res⟩) (hg : funT (tp B L) s.a s.r m = some s.fn) {k : Nat} (hl : lenR s.a = some k) (hk : Nat.ble k m.n = true) (hv : (s.r.val && s.r.ok) = true) : GoodT P B ((f, s) :: L) :=
  h.addM f s hv fun _ _ _ hx hy => funT_ok h.E h.T hg hc hl (Nat.le_of_ble_eq_true hk) hx hy

theorem GoodT.call {P : Program} {B : TB} {L : List (FuncId × Sig)} (h : GoodT P B L) {f : FuncId} {s : Sig} (hs : lookS L f = some s) {x : D s.a} {l : List CV} {y : D s.r} (hx : Can s.a x l) (hy : s.fn x = some y) : CallsTo P B.G f l (.val (enc s.r y)) :=
  (h.E f l _ (envT_fn (X := tp B L) hs hx hy)).2
end WB
namespace WB
open Go Go.RowKit

theorem RelL.ints {w : World} {M : Nat → Prop} {k : IntKind} : ∀ {zs : List Int} {vs : List Value}, RelL w M (zs.map fun z => .int k z) vs → vs = zs.map fun z => Value.int k z
  | [], vs, h => by unfold RelL at h; exact h
  | z :: zs, vs, h => by
    simp only [List.map_cons] at h
    unfold RelL at h
    obtain ⟨v, vs', rfl, h1, h2⟩ := h
    unfold RelC at h1
    rw [h1, RelL.ints h2]; rfl

/-- A table that may be read is what the kit's contracts ask of it. -/
theorem GOk.tab {P : Program} {G : Nat → List CV} {w : World} {M : Nat → Prop} (h : GOk G w M) {name : String} {k : IntKind} {zs : List Int} {g : Nat} (hg : P.globalNamed name = some g) (hG : G g = zs.map fun z => .int k z) (hz : zs ≠ []) : Lib.TabIs P w name k zs := by
  obtain ⟨h1, cs, t, fr, h2, h3⟩ := h g (by rw [hG]; simpa using hz)
  rw [hG] at h1 h3
  unfold RelC at h1
  obtain ⟨ad, vs, e, _, _, hl, hc⟩ := h1
  cases e
  have hv := RelL.ints hl
  subst hv
  unfold Lib.TabIs World.var?
  rw [hg]
  simp only [Option.bind_some, h2, Option.some.injEq]
  apply Array.ext_getElem?
  intro i
  by_cases hi : i < zs.length
  · have := hc i (.int k zs[i]) (by simp [hi])
    have e2 : (({ block := g, off := 0, spot := none } : Addr).add i) = { block := g, off := i, spot := none } := by
      unfold Addr.add
      by_cases h0 : i = 0 <;> simp [h0]
    rw [e2] at this
    simp only [World.cell?, h2] at this
    rw [show (cs[i]? = some (Value.int k zs[i])) from by simpa using this]
    simp [hi]
  · rw [Array.getElem?_eq_none (by simp at h3; omega), Array.getElem?_eq_none (by simp; omega)]

/-- strconv.FormatInt at base 10. -/
def strconv_FormatInt : Int × Int → Option (List UInt8) := fun x => if x.2 = 10 ∧ -9223372036854775808 ≤ x.1 ∧ x.1 ≤ 9223372036854775807 then some (Lib.itoa x.1) else none
theorem strconv_FormatInt_ok {P : Program} {B : TB} {f g : Nat} (hb : hasBody P f = true) (hg : P.globalNamed "internal/strconv.uint64pow10" = some g) (hG : B.G g = Lib.pow10Tab.map fun z => .int .u64 z)
    (hc : ∀ (n : Int) (_ : -9223372036854775808 ≤ n) (_ : n ≤ 9223372036854775807) (w : World) (_ : Lib.TabIs P w "internal/strconv.uint64pow10" .u64 Lib.pow10Tab), Calls P f #[.int .i64 n, .int .i64 10] w fun e w' => e = .returned (.string ⟨(Lib.itoa n).toArray⟩) ∧ ∃ k os, w' = Sort.grow (w.drewN k) os)
    {x : D (.cons (.int .i64) (.one (.int .i64)))} {l : List CV} {y : D .str} (hx : Can (.cons (.int .i64) (.one (.int .i64))) x l) (hy : strconv_FormatInt x = some y) : hasBody P f = true ∧ CallsTo P B.G f l (.val (enc .str y)) := by
  refine ⟨hb, fun w M vs hM hGk hL => ?_⟩
  obtain ⟨n, b⟩ := x
  simp only [strconv_FormatInt] at hy
  split at hy
  · rename_i h
    obtain ⟨rfl, h0, h1⟩ := h
    cases hy
    unfold Can at hx
    obtain ⟨c, l', rfl, h2, h3⟩ := hx
    unfold Can at h2 h3
    obtain ⟨c', rfl, h3⟩ := h3
    unfold Can at h3
    cases h2; cases h3
    unfold RelL RelC at hL
    obtain ⟨v, vs', rfl, rfl, hL⟩ := hL
    unfold RelL RelC at hL
    obtain ⟨v, vs', rfl, rfl, hL⟩ := hL
    unfold RelL at hL
    subst hL
    refine (hc n h0 h1 w (hGk.tab hg hG (by simp [Lib.pow10Tab]))).mono fun e w' he => ?_
    obtain ⟨rfl, k, os, rfl⟩ := he
    refine ⟨_, rfl, Lib.below_grow _ _ (Nat.le_refl _) _ _, ?_⟩
    simp [RelR, enc, encL, RelC]
  · cases hy

/-- strings.TrimRight at one byte of ASCII. -/
def strings_TrimRight : List UInt8 × List UInt8 → Option (List UInt8) := fun x => match x.2 with
  | [c] => if c.toNat < 128 ∧ x.1.length ≤ 9223372036854775807 then some (Lib.trimRightB x.1 c) else none
  | _ => none
theorem strings_TrimRight_ok {P : Program} {B : TB} {f : Nat} (hb : hasBody P f = true)
    (hc : ∀ (s : ByteArray) (c : UInt8) (_ : c.toNat < 128) (w : World) (_ : s.size ≤ 9223372036854775807), Calls P f #[.string s, .string ⟨#[c]⟩] w fun e w' => e = .returned (.string ⟨(Lib.trimRightB s.data.toList c).toArray⟩) ∧ w' = w)
    {x : D (.cons .str (.one .str))} {l : List CV} {y : D .str} (hx : Can (.cons .str (.one .str)) x l) (hy : strings_TrimRight x = some y) : hasBody P f = true ∧ CallsTo P B.G f l (.val (enc .str y)) := by
  refine ⟨hb, fun w M vs hM hGk hL => ?_⟩
  obtain ⟨s, b⟩ := x
  simp only [strings_TrimRight] at hy
  split at hy <;> try (cases hy; done)
  rename_i c
  split at hy
  · rename_i h
    obtain ⟨h0, h1⟩ := h
    cases hy
    unfold Can at hx
    obtain ⟨c1, l', rfl, h2, h3⟩ := hx
    unfold Can at h2 h3
    obtain ⟨c', rfl, h3⟩ := h3
    unfold Can at h3
    cases h2; cases h3
    unfold RelL RelC at hL
    obtain ⟨v, vs', rfl, rfl, hL⟩ := hL
    unfold RelL RelC at hL
    obtain ⟨v, vs', rfl, rfl, hL⟩ := hL
    unfold RelL at hL
    subst hL
    refine (hc ⟨⟨s⟩⟩ c h0 w (by simpa [ByteArray.size] using h1)).mono fun e w' he => ?_
    obtain ⟨rfl, rfl⟩ := he
    refine ⟨_, rfl, Below.refl _ _, ?_⟩
    simp [RelR, enc, encL, RelC]
  · cases hy
/-- Two texts as arguments. -/
theorem rel_str2 {w : World} {M : Nat → Prop} {x : D (.cons .str (.one .str))} {l : List CV} {vs : List Value} (hx : Can (.cons .str (.one .str)) x l) (hL : RelL w M l vs) : vs = [.string ⟨⟨x.1⟩⟩, .string ⟨⟨x.2⟩⟩] := by
  obtain ⟨s, b⟩ := x
  unfold Can at hx
  obtain ⟨c1, l', rfl, h2, h3⟩ := hx
  unfold Can at h2 h3
  obtain ⟨c', rfl, h3⟩ := h3
  unfold Can at h3
  cases h2; cases h3
  unfold RelL RelC at hL
  obtain ⟨v, vs', rfl, rfl, hL⟩ := hL
  unfold RelL RelC at hL
  obtain ⟨v, vs', rfl, rfl, hL⟩ := hL
  unfold RelL at hL
  subst hL
  rfl
/-- strings.Index of one byte. -/
def internal_stringslite_Index : List UInt8 × List UInt8 → Option Int := fun x => match x.2 with
  | [c] => some (Lib.indexByte x.1 c)
  | _ => none
theorem internal_stringslite_Index_ok {P : Program} {B : TB} {f : Nat} (hb : hasBody P f = true)
    (hc : ∀ (s : ByteArray) (c : UInt8) (w : World), Calls P f #[.string s, .string ⟨#[c]⟩] w fun e w' => e = .returned (.int .i64 (Lib.indexByte s.data.toList c)) ∧ w' = w)
    {x : D (.cons .str (.one .str))} {l : List CV} {y : D (.int .i64)} (hx : Can (.cons .str (.one .str)) x l) (hy : internal_stringslite_Index x = some y) : hasBody P f = true ∧ CallsTo P B.G f l (.val (enc (.int .i64) y)) := by
  refine ⟨hb, fun w M vs hM hGk hL => ?_⟩
  rw [rel_str2 hx hL]
  obtain ⟨s, b⟩ := x
  simp only [internal_stringslite_Index] at hy
  split at hy <;> try (cases hy; done)
  rename_i c
  cases hy
  refine (hc ⟨⟨s⟩⟩ c w).mono fun e w' he => ?_
  obtain ⟨rfl, rfl⟩ := he
  refine ⟨_, rfl, Below.refl _ _, ?_⟩
  simp [RelR, enc, encL, RelC]
/-- stringslite.IndexByte. -/
def internal_stringslite_IndexByte : List UInt8 × Int → Option Int := fun x => some (Lib.indexByte x.1 x.2.toNat.toUInt8)
theorem internal_stringslite_IndexByte_ok {P : Program} {B : TB} {f : Nat} (hb : hasBody P f = true)
    (hc : ∀ (s : ByteArray) (c : Int) (w : World), Calls P f #[.string s, .int .u8 c] w fun e w' => e = .returned (.int .i64 (Lib.indexByte s.data.toList c.toNat.toUInt8)) ∧ w' = w)
    {x : D (.cons .str (.one (.int .u8)))} {l : List CV} {y : D (.int .i64)} (hx : Can (.cons .str (.one (.int .u8))) x l) (hy : internal_stringslite_IndexByte x = some y) : hasBody P f = true ∧ CallsTo P B.G f l (.val (enc (.int .i64) y)) := by
  refine ⟨hb, fun w M vs hM hGk hL => ?_⟩
  obtain ⟨s, c⟩ := x
  cases hy
  unfold Can at hx
  obtain ⟨c1, l', rfl, h2, h3⟩ := hx
  unfold Can at h2 h3
  obtain ⟨c', rfl, h3⟩ := h3
  unfold Can at h3
  cases h2; cases h3
  unfold RelL RelC at hL
  obtain ⟨v, vs', rfl, rfl, hL⟩ := hL
  unfold RelL RelC at hL
  obtain ⟨v, vs', rfl, rfl, hL⟩ := hL
  unfold RelL at hL
  subst hL
  refine (hc ⟨⟨s⟩⟩ c w).mono fun e w' he => ?_
  obtain ⟨rfl, rfl⟩ := he
  refine ⟨_, rfl, Below.refl _ _, ?_⟩
  simp [RelR, enc, encL, RelC]

/-! ### Tables from a row's list -/

theorem laid_mem {P : Program} {w : World} : ∀ {l : List (String × DataW Unit)} {ps : List MemPlace}, DataW.LaidVars P w l ps → ∀ {name : String} {d : DataW Unit}, (name, d) ∈ l → ∃ g t cs fuel p, P.globalNamed name = some g ∧ (P.globals[g]?).map (·.type) = some t ∧ w.var? P name = some cs ∧ DataW.trod (fun _ => ()) P w 0 (fun _ => true) false fuel t cs.toList = some (d, p)
  | [], _, _, _, _, hm => by cases hm
  | (n, d) :: l, ps, h, name, d', hm => by
    obtain ⟨g, t, cs, fuel, p, q, h1, h2, h3, h4, h5, h6⟩ := h
    rcases List.mem_cons.1 hm with e | hm
    · cases e
      exact ⟨g, t, cs, fuel, p, h1, h2, h3, h4⟩
    · exact laid_mem h5 hm
theorem tabIs_of_mem {P : Program} {W : World} {l : List (String × DataW Unit)} {name : String} {k : IntKind} {zs : List Int} {g : Nat} {t e : TypeId} {n : Nat} (hm : (name, Lib.tabData k zs) ∈ l)
    (hg : P.globalNamed name = some g) (hty : (P.globals[g]?).map (·.type) = some t) (ht : P.underlying t = some (.array n e)) (he : P.underlying e = some (.int k)) (hce : P.cellsOf e = 1) (hct : P.cellsOf t = n)
    (h : laidMet P l W) : Lib.TabIs P W name k zs := by
  obtain ⟨ps, h1, _, _⟩ := h
  obtain ⟨g', t', cs, fuel, p, hg', ht', hvar, hd⟩ := laid_mem h1 hm
  obtain rfl := Option.some.inj (hg.symm.trans hg')
  obtain rfl := Option.some.inj (hty.symm.trans ht')
  unfold Lib.TabIs
  rw [hvar, ← Lib.cells_of_tab ht he hce hct hd]

/-- The cells of a table of one block. -/
def TabCells (w : World) (g : Nat) (vs : List Value) : Prop := ∃ t fr, w.heap[g]? = some (.cells ⟨vs⟩ t fr)
theorem tab_cells {P : Program} {w : World} {name : String} {g : Nat} {vs : List Value} (hg : P.globalNamed name = some g) (h : w.var? P name = some ⟨vs⟩) : TabCells w g vs := by
  unfold World.var? at h
  rw [hg] at h
  simp only [Option.bind_some] at h
  split at h <;> try (cases h; done)
  rename_i cs t fr hh
  cases h
  exact ⟨t, fr, hh⟩
theorem GOk.one {w : World} {g : Nat} {cvs : List CV} {vs : List Value} (h : TabCells w g vs) (hr : RelL w (fun _ => False) cvs vs) :
    RelC w (fun _ => False) (.rp cvs) (.pointer (some ⟨g, 0, none⟩)) ∧ ∃ cs t fr, w.heap[g]? = some (.cells cs t fr) ∧ cs.size = cvs.length := by
  obtain ⟨t, fr, hh⟩ := h
  refine ⟨?_, ⟨vs⟩, t, fr, hh, by simp [hr.length]⟩
  unfold RelC
  refine ⟨⟨g, 0, none⟩, vs, rfl, heap_lt hh, fun hh => hh, hr, fun j u hu => ?_⟩
  have e2 : (({ block := g, off := 0, spot := none } : Addr).add j) = { block := g, off := j, spot := none } := by
    unfold Addr.add
    by_cases h0 : j = 0 <;> simp [h0]
  rw [e2]
  simp only [World.cell?, hh]
  simpa using hu
theorem relL_intsK {w : World} {M : Nat → Prop} {k : IntKind} : ∀ (zs : List Int), RelL w M (zs.map fun z => .int k z) (zs.map fun z => Value.int k z)
  | [] => RelL.nil
  | z :: zs => RelL.cons (by unfold RelC; rfl) (relL_intsK zs)
theorem GOk.ints {P : Program} {w : World} {name : String} {g : Nat} {k : IntKind} {zs : List Int} (hg : P.globalNamed name = some g) (h : Lib.TabIs P w name k zs) :
    RelC w (fun _ => False) (.rp (zs.map fun z => .int k z)) (.pointer (some ⟨g, 0, none⟩)) ∧ ∃ cs t fr, w.heap[g]? = some (.cells cs t fr) ∧ cs.size = (zs.map fun z => CV.int k z).length :=
  GOk.one (tab_cells hg h) (relL_intsK zs)
theorem laidMet_of_H {P : Program} {l : List (String × DataW Unit)} {w : World} (hf : (l.filter fun x => x.2.handleName?.isSome) = []) (h : laidMetH P l w) : laidMet P l w := by
  unfold laidMetH at h
  rw [hf] at h
  exact h
end WB
namespace WB
open Go Go.RowKit Go.ChangeShapes Go.WideShapes Go.Deep

/-- The ranges that types give. -/
def InR : (t : Ty) → D t → Prop
  | .int k, n => k.min ≤ (n : Int) ∧ (n : Int) ≤ k.max
  | .str, s => (s : List UInt8).length ≤ 9223372036854775807
  | .sl e, xs => (xs : List (D e)).length ≤ 9223372036854775807 ∧ ∀ x ∈ (xs : List (D e)), InR e x
  | .agg r, x => InR r x
  | .one t, x => InR t x
  | .cons t r, x => InR t x.1 ∧ InR r x.2
  | _, _ => True

def isAggT (P : Program) (t : TypeId) : Bool :=
  match P.underlying t with
  | some (.struct _) | some (.array _ _) => true
  | _ => false
/-- One value of a type whose cells are a row. -/
def valT (P : Program) (t : TypeId) (r : Ty) : Option Ty :=
  if isAggT P t then some (.agg r) else match r with
    | .one t => if oneT t = true then some t else none
    | _ => none

section
variable (P : Program)
def rowArr (r : Ty) : Nat → Ty
  | 0 => .nil
  | n + 1 => (appR r (rowArr r n)).1
def rowFs (R : TypeId → Option Ty) : List Field → Nat → Option Ty
  | [], _ => some .nil
  | f :: fs, off => (R f.type).bind fun r => (rowFs R fs (off + P.cellsOf f.type)).bind fun q => if f.offset = off ∧ lenR r = some (P.cellsOf f.type) then some (appR r q).1 else none
/-- The row of a type's cells. -/
def rowTy : Nat → TypeId → Option Ty
  | 0, _ => none
  | n + 1, t => match P.underlying t with
    | some (.int k) => some (.one (.int k))
    | some .bool => some (.one .bool)
    | some .string => some (.one .str)
    | some (.slice e) => (rowTy n e).bind fun r => (valT P e r).bind fun te => if te.val = true ∧ lenR (rowOf te) = some (P.cellsOf e) ∧ 0 < P.cellsOf e then some (.one (.sl te)) else none
    | some (.struct fs) => (rowFs P (rowTy n) fs.toList 0).bind fun r => if lenR r = some (P.cellsOf t) then some r else none
    | some (.array m e) => (rowTy n e).bind fun r => if lenR r = some (P.cellsOf e) ∧ lenR (rowArr r m) = some (P.cellsOf t) then some (rowArr r m) else none
    | _ => none
end

theorem InR_app : ∀ {r s : Ty} {n : Nat} {x : D r} {y : D s}, lenR r = some n → InR r x → InR s y → InR (appR r s).1 ((appR r s).2 x y) := by
  intro r
  induction r with
  | nil => intro s n x y _ _ h; exact h
  | one t _ =>
    intro s n x y _ h k
    cases s
    case nil => exact h
    all_goals exact ⟨h, k⟩
  | cons t r _ ihr =>
    intro s n x y hn h k
    simp only [lenR, Option.map_eq_some_iff] at hn
    obtain ⟨n', hn, _⟩ := hn
    exact ⟨h.1, ihr hn h.2 k⟩
  | _ => intro s n x y hn; cases hn

section
variable {H : Type} {enc : TypeId × Value → H} {P : Program} {w : World} {base : Nat} {spare : Nat → Bool} {held : Bool}

/-- A row of cells as one value. -/
theorem one_value {t : TypeId} {r te : Ty} {x : D r} {cvs : List CV} {cs : List Value} (hv : valT P t r = some te) (hl : isAggT P t = false → cs.length = 1) (hc : Can r x cvs) (hr : RelL w (fun _ => False) cvs cs) (hi : InR r x) :
    ∃ (y : D te) (c : CV) (v : Value), Can te y [c] ∧ RelC w (fun _ => False) c v ∧ v.cells.toList = cs ∧ InR te y := by
  unfold valT at hv
  split at hv
  · cases hv
    exact ⟨x, .agg cvs, .agg ⟨cs⟩, by unfold Can; exact ⟨_, rfl, hc⟩, by unfold RelC; exact ⟨_, rfl, hr⟩, rfl, hi⟩
  · rename_i ha
    have hl := hl (by simpa using ha)
    split at hv <;> try (cases hv; done)
    split at hv <;> try (cases hv; done)
    rename_i ho
    cases hv
    unfold Can at hc
    obtain ⟨c, rfl, hc⟩ := hc
    unfold RelL at hr
    obtain ⟨v, vs, rfl, h1, h2⟩ := hr
    unfold RelL at h2
    subst h2
    refine ⟨x, c, v, hc, h1, ?_, hi⟩
    rw [oneCell_of_RelC h1 (fun cs e => by have := oneT_can ho hc; rw [e] at this; cases this)]

theorem take_drop_cons {α : Type} (l : List α) (off n : Nat) : l.drop off = (l.drop off).take n ++ l.drop (off + n) := by
  rw [← List.drop_drop, List.take_append_drop]

/-- All cells of an array. -/
theorem open_arr {r : Ty} {k : Nat} (hk : lenR r = some k) {cs : List Value} : ∀ {m j : Nat}, (∀ i, j ≤ i → i < j + m → ∃ (x : D r) (cvs : List CV), Can r x cvs ∧ RelL w (fun _ => False) cvs ((cs.drop (i * k)).take k) ∧ InR r x) →
    ∃ (x : D (rowArr r m)) (cvs : List CV), Can (rowArr r m) x cvs ∧ RelL w (fun _ => False) cvs ((cs.drop (j * k)).take (m * k)) ∧ InR (rowArr r m) x
  | 0, j, _ => ⟨(), [], rfl, by simp only [Nat.zero_mul, List.take_zero]; exact RelL.nil, trivial⟩
  | m + 1, j, h => by
    obtain ⟨x, cvs, h1, h2, h3⟩ := h j (Nat.le_refl _) (by omega)
    obtain ⟨y, dvs, g1, g2, g3⟩ := open_arr hk (m := m) (j := j + 1) (cs := cs) (fun i h4 h5 => h i (by omega) (by omega))
    refine ⟨(appR r (rowArr r m)).2 x y, cvs ++ dvs, appR_can hk h1 g1, ?_, InR_app hk h3 g3⟩
    have e : (cs.drop (j * k)).take ((m + 1) * k) = (cs.drop (j * k)).take k ++ (cs.drop ((j + 1) * k)).take (m * k) := by
      rw [Nat.add_mul, Nat.one_mul, Nat.add_comm (m * k) k, List.take_add, List.drop_drop, Nat.add_mul, Nat.one_mul]
    rw [e]
    exact RelL.append h2 g2

theorem wf_int {k : IntKind} {n : Int} (h : (Lit.int k n).wf = true) : k.min ≤ n ∧ n ≤ k.max := by
  simpa [Lit.wf] using h

theorem exists_two {α β : Type} {p : Nat → α → β → Prop} : ∀ (n : Nat), (∀ i, i < n → ∃ x y, p i x y) → ∃ (l : List α) (m : List β), l.length = n ∧ m.length = n ∧ ∀ (i : Nat) x y, l[i]? = some x → m[i]? = some y → p i x y := by
  intro n h
  obtain ⟨l, hl, hp⟩ := exists_list (p := fun i (z : α × β) => p i z.1 z.2) n (fun i hi => by obtain ⟨x, y, h⟩ := h i hi; exact ⟨(x, y), h⟩)
  refine ⟨l.map (·.1), l.map (·.2), by simp [hl], by simp [hl], fun i x y h1 h2 => ?_⟩
  rw [List.getElem?_map, Option.map_eq_some_iff] at h1 h2
  obtain ⟨z, hz, rfl⟩ := h1
  obtain ⟨z', hz', rfl⟩ := h2
  rw [hz] at hz'
  cases hz'
  exact hp i z hz

theorem CanAll_of {α β : Type} {R : α → β → Prop} : ∀ {as : List α} {bs : List β}, as.length = bs.length → (∀ (i : Nat) a b, as[i]? = some a → bs[i]? = some b → R a b) → CanAll R as bs
  | [], [], _, _ => rfl
  | [], _ :: _, h, _ => by cases h
  | _ :: _, [], h, _ => by cases h
  | a :: as, b :: bs, h, hr => ⟨b, bs, rfl, hr 0 a b rfl rfl, CanAll_of (by simpa using h) fun i x y h1 h2 => hr (i + 1) x y (by simpa using h1) (by simpa using h2)⟩

theorem open_fs {R : TypeId → Option Ty} (hR : ∀ {t : TypeId} {r : Ty} {fuel : Nat} {cs : List Value} {y : DataW H × List MemPlace}, R t = some r → DataW.trod enc P w base spare held fuel t cs = some y → ∃ (x : D r) (cvs : List CV), Can r x cvs ∧ RelL w (fun _ => False) cvs cs ∧ InR r x) : ∀ {fs : List Field} {off : Nat} {r : Ty} {cs : List Value}, rowFs P R fs off = some r → (∀ f ∈ fs, ∃ fuel y, DataW.trod enc P w base spare held fuel f.type ((cs.drop f.offset).take (P.cellsOf f.type)) = some y) →
    ∃ (x : D r) (cvs : List CV), Can r x cvs ∧ RelL w (fun _ => False) cvs ((cs.drop off).take cvs.length) ∧ InR r x
  | [], off, r, cs, h, _ => by
    unfold rowFs at h
    cases h
    exact ⟨(), [], rfl, by simp only [List.length_nil, List.take_zero]; exact RelL.nil, trivial⟩
  | f :: fs, off, r, cs, h, hd => by
    unfold rowFs at h
    obtain ⟨r', h1, h⟩ := Option.bind_eq_some_iff.1 h
    obtain ⟨q, h2, h⟩ := Option.bind_eq_some_iff.1 h
    split at h <;> try (cases h; done)
    rename_i hh
    obtain ⟨hoff, hlen⟩ := hh
    cases h
    obtain ⟨fuel, y, hy⟩ := hd f (by simp)
    obtain ⟨x, cvs, g1, g2, g3⟩ := hR h1 hy
    obtain ⟨x', cvs', k1, k2, k3⟩ := open_fs hR (cs := cs) h2 (fun f' hf' => hd f' (by simp [hf']))
    refine ⟨(appR r' q).2 x x', cvs ++ cvs', appR_can hlen g1 k1, ?_, InR_app hlen g3 k3⟩
    have hl := lenR_can hlen g1
    rw [hoff, ← hl] at g2
    rw [← hl] at k2
    rw [List.length_append, List.take_add, List.drop_drop]
    exact RelL.append g2 k2

theorem open_cells : ∀ {n : Nat} {t : TypeId} {r : Ty} {fuel : Nat} {cs : List Value} {y : DataW H × List MemPlace}, rowTy P n t = some r → DataW.trod enc P w base spare held fuel t cs = some y → (isAggT P t = false → cs.length = 1) ∧ ∃ (x : D r) (cvs : List CV), Can r x cvs ∧ RelL w (fun _ => False) cvs cs ∧ InR r x
  | 0, _, _, _, _, _, h, _ => by cases h
  | n + 1, t, r, fuel, cs, y, h, hd => by
    unfold rowTy at h
    split at h
    · rename_i k ht
      cases h
      obtain ⟨m, rfl, _, hw⟩ := DataW.trod_int ht hd
      exact ⟨fun _ => rfl, m, [.int k m], ⟨_, rfl, rfl⟩, RelL.cons rfl RelL.nil, wf_int hw⟩
    · rename_i ht
      cases h
      obtain ⟨b, rfl, _⟩ := DataW.trod_bool ht hd
      exact ⟨fun _ => rfl, b, [.bool b], ⟨_, rfl, rfl⟩, RelL.cons rfl RelL.nil, trivial⟩
    · rename_i ht
      cases h
      obtain ⟨s, rfl, _, hs⟩ := DataW.trod_string ht hd
      refine ⟨fun _ => rfl, s.data.toList, [.str s.data.toList], ⟨_, rfl, rfl⟩, RelL.cons rfl RelL.nil, ?_⟩
      have h9 : s.size ≤ 9223372036854775807 := hs
      show s.data.toList.length ≤ 9223372036854775807
      rw [Array.length_toList]
      exact h9
    · rename_i e ht
      obtain ⟨r', h1, h⟩ := Option.bind_eq_some_iff.1 h
      obtain ⟨te, h2, h⟩ := Option.bind_eq_some_iff.1 h
      split at h <;> try (cases h; done)
      rename_i hh
      obtain ⟨hv, hlen, hpos⟩ := hh
      cases h
      rcases open_slice ht hd with ⟨h0, _⟩ | ⟨a, len, cap, m, n', D', Pl, hcs, hb, hl, hm, hmm, hx, hi⟩
      · subst h0
        refine ⟨fun _ => rfl, [], [.sl (some true) []], ⟨_, rfl, _, _, rfl, rfl⟩, RelL.cons ?_ RelL.nil, by simp [InR]⟩
        unfold RelC
        exact ⟨none, 0, 0, rfl, rfl, Nat.le_refl _, fun _ => rfl, (fun hh => by cases hh), fun _ => rfl, fun hh => absurd rfl hh⟩
      · subst hcs
        have hel : ∀ i, i < len → ∃ (z : D te) (c : CV), (Can te z [c] ∧ InR te z) ∧ ∃ v, RelC w (fun _ => False) c v ∧ v.cells.size = P.cellsOf e ∧ ∀ (j : Nat) u, v.cells[j]? = some u → w.cell? (a.add (i * P.cellsOf e + j)) = some u := by
          intro i hil
          obtain ⟨cs', hc, ht'⟩ := hi i (by rw [hmm]; split <;> omega)
          obtain ⟨_, hcl, hat⟩ := World.cells?_some hc
          obtain ⟨g0, x, cvs, g1, g2, g3⟩ := open_cells h1 ht'
          obtain ⟨z, c, v, k1, k2, k3, k4⟩ := one_value h2 g0 g1 g2 g3
          refine ⟨z, c, ⟨k1, k4⟩, v, k2, by rw [← hcl, ← k3]; simp, fun j u hu => ?_⟩
          have hj : j < P.cellsOf e := by
            have := (Array.getElem?_eq_some_iff.1 hu).1
            rw [← hcl, ← k3]; simpa using this
          rw [← WB.add_add, hat j hj, ← k3]
          simpa using hu
        obtain ⟨zs, es, e1, e2, hp⟩ := exists_two len hel
        refine ⟨fun _ => rfl, zs, [.sl (some false) es], ⟨_, rfl, _, _, rfl, CanAll_of (by omega) fun i z c h3 h4 => (hp i z c h3 h4).1.1⟩, RelL.cons ?_ RelL.nil, ⟨?_, fun z hz => ?_⟩⟩
        · unfold RelC
          refine ⟨some a, len, cap, rfl, by omega, hl, (fun hh => by cases hh), (fun _ => by simp), (fun hh => by cases hh), fun hne => ?_⟩
          refine ⟨a, P.cellsOf e, rfl, ?_, fun hh => hh, RelE_of_get fun k el hel' => ?_⟩
          · have hlen0 : 0 < len := by
              rcases Nat.eq_zero_or_pos len with h0 | h0
              · exact absurd (List.eq_nil_of_length_eq_zero (by omega)) hne
              · exact h0
            obtain ⟨cs', hc, _⟩ := hi 0 (by rw [hmm]; split <;> omega)
            obtain ⟨_, hcl, hat⟩ := World.cells?_some hc
            have h5 := hat 0 hpos
            rw [List.getElem?_eq_getElem (by omega)] at h5
            have h6 := cell_lt h5
            rw [add_block, add_block] at h6
            exact h6
          · have hk : k < len := by have := (List.getElem?_eq_some_iff.1 hel').1; omega
            have hz : zs[k]? = some (zs[k]'(by omega)) := List.getElem?_eq_getElem _
            obtain ⟨v, k1, k2, k3⟩ := (hp k _ el hz hel').2
            exact ⟨v, k1, k2, fun j u hu => by simpa using k3 j u hu⟩
        · have : cap ≤ 9223372036854775807 := hm
          omega
        · obtain ⟨i, hi'⟩ := List.getElem?_of_mem hz
          have hlt := (List.getElem?_eq_some_iff.1 hi').1
          exact (hp i z (es[i]'(by omega)) hi' (List.getElem?_eq_getElem _)).1.2
    · rename_i fs ht
      obtain ⟨r', h1, h⟩ := Option.bind_eq_some_iff.1 h
      split at h <;> try (cases h; done)
      rename_i hlen
      cases h
      obtain ⟨ys, n', _, _, hcl, hyl, hg⟩ := DataW.trod_struct ht hd
      refine ⟨fun ha => by simp [isAggT, ht] at ha, ?_⟩
      obtain ⟨x, cvs, g1, g2, g3⟩ := open_fs (fun h3 h4 => (open_cells h3 h4).2) (cs := cs) h1 (fun f hf => by
        obtain ⟨i, hi⟩ := List.getElem?_of_mem hf
        have h2 := hg i f (by simpa using hi)
        have hi' := (List.getElem?_eq_some_iff.1 hi).1
        rw [List.getElem?_eq_getElem (show i < ys.length by rw [hyl]; simpa using hi')] at h2
        exact ⟨_, _, h2⟩)
      have hl2 := lenR_can hlen g1
      have hl3 := g2.length
      have hl4 : (cs.take cvs.length) = cs := List.take_of_length_le (by omega)
      rw [List.drop_zero, hl4] at g2
      exact ⟨x, cvs, g1, g2, g3⟩
    · rename_i m e ht
      obtain ⟨r', h1, h⟩ := Option.bind_eq_some_iff.1 h
      split at h <;> try (cases h; done)
      rename_i hlen
      cases h
      obtain ⟨ys, n', _, _, hcl, hyl, hg⟩ := DataW.trod_array ht hd
      refine ⟨fun ha => by simp [isAggT, ht] at ha, ?_⟩
      obtain ⟨x, cvs, g1, g2, g3⟩ := open_arr (w := w) hlen.1 (cs := cs) (m := m) (j := 0) (fun i _ hi => by
        have h2 := hg i (by omega)
        rw [List.getElem?_eq_getElem (show i < ys.length by omega)] at h2
        exact (open_cells h1 h2).2)
      have hl2 := lenR_can hlen.2 g1
      have hl3 := g2.length
      simp only [Nat.zero_mul, List.drop_zero, List.length_take] at hl3 g2
      have hl4 : (cs.take (m * P.cellsOf e)) = cs := List.take_of_length_le (by omega)
      rw [hl4] at g2
      exact ⟨x, cvs, g1, g2, g3⟩
    · cases h
/-- A type's value as plain data. -/
def typT (P : Program) (n : Nat) (t : TypeId) : Option Ty := (rowTy P n t).bind fun r => (valT P t r).bind fun te => if te.val = true then some te else none
theorem open_val {n : Nat} {t : TypeId} {te : Ty} {r : Reach} {b0 : Nat} {v : Value} {d : DataW H} {p : List MemPlace} (ht : typT P n t = some te) (hv : Value.okWide P w r b0 t v) (hd : DataW.Trod enc P w base spare held t v d p) :
    ∃ (x : D te) (c : CV), Can te x [c] ∧ RelC w (fun _ => False) c v ∧ InR te x := by
  unfold typT at ht
  obtain ⟨r', h1, ht⟩ := Option.bind_eq_some_iff.1 ht
  obtain ⟨te', h2, ht⟩ := Option.bind_eq_some_iff.1 ht
  split at ht <;> try (cases ht; done)
  cases ht
  obtain ⟨fuel, hd⟩ := hd
  obtain ⟨g0, x, cvs, g1, g2, g3⟩ := open_cells h1 hd
  obtain ⟨z, c, v', k1, k2, k3, k4⟩ := one_value h2 g0 g1 g2 g3
  refine ⟨z, c, k1, ?_, k4⟩
  unfold valT at h2
  split at h2
  · rename_i ha
    have hagg : ∃ cs, v = .agg cs := by
      unfold isAggT at ha
      split at ha <;> try (cases ha; done)
      all_goals
        rename_i ht
        simp only [Value.okWide, ht] at hv
        obtain ⟨cs, h, _⟩ := hv
        exact ⟨cs, h⟩
    obtain ⟨cs, rfl⟩ := hagg
    have ht' : te = .agg r' := by cases h2; rfl
    subst ht'
    unfold Can at k1
    obtain ⟨l, e, _⟩ := k1
    cases e
    unfold RelC at k2 ⊢
    obtain ⟨vs, e, hl⟩ := k2
    subst e
    refine ⟨vs, ?_, hl⟩
    have : vs = cs.toList := by simpa [Value.cells] using k3
    rw [this]
  · rename_i ha
    split at h2 <;> try (cases h2; done)
    split at h2 <;> try (cases h2; done)
    rename_i ho
    cases h2
    have e := oneCell_of_RelC k2 (fun cs e => by have := oneT_can ho k1; rw [e] at this; cases this)
    rw [e] at k3
    have hl : v.cells = #[v'] := by
      apply Array.toList_inj.1
      rw [← k3]
    have : v = v' := by
      cases v with
      | agg cs =>
        exfalso
        unfold isAggT at ha
        unfold Value.okWide at hv
        split at hv
        all_goals first
          | (rename_i hh; rw [hh] at ha; exact ha rfl)
          | (rename_i hn1 hn2
             revert hv
             simp only [Cell.okWide, Cell.ok]
             split <;> simp_all)
      | _ => simpa [Value.cells] using hl
    rw [this]
    exact k2

/-- A row's arguments. -/
def argsTy (P : Program) (n : Nat) : List TypeId → Option Ty
  | [] => some .nil
  | [t] => (typT P n t).map .one
  | t :: u :: ts => (typT P n t).bind fun te => (argsTy P n (u :: ts)).map fun r => .cons te r
theorem open_all {n : Nat} {r : Reach} {b0 : Nat} : ∀ {ts : List TypeId} {a : Ty} {vs : List Value} {ds : List (DataW H)} {ps : List MemPlace}, argsTy P n ts = some a → (∀ (j : Nat) t v, ts[j]? = some t → vs[j]? = some v → Value.okWide P w r b0 t v) → DataW.TrodAll enc P w base spare held ts vs ds ps →
    ∃ (x : D a) (l : List CV), Can a x l ∧ RelL w (fun _ => False) l vs ∧ InR a x
  | [], a, vs, ds, ps, ha, _, h => by
    cases ha
    obtain ⟨rfl, rfl, rfl⟩ := trodAll_nil h
    exact ⟨(), [], rfl, RelL.nil, trivial⟩
  | [t], a, vs, ds, ps, ha, hv, h => by
    obtain ⟨te, h1, rfl⟩ := Option.map_eq_some_iff.1 ha
    obtain ⟨v0, vs0, d0, ds0, p0, q0, rfl, rfl, rfl, h0, r0⟩ := trodAll_cons h
    obtain ⟨rfl, rfl, rfl⟩ := trodAll_nil r0
    obtain ⟨x, c, g1, g2, g3⟩ := open_val h1 (hv 0 t v0 rfl rfl) h0
    exact ⟨x, [c], ⟨c, rfl, g1⟩, RelL.cons g2 RelL.nil, g3⟩
  | t :: u :: ts, a, vs, ds, ps, ha, hv, h => by
    obtain ⟨te, h1, ha⟩ := Option.bind_eq_some_iff.1 ha
    obtain ⟨q, h2, rfl⟩ := Option.map_eq_some_iff.1 ha
    obtain ⟨v0, vs0, d0, ds0, p0, q0, rfl, rfl, rfl, h0, r0⟩ := trodAll_cons h
    obtain ⟨x, c, g1, g2, g3⟩ := open_val h1 (hv 0 t v0 rfl rfl) h0
    obtain ⟨x', l, k1, k2, k3⟩ := open_all h2 (fun j t' v' h3 h4 => hv (j + 1) t' v' (by simpa using h3) (by simpa using h4)) r0
    exact ⟨(x, x'), c :: l, ⟨c, l, rfl, g1, k1⟩, RelL.cons g2 k2, g3, k3⟩
end

theorem trodAll_length {H : Type} {enc : TypeId × Value → H} {P : Program} {w : World} {base : Nat} {spare : Nat → Bool} {held : Bool} : ∀ {ts : List TypeId} {vs : List Value} {ds : List (DataW H)} {ps : List MemPlace}, DataW.TrodAll enc P w base spare held ts vs ds ps → ds.length = ts.length
  | [], vs, ds, ps, h => by
    obtain ⟨rfl, rfl, rfl⟩ := trodAll_nil h
    rfl
  | t :: ts, vs, ds, ps, h => by
    obtain ⟨v0, vs0, d0, ds0, p0, q0, rfl, rfl, rfl, h0, r0⟩ := trodAll_cons h
    simp [trodAll_length r0]

/-- A row of a law: what its call shows. -/
theorem row_contract {P : Program} {G : Nat → List CV} {f : FuncId} {fn : Func} {s : ChangeSpec} {tb : TypeId} {a : Ty} (n : Nat) (laidOut : laidOutB P = true) (hA : argsTy P n fn.params.toList = some a) (hr : (fn.params.toList.all fun t => P.readableRec t && decide (t < P.types.size)) = true)
    (hres : fn.resultTypes = #[tb]) (htb : P.underlying tb = some .bool) (hsv : s.vars = []) (hs : ∀ (H : Type) (ds : List (DataW H)), ds.length = fn.params.size → (s.fn H ds).results = [.lit (.bool true)] ∧ (s.fn H ds).args = ds ∧ (s.fn H ds).vars = [])
    (hcall : ∀ (x : D a) (l : List CV), Can a x l → InR a x → CallsTo P G f l (.val (.bool true)))
    (H : Type) (enc : TypeId × Value → H) (W : World) (base : Nat) (args : Array Value) (ds gs : List (DataW H)) (before : List MemPlace)
    (hval : ∀ (j : Nat) t v, fn.params[j]? = some t → args[j]? = some v → Value.okWide P W .any base t v)
    (hW : DataW.Whole enc P fn.params.toList s.vars false W args.toList ds gs before) (hG : GOk G W (fun _ => False)) :
    Calls P f args W fun e W' => ∃ v, e = .returned v ∧ s.post enc P fn false true false false W args v W' := by
  have hW' := hW
  obtain ⟨p, q, hA0, hV, rfl, hfz, hnd⟩ := hW
  have hA1 : DataW.TrodAll enc P W 0 (fun _ => true) true fn.params.toList args.toList ds p := hA0
  rw [hsv] at hV
  obtain ⟨rfl, rfl⟩ := trodVars_none hV
  obtain ⟨x, l, g1, g2, g3⟩ := open_all (base := 0) hA (fun j t v h1 h2 => hval j t v (by simpa using h1) (by simpa using h2)) hA1
  have hlen : ds.length = fn.params.size := by rw [trodAll_length hA1]; simp
  obtain ⟨e1, e2, e3⟩ := hs H ds hlen
  have hc := hcall x l g1 g3 W (fun _ => False) args.toList (fun _ h => h.elim) hG g2
  refine hc.mono fun e W' ⟨v, he, hb, hr'⟩ => ?_
  subst he
  unfold RelR RelC at hr'
  subst hr'
  refine ⟨_, rfl, post_below (pa := p) (pv := []) hW' (fun _ _ _ => ?_) (fun sp hsp => ?_) (fun sp hsp => ?_) rfl hb ?_⟩
  · rw [List.append_nil, e1, hres]
    exact trodAll_cons_mk (shut_bool htb _) trodAll_mk0
  · rw [List.append_nil, e2]
    exact trodAll_below laidOut hb hr (fun x hx => hW'.lt x (by simpa using hx)) (fun x hx => hsp x (by simpa using hx)) hA1
  · rw [List.append_nil, e3, hsv]
    rfl
  · exact ok_one hres rfl (okWide_bool_mk htb _)
theorem in_i64 {n : Int} (h : InR (.int .i64) n) : -9223372036854775808 ≤ n ∧ n ≤ 9223372036854775807 := by simpa [InR, IntKind.min, IntKind.max, IntKind.signed, IntKind.bits] using h
theorem in_i32 {n : Int} (h : InR (.int .i32) n) : -2147483648 ≤ n ∧ n ≤ 2147483647 := by simpa [InR, IntKind.min, IntKind.max, IntKind.signed, IntKind.bits] using h
theorem in_i16 {n : Int} (h : InR (.int .i16) n) : -32768 ≤ n ∧ n ≤ 32767 := by simpa [InR, IntKind.min, IntKind.max, IntKind.signed, IntKind.bits] using h
theorem in_i8 {n : Int} (h : InR (.int .i8) n) : -128 ≤ n ∧ n ≤ 127 := by simpa [InR, IntKind.min, IntKind.max, IntKind.signed, IntKind.bits] using h
theorem in_u64 {n : Int} (h : InR (.int .u64) n) : 0 ≤ n ∧ n ≤ 18446744073709551615 := by simpa [InR, IntKind.min, IntKind.max, IntKind.signed, IntKind.bits] using h
theorem in_u32 {n : Int} (h : InR (.int .u32) n) : 0 ≤ n ∧ n ≤ 4294967295 := by simpa [InR, IntKind.min, IntKind.max, IntKind.signed, IntKind.bits] using h
theorem in_u16 {n : Int} (h : InR (.int .u16) n) : 0 ≤ n ∧ n ≤ 65535 := by simpa [InR, IntKind.min, IntKind.max, IntKind.signed, IntKind.bits] using h
theorem in_u8 {n : Int} (h : InR (.int .u8) n) : 0 ≤ n ∧ n ≤ 255 := by simpa [InR, IntKind.min, IntKind.max, IntKind.signed, IntKind.bits] using h
end WB
