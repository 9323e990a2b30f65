/-
  THE OWN LAYER, TN: soundness of the typed reading.
-/
import Derived.Test.YtpkoilfecgmogaaCoreTm
namespace WB
open Go Go.RowKit

section
variable {X : TP} {E : Env}

theorem opL_ok (hT : TOk X E) {Γ : TC} {msk : List Nat} {ρ : HS Γ} {st : St} (hr : Rep Γ ρ st) {D : Option (List Nat)} (hD : ∀ id, msk.contains id = false → mask D st.ob id = st.ob id) {l : SL} {o : OpD Γ} (h : opL X Γ msk l = some o) {b : o.B} (hb : o.d.val ρ = some b) :
    ∃ st', evalL E D l st = some st' ∧ Rep o.Γ' (o.up ρ b) st' := by
  obtain ⟨dst, op, guard⟩ := l
  cases guard with
  | none =>
    simp only [opL] at h
    split at h
    · rename_i hcls
      split at h <;> try (cases h; done)
      rename_i d
      split at h <;> try (cases h; done)
      rename_i f hg
      obtain ⟨v, ob, h1, h2⟩ := opNew_ok hr h hb
      have hn : st.ob d = .none := hr.o d _ hg
      rw [← hT.G] at h1
      exact ⟨_, by simp [evalL, evalOp, hcls, h1, addNew, hn], h2⟩
    · rename_i hcls
      obtain ⟨st', h1, h2⟩ := opEff_ok hr h hb
      rw [← hT.G] at h1
      exact ⟨st', by simp only [evalL, evalOp, hcls, h1], h2⟩
    · split at h <;> try (cases h; done)
      rename_i q hq
      split at h
      · rename_i d
        cases h
        obtain ⟨sv, h1, h2⟩ := softK_ok hT hr hD hq hb (some d)
        exact ⟨_, by simp only [evalL, h1], Rep.set hr h2⟩
      · cases h
        obtain ⟨sv, h1, h2⟩ := softK_ok hT hr hD hq hb none
        exact ⟨st, by simp only [evalL, h1, St.set], hr⟩
  | some g =>
    obtain ⟨g, want⟩ := g
    simp only [opL] at h
    split at h <;> try (cases h; done)
    rename_i q d hq
    split at h <;> try (cases h; done)
    · rename_i f hg
      cases h
      obtain ⟨c, e1, e2⟩ := hr.s g _ hg
      unfold Can at e2
      cases e2
      by_cases hw : f ρ = want
      · have : ∃ y, q.2.val ρ = some y ∧ b = some y := by
          cases hd : q.2 with
          | tot k => rw [hd] at hb; simp only [gD, Dyn.val, hw, if_true, Option.some.injEq] at hb; exact ⟨_, rfl, hb.symm⟩
          | par k =>
            rw [hd] at hb
            simp only [gD, Dyn.val, hw, if_true] at hb
            obtain ⟨y, h1, h2⟩ := Option.map_eq_some_iff.1 hb
            exact ⟨y, h1, h2.symm⟩
        obtain ⟨y, hy, rfl⟩ := this
        obtain ⟨sv, h1, h2⟩ := softK_ok hT hr hD hq hy (some d)
        refine ⟨_, by simp only [evalL, e1, hw, if_true]; exact h1, Rep.set hr ?_⟩
        exact h2
      · have : b = none := by
          cases hd : q.2 with
          | tot k => rw [hd] at hb; simp only [gD, Dyn.val, hw, if_false, Option.some.injEq] at hb; exact hb.symm
          | par k => rw [hd] at hb; simp only [gD, Dyn.val, hw, if_false, Option.some.injEq] at hb; exact hb.symm
        subst this
        exact ⟨st.set (some d) skipped, by simp only [evalL, e1, hw, if_false], Rep.set hr (k := .opt q.1) (x := none) rfl⟩
    · rename_i f hg
      cases h
      have hs := hr.s g _ hg
      unfold RS at hs
      by_cases hw : f ρ = some want
      · simp only [hw] at hs
        obtain ⟨c, e1, e2⟩ := hs
        unfold Can at e2
        cases e2
        have : ∃ y, q.2.val ρ = some y ∧ b = some y := by
          cases hd : q.2 with
          | tot k => rw [hd] at hb; simp only [gO, Dyn.val, hw, if_true, Option.some.injEq] at hb; exact ⟨_, rfl, hb.symm⟩
          | par k =>
            rw [hd] at hb
            simp only [gO, Dyn.val, hw, if_true] at hb
            obtain ⟨y, h1, h2⟩ := Option.map_eq_some_iff.1 hb
            exact ⟨y, h1, h2.symm⟩
        obtain ⟨y, hy, rfl⟩ := this
        obtain ⟨sv, h1, h2⟩ := softK_ok hT hr hD hq hy (some d)
        refine ⟨_, by simp only [evalL, e1, if_true]; exact h1, Rep.set hr ?_⟩
        exact h2
      · have : b = none := by
          cases hd : q.2 with
          | tot k => rw [hd] at hb; simp only [gO, Dyn.val, hw, if_false, Option.some.injEq] at hb; exact hb.symm
          | par k => rw [hd] at hb; simp only [gO, Dyn.val, hw, if_false, Option.some.injEq] at hb; exact hb.symm
        subst this
        cases hf : f ρ with
        | none =>
          simp only [hf] at hs
          exact ⟨st.set (some d) skipped, by simp only [evalL, hs, skipped], Rep.set hr (k := .opt q.1) (x := none) rfl⟩
        | some b' =>
          simp only [hf] at hs
          obtain ⟨c, e1, e2⟩ := hs
          unfold Can at e2
          cases e2
          have hne : b' ≠ want := fun e => hw (by rw [hf, e])
          exact ⟨st.set (some d) skipped, by simp only [evalL, e1, hne, if_false], Rep.set hr (k := .opt q.1) (x := none) rfl⟩

theorem denLs_ok (hT : TOk X E) {A : Type} {msk : List Nat} {D : Option (List Nat)} (hD : ∀ (ob : Nat → Ob) id, msk.contains id = false → mask D ob id = ob id) : ∀ {ls : List SL} {Γ : TC} {q : LsD A Γ} {ρ : HS Γ} {st : St} {K : HS q.Γ' → Option A} {r : A},
    denLs A X msk ls Γ = some q → Rep Γ ρ st → q.run ρ K = some r → ∃ st', evalLs E D ls st = some st' ∧ ∃ ρ', Rep q.Γ' ρ' st' ∧ K ρ' = some r
  | [], Γ, q, ρ, st, K, r, h, hr, hk => by
    simp only [denLs, Option.some.injEq] at h
    subst h
    exact ⟨st, rfl, ρ, hr, hk⟩
  | l :: ls, Γ, q, ρ, st, K, r, h, hr, hk => by
    simp only [denLs] at h
    split at h <;> try (cases h; done)
    rename_i o ho
    split at h <;> try (cases h; done)
    rename_i p hp
    cases h
    have hk' : o.d.app ρ (fun b => p.run (o.up ρ b) K) = some r := hk
    obtain ⟨b, h1, h2⟩ := Dyn.app_some hk'
    obtain ⟨st1, h3, h4⟩ := opL_ok hT hr (hD st.ob) ho h1
    obtain ⟨st2, h5, h6⟩ := denLs_ok hT hD hp h4 h2
    exact ⟨st2, by simp [evalLs, h3, h5], h6⟩

theorem denReg_ok (hT : TOk X E) {A : Type} {draw : Bool} {D : List Nat} {ls : List SL} {Γ : TC} {q : LsD A Γ} {ρ : HS Γ} {st : St} {K : HS q.Γ' → Option A} {r : A} (h : denReg A X draw D ls Γ = some q) (hr : Rep Γ ρ st) (hk : q.run ρ K = some r) :
    ∃ st', evalReg E draw D ls st = some st' ∧ ∃ ρ', Rep q.Γ' ρ' st' ∧ K ρ' = some r := by
  cases D with
  | nil =>
    simp only [denReg] at h
    obtain ⟨st', h1, h2⟩ := denLs_ok hT (D := if draw then some [] else none) (fun ob id _ => by cases draw <;> simp [mask]) h hr hk
    exact ⟨st', by simpa [evalReg] using h1, h2⟩
  | cons d ds =>
    simp only [denReg] at h
    split at h <;> try (cases h; done)
    rename_i p hp
    cases h
    obtain ⟨st', h1, h2⟩ := denLs_ok hT (D := if draw then some (d :: ds) else none) (fun ob id hid => by
      cases draw
      · rfl
      · simp only [if_true] at hid ⊢
        simp only [mask, hid, Bool.false_eq_true, if_false]) hp (hr.kill (d :: ds)) hk
    exact ⟨st', by simpa [evalReg] using h1, h2⟩

theorem denS_ok (hT : TOk X E) {A : Type} {Q : Ex → St → Prop} : ∀ {c : AC} {Γ : TC} {q : LsD A Γ} {ρ : HS Γ} {st : St} {K : HS q.Γ' → Option A} {r : A}, denS A X c Γ = some q → Rep Γ ρ st → q.run ρ K = some r →
    (∀ st' ρ', Rep q.Γ' ρ' st' → K ρ' = some r → Q .normal st') → pwpS E (erase c) Q st := by
  intro c
  induction c generalizing Q with
  | skip =>
    intro Γ q ρ st K r h hr hk hQ
    simp only [denS, Option.some.injEq] at h
    subst h
    exact ⟨st, Seen.refl st, hQ _ _ hr hk⟩
  | reg draw D ls =>
    intro Γ q ρ st K r h hr hk hQ
    obtain ⟨st', h1, ρ', h2, h3⟩ := denReg_ok hT (K := K) h hr hk
    exact ⟨st, Seen.refl st, st', h1, hQ _ _ h2 h3⟩
  | sq a b iha ihb =>
    intro Γ q ρ st K r h hr hk hQ
    simp only [denS] at h
    split at h <;> try (cases h; done)
    rename_i p hp
    split at h <;> try (cases h; done)
    rename_i p' hp'
    cases h
    exact ⟨st, Seen.refl st, iha hp hr hk fun st' ρ' h1 h2 => ihb hp' h1 h2 hQ⟩
  | gh g c ih =>
    intro Γ q ρ st K r h hr hk hQ
    simp only [denS] at h
    split at h <;> try (cases h; done)
    rename_i p hp
    split at h <;> try (cases h; done)
    rename_i p' hp'
    cases h
    obtain ⟨st', h1, h2⟩ := ghT_ok hp hr
    exact pwpS_seen h1 (ih hp' h2 hk hQ)
  | _ => intro Γ q ρ st K r h; cases h

theorem resT1_ok {Γ : TC} {ρ : HS Γ} {st : St} (hr : Rep Γ ρ st) {x : SRes} {q : Σ t : Ty, Dyn (HS Γ) (D t)} {y : D q.1} (h : resT1 X Γ x = some q) (hy : q.2.val ρ = some y) : ∃ c, oneRes st x = some c ∧ Can q.1 y [c] := by
  cases x with
  | tmp t =>
    simp only [resT1] at h
    split at h <;> try (cases h; done)
    rename_i p hp
    cases h
    obtain ⟨c, h1, h2, _⟩ := rdC_ok (msk := []) (rd := st.ob) (G := X.G) (fl := p.1) (q := p.2) hp hr (fun _ _ => rfl) hy
    exact ⟨c, h1, h2⟩
  | cell a sz =>
    simp only [resT1] at h
    split at h <;> try (cases h; done)
    rename_i k hk
    split at h <;> try (cases h; done)
    · rename_i t d hd
      cases h
      obtain ⟨sv, h1, c, h2, h3⟩ := loadT_ok (msk := []) (rd := st.ob) (sv := so X.G st.fr (.t a)) hr (fun _ _ => rfl) hd hy (fun x hx => rdK_ok hk hr hx)
      subst h2
      refine ⟨c, ?_, h3⟩
      have h1' : loadV st.ob sz (st.fr a) = some (.c c) := h1
      simp [oneRes, h1', close]
    · rename_i id f hd
      split at h <;> try (cases h; done)
      rename_i e size t xs ho
      cases h
      cases hy
      obtain ⟨sv, h1, h2⟩ := loadT_ok (msk := []) (rd := st.ob) (sv := so X.G st.fr (.t a)) (y := f ρ) hr (fun _ _ => rfl) hd rfl (fun x hx => rdK_ok hk hr hx)
      have h2' : sv = .osl id := h2
      subst h2'
      obtain ⟨es, h3, h4⟩ := hr.o id _ ho
      refine ⟨.sl none es, ?_, by unfold Can; exact ⟨_, _, rfl, h4⟩⟩
      have h1' : loadV st.ob sz (st.fr a) = some (.osl id) := h1
      simp [oneRes, h1', close, h3]
theorem resRow_ok {Γ : TC} {ρ : HS Γ} {st : St} (hr : Rep Γ ρ st) : ∀ {xs : List SRes} {q : Σ t : Ty, Dyn (HS Γ) (D t)} {y : D q.1}, resRow X Γ xs = some q → q.2.val ρ = some y → ∃ l, allM (oneRes st) xs = some l ∧ Can q.1 y l
  | [], q, y, h, hy => by
    simp only [resRow, Option.some.injEq] at h
    subst h
    exact ⟨[], rfl, by unfold Can; rfl⟩
  | [x], q, y, h, hy => by
    simp only [resRow] at h
    split at h <;> try (cases h; done)
    rename_i p hp
    cases h
    obtain ⟨c, h1, h2⟩ := resT1_ok hr hp hy
    exact ⟨[c], by simp [allM, h1], by unfold Can; exact ⟨c, rfl, h2⟩⟩
  | x :: z :: xs, q, y, h, hy => by
    simp only [resRow] at h
    split at h <;> try (cases h; done)
    rename_i p p' hp hp'
    cases h
    obtain ⟨g1, g2⟩ := Dyn.both_val hy
    obtain ⟨c, h1, h2⟩ := resT1_ok hr hp g1
    obtain ⟨l, h3, h4⟩ := resRow_ok hr hp' g2
    refine ⟨c :: l, ?_, by unfold Can; exact ⟨c, l, rfl, h2, h4⟩⟩
    have e : allM (oneRes st) (x :: z :: xs) = (oneRes st x).bind fun b => (allM (oneRes st) (z :: xs)).map fun bs => b :: bs := rfl
    rw [e, h1, h3]; rfl
theorem resT_ok {Γ : TC} {ρ : HS Γ} {st : St} (hr : Rep Γ ρ st) {xs : List SRes} {q : Σ t : Ty, Dyn (HS Γ) (D t)} {y : D q.1} (h : resT X Γ xs = some q) (hy : q.2.val ρ = some y) : ∃ c, resOf st xs = some c ∧ Can q.1 y [c] := by
  match xs, h with
  | [x], h =>
    obtain ⟨c, h1, h2⟩ := resT1_ok hr h hy
    exact ⟨c, by simp [resOf, allM, h1, packRes], h2⟩
  | [], h =>
    simp only [resT] at h
    split at h <;> try (cases h; done)
    rename_i p hp
    cases h
    obtain ⟨l, h1, h2⟩ := resRow_ok hr hp hy
    simp only [allM, Option.some.injEq] at h1
    subst h1
    exact ⟨.tup [], rfl, by unfold Can; exact ⟨[], rfl, h2⟩⟩
  | x :: z :: xs, h =>
    simp only [resT] at h
    split at h <;> try (cases h; done)
    rename_i p hp
    cases h
    obtain ⟨l, h1, h2⟩ := resRow_ok hr hp hy
    have hlen := allM_length h1
    refine ⟨.tup l, ?_, by unfold Can; exact ⟨l, rfl, h2⟩⟩
    simp only [resOf, h1, Option.map_some]
    match l, hlen with
    | c :: d :: l, _ => rfl

/-! ### Ways out -/

theorem keX_head {R A B : Type} {e : Nat × TC} {ys : XC} {rt : Bool} {f : OutX R (e :: ys) rt → B} {ρ : HS e.2} {b : B} {ke : KE A (e :: ys)} {kr : R → Option A} {r : A} (h : (keX (e :: ys) rt f).1 ρ = some b)
    (hk : ∀ o, f o = b → elX (e :: ys) rt ke kr o = some r) : ke.1 ρ = some r := by
  cases ys with
  | nil =>
    cases rt with
    | false => exact hk ρ (Option.some.inj h)
    | true => exact hk (.inl ρ) (Option.some.inj h)
  | cons e' ys => exact hk (.inl ρ) (Option.some.inj h)
theorem keX_find {R A B : Type} : ∀ {ys : XC} {rt : Bool} {f : OutX R ys rt → B} {i : Nat} {Γi : TC} {s : KE B ys → HS Γi → Option B} {ρ : HS Γi} {b : B} {ke : KE A ys} {kr : R → Option A} {r : A}, findE B ys i = some ⟨Γi, s⟩ → s (keX ys rt f) ρ = some b →
    (∀ o, f o = b → elX ys rt ke kr o = some r) → ∃ s', findE A ys i = some ⟨Γi, s'⟩ ∧ s' ke ρ = some r
  | [], rt, f, i, Γi, s, ρ, b, ke, kr, r, h, _, _ => by cases h
  | e :: ys, rt, f, i, Γi, s, ρ, b, ke, kr, r, h, hs, hk => by
    simp only [findE] at h ⊢
    split at h
    · rename_i hi
      cases h
      rw [if_pos hi]
      exact ⟨_, rfl, keX_head hs hk⟩
    · rename_i hi
      rw [if_neg hi]
      split at h <;> try (cases h; done)
      rename_i q hq
      cases h
      cases ys with
      | nil => cases hq
      | cons e' ys =>
        obtain ⟨s', h1, h2⟩ := keX_find (A := A) (f := fun o => f (.inr o)) (ke := ke.2) (kr := kr) (r := r) hq hs (fun o ho => hk (.inr o) ho)
        rw [h1]
        exact ⟨_, rfl, h2⟩
theorem keX_tail {R A B : Type} {e : Nat × TC} {ys : XC} {rt : Bool} {f : OutX R (e :: ys) rt → B} {i : Nat} {Γi : TC} {s : KE B ys → HS Γi → Option B} {ρ : HS Γi} {b : B} {ke : KE A (e :: ys)} {kr : R → Option A} {r : A} (h : findE B ys i = some ⟨Γi, s⟩) (hs : s (keX (e :: ys) rt f).2 ρ = some b)
    (hk : ∀ o, f o = b → elX (e :: ys) rt ke kr o = some r) : ∃ s', findE A ys i = some ⟨Γi, s'⟩ ∧ s' ke.2 ρ = some r := by
  cases ys with
  | nil => cases h
  | cons e' ys => exact keX_find (A := A) (f := fun o => f (.inr o)) (ke := ke.2) (kr := kr) (r := r) h hs (fun o ho => hk (.inr o) ho)
theorem rtX_ok {R A B : Type} : ∀ {ys : XC} {rt : Bool} {f : OutX R ys rt → B} {v : R} {b : B} {ke : KE A ys} {kr : R → Option A} {r : A}, rtX ys rt f v = some b → (∀ o, f o = b → elX ys rt ke kr o = some r) → kr v = some r
  | [], true, f, v, b, ke, kr, r, h, hk => hk v (Option.some.inj h)
  | [], false, f, v, b, ke, kr, r, h, hk => by cases h
  | [e], false, f, v, b, ke, kr, r, h, hk => by cases h
  | [e], true, f, v, b, ke, kr, r, h, hk => hk (.inr v) (Option.some.inj h)
  | e :: e' :: ys, rt, f, v, b, ke, kr, r, h, hk => rtX_ok (f := fun o => f (.inr o)) (ke := ke.2) h (fun o ho => hk (.inr o) ho)
theorem selE_ok {A : Type} {xs : XC} : ∀ {ys : XC} {g : KE A xs → KE A ys} {i : Nat} {Γi : TC} {s : KE A ys → HS Γi → Option A} {ke : KE A xs} {ρ : HS Γi} {r : A}, selE A xs ys = some g → findE A ys i = some ⟨Γi, s⟩ → s (g ke) ρ = some r → ∃ s', findE A xs i = some ⟨Γi, s'⟩ ∧ s' ke ρ = some r
  | [], g, i, Γi, s, ke, ρ, r, _, h, _ => by cases h
  | e :: ys, g, i, Γi, s, ke, ρ, r, hg, h, hs => by
    simp only [selE] at hg
    split at hg <;> try (cases hg; done)
    rename_i q g' hq hg'
    split at hg <;> try (cases hg; done)
    rename_i he
    cases hg
    obtain ⟨Γq, f⟩ := q
    simp only at he
    subst he
    simp only [findE] at h
    split at h
    · rename_i hi
      subst hi
      cases h
      exact ⟨f, hq, hs⟩
    · split at h <;> try (cases h; done)
      rename_i q' hq'
      cases h
      exact selE_ok hg' hq' hs

def PostT {A : Type} {xs : XC} {Γn : TC} (rs : List SRes) (Rt : Ty) (k : DKn A xs Γn (D Rt)) (r : A) : Ex → St → Prop
  | .normal, st => ∃ ρ, Rep Γn ρ st ∧ k.n ρ = some r
  | .exit i, st => ∃ Γi s ρ, findE A xs i = some ⟨Γi, s⟩ ∧ Rep Γi ρ st ∧ s k.e ρ = some r
  | .ret, st => ∃ v c, resOf st rs = some c ∧ Can Rt v [c] ∧ k.r v = some r

theorem den_ok (hT : TOk X E) {rs : List SRes} {Rt : Ty} : ∀ (c : AC) {A : Type} {xs : XC} {Γn Γ : TC} {d : HS Γ → DKn A xs Γn (D Rt) → Option A} {ρ : HS Γ} {k : DKn A xs Γn (D Rt)} {st : St} {r : A},
    den X rs Rt c A xs Γn Γ = some d → Rep Γ ρ st → d ρ k = some r → pwpS E (erase c) (PostT rs Rt k r) st := by
  intro c
  induction c with
  | skip =>
    intro A xs Γn Γ d ρ k st r h hr hd
    simp only [den] at h
    split at h <;> try (cases h; done)
    rename_i f hf
    cases h
    exact ⟨st, Seen.refl st, _, coeC_ok hf hr, hd⟩
  | reg draw D ls =>
    intro A xs Γn Γ d ρ k st r h hr hd
    simp only [den] at h
    split at h <;> try (cases h; done)
    rename_i q hq
    split at h <;> try (cases h; done)
    rename_i f hf
    cases h
    obtain ⟨st', h1, ρ', h2, h3⟩ := denReg_ok hT hq hr hd
    exact ⟨st, Seen.refl st, st', h1, _, coeC_ok hf h2, h3⟩
  | sq a b iha ihb =>
    intro A xs Γn Γ d ρ k st r h hr hd
    simp only [den] at h
    split at h <;> try (cases h; done)
    rename_i q hq
    split at h <;> try (cases h; done)
    rename_i db hdb
    cases h
    exact ⟨st, Seen.refl st, denS_ok hT hq hr hd fun st' ρ' h1 h2 => ihb hdb h1 h2⟩
  | seq Γm a b iha ihb =>
    intro A xs Γn Γ d ρ k st r h hr hd
    simp only [den] at h
    split at h <;> try (cases h; done)
    rename_i da db hda hdb
    cases h
    refine ⟨st, Seen.refl st, pwpS_mono _ (fun e s hp => ?_) (iha hda hr hd)⟩
    cases e with
    | normal =>
      obtain ⟨ρ', h1, h2⟩ := hp
      exact ihb hdb h1 h2
    | exit i => exact hp
    | ret => exact hp
  | join Γm ex rt a b iha ihb =>
    intro A xs Γn Γ d ρ k st r h hr hd
    simp only [den] at h
    split at h <;> try (cases h; done)
    rename_i ys hys
    split at h <;> try (cases h; done)
    rename_i g da db hg hda hdb
    cases h
    obtain ⟨o, h1, h2⟩ := Option.bind_eq_some_iff.1 hd
    refine ⟨st, Seen.refl st, pwpS_mono _ (fun e s hp => ?_) (iha hda hr h1)⟩
    have hk : ∀ o', o' = o → elX ((0, Γm) :: ys) rt (fun ρm => db ρm k, g k.e) k.r o' = some r := fun o' ho => ho ▸ h2
    cases e with
    | normal =>
      obtain ⟨ρ', h3, h4⟩ := hp
      exact ihb hdb h3 (keX_head (ke := (fun ρm => db ρm k, g k.e)) h4 hk)
    | exit i =>
      obtain ⟨Γi, s', ρ', h3, h4, h5⟩ := hp
      obtain ⟨s2, h6, h7⟩ := keX_tail (A := A) (ke := (fun ρm => db ρm k, g k.e)) h3 h5 hk
      obtain ⟨s3, h8, h9⟩ := selE_ok hg h6 h7
      exact ⟨Γi, s3, ρ', h8, h4, h9⟩
    | ret =>
      obtain ⟨v, c, h3, h4, h5⟩ := hp
      exact ⟨v, c, h3, h4, rtX_ok (ke := (fun ρm => db ρm k, g k.e)) h5 hk⟩
  | cond c x y ihx ihy =>
    intro A xs Γn Γ d ρ k st r h hr hd
    simp only [den] at h
    split at h <;> try (cases h; done)
    rename_i e dx dy he hdx hdy
    cases h
    obtain ⟨b, h1, h2⟩ := Dyn.app_some hd
    obtain ⟨cv, e1, e2⟩ := rdV_ok (G := X.G) he hr h1
    unfold Can at e2
    cases e2
    refine ⟨st, Seen.refl st, b, by rw [hT.G]; exact e1, fun hb => ?_, fun hb => ?_⟩
    · rw [if_pos hb] at h2
      exact ihx hdx hr h2
    · rw [if_neg (by simp [hb])] at h2
      exact ihy hdy hr h2
  | block id b ih =>
    intro A xs Γn Γ d ρ k st r h hr hd
    simp only [den] at h
    split at h <;> try (cases h; done)
    rename_i db hdb
    cases h
    refine ⟨st, Seen.refl st, pwpS_mono _ (fun e s hp => ?_) (ih hdb hr hd)⟩
    cases e with
    | normal => exact hp
    | exit i =>
      obtain ⟨Γi, s', ρ', h3, h4, h5⟩ := hp
      simp only [findE] at h3
      by_cases hi : i = id
      · subst hi
        simp only [if_true, Option.some.injEq, Sigma.mk.injEq] at h3
        obtain ⟨rfl, h3⟩ := h3
        cases eq_of_heq h3
        simp only [if_true]
        exact ⟨ρ', h4, h5⟩
      · simp only [if_neg hi]
        rw [if_neg (fun e => hi e.symm)] at h3
        split at h3 <;> try (cases h3; done)
        rename_i q hq
        cases h3
        exact ⟨_, _, ρ', hq, h4, h5⟩
    | ret => exact hp
  | loop Γh ex rt b ih =>
    intro A xs Γn Γ d ρ k st r h hr hd
    simp only [den] at h
    split at h <;> try (cases h; done)
    rename_i ys hys
    split at h <;> try (cases h; done)
    rename_i g f db hg hf hdb
    cases h
    obtain ⟨o, h1, h2⟩ := Option.bind_eq_some_iff.1 hd
    obtain ⟨n, hn⟩ := iter_some.1 h1
    refine ⟨st, Seen.refl st, fun m s => ∃ ρ, Rep Γh ρ s ∧ iterN (fun ρ => db ρ ⟨fun ρ' => some (.inl ρ'), keX ys rt Sum.inr, rtX ys rt Sum.inr⟩) m ρ = some o, ⟨n, f ρ, coeC_ok hf hr, hn⟩, fun m s hR => ?_⟩
    obtain ⟨ρ1, hr1, hi⟩ := hR
    cases m with
    | zero => cases hi
    | succ m =>
      simp only [iterN] at hi
      obtain ⟨w, h3, h4⟩ := Option.bind_eq_some_iff.1 hi
      refine pwpS_mono _ (fun e s' hp => ?_) (ih hdb hr1 h3)
      have hk : ∀ o', Sum.inr o' = w → elX ys rt (g k.e) k.r o' = some r := fun o' ho => by
        subst ho
        simp only [Option.some.injEq] at h4
        rw [h4]; exact h2
      cases e with
      | normal =>
        obtain ⟨ρ', h5, h6⟩ := hp
        cases h6
        exact ⟨m, by omega, ρ', h5, h4⟩
      | exit i =>
        obtain ⟨Γi, s2, ρ', h5, h6, h7⟩ := hp
        obtain ⟨s3, h8, h9⟩ := keX_find (A := A) (ke := g k.e) h5 h7 hk
        obtain ⟨s4, h10, h11⟩ := selE_ok hg h8 h9
        exact ⟨Γi, s4, ρ', h10, h6, h11⟩
      | ret =>
        obtain ⟨v, c, h5, h6, h7⟩ := hp
        exact ⟨v, c, h5, h6, rtX_ok (ke := g k.e) h7 hk⟩
  | exit i =>
    intro A xs Γn Γ d ρ k st r h hr hd
    simp only [den] at h
    split at h <;> try (cases h; done)
    rename_i q hq
    split at h <;> try (cases h; done)
    rename_i f hf
    cases h
    exact ⟨st, Seen.refl st, q.1, q.2, _, hq, coeC_ok hf hr, hd⟩
  | ret =>
    intro A xs Γn Γ d ρ k st r h hr hd
    simp only [den] at h
    split at h <;> try (cases h; done)
    rename_i q hq
    split at h <;> try (cases h; done)
    rename_i g hg
    cases h
    obtain ⟨v, h1, h2⟩ := Dyn.app_some hd
    obtain ⟨c, h3, h4⟩ := resT_ok hr hq h1
    exact ⟨st, Seen.refl st, _, c, h3, coeT_can _ _ hg h4, h2⟩
  | gh g c ih =>
    intro A xs Γn Γ d ρ k st r h hr hd
    simp only [den] at h
    split at h <;> try (cases h; done)
    rename_i p hp
    split at h <;> try (cases h; done)
    rename_i dc hdc
    cases h
    obtain ⟨st', h1, h2⟩ := ghT_ok hp hr
    exact pwpS_seen h1 (ih hdc h2 hd)
end
end WB
