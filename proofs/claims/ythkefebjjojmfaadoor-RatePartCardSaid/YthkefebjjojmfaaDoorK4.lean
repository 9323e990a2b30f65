/-
  OWN TEXTS, MERGED (wip/merge.py): CoreTn, CoreTo, CoreLb, CoreZs, Piter, Pgd, Pu64, Pknuth, PG, PrA, PrB, PrC, PrD. No condition of their own.
-/
import Derived.Test.YthkefebjjojmfaaDoorK3
import Derived.Lib.LaidTab
import Derived.Lib.ItoaNum
import Derived.Lib.TrimByte
import Derived.Lib.AppendIntMem
import Derived.Lib.Bytealg
import Derived.Test.YthkefebjjojmfaaDoorK2
import Derived.Lib.Mul64
import Derived.Laws.Bits64b
import Derived.Laws.BitsLemmas
import Derived.Lib.BitFns
set_option linter.unusedVariables false
set_option linter.unusedSimpArgs false
namespace WB
open Go Go.RowKit

section
variable {X : TP} {E : Env}

theorem opL_ok (hT : TOk X E) {Γ : TC} {msk : List Nat} {ρ : HS Γ} {st : St} (hr : Rep Γ ρ st) {D : Option (List Nat)} (hD : ∀ id, msk.contains id = false → mask D st.ob id = st.ob id) {l : SL} {o : OpD Γ} (h : opL X Γ msk l = some o) {b : o.B} (hb : o.d.val ρ = some b) :
    ∃ st', evalL E D l st = some st' ∧ Rep o.Γ' (o.up ρ b) st' := by
  obtain ⟨dst, op, guard⟩ := l
  cases guard with
  | none =>
    simp only [opL] at h
    split at h
    · rename_i hcls
      split at h <;> try (cases h; done)
      rename_i d
      split at h <;> try (cases h; done)
      rename_i f hg
      obtain ⟨v, ob, h1, h2⟩ := opNew_ok hr h hb
      have hn : st.ob d = .none := hr.o d _ hg
      rw [← hT.G] at h1
      exact ⟨_, by simp [evalL, evalOp, hcls, h1, addNew, hn], h2⟩
    · rename_i hcls
      obtain ⟨st', h1, h2⟩ := opEff_ok hr h hb
      rw [← hT.G] at h1
      exact ⟨st', by simp only [evalL, evalOp, hcls, h1], h2⟩
    · split at h <;> try (cases h; done)
      rename_i q hq
      split at h
      · rename_i d
        cases h
        obtain ⟨sv, h1, h2⟩ := softK_ok hT hr hD hq hb (some d)
        exact ⟨_, by simp only [evalL, h1], Rep.set hr h2⟩
      · cases h
        obtain ⟨sv, h1, h2⟩ := softK_ok hT hr hD hq hb none
        exact ⟨st, by simp only [evalL, h1, St.set], hr⟩
  | some g =>
    obtain ⟨g, want⟩ := g
    simp only [opL] at h
    split at h <;> try (cases h; done)
    rename_i q d hq
    split at h <;> try (cases h; done)
    · rename_i f hg
      cases h
      obtain ⟨c, e1, e2⟩ := hr.s g _ hg
      unfold Can at e2
      cases e2
      by_cases hw : f ρ = want
      · have : ∃ y, q.2.val ρ = some y ∧ b = some y := by
          cases hd : q.2 with
          | tot k => rw [hd] at hb; simp only [gD, Dyn.val, hw, if_true, Option.some.injEq] at hb; exact ⟨_, rfl, hb.symm⟩
          | par k =>
            rw [hd] at hb
            simp only [gD, Dyn.val, hw, if_true] at hb
            obtain ⟨y, h1, h2⟩ := Option.map_eq_some_iff.1 hb
            exact ⟨y, h1, h2.symm⟩
        obtain ⟨y, hy, rfl⟩ := this
        obtain ⟨sv, h1, h2⟩ := softK_ok hT hr hD hq hy (some d)
        refine ⟨_, by simp only [evalL, e1, hw, if_true]; exact h1, Rep.set hr ?_⟩
        exact h2
      · have : b = none := by
          cases hd : q.2 with
          | tot k => rw [hd] at hb; simp only [gD, Dyn.val, hw, if_false, Option.some.injEq] at hb; exact hb.symm
          | par k => rw [hd] at hb; simp only [gD, Dyn.val, hw, if_false, Option.some.injEq] at hb; exact hb.symm
        subst this
        exact ⟨st.set (some d) skipped, by simp only [evalL, e1, hw, if_false], Rep.set hr (k := .opt q.1) (x := none) rfl⟩
    · rename_i f hg
      cases h
      have hs := hr.s g _ hg
      unfold RS at hs
      by_cases hw : f ρ = some want
      · simp only [hw] at hs
        obtain ⟨c, e1, e2⟩ := hs
        unfold Can at e2
        cases e2
        have : ∃ y, q.2.val ρ = some y ∧ b = some y := by
          cases hd : q.2 with
          | tot k => rw [hd] at hb; simp only [gO, Dyn.val, hw, if_true, Option.some.injEq] at hb; exact ⟨_, rfl, hb.symm⟩
          | par k =>
            rw [hd] at hb
            simp only [gO, Dyn.val, hw, if_true] at hb
            obtain ⟨y, h1, h2⟩ := Option.map_eq_some_iff.1 hb
            exact ⟨y, h1, h2.symm⟩
        obtain ⟨y, hy, rfl⟩ := this
        obtain ⟨sv, h1, h2⟩ := softK_ok hT hr hD hq hy (some d)
        refine ⟨_, by simp only [evalL, e1, if_true]; exact h1, Rep.set hr ?_⟩
        exact h2
      · have : b = none := by
          cases hd : q.2 with
          | tot k => rw [hd] at hb; simp only [gO, Dyn.val, hw, if_false, Option.some.injEq] at hb; exact hb.symm
          | par k => rw [hd] at hb; simp only [gO, Dyn.val, hw, if_false, Option.some.injEq] at hb; exact hb.symm
        subst this
        cases hf : f ρ with
        | none =>
          simp only [hf] at hs
          exact ⟨st.set (some d) skipped, by simp only [evalL, hs, skipped], Rep.set hr (k := .opt q.1) (x := none) rfl⟩
        | some b' =>
          simp only [hf] at hs
          obtain ⟨c, e1, e2⟩ := hs
          unfold Can at e2
          cases e2
          have hne : b' ≠ want := fun e => hw (by rw [hf, e])
          exact ⟨st.set (some d) skipped, by simp only [evalL, e1, hne, if_false], Rep.set hr (k := .opt q.1) (x := none) rfl⟩

theorem denLs_ok (hT : TOk X E) {A : Type} {msk : List Nat} {D : Option (List Nat)} (hD : ∀ (ob : Nat → Ob) id, msk.contains id = false → mask D ob id = ob id) : ∀ {ls : List SL} {Γ : TC} {q : LsD A Γ} {ρ : HS Γ} {st : St} {K : HS q.Γ' → Option A} {r : A},
    denLs A X msk ls Γ = some q → Rep Γ ρ st → q.run ρ K = some r → ∃ st', evalLs E D ls st = some st' ∧ ∃ ρ', Rep q.Γ' ρ' st' ∧ K ρ' = some r
  | [], Γ, q, ρ, st, K, r, h, hr, hk => by
    simp only [denLs, Option.some.injEq] at h
    subst h
    exact ⟨st, rfl, ρ, hr, hk⟩
  | l :: ls, Γ, q, ρ, st, K, r, h, hr, hk => by
    simp only [denLs] at h
    split at h <;> try (cases h; done)
    rename_i o ho
    split at h <;> try (cases h; done)
    rename_i p hp
    cases h
    have hk' : o.d.app ρ (fun b => p.run (o.up ρ b) K) = some r := hk
    obtain ⟨b, h1, h2⟩ := Dyn.app_some hk'
    obtain ⟨st1, h3, h4⟩ := opL_ok hT hr (hD st.ob) ho h1
    obtain ⟨st2, h5, h6⟩ := denLs_ok hT hD hp h4 h2
    exact ⟨st2, by simp [evalLs, h3, h5], h6⟩

theorem denReg_ok (hT : TOk X E) {A : Type} {draw : Bool} {D : List Nat} {ls : List SL} {Γ : TC} {q : LsD A Γ} {ρ : HS Γ} {st : St} {K : HS q.Γ' → Option A} {r : A} (h : denReg A X draw D ls Γ = some q) (hr : Rep Γ ρ st) (hk : q.run ρ K = some r) :
    ∃ st', evalReg E draw D ls st = some st' ∧ ∃ ρ', Rep q.Γ' ρ' st' ∧ K ρ' = some r := by
  cases D with
  | nil =>
    simp only [denReg] at h
    obtain ⟨st', h1, h2⟩ := denLs_ok hT (D := if draw then some [] else none) (fun ob id _ => by cases draw <;> simp [mask]) h hr hk
    exact ⟨st', by simpa [evalReg] using h1, h2⟩
  | cons d ds =>
    simp only [denReg] at h
    split at h <;> try (cases h; done)
    rename_i p hp
    cases h
    obtain ⟨st', h1, h2⟩ := denLs_ok hT (D := if draw then some (d :: ds) else none) (fun ob id hid => by
      cases draw
      · rfl
      · simp only [if_true] at hid ⊢
        simp only [mask, hid, Bool.false_eq_true, if_false]) hp (hr.kill (d :: ds)) hk
    exact ⟨st', by simpa [evalReg] using h1, h2⟩

theorem denS_ok (hT : TOk X E) {A : Type} {Q : Ex → St → Prop} : ∀ {c : AC} {Γ : TC} {q : LsD A Γ} {ρ : HS Γ} {st : St} {K : HS q.Γ' → Option A} {r : A}, denS A X c Γ = some q → Rep Γ ρ st → q.run ρ K = some r →
    (∀ st' ρ', Rep q.Γ' ρ' st' → K ρ' = some r → Q .normal st') → pwpS E (erase c) Q st := by
  intro c
  induction c generalizing Q with
  | skip =>
    intro Γ q ρ st K r h hr hk hQ
    simp only [denS, Option.some.injEq] at h
    subst h
    exact ⟨st, Seen.refl st, hQ _ _ hr hk⟩
  | reg draw D ls =>
    intro Γ q ρ st K r h hr hk hQ
    obtain ⟨st', h1, ρ', h2, h3⟩ := denReg_ok hT (K := K) h hr hk
    exact ⟨st, Seen.refl st, st', h1, hQ _ _ h2 h3⟩
  | sq a b iha ihb =>
    intro Γ q ρ st K r h hr hk hQ
    simp only [denS] at h
    split at h <;> try (cases h; done)
    rename_i p hp
    split at h <;> try (cases h; done)
    rename_i p' hp'
    cases h
    exact ⟨st, Seen.refl st, iha hp hr hk fun st' ρ' h1 h2 => ihb hp' h1 h2 hQ⟩
  | gh g c ih =>
    intro Γ q ρ st K r h hr hk hQ
    simp only [denS] at h
    split at h <;> try (cases h; done)
    rename_i p hp
    split at h <;> try (cases h; done)
    rename_i p' hp'
    cases h
    obtain ⟨st', h1, h2⟩ := ghT_ok hp hr
    exact pwpS_seen h1 (ih hp' h2 hk hQ)
  | _ => intro Γ q ρ st K r h; cases h

theorem resT1_ok {Γ : TC} {ρ : HS Γ} {st : St} (hr : Rep Γ ρ st) {x : SRes} {q : Σ t : Ty, Dyn (HS Γ) (D t)} {y : D q.1} (h : resT1 X Γ x = some q) (hy : q.2.val ρ = some y) : ∃ c, oneRes st x = some c ∧ Can q.1 y [c] := by
  cases x with
  | tmp t =>
    simp only [resT1] at h
    split at h <;> try (cases h; done)
    rename_i p hp
    cases h
    obtain ⟨c, h1, h2, _⟩ := rdC_ok (msk := []) (rd := st.ob) (G := X.G) (fl := p.1) (q := p.2) hp hr (fun _ _ => rfl) hy
    exact ⟨c, h1, h2⟩
  | cell a sz =>
    simp only [resT1] at h
    split at h <;> try (cases h; done)
    rename_i k hk
    split at h <;> try (cases h; done)
    · rename_i t d hd
      cases h
      obtain ⟨sv, h1, c, h2, h3⟩ := loadT_ok (msk := []) (rd := st.ob) (sv := so X.G st.fr (.t a)) hr (fun _ _ => rfl) hd hy (fun x hx => rdK_ok hk hr hx)
      subst h2
      refine ⟨c, ?_, h3⟩
      have h1' : loadV st.ob sz (st.fr a) = some (.c c) := h1
      simp [oneRes, h1', close]
    · rename_i id f hd
      split at h <;> try (cases h; done)
      rename_i e size t xs ho
      cases h
      cases hy
      obtain ⟨sv, h1, h2⟩ := loadT_ok (msk := []) (rd := st.ob) (sv := so X.G st.fr (.t a)) (y := f ρ) hr (fun _ _ => rfl) hd rfl (fun x hx => rdK_ok hk hr hx)
      have h2' : sv = .osl id := h2
      subst h2'
      obtain ⟨es, h3, h4⟩ := hr.o id _ ho
      refine ⟨.sl none es, ?_, by unfold Can; exact ⟨_, _, rfl, h4⟩⟩
      have h1' : loadV st.ob sz (st.fr a) = some (.osl id) := h1
      simp [oneRes, h1', close, h3]
theorem resRow_ok {Γ : TC} {ρ : HS Γ} {st : St} (hr : Rep Γ ρ st) : ∀ {xs : List SRes} {q : Σ t : Ty, Dyn (HS Γ) (D t)} {y : D q.1}, resRow X Γ xs = some q → q.2.val ρ = some y → ∃ l, allM (oneRes st) xs = some l ∧ Can q.1 y l
  | [], q, y, h, hy => by
    simp only [resRow, Option.some.injEq] at h
    subst h
    exact ⟨[], rfl, by unfold Can; rfl⟩
  | [x], q, y, h, hy => by
    simp only [resRow] at h
    split at h <;> try (cases h; done)
    rename_i p hp
    cases h
    obtain ⟨c, h1, h2⟩ := resT1_ok hr hp hy
    exact ⟨[c], by simp [allM, h1], by unfold Can; exact ⟨c, rfl, h2⟩⟩
  | x :: z :: xs, q, y, h, hy => by
    simp only [resRow] at h
    split at h <;> try (cases h; done)
    rename_i p p' hp hp'
    cases h
    obtain ⟨g1, g2⟩ := Dyn.both_val hy
    obtain ⟨c, h1, h2⟩ := resT1_ok hr hp g1
    obtain ⟨l, h3, h4⟩ := resRow_ok hr hp' g2
    refine ⟨c :: l, ?_, by unfold Can; exact ⟨c, l, rfl, h2, h4⟩⟩
    have e : allM (oneRes st) (x :: z :: xs) = (oneRes st x).bind fun b => (allM (oneRes st) (z :: xs)).map fun bs => b :: bs := rfl
    rw [e, h1, h3]; rfl
theorem resT_ok {Γ : TC} {ρ : HS Γ} {st : St} (hr : Rep Γ ρ st) {xs : List SRes} {q : Σ t : Ty, Dyn (HS Γ) (D t)} {y : D q.1} (h : resT X Γ xs = some q) (hy : q.2.val ρ = some y) : ∃ c, resOf st xs = some c ∧ Can q.1 y [c] := by
  match xs, h with
  | [x], h =>
    obtain ⟨c, h1, h2⟩ := resT1_ok hr h hy
    exact ⟨c, by simp [resOf, allM, h1, packRes], h2⟩
  | [], h =>
    simp only [resT] at h
    split at h <;> try (cases h; done)
    rename_i p hp
    cases h
    obtain ⟨l, h1, h2⟩ := resRow_ok hr hp hy
    simp only [allM, Option.some.injEq] at h1
    subst h1
    exact ⟨.tup [], rfl, by unfold Can; exact ⟨[], rfl, h2⟩⟩
  | x :: z :: xs, h =>
    simp only [resT] at h
    split at h <;> try (cases h; done)
    rename_i p hp
    cases h
    obtain ⟨l, h1, h2⟩ := resRow_ok hr hp hy
    have hlen := allM_length h1
    refine ⟨.tup l, ?_, by unfold Can; exact ⟨l, rfl, h2⟩⟩
    simp only [resOf, h1, Option.map_some]
    match l, hlen with
    | c :: d :: l, _ => rfl

/-! ### Ways out -/

theorem keX_head {R A B : Type} {e : Nat × TC} {ys : XC} {rt : Bool} {f : OutX R (e :: ys) rt → B} {ρ : HS e.2} {b : B} {ke : KE A (e :: ys)} {kr : R → Option A} {r : A} (h : (keX (e :: ys) rt f).1 ρ = some b)
    (hk : ∀ o, f o = b → elX (e :: ys) rt ke kr o = some r) : ke.1 ρ = some r := by
  cases ys with
  | nil =>
    cases rt with
    | false => exact hk ρ (Option.some.inj h)
    | true => exact hk (.inl ρ) (Option.some.inj h)
  | cons e' ys => exact hk (.inl ρ) (Option.some.inj h)
theorem keX_find {R A B : Type} : ∀ {ys : XC} {rt : Bool} {f : OutX R ys rt → B} {i : Nat} {Γi : TC} {s : KE B ys → HS Γi → Option B} {ρ : HS Γi} {b : B} {ke : KE A ys} {kr : R → Option A} {r : A}, findE B ys i = some ⟨Γi, s⟩ → s (keX ys rt f) ρ = some b →
    (∀ o, f o = b → elX ys rt ke kr o = some r) → ∃ s', findE A ys i = some ⟨Γi, s'⟩ ∧ s' ke ρ = some r
  | [], rt, f, i, Γi, s, ρ, b, ke, kr, r, h, _, _ => by cases h
  | e :: ys, rt, f, i, Γi, s, ρ, b, ke, kr, r, h, hs, hk => by
    simp only [findE] at h ⊢
    split at h
    · rename_i hi
      cases h
      rw [if_pos hi]
      exact ⟨_, rfl, keX_head hs hk⟩
    · rename_i hi
      rw [if_neg hi]
      split at h <;> try (cases h; done)
      rename_i q hq
      cases h
      cases ys with
      | nil => cases hq
      | cons e' ys =>
        obtain ⟨s', h1, h2⟩ := keX_find (A := A) (f := fun o => f (.inr o)) (ke := ke.2) (kr := kr) (r := r) hq hs (fun o ho => hk (.inr o) ho)
        rw [h1]
        exact ⟨_, rfl, h2⟩
theorem keX_tail {R A B : Type} {e : Nat × TC} {ys : XC} {rt : Bool} {f : OutX R (e :: ys) rt → B} {i : Nat} {Γi : TC} {s : KE B ys → HS Γi → Option B} {ρ : HS Γi} {b : B} {ke : KE A (e :: ys)} {kr : R → Option A} {r : A} (h : findE B ys i = some ⟨Γi, s⟩) (hs : s (keX (e :: ys) rt f).2 ρ = some b)
    (hk : ∀ o, f o = b → elX (e :: ys) rt ke kr o = some r) : ∃ s', findE A ys i = some ⟨Γi, s'⟩ ∧ s' ke.2 ρ = some r := by
  cases ys with
  | nil => cases h
  | cons e' ys => exact keX_find (A := A) (f := fun o => f (.inr o)) (ke := ke.2) (kr := kr) (r := r) h hs (fun o ho => hk (.inr o) ho)
theorem rtX_ok {R A B : Type} : ∀ {ys : XC} {rt : Bool} {f : OutX R ys rt → B} {v : R} {b : B} {ke : KE A ys} {kr : R → Option A} {r : A}, rtX ys rt f v = some b → (∀ o, f o = b → elX ys rt ke kr o = some r) → kr v = some r
  | [], true, f, v, b, ke, kr, r, h, hk => hk v (Option.some.inj h)
  | [], false, f, v, b, ke, kr, r, h, hk => by cases h
  | [e], false, f, v, b, ke, kr, r, h, hk => by cases h
  | [e], true, f, v, b, ke, kr, r, h, hk => hk (.inr v) (Option.some.inj h)
  | e :: e' :: ys, rt, f, v, b, ke, kr, r, h, hk => rtX_ok (f := fun o => f (.inr o)) (ke := ke.2) h (fun o ho => hk (.inr o) ho)
theorem selE_ok {A : Type} {xs : XC} : ∀ {ys : XC} {g : KE A xs → KE A ys} {i : Nat} {Γi : TC} {s : KE A ys → HS Γi → Option A} {ke : KE A xs} {ρ : HS Γi} {r : A}, selE A xs ys = some g → findE A ys i = some ⟨Γi, s⟩ → s (g ke) ρ = some r → ∃ s', findE A xs i = some ⟨Γi, s'⟩ ∧ s' ke ρ = some r
  | [], g, i, Γi, s, ke, ρ, r, _, h, _ => by cases h
  | e :: ys, g, i, Γi, s, ke, ρ, r, hg, h, hs => by
    simp only [selE] at hg
    split at hg <;> try (cases hg; done)
    rename_i q g' hq hg'
    split at hg <;> try (cases hg; done)
    rename_i he
    cases hg
    obtain ⟨Γq, f⟩ := q
    simp only at he
    subst he
    simp only [findE] at h
    split at h
    · rename_i hi
      subst hi
      cases h
      exact ⟨f, hq, hs⟩
    · split at h <;> try (cases h; done)
      rename_i q' hq'
      cases h
      exact selE_ok hg' hq' hs

def PostT {A : Type} {xs : XC} {Γn : TC} (rs : List SRes) (Rt : Ty) (k : DKn A xs Γn (D Rt)) (r : A) : Ex → St → Prop
  | .normal, st => ∃ ρ, Rep Γn ρ st ∧ k.n ρ = some r
  | .exit i, st => ∃ Γi s ρ, findE A xs i = some ⟨Γi, s⟩ ∧ Rep Γi ρ st ∧ s k.e ρ = some r
  | .ret, st => ∃ v c, resOf st rs = some c ∧ Can Rt v [c] ∧ k.r v = some r

theorem den_ok (hT : TOk X E) {rs : List SRes} {Rt : Ty} : ∀ (c : AC) {A : Type} {xs : XC} {Γn Γ : TC} {d : HS Γ → DKn A xs Γn (D Rt) → Option A} {ρ : HS Γ} {k : DKn A xs Γn (D Rt)} {st : St} {r : A},
    den X rs Rt c A xs Γn Γ = some d → Rep Γ ρ st → d ρ k = some r → pwpS E (erase c) (PostT rs Rt k r) st := by
  intro c
  induction c with
  | skip =>
    intro A xs Γn Γ d ρ k st r h hr hd
    simp only [den] at h
    split at h <;> try (cases h; done)
    rename_i f hf
    cases h
    exact ⟨st, Seen.refl st, _, coeC_ok hf hr, hd⟩
  | reg draw D ls =>
    intro A xs Γn Γ d ρ k st r h hr hd
    simp only [den] at h
    split at h <;> try (cases h; done)
    rename_i q hq
    split at h <;> try (cases h; done)
    rename_i f hf
    cases h
    obtain ⟨st', h1, ρ', h2, h3⟩ := denReg_ok hT hq hr hd
    exact ⟨st, Seen.refl st, st', h1, _, coeC_ok hf h2, h3⟩
  | sq a b iha ihb =>
    intro A xs Γn Γ d ρ k st r h hr hd
    simp only [den] at h
    split at h <;> try (cases h; done)
    rename_i q hq
    split at h <;> try (cases h; done)
    rename_i db hdb
    cases h
    exact ⟨st, Seen.refl st, denS_ok hT hq hr hd fun st' ρ' h1 h2 => ihb hdb h1 h2⟩
  | seq Γm a b iha ihb =>
    intro A xs Γn Γ d ρ k st r h hr hd
    simp only [den] at h
    split at h <;> try (cases h; done)
    rename_i da db hda hdb
    cases h
    refine ⟨st, Seen.refl st, pwpS_mono _ (fun e s hp => ?_) (iha hda hr hd)⟩
    cases e with
    | normal =>
      obtain ⟨ρ', h1, h2⟩ := hp
      exact ihb hdb h1 h2
    | exit i => exact hp
    | ret => exact hp
  | join Γm ex rt a b iha ihb =>
    intro A xs Γn Γ d ρ k st r h hr hd
    simp only [den] at h
    split at h <;> try (cases h; done)
    rename_i ys hys
    split at h <;> try (cases h; done)
    rename_i g da db hg hda hdb
    cases h
    obtain ⟨o, h1, h2⟩ := Option.bind_eq_some_iff.1 hd
    refine ⟨st, Seen.refl st, pwpS_mono _ (fun e s hp => ?_) (iha hda hr h1)⟩
    have hk : ∀ o', o' = o → elX ((0, Γm) :: ys) rt (fun ρm => db ρm k, g k.e) k.r o' = some r := fun o' ho => ho ▸ h2
    cases e with
    | normal =>
      obtain ⟨ρ', h3, h4⟩ := hp
      exact ihb hdb h3 (keX_head (ke := (fun ρm => db ρm k, g k.e)) h4 hk)
    | exit i =>
      obtain ⟨Γi, s', ρ', h3, h4, h5⟩ := hp
      obtain ⟨s2, h6, h7⟩ := keX_tail (A := A) (ke := (fun ρm => db ρm k, g k.e)) h3 h5 hk
      obtain ⟨s3, h8, h9⟩ := selE_ok hg h6 h7
      exact ⟨Γi, s3, ρ', h8, h4, h9⟩
    | ret =>
      obtain ⟨v, c, h3, h4, h5⟩ := hp
      exact ⟨v, c, h3, h4, rtX_ok (ke := (fun ρm => db ρm k, g k.e)) h5 hk⟩
  | cond c x y ihx ihy =>
    intro A xs Γn Γ d ρ k st r h hr hd
    simp only [den] at h
    split at h <;> try (cases h; done)
    rename_i e dx dy he hdx hdy
    cases h
    obtain ⟨b, h1, h2⟩ := Dyn.app_some hd
    obtain ⟨cv, e1, e2⟩ := rdV_ok (G := X.G) he hr h1
    unfold Can at e2
    cases e2
    refine ⟨st, Seen.refl st, b, by rw [hT.G]; exact e1, fun hb => ?_, fun hb => ?_⟩
    · rw [if_pos hb] at h2
      exact ihx hdx hr h2
    · rw [if_neg (by simp [hb])] at h2
      exact ihy hdy hr h2
  | block id b ih =>
    intro A xs Γn Γ d ρ k st r h hr hd
    simp only [den] at h
    split at h <;> try (cases h; done)
    rename_i db hdb
    cases h
    refine ⟨st, Seen.refl st, pwpS_mono _ (fun e s hp => ?_) (ih hdb hr hd)⟩
    cases e with
    | normal => exact hp
    | exit i =>
      obtain ⟨Γi, s', ρ', h3, h4, h5⟩ := hp
      simp only [findE] at h3
      by_cases hi : i = id
      · subst hi
        simp only [if_true, Option.some.injEq, Sigma.mk.injEq] at h3
        obtain ⟨rfl, h3⟩ := h3
        cases eq_of_heq h3
        simp only [if_true]
        exact ⟨ρ', h4, h5⟩
      · simp only [if_neg hi]
        rw [if_neg (fun e => hi e.symm)] at h3
        split at h3 <;> try (cases h3; done)
        rename_i q hq
        cases h3
        exact ⟨_, _, ρ', hq, h4, h5⟩
    | ret => exact hp
  | loop Γh ex rt b ih =>
    intro A xs Γn Γ d ρ k st r h hr hd
    simp only [den] at h
    split at h <;> try (cases h; done)
    rename_i ys hys
    split at h <;> try (cases h; done)
    rename_i g f db hg hf hdb
    cases h
    obtain ⟨o, h1, h2⟩ := Option.bind_eq_some_iff.1 hd
    obtain ⟨n, hn⟩ := iter_some.1 h1
    refine ⟨st, Seen.refl st, fun m s => ∃ ρ, Rep Γh ρ s ∧ iterN (fun ρ => db ρ ⟨fun ρ' => some (.inl ρ'), keX ys rt Sum.inr, rtX ys rt Sum.inr⟩) m ρ = some o, ⟨n, f ρ, coeC_ok hf hr, hn⟩, fun m s hR => ?_⟩
    obtain ⟨ρ1, hr1, hi⟩ := hR
    cases m with
    | zero => cases hi
    | succ m =>
      simp only [iterN] at hi
      obtain ⟨w, h3, h4⟩ := Option.bind_eq_some_iff.1 hi
      refine pwpS_mono _ (fun e s' hp => ?_) (ih hdb hr1 h3)
      have hk : ∀ o', Sum.inr o' = w → elX ys rt (g k.e) k.r o' = some r := fun o' ho => by
        subst ho
        simp only [Option.some.injEq] at h4
        rw [h4]; exact h2
      cases e with
      | normal =>
        obtain ⟨ρ', h5, h6⟩ := hp
        cases h6
        exact ⟨m, by omega, ρ', h5, h4⟩
      | exit i =>
        obtain ⟨Γi, s2, ρ', h5, h6, h7⟩ := hp
        obtain ⟨s3, h8, h9⟩ := keX_find (A := A) (ke := g k.e) h5 h7 hk
        obtain ⟨s4, h10, h11⟩ := selE_ok hg h8 h9
        exact ⟨Γi, s4, ρ', h10, h6, h11⟩
      | ret =>
        obtain ⟨v, c, h5, h6, h7⟩ := hp
        exact ⟨v, c, h5, h6, rtX_ok (ke := g k.e) h7 hk⟩
  | exit i =>
    intro A xs Γn Γ d ρ k st r h hr hd
    simp only [den] at h
    split at h <;> try (cases h; done)
    rename_i q hq
    split at h <;> try (cases h; done)
    rename_i f hf
    cases h
    exact ⟨st, Seen.refl st, q.1, q.2, _, hq, coeC_ok hf hr, hd⟩
  | ret =>
    intro A xs Γn Γ d ρ k st r h hr hd
    simp only [den] at h
    split at h <;> try (cases h; done)
    rename_i q hq
    split at h <;> try (cases h; done)
    rename_i g hg
    cases h
    obtain ⟨v, h1, h2⟩ := Dyn.app_some hd
    obtain ⟨c, h3, h4⟩ := resT_ok hr hq h1
    exact ⟨st, Seen.refl st, _, c, h3, coeT_can _ _ hg h4, h2⟩
  | raw c =>
    intro A xs Γn Γ d ρ k st r h hr hd
    simp only [den, Option.some.injEq] at h
    subst h
    cases hd
  | gh g c ih =>
    intro A xs Γn Γ d ρ k st r h hr hd
    simp only [den] at h
    split at h <;> try (cases h; done)
    rename_i p hp
    split at h <;> try (cases h; done)
    rename_i dc hdc
    cases h
    obtain ⟨st', h1, h2⟩ := ghT_ok hp hr
    exact pwpS_seen h1 (ih hdc h2 hd)
end
end WB
namespace WB
open Go Go.RowKit

structure AF where
  n : Nat
  code : AC
  res : List SRes

@[reducible] def slotsT : Ty → Nat → TC
  | .one t, i => [(.s i, .v t)]
  | .cons t r, i => (.s i, .v t) :: slotsT r (i + 1)
  | _, _ => []
def slotsP : (a : Ty) → (i : Nat) → D a → HS (slotsT a i)
  | .one _, _, x => (x, ())
  | .cons _ r, i, x => (x.1, slotsP r (i + 1) x.2)
  | .int _, _, _ | .bool, _, _ | .str, _, _ | .err, _, _ | .clo _ _, _, _ | .nsl, _, _ | .nmap, _, _ | .agg _, _, _ | .tup _, _, _ | .sl _, _, _ | .map _ _, _, _ | .nil, _, _ => ()

theorem slots_get : ∀ {a : Ty} {i : Nat} {x : D a} {l : List CV} {p : Key} {q : Σ k : EK, HS (slotsT a i) → DK k}, Can a x l → get (slotsT a i) p = some q → ∃ j c, p = .s (i + j) ∧ l[j]? = some c ∧ RS q.1 (q.2 (slotsP a i x)) (.c c)
  | .one t, i, x, l, p, q, hc, hg => by
    unfold Can at hc
    obtain ⟨c, rfl, hc⟩ := hc
    by_cases hp : Key.s i = p
    · subst hp
      have hg' : get ((Key.s i, EK.v t) :: []) (Key.s i) = some q := hg
      rw [get_eq] at hg'
      cases hg'
      exact ⟨0, c, rfl, rfl, c, rfl, hc⟩
    · obtain ⟨f, hf, _⟩ := get_ne hp hg
      cases hf
  | .cons t r, i, x, l, p, q, hc, hg => by
    unfold Can at hc
    obtain ⟨c, l', rfl, h1, h2⟩ := hc
    by_cases hp : Key.s i = p
    · subst hp
      have hg' : get ((Key.s i, EK.v t) :: slotsT r (i + 1)) (Key.s i) = some q := hg
      rw [get_eq] at hg'
      cases hg'
      exact ⟨0, c, rfl, rfl, c, rfl, h1⟩
    · obtain ⟨f, hf, hx⟩ := get_ne hp hg
      obtain ⟨j, c', h3, h4, h5⟩ := slots_get (i := i + 1) h2 hf
      refine ⟨j + 1, c', by rw [h3]; congr 1; omega, by simpa using h4, ?_⟩
      have e := hx (slotsP (.cons t r) i x)
      rw [e]; exact h5
  | .int _, _, _, _, _, _, _, hg => by cases hg
  | .bool, _, _, _, _, _, _, hg => by cases hg
  | .str, _, _, _, _, _, _, hg => by cases hg
  | .err, _, _, _, _, _, _, hg => by cases hg
  | .clo _ _, _, _, _, _, _, _, hg => by cases hg
  | .nsl, _, _, _, _, _, _, hg => by cases hg
  | .nmap, _, _, _, _, _, _, hg => by cases hg
  | .agg _, _, _, _, _, _, _, hg => by cases hg
  | .tup _, _, _, _, _, _, _, hg => by cases hg
  | .sl _, _, _, _, _, _, _, hg => by cases hg
  | .map _ _, _, _, _, _, _, _, hg => by cases hg
  | .nil, _, _, _, _, _, _, hg => by cases hg

theorem init_rep {a : Ty} {x : D a} {l : List CV} (hc : Can a x l) : Rep (slotsT a 0) (slotsP a 0 x) (init l) := by
  refine ⟨fun i q hq => ?_, fun id q hq => ?_⟩
  · obtain ⟨j, c, h1, h2, h3⟩ := slots_get hc hq
    simp only [Nat.zero_add, Key.s.injEq] at h1
    subst h1
    simp only [init, h2]
    exact h3
  · obtain ⟨j, c, h1, _⟩ := slots_get hc hq
    cases h1

def kN : (rs : List SRes) → (Rt : Ty) → Option (D Rt)
  | [], .tup .nil => some ()
  | _, _ => none
theorem kN_some {rs : List SRes} {Rt : Ty} {y : D Rt} (h : kN rs Rt = some y) (st : St) : ∃ c, resOf st rs = some c ∧ Can Rt y [c] := by
  unfold kN at h
  split at h
  · exact ⟨.tup [], rfl, by unfold Can; exact ⟨[], rfl, by unfold Can; rfl⟩⟩
  · cases h

noncomputable def funT (X : TP) (a Rt : Ty) (m : AF) : Option (D a → Option (D Rt)) :=
  match den X m.res Rt m.code (D Rt) [] [] (slotsT a 0) with
  | some d => some fun x => d (slotsP a 0 x) ⟨fun _ => kN m.res Rt, (), fun y => some y⟩
  | none => none

theorem funT_ok {P : Program} {X : TP} {E : Env} (hE : EOk P E) (hT : TOk X E) {a Rt : Ty} {m : AF} {g : D a → Option (D Rt)} (h : funT X a Rt m = some g) {f : FuncId} (hc : compF P f = some ⟨m.n, erase m.code, m.res⟩) {k : Nat} (hl : lenR a = some k) (hk : k ≤ m.n)
    {x : D a} {l : List CV} {y : D Rt} (hx : Can a x l) (hy : g x = some y) : hasBody P f = true ∧ CallsTo P E.G f l (.val (enc Rt y)) := by
  unfold funT at h
  split at h <;> try (cases h; done)
  rename_i d hd
  cases h
  refine fn_okT hE hc (by rw [lenR_can hl hx]; exact hk) (pwpS_mono _ (fun e st hp => ?_) (den_ok hT m.code hd (init_rep hx) hy))
  cases e with
  | normal =>
    obtain ⟨ρ, _, h2⟩ := hp
    exact kN_some h2 st
  | exit i =>
    obtain ⟨Γi, s, ρ, h1, _⟩ := hp
    cases h1
  | ret =>
    obtain ⟨v, c, h1, h2, h3⟩ := hp
    cases h3
    exact ⟨c, h1, h2⟩

/-! ### Environments -/

structure TB where
  G : Nat → List CV
  TT : Nat → Option Ty
  TM : Nat → Option (Ty × Ty)

def lookS : List (FuncId × Sig) → FuncId → Option Sig
  | [], _ => none
  | e :: L, f => if e.1 = f then some e.2 else lookS L f
def tp (B : TB) (L : List (FuncId × Sig)) : TP := ⟨B.G, lookS L, B.TT, B.TM⟩

open Classical in
noncomputable def envT (X : TP) : Env := { G := X.G, fn := fun f l => match X.T f with
  | some s => if h : ∃ x, Can s.a x l then (s.fn (choose h)).map fun y => .val (enc s.r y) else none
  | none => none }

theorem envT_fn {X : TP} {f : FuncId} {s : Sig} (hs : X.T f = some s) {x : D s.a} {l : List CV} {y : D s.r} (hx : Can s.a x l) (hy : s.fn x = some y) : (envT X).fn f l = some (.val (enc s.r y)) := by
  have hh : ∃ x, Can s.a x l := ⟨x, hx⟩
  simp only [envT, hs, dif_pos hh]
  rw [Can.uniq s.a (Classical.choose_spec hh) hx, hy]; rfl
theorem envT_some {X : TP} {f : FuncId} {l : List CV} {r : Res} (h : (envT X).fn f l = some r) : ∃ s x y, X.T f = some s ∧ Can s.a x l ∧ s.fn x = some y ∧ r = .val (enc s.r y) := by
  simp only [envT] at h
  split at h <;> try (cases h; done)
  rename_i s hs
  split at h <;> try (cases h; done)
  rename_i hh
  obtain ⟨y, h1, h2⟩ := Option.map_eq_some_iff.1 h
  exact ⟨s, _, y, hs, Classical.choose_spec hh, h1, h2.symm⟩

structure GoodT (P : Program) (B : TB) (L : List (FuncId × Sig)) : Prop where
  E : EOk P (envT (tp B L))
  T : TOk (tp B L) (envT (tp B L))

theorem GoodT.nil (P : Program) (B : TB) : GoodT P B [] := by
  refine ⟨fun f l r h => ?_, rfl, fun f s h => ?_⟩
  · obtain ⟨s, x, y, h1, _⟩ := envT_some h
    cases h1
  · cases h

/-- A function whose contract is shown otherwise. -/
theorem GoodT.addM {P : Program} {B : TB} {L : List (FuncId × Sig)} (h : GoodT P B L) (f : FuncId) (s : Sig) (hv : (s.r.val && s.r.ok) = true) (hf : ∀ x l y, Can s.a x l → s.fn x = some y → hasBody P f = true ∧ CallsTo P B.G f l (.val (enc s.r y))) : GoodT P B ((f, s) :: L) := by
  simp only [Bool.and_eq_true] at hv
  refine ⟨fun g l r hr => ?_, rfl, fun g s' hs => ?_⟩
  · obtain ⟨s', x, y, h1, h2, h3, rfl⟩ := envT_some hr
    have h1' : lookS ((f, s) :: L) g = some s' := h1
    unfold lookS at h1'
    by_cases hg : f = g
    · subst hg
      simp only [if_true, Option.some.injEq] at h1'
      subst h1'
      exact hf x l y h2 h3
    · simp only [hg, if_false] at h1'
      exact h.E g l _ (envT_fn (X := tp B L) h1' h2 h3)
  · refine ⟨?_, ?_, fun x l y hx hy => envT_fn hs hx hy⟩ <;>
    · have h1' : lookS ((f, s) :: L) g = some s' := hs
      unfold lookS at h1'
      by_cases hg : f = g
      · simp only [hg, if_true, Option.some.injEq] at h1'
        subst h1'
        first | exact hv.1 | exact hv.2
      · simp only [hg, if_false] at h1'
        first | exact (h.T.fn g s' h1').1 | exact (h.T.fn g s' h1').2.1

/-- A function read over plain data. -/
theorem GoodT.add {P : Program} {B : TB} {L : List (FuncId × Sig)} (h : GoodT P B L) (f : FuncId) (s : Sig) (m : AF) (hc : compF P f = some ⟨m.n, erase m.code, m.res⟩) (hg : funT (tp B L) s.a s.r m = some s.fn) {k : Nat} (hl : lenR s.a = some k) (hk : Nat.ble k m.n = true) (hv : (s.r.val && s.r.ok) = true) : GoodT P B ((f, s) :: L) :=
  h.addM f s hv fun _ _ _ hx hy => funT_ok h.E h.T hg hc hl (Nat.le_of_ble_eq_true hk) hx hy

theorem GoodT.call {P : Program} {B : TB} {L : List (FuncId × Sig)} (h : GoodT P B L) {f : FuncId} {s : Sig} (hs : lookS L f = some s) {x : D s.a} {l : List CV} {y : D s.r} (hx : Can s.a x l) (hy : s.fn x = some y) : CallsTo P B.G f l (.val (enc s.r y)) :=
  (h.E f l _ (envT_fn (X := tp B L) hs hx hy)).2
end WB
namespace WB
open Go Go.RowKit

theorem RelL.ints {w : World} {M : Nat → Prop} {k : IntKind} : ∀ {zs : List Int} {vs : List Value}, RelL w M (zs.map fun z => .int k z) vs → vs = zs.map fun z => Value.int k z
  | [], vs, h => by unfold RelL at h; exact h
  | z :: zs, vs, h => by
    simp only [List.map_cons] at h
    unfold RelL at h
    obtain ⟨v, vs', rfl, h1, h2⟩ := h
    unfold RelC at h1
    rw [h1, RelL.ints h2]; rfl

/-- A table that may be read is what the kit's contracts ask of it. -/
theorem GOk.tab {P : Program} {G : Nat → List CV} {w : World} {M : Nat → Prop} (h : GOk G w M) {name : String} {k : IntKind} {zs : List Int} {g : Nat} (hg : P.globalNamed name = some g) (hG : G g = zs.map fun z => .int k z) (hz : zs ≠ []) : Lib.TabIs P w name k zs := by
  obtain ⟨h1, cs, t, fr, h2, h3⟩ := h g (by rw [hG]; simpa using hz)
  rw [hG] at h1 h3
  unfold RelC at h1
  obtain ⟨ad, vs, e, _, _, hl, hc⟩ := h1
  cases e
  have hv := RelL.ints hl
  subst hv
  unfold Lib.TabIs World.var?
  rw [hg]
  simp only [Option.bind_some, h2, Option.some.injEq]
  apply Array.ext_getElem?
  intro i
  by_cases hi : i < zs.length
  · have := hc i (.int k zs[i]) (by simp [hi])
    have e2 : (({ block := g, off := 0, spot := none } : Addr).add i) = { block := g, off := i, spot := none } := by
      unfold Addr.add
      by_cases h0 : i = 0 <;> simp [h0]
    rw [e2] at this
    simp only [World.cell?, h2] at this
    rw [show (cs[i]? = some (Value.int k zs[i])) from by simpa using this]
    simp [hi]
  · rw [Array.getElem?_eq_none (by simp at h3; omega), Array.getElem?_eq_none (by simp; omega)]

/-- strconv.FormatInt at base 10. -/
def strconv_FormatInt : Int × Int → Option (List UInt8) := fun x => if x.2 = 10 ∧ -9223372036854775808 ≤ x.1 ∧ x.1 ≤ 9223372036854775807 then some (Lib.itoa x.1) else none
theorem strconv_FormatInt_ok {P : Program} {B : TB} {f g : Nat} (hb : hasBody P f = true) (hg : P.globalNamed "internal/strconv.uint64pow10" = some g) (hG : B.G g = Lib.pow10Tab.map fun z => .int .u64 z)
    (hc : ∀ (n : Int) (_ : -9223372036854775808 ≤ n) (_ : n ≤ 9223372036854775807) (w : World) (_ : Lib.TabIs P w "internal/strconv.uint64pow10" .u64 Lib.pow10Tab), Calls P f #[.int .i64 n, .int .i64 10] w fun e w' => e = .returned (.string ⟨(Lib.itoa n).toArray⟩) ∧ ∃ k os, w' = Sort.grow (w.drewN k) os)
    {x : D (.cons (.int .i64) (.one (.int .i64)))} {l : List CV} {y : D .str} (hx : Can (.cons (.int .i64) (.one (.int .i64))) x l) (hy : strconv_FormatInt x = some y) : hasBody P f = true ∧ CallsTo P B.G f l (.val (enc .str y)) := by
  refine ⟨hb, fun w M vs hM hGk hL => ?_⟩
  obtain ⟨n, b⟩ := x
  simp only [strconv_FormatInt] at hy
  split at hy
  · rename_i h
    obtain ⟨rfl, h0, h1⟩ := h
    cases hy
    unfold Can at hx
    obtain ⟨c, l', rfl, h2, h3⟩ := hx
    unfold Can at h2 h3
    obtain ⟨c', rfl, h3⟩ := h3
    unfold Can at h3
    cases h2; cases h3
    unfold RelL RelC at hL
    obtain ⟨v, vs', rfl, rfl, hL⟩ := hL
    unfold RelL RelC at hL
    obtain ⟨v, vs', rfl, rfl, hL⟩ := hL
    unfold RelL at hL
    subst hL
    refine (hc n h0 h1 w (hGk.tab hg hG (by simp [Lib.pow10Tab]))).mono fun e w' he => ?_
    obtain ⟨rfl, k, os, rfl⟩ := he
    refine ⟨_, rfl, Lib.below_grow _ _ (Nat.le_refl _) _ _, ?_⟩
    simp [RelR, enc, encL, RelC]
  · cases hy

/-- strings.TrimRight at one byte of ASCII. -/
def strings_TrimRight : List UInt8 × List UInt8 → Option (List UInt8) := fun x => match x.2 with
  | [c] => if c.toNat < 128 ∧ x.1.length ≤ 9223372036854775807 then some (Lib.trimRightB x.1 c) else none
  | _ => none
theorem strings_TrimRight_ok {P : Program} {B : TB} {f : Nat} (hb : hasBody P f = true)
    (hc : ∀ (s : ByteArray) (c : UInt8) (_ : c.toNat < 128) (w : World) (_ : s.size ≤ 9223372036854775807), Calls P f #[.string s, .string ⟨#[c]⟩] w fun e w' => e = .returned (.string ⟨(Lib.trimRightB s.data.toList c).toArray⟩) ∧ w' = w)
    {x : D (.cons .str (.one .str))} {l : List CV} {y : D .str} (hx : Can (.cons .str (.one .str)) x l) (hy : strings_TrimRight x = some y) : hasBody P f = true ∧ CallsTo P B.G f l (.val (enc .str y)) := by
  refine ⟨hb, fun w M vs hM hGk hL => ?_⟩
  obtain ⟨s, b⟩ := x
  simp only [strings_TrimRight] at hy
  split at hy <;> try (cases hy; done)
  rename_i c
  split at hy
  · rename_i h
    obtain ⟨h0, h1⟩ := h
    cases hy
    unfold Can at hx
    obtain ⟨c1, l', rfl, h2, h3⟩ := hx
    unfold Can at h2 h3
    obtain ⟨c', rfl, h3⟩ := h3
    unfold Can at h3
    cases h2; cases h3
    unfold RelL RelC at hL
    obtain ⟨v, vs', rfl, rfl, hL⟩ := hL
    unfold RelL RelC at hL
    obtain ⟨v, vs', rfl, rfl, hL⟩ := hL
    unfold RelL at hL
    subst hL
    refine (hc ⟨⟨s⟩⟩ c h0 w (by simpa [ByteArray.size] using h1)).mono fun e w' he => ?_
    obtain ⟨rfl, rfl⟩ := he
    refine ⟨_, rfl, Below.refl _ _, ?_⟩
    simp [RelR, enc, encL, RelC]
  · cases hy
/-- Two texts as arguments. -/
theorem rel_str2 {w : World} {M : Nat → Prop} {x : D (.cons .str (.one .str))} {l : List CV} {vs : List Value} (hx : Can (.cons .str (.one .str)) x l) (hL : RelL w M l vs) : vs = [.string ⟨⟨x.1⟩⟩, .string ⟨⟨x.2⟩⟩] := by
  obtain ⟨s, b⟩ := x
  unfold Can at hx
  obtain ⟨c1, l', rfl, h2, h3⟩ := hx
  unfold Can at h2 h3
  obtain ⟨c', rfl, h3⟩ := h3
  unfold Can at h3
  cases h2; cases h3
  unfold RelL RelC at hL
  obtain ⟨v, vs', rfl, rfl, hL⟩ := hL
  unfold RelL RelC at hL
  obtain ⟨v, vs', rfl, rfl, hL⟩ := hL
  unfold RelL at hL
  subst hL
  rfl
/-- strings.Index of one byte. -/
def internal_stringslite_Index : List UInt8 × List UInt8 → Option Int := fun x => match x.2 with
  | [c] => some (Lib.indexByte x.1 c)
  | _ => none
theorem internal_stringslite_Index_ok {P : Program} {B : TB} {f : Nat} (hb : hasBody P f = true)
    (hc : ∀ (s : ByteArray) (c : UInt8) (w : World), Calls P f #[.string s, .string ⟨#[c]⟩] w fun e w' => e = .returned (.int .i64 (Lib.indexByte s.data.toList c)) ∧ w' = w)
    {x : D (.cons .str (.one .str))} {l : List CV} {y : D (.int .i64)} (hx : Can (.cons .str (.one .str)) x l) (hy : internal_stringslite_Index x = some y) : hasBody P f = true ∧ CallsTo P B.G f l (.val (enc (.int .i64) y)) := by
  refine ⟨hb, fun w M vs hM hGk hL => ?_⟩
  rw [rel_str2 hx hL]
  obtain ⟨s, b⟩ := x
  simp only [internal_stringslite_Index] at hy
  split at hy <;> try (cases hy; done)
  rename_i c
  cases hy
  refine (hc ⟨⟨s⟩⟩ c w).mono fun e w' he => ?_
  obtain ⟨rfl, rfl⟩ := he
  refine ⟨_, rfl, Below.refl _ _, ?_⟩
  simp [RelR, enc, encL, RelC]
/-- stringslite.IndexByte. -/
def internal_stringslite_IndexByte : List UInt8 × Int → Option Int := fun x => some (Lib.indexByte x.1 x.2.toNat.toUInt8)
theorem internal_stringslite_IndexByte_ok {P : Program} {B : TB} {f : Nat} (hb : hasBody P f = true)
    (hc : ∀ (s : ByteArray) (c : Int) (w : World), Calls P f #[.string s, .int .u8 c] w fun e w' => e = .returned (.int .i64 (Lib.indexByte s.data.toList c.toNat.toUInt8)) ∧ w' = w)
    {x : D (.cons .str (.one (.int .u8)))} {l : List CV} {y : D (.int .i64)} (hx : Can (.cons .str (.one (.int .u8))) x l) (hy : internal_stringslite_IndexByte x = some y) : hasBody P f = true ∧ CallsTo P B.G f l (.val (enc (.int .i64) y)) := by
  refine ⟨hb, fun w M vs hM hGk hL => ?_⟩
  obtain ⟨s, c⟩ := x
  cases hy
  unfold Can at hx
  obtain ⟨c1, l', rfl, h2, h3⟩ := hx
  unfold Can at h2 h3
  obtain ⟨c', rfl, h3⟩ := h3
  unfold Can at h3
  cases h2; cases h3
  unfold RelL RelC at hL
  obtain ⟨v, vs', rfl, rfl, hL⟩ := hL
  unfold RelL RelC at hL
  obtain ⟨v, vs', rfl, rfl, hL⟩ := hL
  unfold RelL at hL
  subst hL
  refine (hc ⟨⟨s⟩⟩ c w).mono fun e w' he => ?_
  obtain ⟨rfl, rfl⟩ := he
  refine ⟨_, rfl, Below.refl _ _, ?_⟩
  simp [RelR, enc, encL, RelC]

/-! ### Tables from a row's list -/

theorem laid_mem {P : Program} {w : World} : ∀ {l : List (String × DataW Unit)} {ps : List MemPlace}, DataW.LaidVars P w l ps → ∀ {name : String} {d : DataW Unit}, (name, d) ∈ l → ∃ g t cs fuel p, P.globalNamed name = some g ∧ (P.globals[g]?).map (·.type) = some t ∧ w.var? P name = some cs ∧ DataW.trod (fun _ => ()) P w 0 (fun _ => true) false fuel t cs.toList = some (d, p)
  | [], _, _, _, _, hm => by cases hm
  | (n, d) :: l, ps, h, name, d', hm => by
    obtain ⟨g, t, cs, fuel, p, q, h1, h2, h3, h4, h5, h6⟩ := h
    rcases List.mem_cons.1 hm with e | hm
    · cases e
      exact ⟨g, t, cs, fuel, p, h1, h2, h3, h4⟩
    · exact laid_mem h5 hm
theorem tabIs_of_mem {P : Program} {W : World} {l : List (String × DataW Unit)} {name : String} {k : IntKind} {zs : List Int} {g : Nat} {t e : TypeId} {n : Nat} (hm : (name, Lib.tabData k zs) ∈ l)
    (hg : P.globalNamed name = some g) (hty : (P.globals[g]?).map (·.type) = some t) (ht : P.underlying t = some (.array n e)) (he : P.underlying e = some (.int k)) (hce : P.cellsOf e = 1) (hct : P.cellsOf t = n)
    (h : laidMet P l W) : Lib.TabIs P W name k zs := by
  obtain ⟨ps, h1, _, _⟩ := h
  obtain ⟨g', t', cs, fuel, p, hg', ht', hvar, hd⟩ := laid_mem h1 hm
  obtain rfl := Option.some.inj (hg.symm.trans hg')
  obtain rfl := Option.some.inj (hty.symm.trans ht')
  unfold Lib.TabIs
  rw [hvar, ← Lib.cells_of_tab ht he hce hct hd]

/-- The cells of a table of one block. -/
def TabCells (w : World) (g : Nat) (vs : List Value) : Prop := ∃ t fr, w.heap[g]? = some (.cells ⟨vs⟩ t fr)
theorem tab_cells {P : Program} {w : World} {name : String} {g : Nat} {vs : List Value} (hg : P.globalNamed name = some g) (h : w.var? P name = some ⟨vs⟩) : TabCells w g vs := by
  unfold World.var? at h
  rw [hg] at h
  simp only [Option.bind_some] at h
  split at h <;> try (cases h; done)
  rename_i cs t fr hh
  cases h
  exact ⟨t, fr, hh⟩
theorem GOk.one {w : World} {g : Nat} {cvs : List CV} {vs : List Value} (h : TabCells w g vs) (hr : RelL w (fun _ => False) cvs vs) :
    RelC w (fun _ => False) (.rp cvs) (.pointer (some ⟨g, 0, none⟩)) ∧ ∃ cs t fr, w.heap[g]? = some (.cells cs t fr) ∧ cs.size = cvs.length := by
  obtain ⟨t, fr, hh⟩ := h
  refine ⟨?_, ⟨vs⟩, t, fr, hh, by simp [hr.length]⟩
  unfold RelC
  refine ⟨⟨g, 0, none⟩, vs, rfl, heap_lt hh, fun hh => hh, hr, fun j u hu => ?_⟩
  have e2 : (({ block := g, off := 0, spot := none } : Addr).add j) = { block := g, off := j, spot := none } := by
    unfold Addr.add
    by_cases h0 : j = 0 <;> simp [h0]
  rw [e2]
  simp only [World.cell?, hh]
  simpa using hu
theorem relL_intsK {w : World} {M : Nat → Prop} {k : IntKind} : ∀ (zs : List Int), RelL w M (zs.map fun z => .int k z) (zs.map fun z => Value.int k z)
  | [] => RelL.nil
  | z :: zs => RelL.cons (by unfold RelC; rfl) (relL_intsK zs)
theorem GOk.ints {P : Program} {w : World} {name : String} {g : Nat} {k : IntKind} {zs : List Int} (hg : P.globalNamed name = some g) (h : Lib.TabIs P w name k zs) :
    RelC w (fun _ => False) (.rp (zs.map fun z => .int k z)) (.pointer (some ⟨g, 0, none⟩)) ∧ ∃ cs t fr, w.heap[g]? = some (.cells cs t fr) ∧ cs.size = (zs.map fun z => CV.int k z).length :=
  GOk.one (tab_cells hg h) (relL_intsK zs)
theorem laidMet_of_H {P : Program} {l : List (String × DataW Unit)} {w : World} (hf : (l.filter fun x => x.2.handleName?.isSome) = []) (h : laidMetH P l w) : laidMet P l w := by
  unfold laidMetH at h
  rw [hf] at h
  exact h
end WB
namespace WB
open Go Go.RowKit Go.ChangeShapes Go.WideShapes Go.Deep

/-- The ranges that types give. -/
def InR : (t : Ty) → D t → Prop
  | .int k, n => k.min ≤ (n : Int) ∧ (n : Int) ≤ k.max
  | .str, s => (s : List UInt8).length ≤ 9223372036854775807
  | .sl e, xs => (xs : List (D e)).length ≤ 9223372036854775807 ∧ ∀ x ∈ (xs : List (D e)), InR e x
  | .agg r, x => InR r x
  | .one t, x => InR t x
  | .cons t r, x => InR t x.1 ∧ InR r x.2
  | _, _ => True

def isAggT (P : Program) (t : TypeId) : Bool :=
  match P.underlying t with
  | some (.struct _) | some (.array _ _) => true
  | _ => false
/-- One value of a type whose cells are a row. -/
def valT (P : Program) (t : TypeId) (r : Ty) : Option Ty :=
  if isAggT P t then some (.agg r) else match r with
    | .one t => if oneT t = true then some t else none
    | _ => none

section
variable (P : Program)
def rowArr (r : Ty) : Nat → Ty
  | 0 => .nil
  | n + 1 => (appR r (rowArr r n)).1
def rowFs (R : TypeId → Option Ty) : List Field → Nat → Option Ty
  | [], _ => some .nil
  | f :: fs, off => (R f.type).bind fun r => (rowFs R fs (off + P.cellsOf f.type)).bind fun q => if f.offset = off ∧ lenR r = some (P.cellsOf f.type) then some (appR r q).1 else none
/-- The row of a type's cells. -/
def rowTy : Nat → TypeId → Option Ty
  | 0, _ => none
  | n + 1, t => match P.underlying t with
    | some (.int k) => some (.one (.int k))
    | some .bool => some (.one .bool)
    | some .string => some (.one .str)
    | some (.slice e) => (rowTy n e).bind fun r => (valT P e r).bind fun te => if te.val = true ∧ lenR (rowOf te) = some (P.cellsOf e) ∧ 0 < P.cellsOf e then some (.one (.sl te)) else none
    | some (.struct fs) => (rowFs P (rowTy n) fs.toList 0).bind fun r => if lenR r = some (P.cellsOf t) then some r else none
    | some (.array m e) => (rowTy n e).bind fun r => if lenR r = some (P.cellsOf e) ∧ lenR (rowArr r m) = some (P.cellsOf t) then some (rowArr r m) else none
    | _ => none
end

theorem InR_app : ∀ {r s : Ty} {n : Nat} {x : D r} {y : D s}, lenR r = some n → InR r x → InR s y → InR (appR r s).1 ((appR r s).2 x y) := by
  intro r
  induction r with
  | nil => intro s n x y _ _ h; exact h
  | one t _ =>
    intro s n x y _ h k
    cases s
    case nil => exact h
    all_goals exact ⟨h, k⟩
  | cons t r _ ihr =>
    intro s n x y hn h k
    simp only [lenR, Option.map_eq_some_iff] at hn
    obtain ⟨n', hn, _⟩ := hn
    exact ⟨h.1, ihr hn h.2 k⟩
  | _ => intro s n x y hn; cases hn

section
variable {H : Type} {enc : TypeId × Value → H} {P : Program} {w : World} {base : Nat} {spare : Nat → Bool} {held : Bool}

/-- A row of cells as one value. -/
theorem one_value {t : TypeId} {r te : Ty} {x : D r} {cvs : List CV} {cs : List Value} (hv : valT P t r = some te) (hl : isAggT P t = false → cs.length = 1) (hc : Can r x cvs) (hr : RelL w (fun _ => False) cvs cs) (hi : InR r x) :
    ∃ (y : D te) (c : CV) (v : Value), Can te y [c] ∧ RelC w (fun _ => False) c v ∧ v.cells.toList = cs ∧ InR te y := by
  unfold valT at hv
  split at hv
  · cases hv
    exact ⟨x, .agg cvs, .agg ⟨cs⟩, by unfold Can; exact ⟨_, rfl, hc⟩, by unfold RelC; exact ⟨_, rfl, hr⟩, rfl, hi⟩
  · rename_i ha
    have hl := hl (by simpa using ha)
    split at hv <;> try (cases hv; done)
    split at hv <;> try (cases hv; done)
    rename_i ho
    cases hv
    unfold Can at hc
    obtain ⟨c, rfl, hc⟩ := hc
    unfold RelL at hr
    obtain ⟨v, vs, rfl, h1, h2⟩ := hr
    unfold RelL at h2
    subst h2
    refine ⟨x, c, v, hc, h1, ?_, hi⟩
    rw [oneCell_of_RelC h1 (fun cs e => by have := oneT_can ho hc; rw [e] at this; cases this)]

theorem take_drop_cons {α : Type} (l : List α) (off n : Nat) : l.drop off = (l.drop off).take n ++ l.drop (off + n) := by
  rw [← List.drop_drop, List.take_append_drop]

/-- All cells of an array. -/
theorem open_arr {r : Ty} {k : Nat} (hk : lenR r = some k) {cs : List Value} : ∀ {m j : Nat}, (∀ i, j ≤ i → i < j + m → ∃ (x : D r) (cvs : List CV), Can r x cvs ∧ RelL w (fun _ => False) cvs ((cs.drop (i * k)).take k) ∧ InR r x) →
    ∃ (x : D (rowArr r m)) (cvs : List CV), Can (rowArr r m) x cvs ∧ RelL w (fun _ => False) cvs ((cs.drop (j * k)).take (m * k)) ∧ InR (rowArr r m) x
  | 0, j, _ => ⟨(), [], rfl, by simp only [Nat.zero_mul, List.take_zero]; exact RelL.nil, trivial⟩
  | m + 1, j, h => by
    obtain ⟨x, cvs, h1, h2, h3⟩ := h j (Nat.le_refl _) (by omega)
    obtain ⟨y, dvs, g1, g2, g3⟩ := open_arr hk (m := m) (j := j + 1) (cs := cs) (fun i h4 h5 => h i (by omega) (by omega))
    refine ⟨(appR r (rowArr r m)).2 x y, cvs ++ dvs, appR_can hk h1 g1, ?_, InR_app hk h3 g3⟩
    have e : (cs.drop (j * k)).take ((m + 1) * k) = (cs.drop (j * k)).take k ++ (cs.drop ((j + 1) * k)).take (m * k) := by
      rw [Nat.add_mul, Nat.one_mul, Nat.add_comm (m * k) k, List.take_add, List.drop_drop, Nat.add_mul, Nat.one_mul]
    rw [e]
    exact RelL.append h2 g2

theorem wf_int {k : IntKind} {n : Int} (h : (Lit.int k n).wf = true) : k.min ≤ n ∧ n ≤ k.max := by
  simpa [Lit.wf] using h

theorem exists_two {α β : Type} {p : Nat → α → β → Prop} : ∀ (n : Nat), (∀ i, i < n → ∃ x y, p i x y) → ∃ (l : List α) (m : List β), l.length = n ∧ m.length = n ∧ ∀ (i : Nat) x y, l[i]? = some x → m[i]? = some y → p i x y := by
  intro n h
  obtain ⟨l, hl, hp⟩ := exists_list (p := fun i (z : α × β) => p i z.1 z.2) n (fun i hi => by obtain ⟨x, y, h⟩ := h i hi; exact ⟨(x, y), h⟩)
  refine ⟨l.map (·.1), l.map (·.2), by simp [hl], by simp [hl], fun i x y h1 h2 => ?_⟩
  rw [List.getElem?_map, Option.map_eq_some_iff] at h1 h2
  obtain ⟨z, hz, rfl⟩ := h1
  obtain ⟨z', hz', rfl⟩ := h2
  rw [hz] at hz'
  cases hz'
  exact hp i z hz

theorem CanAll_of {α β : Type} {R : α → β → Prop} : ∀ {as : List α} {bs : List β}, as.length = bs.length → (∀ (i : Nat) a b, as[i]? = some a → bs[i]? = some b → R a b) → CanAll R as bs
  | [], [], _, _ => rfl
  | [], _ :: _, h, _ => by cases h
  | _ :: _, [], h, _ => by cases h
  | a :: as, b :: bs, h, hr => ⟨b, bs, rfl, hr 0 a b rfl rfl, CanAll_of (by simpa using h) fun i x y h1 h2 => hr (i + 1) x y (by simpa using h1) (by simpa using h2)⟩

theorem open_fs {R : TypeId → Option Ty} (hR : ∀ {t : TypeId} {r : Ty} {fuel : Nat} {cs : List Value} {y : DataW H × List MemPlace}, R t = some r → DataW.trod enc P w base spare held fuel t cs = some y → ∃ (x : D r) (cvs : List CV), Can r x cvs ∧ RelL w (fun _ => False) cvs cs ∧ InR r x) : ∀ {fs : List Field} {off : Nat} {r : Ty} {cs : List Value}, rowFs P R fs off = some r → (∀ f ∈ fs, ∃ fuel y, DataW.trod enc P w base spare held fuel f.type ((cs.drop f.offset).take (P.cellsOf f.type)) = some y) →
    ∃ (x : D r) (cvs : List CV), Can r x cvs ∧ RelL w (fun _ => False) cvs ((cs.drop off).take cvs.length) ∧ InR r x
  | [], off, r, cs, h, _ => by
    unfold rowFs at h
    cases h
    exact ⟨(), [], rfl, by simp only [List.length_nil, List.take_zero]; exact RelL.nil, trivial⟩
  | f :: fs, off, r, cs, h, hd => by
    unfold rowFs at h
    obtain ⟨r', h1, h⟩ := Option.bind_eq_some_iff.1 h
    obtain ⟨q, h2, h⟩ := Option.bind_eq_some_iff.1 h
    split at h <;> try (cases h; done)
    rename_i hh
    obtain ⟨hoff, hlen⟩ := hh
    cases h
    obtain ⟨fuel, y, hy⟩ := hd f (by simp)
    obtain ⟨x, cvs, g1, g2, g3⟩ := hR h1 hy
    obtain ⟨x', cvs', k1, k2, k3⟩ := open_fs hR (cs := cs) h2 (fun f' hf' => hd f' (by simp [hf']))
    refine ⟨(appR r' q).2 x x', cvs ++ cvs', appR_can hlen g1 k1, ?_, InR_app hlen g3 k3⟩
    have hl := lenR_can hlen g1
    rw [hoff, ← hl] at g2
    rw [← hl] at k2
    rw [List.length_append, List.take_add, List.drop_drop]
    exact RelL.append g2 k2

theorem open_cells : ∀ {n : Nat} {t : TypeId} {r : Ty} {fuel : Nat} {cs : List Value} {y : DataW H × List MemPlace}, rowTy P n t = some r → DataW.trod enc P w base spare held fuel t cs = some y → (isAggT P t = false → cs.length = 1) ∧ ∃ (x : D r) (cvs : List CV), Can r x cvs ∧ RelL w (fun _ => False) cvs cs ∧ InR r x
  | 0, _, _, _, _, _, h, _ => by cases h
  | n + 1, t, r, fuel, cs, y, h, hd => by
    unfold rowTy at h
    split at h
    · rename_i k ht
      cases h
      obtain ⟨m, rfl, _, hw⟩ := DataW.trod_int ht hd
      exact ⟨fun _ => rfl, m, [.int k m], ⟨_, rfl, rfl⟩, RelL.cons rfl RelL.nil, wf_int hw⟩
    · rename_i ht
      cases h
      obtain ⟨b, rfl, _⟩ := DataW.trod_bool ht hd
      exact ⟨fun _ => rfl, b, [.bool b], ⟨_, rfl, rfl⟩, RelL.cons rfl RelL.nil, trivial⟩
    · rename_i ht
      cases h
      obtain ⟨s, rfl, _, hs⟩ := DataW.trod_string ht hd
      refine ⟨fun _ => rfl, s.data.toList, [.str s.data.toList], ⟨_, rfl, rfl⟩, RelL.cons rfl RelL.nil, ?_⟩
      have h9 : s.size ≤ 9223372036854775807 := hs
      show s.data.toList.length ≤ 9223372036854775807
      rw [Array.length_toList]
      exact h9
    · rename_i e ht
      obtain ⟨r', h1, h⟩ := Option.bind_eq_some_iff.1 h
      obtain ⟨te, h2, h⟩ := Option.bind_eq_some_iff.1 h
      split at h <;> try (cases h; done)
      rename_i hh
      obtain ⟨hv, hlen, hpos⟩ := hh
      cases h
      rcases open_slice ht hd with ⟨h0, _⟩ | ⟨a, len, cap, m, n', D', Pl, hcs, hb, hl, hm, hmm, hx, hi⟩
      · subst h0
        refine ⟨fun _ => rfl, [], [.sl (some true) []], ⟨_, rfl, _, _, rfl, rfl⟩, RelL.cons ?_ RelL.nil, by simp [InR]⟩
        unfold RelC
        exact ⟨none, 0, 0, rfl, rfl, Nat.le_refl _, fun _ => rfl, (fun hh => by cases hh), fun _ => rfl, fun hh => absurd rfl hh⟩
      · subst hcs
        have hel : ∀ i, i < len → ∃ (z : D te) (c : CV), (Can te z [c] ∧ InR te z) ∧ ∃ v, RelC w (fun _ => False) c v ∧ v.cells.size = P.cellsOf e ∧ ∀ (j : Nat) u, v.cells[j]? = some u → w.cell? (a.add (i * P.cellsOf e + j)) = some u := by
          intro i hil
          obtain ⟨cs', hc, ht'⟩ := hi i (by rw [hmm]; split <;> omega)
          obtain ⟨_, hcl, hat⟩ := World.cells?_some hc
          obtain ⟨g0, x, cvs, g1, g2, g3⟩ := open_cells h1 ht'
          obtain ⟨z, c, v, k1, k2, k3, k4⟩ := one_value h2 g0 g1 g2 g3
          refine ⟨z, c, ⟨k1, k4⟩, v, k2, by rw [← hcl, ← k3]; simp, fun j u hu => ?_⟩
          have hj : j < P.cellsOf e := by
            have := (Array.getElem?_eq_some_iff.1 hu).1
            rw [← hcl, ← k3]; simpa using this
          rw [← WB.add_add, hat j hj, ← k3]
          simpa using hu
        obtain ⟨zs, es, e1, e2, hp⟩ := exists_two len hel
        refine ⟨fun _ => rfl, zs, [.sl (some false) es], ⟨_, rfl, _, _, rfl, CanAll_of (by omega) fun i z c h3 h4 => (hp i z c h3 h4).1.1⟩, RelL.cons ?_ RelL.nil, ⟨?_, fun z hz => ?_⟩⟩
        · unfold RelC
          refine ⟨some a, len, cap, rfl, by omega, hl, (fun hh => by cases hh), (fun _ => by simp), (fun hh => by cases hh), fun hne => ?_⟩
          refine ⟨a, P.cellsOf e, rfl, ?_, fun hh => hh, RelE_of_get fun k el hel' => ?_⟩
          · have hlen0 : 0 < len := by
              rcases Nat.eq_zero_or_pos len with h0 | h0
              · exact absurd (List.eq_nil_of_length_eq_zero (by omega)) hne
              · exact h0
            obtain ⟨cs', hc, _⟩ := hi 0 (by rw [hmm]; split <;> omega)
            obtain ⟨_, hcl, hat⟩ := World.cells?_some hc
            have h5 := hat 0 hpos
            rw [List.getElem?_eq_getElem (by omega)] at h5
            have h6 := cell_lt h5
            rw [add_block, add_block] at h6
            exact h6
          · have hk : k < len := by have := (List.getElem?_eq_some_iff.1 hel').1; omega
            have hz : zs[k]? = some (zs[k]'(by omega)) := List.getElem?_eq_getElem _
            obtain ⟨v, k1, k2, k3⟩ := (hp k _ el hz hel').2
            exact ⟨v, k1, k2, fun j u hu => by simpa using k3 j u hu⟩
        · have : cap ≤ 9223372036854775807 := hm
          omega
        · obtain ⟨i, hi'⟩ := List.getElem?_of_mem hz
          have hlt := (List.getElem?_eq_some_iff.1 hi').1
          exact (hp i z (es[i]'(by omega)) hi' (List.getElem?_eq_getElem _)).1.2
    · rename_i fs ht
      obtain ⟨r', h1, h⟩ := Option.bind_eq_some_iff.1 h
      split at h <;> try (cases h; done)
      rename_i hlen
      cases h
      obtain ⟨ys, n', _, _, hcl, hyl, hg⟩ := DataW.trod_struct ht hd
      refine ⟨fun ha => by simp [isAggT, ht] at ha, ?_⟩
      obtain ⟨x, cvs, g1, g2, g3⟩ := open_fs (fun h3 h4 => (open_cells h3 h4).2) (cs := cs) h1 (fun f hf => by
        obtain ⟨i, hi⟩ := List.getElem?_of_mem hf
        have h2 := hg i f (by simpa using hi)
        have hi' := (List.getElem?_eq_some_iff.1 hi).1
        rw [List.getElem?_eq_getElem (show i < ys.length by rw [hyl]; simpa using hi')] at h2
        exact ⟨_, _, h2⟩)
      have hl2 := lenR_can hlen g1
      have hl3 := g2.length
      have hl4 : (cs.take cvs.length) = cs := List.take_of_length_le (by omega)
      rw [List.drop_zero, hl4] at g2
      exact ⟨x, cvs, g1, g2, g3⟩
    · rename_i m e ht
      obtain ⟨r', h1, h⟩ := Option.bind_eq_some_iff.1 h
      split at h <;> try (cases h; done)
      rename_i hlen
      cases h
      obtain ⟨ys, n', _, _, hcl, hyl, hg⟩ := DataW.trod_array ht hd
      refine ⟨fun ha => by simp [isAggT, ht] at ha, ?_⟩
      obtain ⟨x, cvs, g1, g2, g3⟩ := open_arr (w := w) hlen.1 (cs := cs) (m := m) (j := 0) (fun i _ hi => by
        have h2 := hg i (by omega)
        rw [List.getElem?_eq_getElem (show i < ys.length by omega)] at h2
        exact (open_cells h1 h2).2)
      have hl2 := lenR_can hlen.2 g1
      have hl3 := g2.length
      simp only [Nat.zero_mul, List.drop_zero, List.length_take] at hl3 g2
      have hl4 : (cs.take (m * P.cellsOf e)) = cs := List.take_of_length_le (by omega)
      rw [hl4] at g2
      exact ⟨x, cvs, g1, g2, g3⟩
    · cases h
/-- A type's value as plain data. -/
def typT (P : Program) (n : Nat) (t : TypeId) : Option Ty := (rowTy P n t).bind fun r => (valT P t r).bind fun te => if te.val = true then some te else none
theorem open_val {n : Nat} {t : TypeId} {te : Ty} {r : Reach} {b0 : Nat} {v : Value} {d : DataW H} {p : List MemPlace} (ht : typT P n t = some te) (hv : Value.okWide P w r b0 t v) (hd : DataW.Trod enc P w base spare held t v d p) :
    ∃ (x : D te) (c : CV), Can te x [c] ∧ RelC w (fun _ => False) c v ∧ InR te x := by
  unfold typT at ht
  obtain ⟨r', h1, ht⟩ := Option.bind_eq_some_iff.1 ht
  obtain ⟨te', h2, ht⟩ := Option.bind_eq_some_iff.1 ht
  split at ht <;> try (cases ht; done)
  cases ht
  obtain ⟨fuel, hd⟩ := hd
  obtain ⟨g0, x, cvs, g1, g2, g3⟩ := open_cells h1 hd
  obtain ⟨z, c, v', k1, k2, k3, k4⟩ := one_value h2 g0 g1 g2 g3
  refine ⟨z, c, k1, ?_, k4⟩
  unfold valT at h2
  split at h2
  · rename_i ha
    have hagg : ∃ cs, v = .agg cs := by
      unfold isAggT at ha
      split at ha <;> try (cases ha; done)
      all_goals
        rename_i ht
        simp only [Value.okWide, ht] at hv
        obtain ⟨cs, h, _⟩ := hv
        exact ⟨cs, h⟩
    obtain ⟨cs, rfl⟩ := hagg
    have ht' : te = .agg r' := by cases h2; rfl
    subst ht'
    unfold Can at k1
    obtain ⟨l, e, _⟩ := k1
    cases e
    unfold RelC at k2 ⊢
    obtain ⟨vs, e, hl⟩ := k2
    subst e
    refine ⟨vs, ?_, hl⟩
    have : vs = cs.toList := by simpa [Value.cells] using k3
    rw [this]
  · rename_i ha
    split at h2 <;> try (cases h2; done)
    split at h2 <;> try (cases h2; done)
    rename_i ho
    cases h2
    have e := oneCell_of_RelC k2 (fun cs e => by have := oneT_can ho k1; rw [e] at this; cases this)
    rw [e] at k3
    have hl : v.cells = #[v'] := by
      apply Array.toList_inj.1
      rw [← k3]
    have : v = v' := by
      cases v with
      | agg cs =>
        exfalso
        unfold isAggT at ha
        unfold Value.okWide at hv
        split at hv
        all_goals first
          | (rename_i hh; rw [hh] at ha; exact ha rfl)
          | (rename_i hn1 hn2
             revert hv
             simp only [Cell.okWide, Cell.ok]
             split <;> simp_all)
      | _ => simpa [Value.cells] using hl
    rw [this]
    exact k2

/-- A row's arguments. -/
def argsTy (P : Program) (n : Nat) : List TypeId → Option Ty
  | [] => some .nil
  | [t] => (typT P n t).map .one
  | t :: u :: ts => (typT P n t).bind fun te => (argsTy P n (u :: ts)).map fun r => .cons te r
theorem open_all {n : Nat} {r : Reach} {b0 : Nat} : ∀ {ts : List TypeId} {a : Ty} {vs : List Value} {ds : List (DataW H)} {ps : List MemPlace}, argsTy P n ts = some a → (∀ (j : Nat) t v, ts[j]? = some t → vs[j]? = some v → Value.okWide P w r b0 t v) → DataW.TrodAll enc P w base spare held ts vs ds ps →
    ∃ (x : D a) (l : List CV), Can a x l ∧ RelL w (fun _ => False) l vs ∧ InR a x
  | [], a, vs, ds, ps, ha, _, h => by
    cases ha
    obtain ⟨rfl, rfl, rfl⟩ := trodAll_nil h
    exact ⟨(), [], rfl, RelL.nil, trivial⟩
  | [t], a, vs, ds, ps, ha, hv, h => by
    obtain ⟨te, h1, rfl⟩ := Option.map_eq_some_iff.1 ha
    obtain ⟨v0, vs0, d0, ds0, p0, q0, rfl, rfl, rfl, h0, r0⟩ := trodAll_cons h
    obtain ⟨rfl, rfl, rfl⟩ := trodAll_nil r0
    obtain ⟨x, c, g1, g2, g3⟩ := open_val h1 (hv 0 t v0 rfl rfl) h0
    exact ⟨x, [c], ⟨c, rfl, g1⟩, RelL.cons g2 RelL.nil, g3⟩
  | t :: u :: ts, a, vs, ds, ps, ha, hv, h => by
    obtain ⟨te, h1, ha⟩ := Option.bind_eq_some_iff.1 ha
    obtain ⟨q, h2, rfl⟩ := Option.map_eq_some_iff.1 ha
    obtain ⟨v0, vs0, d0, ds0, p0, q0, rfl, rfl, rfl, h0, r0⟩ := trodAll_cons h
    obtain ⟨x, c, g1, g2, g3⟩ := open_val h1 (hv 0 t v0 rfl rfl) h0
    obtain ⟨x', l, k1, k2, k3⟩ := open_all h2 (fun j t' v' h3 h4 => hv (j + 1) t' v' (by simpa using h3) (by simpa using h4)) r0
    exact ⟨(x, x'), c :: l, ⟨c, l, rfl, g1, k1⟩, RelL.cons g2 k2, g3, k3⟩
end

theorem trodAll_length {H : Type} {enc : TypeId × Value → H} {P : Program} {w : World} {base : Nat} {spare : Nat → Bool} {held : Bool} : ∀ {ts : List TypeId} {vs : List Value} {ds : List (DataW H)} {ps : List MemPlace}, DataW.TrodAll enc P w base spare held ts vs ds ps → ds.length = ts.length
  | [], vs, ds, ps, h => by
    obtain ⟨rfl, rfl, rfl⟩ := trodAll_nil h
    rfl
  | t :: ts, vs, ds, ps, h => by
    obtain ⟨v0, vs0, d0, ds0, p0, q0, rfl, rfl, rfl, h0, r0⟩ := trodAll_cons h
    simp [trodAll_length r0]

/-- A row of a law: what its call shows. -/
theorem row_contract {P : Program} {G : Nat → List CV} {f : FuncId} {fn : Func} {s : ChangeSpec} {tb : TypeId} {a : Ty} (n : Nat) (laidOut : laidOutB P = true) (hA : argsTy P n fn.params.toList = some a) (hr : (fn.params.toList.all fun t => P.readableRec t && decide (t < P.types.size)) = true)
    (hres : fn.resultTypes = #[tb]) (htb : P.underlying tb = some .bool) (hsv : s.vars = []) (hs : ∀ (H : Type) (ds : List (DataW H)), ds.length = fn.params.size → (s.fn H ds).results = [.lit (.bool true)] ∧ (s.fn H ds).args = ds ∧ (s.fn H ds).vars = [])
    (hcall : ∀ (x : D a) (l : List CV), Can a x l → InR a x → CallsTo P G f l (.val (.bool true)))
    (H : Type) (enc : TypeId × Value → H) (W : World) (base : Nat) (args : Array Value) (ds gs : List (DataW H)) (before : List MemPlace)
    (hval : ∀ (j : Nat) t v, fn.params[j]? = some t → args[j]? = some v → Value.okWide P W .any base t v)
    (hW : DataW.Whole enc P fn.params.toList s.vars false W args.toList ds gs before) (hG : GOk G W (fun _ => False)) :
    Calls P f args W fun e W' => ∃ v, e = .returned v ∧ s.post enc P fn false true false false W args v W' := by
  have hW' := hW
  obtain ⟨p, q, hA0, hV, rfl, hfz, hnd⟩ := hW
  have hA1 : DataW.TrodAll enc P W 0 (fun _ => true) true fn.params.toList args.toList ds p := hA0
  rw [hsv] at hV
  obtain ⟨rfl, rfl⟩ := trodVars_none hV
  obtain ⟨x, l, g1, g2, g3⟩ := open_all (base := 0) hA (fun j t v h1 h2 => hval j t v (by simpa using h1) (by simpa using h2)) hA1
  have hlen : ds.length = fn.params.size := by rw [trodAll_length hA1]; simp
  obtain ⟨e1, e2, e3⟩ := hs H ds hlen
  have hc := hcall x l g1 g3 W (fun _ => False) args.toList (fun _ h => h.elim) hG g2
  refine hc.mono fun e W' ⟨v, he, hb, hr'⟩ => ?_
  subst he
  unfold RelR RelC at hr'
  subst hr'
  refine ⟨_, rfl, post_below (pa := p) (pv := []) hW' (fun _ _ _ => ?_) (fun sp hsp => ?_) (fun sp hsp => ?_) rfl hb ?_⟩
  · rw [List.append_nil, e1, hres]
    exact trodAll_cons_mk (shut_bool htb _) trodAll_mk0
  · rw [List.append_nil, e2]
    exact trodAll_below laidOut hb hr (fun x hx => hW'.lt x (by simpa using hx)) (fun x hx => hsp x (by simpa using hx)) hA1
  · rw [List.append_nil, e3, hsv]
    rfl
  · exact ok_one hres rfl (okWide_bool_mk htb _)
theorem in_i64 {n : Int} (h : InR (.int .i64) n) : -9223372036854775808 ≤ n ∧ n ≤ 9223372036854775807 := by simpa [InR, IntKind.min, IntKind.max, IntKind.signed, IntKind.bits] using h
theorem in_i32 {n : Int} (h : InR (.int .i32) n) : -2147483648 ≤ n ∧ n ≤ 2147483647 := by simpa [InR, IntKind.min, IntKind.max, IntKind.signed, IntKind.bits] using h
theorem in_i16 {n : Int} (h : InR (.int .i16) n) : -32768 ≤ n ∧ n ≤ 32767 := by simpa [InR, IntKind.min, IntKind.max, IntKind.signed, IntKind.bits] using h
theorem in_i8 {n : Int} (h : InR (.int .i8) n) : -128 ≤ n ∧ n ≤ 127 := by simpa [InR, IntKind.min, IntKind.max, IntKind.signed, IntKind.bits] using h
theorem in_u64 {n : Int} (h : InR (.int .u64) n) : 0 ≤ n ∧ n ≤ 18446744073709551615 := by simpa [InR, IntKind.min, IntKind.max, IntKind.signed, IntKind.bits] using h
theorem in_u32 {n : Int} (h : InR (.int .u32) n) : 0 ≤ n ∧ n ≤ 4294967295 := by simpa [InR, IntKind.min, IntKind.max, IntKind.signed, IntKind.bits] using h
theorem in_u16 {n : Int} (h : InR (.int .u16) n) : 0 ≤ n ∧ n ≤ 65535 := by simpa [InR, IntKind.min, IntKind.max, IntKind.signed, IntKind.bits] using h
theorem in_u8 {n : Int} (h : InR (.int .u8) n) : 0 ≤ n ∧ n ≤ 255 := by simpa [InR, IntKind.min, IntKind.max, IntKind.signed, IntKind.bits] using h
end WB
namespace WB
open Go Go.RowKit

/-- Kept from simp's eye as no equation by reckoning (great bounds in a goal send the kernel deep). -/
theorem bs {α β : Type} (a : α) (f : α → Option β) : (some a).bind f = f a := (Option.bind_some a f).trans (Eq.refl _)
theorem ms {α β : Type} (a : α) (f : α → β) : (some a).map f = some (f a) := (Option.map_some (f := f) (a := a)).trans (Eq.refl _)

/-- A loop by an invariant with a measure. -/
theorem iter_inv {S T : Type} {b : S → Option (S ⊕ T)} {t : T} (I : Nat → S → Prop) (h : ∀ n s, I n s → (∃ s', b s = some (.inl s') ∧ ∃ m, m < n ∧ I m s') ∨ b s = some (.inr t)) : ∀ n s, I n s → iter b s = some t := by
  intro n
  induction n using Nat.strongRecOn with
  | _ n ih =>
    intro s hs
    rw [iter_eq]
    rcases h n s hs with ⟨s', h1, m, hm, h2⟩ | h1
    · rw [h1]; exact ih m hm s' h2
    · rw [h1]; rfl

theorem lAt_nat {α : Type} {xs : List α} {i : Nat} {a : α} (h : xs[i]? = some a) : lAt xs (i : Int) = some a := by
  have := (List.getElem?_eq_some_iff.1 h).1
  unfold lAt
  rw [if_pos ⟨by omega, by omega⟩]
  simpa using h
theorem sAt_nat {s : List UInt8} {i : Nat} {b : UInt8} (h : s[i]? = some b) : sAt s (i : Int) = some (b.toNat : Int) := by
  have := (List.getElem?_eq_some_iff.1 h).1
  unfold sAt
  rw [if_pos ⟨by omega, by omega⟩]
  simp [h]
theorem lSub_nat {α : Type} {xs : List α} {i j : Nat} (h1 : i ≤ j) (h2 : j ≤ xs.length) : lSub xs (i : Int) (j : Int) = some ((xs.take j).drop i) := by
  unfold lSub
  rw [if_pos ⟨by omega, by omega, by omega⟩]
  simp
theorem w64' {n : Int} (h1 : -9223372036854775808 ≤ n) (h2 : n ≤ 9223372036854775807) : IntKind.i64.wrap n = n := Go.IntWalk.i64_in n ⟨h1, h2⟩
theorem alGet_put {α β : Type} {eq : α → α → Bool} (he : ∀ a b, eq a b = true ↔ a = b) (z : β) (k k' : α) [Decidable (k = k')] (v : β) : ∀ (m : List (α × β)), alGet eq z k (alPut eq k' v m) = if k = k' then (v, true) else alGet eq z k m
  | [] => by
    unfold alPut alGet
    by_cases h : k = k'
    · subst h; simp [(he k k).2 rfl]
    · have : eq k k' = false := by
        cases hh : eq k k' with
        | false => rfl
        | true => exact absurd ((he _ _).1 hh) h
      simp [this, h, alGet]
  | p :: m => by
    unfold alPut
    by_cases hp : eq k' p.1 = true
    · rw [if_pos hp]
      have e := (he _ _).1 hp
      unfold alGet
      by_cases h : k = k'
      · subst h; simp [hp]
      · have : eq k p.1 = false := by
          cases hh : eq k p.1 with
          | false => rfl
          | true => exact absurd (((he _ _).1 hh).trans e.symm) h
        simp [this, h]
    · rw [if_neg hp]
      unfold alGet
      by_cases hq : eq k p.1 = true
      · have e := (he _ _).1 hq
        have : k ≠ k' := fun h => hp ((he _ _).2 (h.symm.trans e))
        simp [hq, this]
      · simp only [hq, Bool.false_eq_true, if_false]
        exact alGet_put he z k k' v m
theorem app1 {α : Type} {xs ys : List α} {k : Int} (hx : xs.length ≤ 1000000) (hy : ys.length ≤ 1000000) (hk : 0 ≤ k ∧ k ≤ 1000) :
    (if ((xs.length : Int) + (ys.length : Int)) * k ≤ 140737488355328 ∧ (xs.length : Int) + (ys.length : Int) ≤ 4611686018427387904 then some (xs ++ ys) else none) = some (xs ++ ys) := by
  rw [if_pos]
  refine ⟨?_, by omega⟩
  have h1 : ((xs.length : Int) + (ys.length : Int)) * k ≤ 2000000 * 1000 := Int.mul_le_mul (by omega) hk.2 hk.1 (by omega)
  omega
end WB
namespace WB
open Go Go.RowKit

section
variable {α β γ δ : Type} {p : Prop} [Decidable p]
theorem gPb (X : Option α) (f : α → Option β) : (if p then X else none).bind f = if p then X.bind f else none := by by_cases h : p <;> simp [h]
theorem gPm (X : Option α) (f : α → β) : (if p then X else none).map f = if p then X.map f else none := by by_cases h : p <;> simp [h]
theorem gPs (Y Z : Option β) (W : Option β) : (if p then (if p then Z else W) else Y) = if p then Z else Y := by by_cases h : p <;> simp [h]
theorem gPsm (Z W : Option α) (Y : Option (Option α)) : (if p then (if p then Z else W).map some else Y) = if p then Z.map some else Y := by by_cases h : p <;> simp [h]
theorem gM (A : Option α) (B : Option α → Option β) (K : Option β → Option γ) : (Option.bind (if p then A.map some else some none) fun x => Option.bind (if p then (B x).map some else some none) K) = Option.bind (if p then (A.bind fun v => B (some v)).map some else some none) K := by by_cases h : p <;> cases A <;> simp [h]
theorem gM2 (A : Option α) (B : Option α → Option β) (C : Option α → Option β → Option γ) (K : Option γ → Option δ) : (Option.bind (if p then A.map some else some none) fun x => Option.bind (if p then (B x).map some else some none) fun y => Option.bind (if p then (C x y).map some else some none) K) = Option.bind (if p then (A.bind fun v => (B (some v)).bind fun w => C (some v) (some w)).map some else some none) K := by
  by_cases h : p
  · cases A with
    | none => simp [h]
    | some v => simp only [h, if_true, Option.map_some, Option.bind_some]; cases B (some v) <;> simp
  · simp [h]
/-- The ends: and, or. -/
theorem gAnd (c : Bool) (A : Option α) (B : Option α → Option Bool) (K : Bool → Option β) : (Option.bind (if c = true then A.map some else some none) fun x => Option.bind (if c = true then B x else some false) K) = Option.bind (if c = true then A.bind fun v => B (some v) else some false) K := by cases c <;> cases A <;> simp
theorem gOr (c : Bool) (A : Option α) (B : Option α → Option Bool) (K : Bool → Option β) : (Option.bind (if c = false then A.map some else some none) fun x => Option.bind (if c = true then some true else B x) K) = Option.bind (if c = true then some true else A.bind fun v => B (some v)) K := by cases c <;> cases A <;> simp
/-- An and, or an or, within a guarded chain. -/
theorem gAndI (A B : Option Bool) (K : Option Bool → Option β) : (Option.bind (if p then A.map some else some none) fun g => Option.bind (if g = some true then B.map some else some none) fun x => Option.bind (if p then (g.bind fun z => if z = true then x else some false).map some else some none) K) = Option.bind (if p then (A.bind fun z => if z = true then B else some false).map some else some none) K := by
  by_cases h : p
  · cases A with
    | none => simp [h]
    | some v => cases v <;> cases B <;> simp [h]
  · simp [h]
theorem gOrI (A B : Option Bool) (K : Option Bool → Option β) : (Option.bind (if p then A.map some else some none) fun g => Option.bind (if g = some false then B.map some else some none) fun x => Option.bind (if p then (g.bind fun z => if z = true then some true else x).map some else some none) K) = Option.bind (if p then (A.bind fun z => if z = true then some true else B).map some else some none) K := by
  by_cases h : p
  · cases A with
    | none => simp [h]
    | some v => cases v <;> cases B <;> simp [h]
  · simp [h]
theorem gAA (c : Bool) (A : Option Bool) (B : Option α) (C : Option α → Option Bool) (K : Bool → Option β) : (Option.bind (if c = true then A.map some else some none) fun g => Option.bind (if g = some true then B.map some else some none) fun x => Option.bind (if c = true then g.bind fun z => if z = true then C x else some false else some false) K) = Option.bind (if c = true then A.bind fun z => if z = true then B.bind fun v => C (some v) else some false else some false) K := by
  cases c <;> cases A <;> first | (simp; done) | (rename_i v; cases v <;> cases B <;> simp)
theorem gAO (c : Bool) (A : Option Bool) (B : Option α) (C : Option α → Option Bool) (K : Bool → Option β) : (Option.bind (if c = false then A.map some else some none) fun g => Option.bind (if g = some true then B.map some else some none) fun x => Option.bind (if c = true then some true else g.bind fun z => if z = true then C x else some false) K) = Option.bind (if c = true then some true else A.bind fun z => if z = true then B.bind fun v => C (some v) else some false) K := by
  cases c <;> cases A <;> first | (simp; done) | (rename_i v; cases v <;> cases B <;> simp)
theorem gOA (c : Bool) (A : Option Bool) (B : Option α) (C : Option α → Option Bool) (K : Bool → Option β) : (Option.bind (if c = true then A.map some else some none) fun g => Option.bind (if g = some false then B.map some else some none) fun x => Option.bind (if c = true then g.bind fun z => if z = true then some true else C x else some false) K) = Option.bind (if c = true then A.bind fun z => if z = true then some true else B.bind fun v => C (some v) else some false) K := by
  cases c <;> cases A <;> first | (simp; done) | (rename_i v; cases v <;> cases B <;> simp)
theorem gOO (c : Bool) (A : Option Bool) (B : Option α) (C : Option α → Option Bool) (K : Bool → Option β) : (Option.bind (if c = false then A.map some else some none) fun g => Option.bind (if g = some false then B.map some else some none) fun x => Option.bind (if c = true then some true else g.bind fun z => if z = true then some true else C x) K) = Option.bind (if c = true then some true else A.bind fun z => if z = true then some true else B.bind fun v => C (some v)) K := by
  cases c <;> cases A <;> first | (simp; done) | (rename_i v; cases v <;> cases B <;> simp)
theorem gAAf (c : Bool) (A : Option Bool) (B : Option α) (C : Option α → Option Bool) (F : Bool → Option Bool) (K : Bool → Option β) : (Option.bind (if c = true then A.map some else some none) fun g => Option.bind (if g = some true then B.map some else some none) fun x => Option.bind (if c = true then (g.bind fun z => if z = true then C x else some false).bind F else some false) K) = Option.bind (if c = true then (A.bind fun z => if z = true then B.bind fun v => C (some v) else some false).bind F else some false) K := by
  cases c <;> cases A <;> first | (simp ; done) | (rename_i v; cases v <;> cases B <;> simp )
theorem gAOf (c : Bool) (A : Option Bool) (B : Option α) (C : Option α → Option Bool) (F : Bool → Option Bool) (K : Bool → Option β) : (Option.bind (if c = false then A.map some else some none) fun g => Option.bind (if g = some true then B.map some else some none) fun x => Option.bind (if c = true then some true else (g.bind fun z => if z = true then C x else some false).bind F) K) = Option.bind (if c = true then some true else (A.bind fun z => if z = true then B.bind fun v => C (some v) else some false).bind F) K := by
  cases c <;> cases A <;> first | (simp ; done) | (rename_i v; cases v <;> cases B <;> simp )
theorem gOAf (c : Bool) (A : Option Bool) (B : Option α) (C : Option α → Option Bool) (F : Bool → Option Bool) (K : Bool → Option β) : (Option.bind (if c = true then A.map some else some none) fun g => Option.bind (if g = some false then B.map some else some none) fun x => Option.bind (if c = true then (g.bind fun z => if z = true then some true else C x).bind F else some false) K) = Option.bind (if c = true then (A.bind fun z => if z = true then some true else B.bind fun v => C (some v)).bind F else some false) K := by
  cases c <;> cases A <;> first | (simp ; done) | (rename_i v; cases v <;> cases B <;> simp )
theorem gOOf (c : Bool) (A : Option Bool) (B : Option α) (C : Option α → Option Bool) (F : Bool → Option Bool) (K : Bool → Option β) : (Option.bind (if c = false then A.map some else some none) fun g => Option.bind (if g = some false then B.map some else some none) fun x => Option.bind (if c = true then some true else (g.bind fun z => if z = true then some true else C x).bind F) K) = Option.bind (if c = true then some true else (A.bind fun z => if z = true then some true else B.bind fun v => C (some v)).bind F) K := by
  cases c <;> cases A <;> first | (simp ; done) | (rename_i v; cases v <;> cases B <;> simp )
theorem gAMf (A : Option Bool) (B : Option α) (C : Option α → Option Bool) (F : Bool → Option γ) (K : Option γ → Option β) : (Option.bind (if p then A.map some else some none) fun g => Option.bind (if g = some true then B.map some else some none) fun x => Option.bind (if p then ((g.bind fun z => if z = true then C x else some false).bind F).map some else some none) K) = Option.bind (if p then ((A.bind fun z => if z = true then B.bind fun v => C (some v) else some false).bind F).map some else some none) K := by
  by_cases h : p <;> cases A <;> first | (simp [h]; done) | (rename_i v; cases v <;> cases B <;> simp [h])
theorem gOMf (A : Option Bool) (B : Option α) (C : Option α → Option Bool) (F : Bool → Option γ) (K : Option γ → Option β) : (Option.bind (if p then A.map some else some none) fun g => Option.bind (if g = some false then B.map some else some none) fun x => Option.bind (if p then ((g.bind fun z => if z = true then some true else C x).bind F).map some else some none) K) = Option.bind (if p then ((A.bind fun z => if z = true then some true else B.bind fun v => C (some v)).bind F).map some else some none) K := by
  by_cases h : p <;> cases A <;> first | (simp [h]; done) | (rename_i v; cases v <;> cases B <;> simp [h])
theorem gIn1 (A : Option α) (X Y : α → Option β) (R : α → β → Option γ) (Z : Option γ) : (if p then (A.bind fun v => (if p then X v else Y v).bind (R v)) else Z) = if p then (A.bind fun v => (X v).bind (R v)) else Z := by by_cases h : p <;> simp [h]
theorem gIn2 (A : Option α) (X Y : α → Option β) (R : α → β → γ) (Z : Option γ) : (if p then (A.bind fun v => (if p then X v else Y v).map (R v)) else Z) = if p then (A.bind fun v => (X v).map (R v)) else Z := by by_cases h : p <;> simp [h]
theorem gIn3 (X Y : Option β) (R : β → Option γ) (Z : Option γ) : (if p then ((if p then X else Y).bind R) else Z) = if p then (X.bind R) else Z := by by_cases h : p <;> simp [h]
theorem gIn4 (X Y : Option β) (R : β → γ) (Z : Option γ) : (if p then ((if p then X else Y).map R) else Z) = if p then (X.map R) else Z := by by_cases h : p <;> simp [h]
theorem gIn5 (c : Bool) (X Y : Option β) (R : β → Option γ) (Z : Option γ) : (if c = true then Z else ((if c = false then X else Y).bind R)) = if c = true then Z else X.bind R := by cases c <;> simp
theorem gIn6 (c : Bool) (A : Option α) (X Y : α → Option β) (R : α → β → Option γ) (Z : Option γ) : (if c = true then Z else (A.bind fun v => (if c = false then X v else Y v).bind (R v))) = if c = true then Z else (A.bind fun v => (X v).bind (R v)) := by cases c <;> simp
theorem gIn7 (c : Bool) (A : Option α) (X Y : α → Option β) (R : α → β → γ) (Z : Option γ) : (if c = true then Z else (A.bind fun v => (if c = false then X v else Y v).map (R v))) = if c = true then Z else (A.bind fun v => (X v).map (R v)) := by cases c <;> simp
theorem gIn8 (c : Bool) (X Y : Option β) (R : β → γ) (Z : Option γ) : (if c = true then Z else ((if c = false then X else Y).map R)) = if c = true then Z else X.map R := by cases c <;> simp
theorem gId (X : Option α) : X.map (fun z => z) = X := by cases X <;> rfl
theorem gIdF (X : Option α) : (X.bind fun z => some z) = X := by cases X <;> rfl
theorem gMb (X : Option α) (f : α → β) (g : β → Option γ) : (X.map f).bind g = X.bind fun v => g (f v) := by cases X <;> rfl
theorem gMm (X : Option α) (f : α → β) (g : β → γ) : (X.map f).map g = X.map fun v => g (f v) := by cases X <;> rfl
theorem gBm (X : Option α) (f : α → Option β) (g : β → γ) : (X.bind f).map g = X.bind fun v => (f v).map g := by cases X <;> rfl
theorem gBb (X : Option α) (f : α → Option β) (g : β → Option γ) : (X.bind f).bind g = X.bind fun v => (f v).bind g := by cases X <;> rfl
end
end WB
namespace WB
open Go Go.RowKit

theorem wu64 {n : Nat} (h : n < 18446744073709551616) : IntKind.u64.wrap (n : Int) = (n : Int) := by rw [IntKind.wrap_u64]; omega
theorem wu64' {n : Int} (h1 : 0 ≤ n) (h2 : n < 18446744073709551616) : IntKind.u64.wrap n = n := by rw [IntKind.wrap_u64]; omega
theorem wu64m (n : Nat) : IntKind.u64.wrap (n : Int) = ((n % 18446744073709551616 : Nat) : Int) := by rw [IntKind.wrap_u64]; omega
theorem bitZ_bits (op : BinOp) (k : IntKind) (x y : Int) (h : op = .and ∨ op = .or) : bitZ op k x y = bits op k x y := by
  rcases h with rfl | rfl <;> rfl
theorem mask32 {n : Nat} (h : n < 18446744073709551616) : bitZ .and .u64 (n : Int) 4294967295 = ((n % 4294967296 : Nat) : Int) := by
  rw [bitZ_bits _ _ _ _ (.inl rfl)]
  have h1 := bits_and_u64_nat n 4294967295 h (by omega)
  have e : n &&& 4294967295 = n % 4294967296 := Nat.and_two_pow_sub_one_eq_mod n 32
  rw [e] at h1
  exact h1
theorem shr32 (n : Nat) : (if (32 : Int) < 0 then none else some ((n : Int).fdiv (2 ^ (min (32 : Int).toNat 64)))) = some ((n / 4294967296 : Nat) : Int) := by
  rw [if_neg (by decide)]
  have e : (2 : Int) ^ (min (32 : Int).toNat 64) = 4294967296 := by decide
  rw [e, Int.fdiv_eq_ediv_of_nonneg _ (by decide)]
  congr 1
end WB
namespace WB

section
variable {b p z u n q r : Nat}

/-- A guess that is too great shows itself. -/
theorem kn_test (h : q * p + r = u) : b * r + n < q * z ↔ u * b + n < q * (p * b + z) := by
  have e1 : q * (p * b + z) = q * p * b + q * z := by rw [Nat.mul_add, Nat.mul_assoc]
  have e2 : u * b = q * p * b + b * r := by rw [← h, Nat.add_mul, Nat.mul_comm r b]
  omega
theorem kn_lt {d N : Nat} (hd : 0 < d) : N < q * d ↔ N / d < q := (Nat.div_lt_iff_lt_mul hd).symm
/-- The true quotient is one digit. -/
theorem kn_digit (hn : n < b) (hu : u < p * b + z) : (u * b + n) / (p * b + z) < b := by
  have hd : 0 < p * b + z := by omega
  rw [Nat.div_lt_iff_lt_mul hd]
  have : (u + 1) * b ≤ (p * b + z) * b := Nat.mul_le_mul_right b hu
  rw [Nat.add_mul] at this
  rw [Nat.mul_comm b]
  omega
/-- The first guess isn't too small, nor much too great. -/
theorem kn_first (hb : b ≤ 2 * p) (hp : 0 < p) (hz : z < b) (hn : n < b) (hu : u < p * b + z) : (u * b + n) / (p * b + z) ≤ u / p ∧ u / p ≤ b + 1 := by
  have hd : 0 < p * b + z := by omega
  constructor
  · rw [Nat.le_div_iff_mul_le hp]
    have h1 : (u * b + n) / (p * b + z) * (p * b + z) ≤ u * b + n := Nat.div_mul_le_self _ _
    generalize (u * b + n) / (p * b + z) = Q at h1
    have e1 : Q * (p * b + z) = Q * p * b + Q * z := by rw [Nat.mul_add, Nat.mul_assoc]
    have h2 : Q * p * b < (u + 1) * b := by rw [Nat.add_mul]; omega
    have := Nat.lt_of_mul_lt_mul_right h2
    omega
  · rw [← Nat.lt_succ_iff, Nat.div_lt_iff_lt_mul hp]
    have : (b + 1 + 1) * p = b * p + 2 * p := by rw [show b + 1 + 1 = b + 2 by omega, Nat.add_mul]
    rw [Nat.succ_eq_add_one, this, Nat.mul_comm b p]
    omega
/-- Where the rest has grown past a digit, the guess is right. -/
theorem kn_break (hr : b ≤ r) (hq : q ≤ b) (hz : z < b) (h : q * p + r = u) : q * (p * b + z) ≤ u * b + n := by
  have e1 : q * (p * b + z) = q * p * b + q * z := by rw [Nat.mul_add, Nat.mul_assoc]
  have e2 : u * b = q * p * b + r * b := by rw [← h, Nat.add_mul]
  have h1 : q * z ≤ b * b := Nat.mul_le_mul hq (by omega)
  have h2 : b * b ≤ r * b := Nat.mul_le_mul_right b hr
  omega
end
end WB
namespace WB
open Go Go.RowKit
set_option linter.unusedVariables false
noncomputable def rate_amount (a : Int) : Option (Bool) :=
  let x0 := a
  let x4 := (decide (x0 ≥ (-1125899906842624 : Int)))
  let x6 := (if x4 = true then some x0 else none)
  Option.bind (if x4 = true then ((x6.bind (fun z7 => some (z7, (1125899906842624 : Int)))).map (fun z9 => (decide (z9.1 ≤ z9.2)))).map some else some none) fun x7 =>
  Option.bind (if x4 then x7 else some false) fun x8 =>
  some x8
noncomputable def rate_right (a : Int) : Option (Bool) :=
  let x0 := a
  let x4 := (decide (x0 ≥ (-1000000000 : Int)))
  let x6 := (if x4 = true then some x0 else none)
  Option.bind (if x4 = true then ((x6.bind (fun z7 => some (z7, (1000000000 : Int)))).map (fun z9 => (decide (z9.1 ≤ z9.2)))).map some else some none) fun x7 =>
  Option.bind (if x4 then x7 else some false) fun x8 =>
  some x8
noncomputable def rate_size (a : Int) : Option (Int) :=
  let x0 := a
  let x4 := (decide (x0 < (0 : Int)))
  if x4 then (
    let x6 := IntKind.u64.wrap x0
    let x7 := IntKind.u64.wrap (0 - x6)
    some x7)
  else (
    let x9 := IntKind.u64.wrap x0
    some x9)
noncomputable def math_bits_Mul64 (a : Int × Int) : Option (Int × Int) :=
  let x0 := a.1
  let x1 := a.2
  let x15 := bitZ .and .u64 x0 (4294967295 : Int)
  Option.bind (if (32 : Int) < 0 then none else some (x0.fdiv (2 ^ (min (32 : Int).toNat 64)))) fun x17 =>
  let x19 := bitZ .and .u64 x1 (4294967295 : Int)
  Option.bind (if (32 : Int) < 0 then none else some (x1.fdiv (2 ^ (min (32 : Int).toNat 64)))) fun x21 =>
  let x24 := IntKind.u64.wrap (x15 * x19)
  let x27 := IntKind.u64.wrap (x17 * x19)
  Option.bind (if (32 : Int) < 0 then none else some (x24.fdiv (2 ^ (min (32 : Int).toNat 64)))) fun x29 =>
  let x30 := IntKind.u64.wrap (x27 + x29)
  let x32 := bitZ .and .u64 x30 (4294967295 : Int)
  Option.bind (if (32 : Int) < 0 then none else some (x30.fdiv (2 ^ (min (32 : Int).toNat 64)))) fun x34 =>
  let x38 := IntKind.u64.wrap (x15 * x21)
  let x39 := IntKind.u64.wrap (x32 + x38)
  let x42 := IntKind.u64.wrap (x17 * x21)
  let x44 := IntKind.u64.wrap (x42 + x34)
  Option.bind (if (32 : Int) < 0 then none else some (x39.fdiv (2 ^ (min (32 : Int).toNat 64)))) fun x46 =>
  let x47 := IntKind.u64.wrap (x44 + x46)
  let x50 := IntKind.u64.wrap (x0 * x1)
  some (x47, x50)
noncomputable def math_bits_Len64 (a : Int) : Option (Int) :=
  let x0 := a
  Option.bind (show Option (((Int) × (Int) × Unit)) from (
    let x4 := (decide (x0 ≥ (4294967296 : Int)))
    if x4 then (
      Option.bind (if (32 : Int) < 0 then none else some (x0.fdiv (2 ^ (min (32 : Int).toNat 64)))) fun x6 =>
      some (x6, (32 : Int), ()))
    else (
      some (x0, (0 : Int), ())))) fun o =>
  let x0 := o.1
  let x2 := o.2.1
  Option.bind (show Option (((Int) × (Int) × Unit)) from (
    let x8 := (decide (x0 ≥ (65536 : Int)))
    if x8 then (
      Option.bind (if (16 : Int) < 0 then none else some (x0.fdiv (2 ^ (min (16 : Int).toNat 64)))) fun x10 =>
      let x12 := IntKind.i64.wrap (x2 + (16 : Int))
      some (x10, x12, ()))
    else (
      some (x0, x2, ())))) fun o =>
  let x0 := o.1
  let x2 := o.2.1
  Option.bind (show Option (((Int) × (Int) × Unit)) from (
    let x14 := (decide (x0 ≥ (256 : Int)))
    if x14 then (
      Option.bind (if (8 : Int) < 0 then none else some (x0.fdiv (2 ^ (min (8 : Int).toNat 64)))) fun x16 =>
      let x18 := IntKind.i64.wrap (x2 + (8 : Int))
      some (x16, x18, ()))
    else (
      some (x0, x2, ())))) fun o =>
  let x0 := o.1
  let x2 := o.2.1
  let x21 := IntKind.u8.wrap x0
  Option.bind (sAt ([0, 1, 2, 2, 3, 3, 3, 3, 4, 4, 4, 4, 4, 4, 4, 4, 5, 5, 5, 5, 5, 5, 5, 5, 5, 5, 5, 5, 5, 5, 5, 5, 6, 6, 6, 6, 6, 6, 6, 6, 6, 6, 6, 6, 6, 6, 6, 6, 6, 6, 6, 6, 6, 6, 6, 6, 6, 6, 6, 6, 6, 6, 6, 6, 7, 7, 7, 7, 7, 7, 7, 7, 7, 7, 7, 7, 7, 7, 7, 7, 7, 7, 7, 7, 7, 7, 7, 7, 7, 7, 7, 7, 7, 7, 7, 7, 7, 7, 7, 7, 7, 7, 7, 7, 7, 7, 7, 7, 7, 7, 7, 7, 7, 7, 7, 7, 7, 7, 7, 7, 7, 7, 7, 7, 7, 7, 7, 7, 8, 8, 8, 8, 8, 8, 8, 8, 8, 8, 8, 8, 8, 8, 8, 8, 8, 8, 8, 8, 8, 8, 8, 8, 8, 8, 8, 8, 8, 8, 8, 8, 8, 8, 8, 8, 8, 8, 8, 8, 8, 8, 8, 8, 8, 8, 8, 8, 8, 8, 8, 8, 8, 8, 8, 8, 8, 8, 8, 8, 8, 8, 8, 8, 8, 8, 8, 8, 8, 8, 8, 8, 8, 8, 8, 8, 8, 8, 8, 8, 8, 8, 8, 8, 8, 8, 8, 8, 8, 8, 8, 8, 8, 8, 8, 8, 8, 8, 8, 8, 8, 8, 8, 8, 8, 8, 8, 8, 8, 8, 8, 8, 8, 8, 8, 8, 8, 8, 8, 8, 8, 8, 8, 8, 8, 8, 8, 8] : List UInt8) x21) fun x22 =>
  let x23 := IntKind.i64.wrap x22
  let x24 := IntKind.i64.wrap (x2 + x23)
  some x24
noncomputable def math_bits_LeadingZeros64 (a : Int) : Option (Int) :=
  let x0 := a
  Option.bind (math_bits_Len64 x0) fun x4 =>
  let x5 := IntKind.i64.wrap ((64 : Int) - x4)
  some x5
noncomputable def math_bits_Div64_loop1 (s : (Int) × (Int) × (Int) × (Int) × (Int) × (Int) × (Int) × (Int) × (Int) × Unit) : Option (((Int) × (Int) × (Int) × (Int) × (Int) × (Int) × (Int) × (Int) × (Int) × Unit) ⊕ (((Int) × (Int) × (Int) × (Int) × (Int) × (Int) × (Int) × (Int) × Unit))) :=
  let x2 := s.1
  let x8 := s.2.1
  let x9 := s.2.2.1
  let x10 := s.2.2.2.1
  let x11 := s.2.2.2.2.1
  let x13 := s.2.2.2.2.2.1
  let x14 := s.2.2.2.2.2.2.1
  let x15 := s.2.2.2.2.2.2.2.1
  let x16 := s.2.2.2.2.2.2.2.2.1
  let x68 := (decide (x15 ≥ (4294967296 : Int)))
  let x70 := (if x68 = false then some x15 else none)
  let x71 := (if x68 = false then some x10 else none)
  Option.bind (if x68 = false then ((x70.bind (fun z157 => x71.map (fun z158 => (z157, z158)))).map (fun z159 => IntKind.u64.wrap (z159.1 * z159.2))).map some else some none) fun x72 =>
  let x73 := (if x68 = false then some x16 else none)
  Option.bind (if x68 = false then ((x73.map (fun z161 => ((4294967296 : Int), z161))).map (fun z162 => IntKind.u64.wrap (z162.1 * z162.2))).map some else some none) fun x74 =>
  let x75 := (if x68 = false then some x13 else none)
  Option.bind (if x68 = false then ((x74.bind (fun z163 => x75.map (fun z164 => (z163, z164)))).map (fun z165 => IntKind.u64.wrap (z165.1 + z165.2))).map some else some none) fun x76 =>
  Option.bind (if x68 = false then ((x72.bind (fun z166 => x76.map (fun z167 => (z166, z167)))).map (fun z168 => (decide (z168.1 > z168.2)))).map some else some none) fun x77 =>
  Option.bind (if x68 then some true else x77.map (fun z169 => z169)) fun x78 =>
  if x78 then (
    let x80 := IntKind.u64.wrap (x15 - (1 : Int))
    let x83 := IntKind.u64.wrap (x16 + x9)
    let x85 := (decide (x83 ≥ (4294967296 : Int)))
    if x85 then (
      some (Sum.inr (x2, x8, x9, x10, x11, x13, x14, x80, ())))
    else (
      some (Sum.inl (x2, x8, x9, x10, x11, x13, x14, x80, x83, ()))))
  else (
    some (Sum.inr (x2, x8, x9, x10, x11, x13, x14, x15, ())))
noncomputable def math_bits_Div64_loop2 (s : (Int) × (Int) × (Int) × (Int) × (Int) × (Int) × (Int) × (Int) × (Int) × Unit) : Option (((Int) × (Int) × (Int) × (Int) × (Int) × (Int) × (Int) × (Int) × (Int) × Unit) ⊕ (((Int) × (Int) × (Int) × (Int) × (Int) × (Int) × Unit))) :=
  let x2 := s.1
  let x8 := s.2.1
  let x9 := s.2.2.1
  let x10 := s.2.2.2.1
  let x14 := s.2.2.2.2.1
  let x15 := s.2.2.2.2.2.1
  let x16 := s.2.2.2.2.2.2.1
  let x17 := s.2.2.2.2.2.2.2.1
  let x18 := s.2.2.2.2.2.2.2.2.1
  let x103 := (decide (x18 ≥ (4294967296 : Int)))
  let x105 := (if x103 = false then some x18 else none)
  let x106 := (if x103 = false then some x10 else none)
  Option.bind (if x103 = false then ((x105.bind (fun z326 => x106.map (fun z327 => (z326, z327)))).map (fun z328 => IntKind.u64.wrap (z328.1 * z328.2))).map some else some none) fun x107 =>
  let x108 := (if x103 = false then some x16 else none)
  Option.bind (if x103 = false then ((x108.map (fun z330 => ((4294967296 : Int), z330))).map (fun z331 => IntKind.u64.wrap (z331.1 * z331.2))).map some else some none) fun x109 =>
  let x110 := (if x103 = false then some x14 else none)
  Option.bind (if x103 = false then ((x109.bind (fun z332 => x110.map (fun z333 => (z332, z333)))).map (fun z334 => IntKind.u64.wrap (z334.1 + z334.2))).map some else some none) fun x111 =>
  Option.bind (if x103 = false then ((x107.bind (fun z335 => x111.map (fun z336 => (z335, z336)))).map (fun z337 => (decide (z337.1 > z337.2)))).map some else some none) fun x112 =>
  Option.bind (if x103 then some true else x112.map (fun z338 => z338)) fun x113 =>
  if x113 then (
    let x115 := IntKind.u64.wrap (x18 - (1 : Int))
    let x118 := IntKind.u64.wrap (x16 + x9)
    let x120 := (decide (x118 ≥ (4294967296 : Int)))
    if x120 then (
      some (Sum.inr (x2, x8, x14, x15, x17, x115, ())))
    else (
      some (Sum.inl (x2, x8, x9, x10, x14, x15, x118, x17, x115, ()))))
  else (
    some (Sum.inr (x2, x8, x14, x15, x17, x18, ())))
noncomputable def math_bits_Div64 (a : Int × Int × Int) : Option (Int × Int) :=
  let x0 := a.1
  let x1 := a.2.1
  let x2 := a.2.2
  let x20 := (x2 == (0 : Int))
  if x20 then (
    none)
  else (
    let x24 := (decide (x2 ≤ x0))
    if x24 then (
      none)
    else (
      let x27 := (x0 == (0 : Int))
      if x27 then (
        Option.bind (if x2 = 0 then none else some (IntKind.u64.wrap (x1.tdiv x2))) fun x30 =>
        Option.bind (if x2 = 0 then none else some (x1.tmod x2)) fun x33 =>
        some (x30, x33))
      else (
        Option.bind (math_bits_LeadingZeros64 x2) fun x35 =>
        let x36 := IntKind.u64.wrap x35
        Option.bind (if x36 < 0 then none else some (IntKind.u64.wrap (x2 * 2 ^ (min x36.toNat 64)))) fun x39 =>
        Option.bind (if (32 : Int) < 0 then none else some (x39.fdiv (2 ^ (min (32 : Int).toNat 64)))) fun x41 =>
        let x43 := bitZ .and .u64 x39 (4294967295 : Int)
        Option.bind (if x36 < 0 then none else some (IntKind.u64.wrap (x0 * 2 ^ (min x36.toNat 64)))) fun x46 =>
        let x49 := IntKind.u64.wrap ((64 : Int) - x36)
        Option.bind (if x49 < 0 then none else some (x1.fdiv (2 ^ (min x49.toNat 64)))) fun x50 =>
        let x51 := bitZ .or .u64 x46 x50
        Option.bind (if x36 < 0 then none else some (IntKind.u64.wrap (x1 * 2 ^ (min x36.toNat 64)))) fun x54 =>
        Option.bind (if (32 : Int) < 0 then none else some (x54.fdiv (2 ^ (min (32 : Int).toNat 64)))) fun x56 =>
        let x58 := bitZ .and .u64 x54 (4294967295 : Int)
        Option.bind (if x41 = 0 then none else some (IntKind.u64.wrap (x51.tdiv x41))) fun x61 =>
        let x65 := IntKind.u64.wrap (x61 * x41)
        let x66 := IntKind.u64.wrap (x51 - x65)
        Option.bind (show Option (((Int) × (Int) × (Int) × (Int) × (Int) × (Int) × (Int) × (Int) × Unit)) from (
          Option.bind (iter math_bits_Div64_loop1 (x39, x36, x41, x43, x51, x56, x58, x61, x66, ())) fun o =>
          let x2 := o.1
          let x8 := o.2.1
          let x9 := o.2.2.1
          let x10 := o.2.2.2.1
          let x11 := o.2.2.2.2.1
          let x13 := o.2.2.2.2.2.1
          let x14 := o.2.2.2.2.2.2.1
          let x15 := o.2.2.2.2.2.2.2.1
          some (x2, x8, x9, x10, x11, x13, x14, x15, ()))) fun o =>
        let x2 := o.1
        let x8 := o.2.1
        let x9 := o.2.2.1
        let x10 := o.2.2.2.1
        let x11 := o.2.2.2.2.1
        let x13 := o.2.2.2.2.2.1
        let x14 := o.2.2.2.2.2.2.1
        let x15 := o.2.2.2.2.2.2.2.1
        let x87 := IntKind.u64.wrap (x11 * (4294967296 : Int))
        let x89 := IntKind.u64.wrap (x87 + x13)
        let x92 := IntKind.u64.wrap (x15 * x2)
        let x93 := IntKind.u64.wrap (x89 - x92)
        Option.bind (if x9 = 0 then none else some (IntKind.u64.wrap (x93.tdiv x9))) fun x96 =>
        let x100 := IntKind.u64.wrap (x96 * x9)
        let x101 := IntKind.u64.wrap (x93 - x100)
        Option.bind (show Option (((Int) × (Int) × (Int) × (Int) × (Int) × (Int) × Unit)) from (
          Option.bind (iter math_bits_Div64_loop2 (x2, x8, x9, x10, x14, x15, x101, x93, x96, ())) fun o =>
          let x2 := o.1
          let x8 := o.2.1
          let x14 := o.2.2.1
          let x15 := o.2.2.2.1
          let x17 := o.2.2.2.2.1
          let x18 := o.2.2.2.2.2.1
          some (x2, x8, x14, x15, x17, x18, ()))) fun o =>
        let x2 := o.1
        let x8 := o.2.1
        let x14 := o.2.2.1
        let x15 := o.2.2.2.1
        let x17 := o.2.2.2.2.1
        let x18 := o.2.2.2.2.2.1
        let x122 := IntKind.u64.wrap (x15 * (4294967296 : Int))
        let x124 := IntKind.u64.wrap (x122 + x18)
        let x126 := IntKind.u64.wrap (x17 * (4294967296 : Int))
        let x128 := IntKind.u64.wrap (x126 + x14)
        let x131 := IntKind.u64.wrap (x18 * x2)
        let x132 := IntKind.u64.wrap (x128 - x131)
        Option.bind (if x8 < 0 then none else some (x132.fdiv (2 ^ (min x8.toNat 64)))) fun x134 =>
        some (x124, x134))))
noncomputable def rate_up (a : Bool × Int × Int × Int × Int) : Option (Bool) :=
  let x0 := a.1
  let x1 := a.2.1
  let x2 := a.2.2.1
  let x3 := a.2.2.2.1
  let x4 := a.2.2.2.2
  Option.bind (show Option (((Bool) × Unit)) from (
    Option.bind (show Option (((Int) × (Int) × Unit) ⊕ ((Bool) × Unit)) from (
      Option.bind (show Option (((Int) × Unit) ⊕ ((Int) × (Int) × (Int) × Unit) ⊕ ((Int) × (Int) × Unit) ⊕ ((Bool) × Unit)) from (
        let x14 := (x4 == (4 : Int))
        if x14 then (
          let x22 := (!x0)
          if x22 then (
            some (Sum.inr (Sum.inr (Sum.inr (false, ())))))
          else (
            some (Sum.inl (x2, ()))))
        else (
          let x16 := (x4 == (3 : Int))
          if x16 then (
            some (Sum.inl (x2, ())))
          else (
            let x18 := (x4 == (2 : Int))
            if x18 then (
              some (Sum.inr (Sum.inl (x1, x2, x3, ()))))
            else (
              let x20 := (x4 == (1 : Int))
              if x20 then (
                some (Sum.inr (Sum.inr (Sum.inl (x2, x3, ())))))
              else (
                some (Sum.inr (Sum.inr (Sum.inr (false, ())))))))))) fun o =>
      match o with
      | Sum.inl p1 => (
        let x2 := p1.1
        let x24 := (decide (x2 > (0 : Int)))
        some (Sum.inr (x24, ())))
      | Sum.inr q2 => (
        match q2 with
        | Sum.inl p3 => (
          let x1 := p3.1
          let x2 := p3.2.1
          let x3 := p3.2.2.1
          let x28 := IntKind.u64.wrap (x3 - x2)
          let x29 := (x2 == x28)
          if x29 then (
            Option.bind (if (2 : Int) = 0 then none else some (x1.tmod (2 : Int))) fun x31 =>
            let x32 := (x31 == (1 : Int))
            some (Sum.inr (x32, ())))
          else (
            some (Sum.inl (x2, x3, ()))))
        | Sum.inr q4 => (
          match q4 with
          | Sum.inl p5 => (
            let x2 := p5.1
            let x3 := p5.2.1
            some (Sum.inl (x2, x3, ())))
          | Sum.inr q6 => (
            let x11 := q6.1
            some (Sum.inr (x11, ()))))))) fun o =>
    match o with
    | Sum.inl p7 => (
      let x2 := p7.1
      let x3 := p7.2.1
      let x36 := IntKind.u64.wrap (x3 - x2)
      let x37 := (decide (x2 ≥ x36))
      some (x37, ()))
    | Sum.inr q8 => (
      let x11 := q8.1
      some (x11, ())))) fun o =>
  let x11 := o.1
  some x11
noncomputable def rate_quotient (a : Int × Int × Int × Int × Int) : Option (Int × Bool) :=
  let x0 := a.1
  let x1 := a.2.1
  let x2 := a.2.2.1
  let x3 := a.2.2.2.1
  let x4 := a.2.2.2.2
  let x18 := (decide (x0 < (0 : Int)))
  let x20 := (decide (x1 < (0 : Int)))
  let x21 := (!(x18 == x20))
  Option.bind (rate_size x0) fun x24 =>
  Option.bind (rate_size x1) fun x26 =>
  Option.bind (math_bits_Mul64 (x24, x26)) fun x27 =>
  let x32 := (decide (x27.1 ≥ x2))
  if x32 then (
    some ((0 : Int), false))
  else (
    Option.bind (math_bits_Div64 (x27.1, x27.2, x2)) fun x37 =>
    let x42 := (decide (x37.1 > x3))
    if x42 then (
      some ((0 : Int), false))
    else (
      Option.bind (show Option (((Int) × (Bool) × (Int) × Unit)) from (
        Option.bind (rate_up (x21, x37.1, x37.2, x2, x4)) fun x48 =>
        if x48 then (
          let x50 := IntKind.u64.wrap (x37.1 + (1 : Int))
          some (x3, x21, x50, ()))
        else (
          some (x3, x21, x37.1, ())))) fun o =>
      let x3 := o.1
      let x12 := o.2.1
      let x15 := o.2.2.1
      let x53 := (decide (x15 > x3))
      if x53 then (
        some ((0 : Int), false))
      else (
        if x12 then (
          let x56 := IntKind.i64.wrap x15
          let x57 := IntKind.i64.wrap (0 - x56)
          some (x57, true))
        else (
          let x59 := IntKind.i64.wrap x15
          some (x59, true)))))
noncomputable def rate_Part (a : Int × Int × Int × Int) : Option (Int × Int) :=
  let x0 := a.1
  let x1 := a.2.1
  let x2 := a.2.2.1
  let x3 := a.2.2.2
  Option.bind (rate_amount x0) fun x14 =>
  let x15 := (!x14)
  if x15 then (
    some ((0 : Int), (2 : Int)))
  else (
    let x18 := (x2 == (0 : Int))
    if x18 then (
      some ((0 : Int), (22 : Int)))
    else (
      let x21 := (decide (x2 < (0 : Int)))
      if x21 then (
        some ((0 : Int), (2 : Int)))
      else (
        let x24 := (decide (x3 < (0 : Int)))
        let x26 := (if x24 = false then some x3 else none)
        Option.bind (if x24 = false then ((x26.bind (fun z17 => some (z17, (4 : Int)))).map (fun z19 => (decide (z19.1 > z19.2)))).map some else some none) fun x27 =>
        Option.bind (if x24 then some true else x27.map (fun z20 => z20)) fun x28 =>
        if x28 then (
          some ((0 : Int), (11 : Int)))
        else (
          let x33 := IntKind.u64.wrap x2
          Option.bind (rate_quotient (x0, x1, x33, (1125899906842624 : Int), x3)) fun x35 =>
          let x39 := (!x35.2)
          if x39 then (
            some ((0 : Int), (9 : Int)))
          else (
            some (x35.1, (0 : Int)))))))
noncomputable def rate_Of (a : Int × Int × Int) : Option (Int × Int) :=
  let x0 := a.1
  let x1 := a.2.1
  let x2 := a.2.2
  Option.bind (rate_amount x0) fun x9 =>
  let x10 := (!x9)
  let x12 := (if x10 = false then some x1 else none)
  Option.bind (if x10 = false then ((x12.map (fun z17 => z17)).bind (fun z18 => rate_right z18)).map some else some none) fun x13 =>
  Option.bind (if x10 = false then (x13.map (fun z19 => (!z19))).map some else some none) fun x14 =>
  Option.bind (if x10 then some true else x14.map (fun z20 => z20)) fun x15 =>
  if x15 then (
    some ((0 : Int), (2 : Int)))
  else (
    Option.bind (rate_Part (x0, x1, (1000000 : Int), x2)) fun x19 =>
    some (x19.1, x19.2))
noncomputable def internal_stringslite_HasPrefix (a : (List UInt8) × (List UInt8)) : Option (Bool) :=
  let x0 := a.1
  let x1 := a.2
  let x6 := (x0.length : Int)
  let x8 := (x1.length : Int)
  let x9 := (decide (x6 ≥ x8))
  let x11 := (if x9 = true then some x0 else none)
  let x12 := (if x9 = true then some x1 else none)
  Option.bind (if x9 = true then (x12.map (fun z17 => (z17.length : Int))).map some else some none) fun x13 =>
  Option.bind (if x9 = true then (((x11.bind (fun z18 => x13.map (fun z19 => (z18, z19)))).map (fun z20 => (z20.1, (0 : Int), z20.2))).bind (fun z21 => lSub z21.1 z21.2.1 z21.2.2)).map some else some none) fun x14 =>
  let x15 := (if x9 = true then some x1 else none)
  Option.bind (if x9 = true then ((x14.bind (fun z22 => x15.map (fun z23 => (z22, z23)))).map (fun z24 => ((z24.1 == z24.2)))).map some else some none) fun x16 =>
  Option.bind (if x9 then x16 else some false) fun x17 =>
  some x17
noncomputable def internal_stringslite_CutPrefix (a : (List UInt8) × (List UInt8)) : Option ((List UInt8) × Bool) :=
  let x0 := a.1
  let x1 := a.2
  let x4 := ([] : List UInt8)
  Option.bind (internal_stringslite_HasPrefix (x0, x1)) fun x8 =>
  let x9 := (!x8)
  if x9 then (
    some (x0, false))
  else (
    let x13 := (x1.length : Int)
    Option.bind (lSub x0 x13 (x0.length : Int)) fun x14 =>
    some (x14, true))
noncomputable def strings_CutPrefix (a : (List UInt8) × (List UInt8)) : Option ((List UInt8) × Bool) :=
  let x0 := a.1
  let x1 := a.2
  let x4 := ([] : List UInt8)
  Option.bind (internal_stringslite_CutPrefix (x0, x1)) fun x8 =>
  some (x8.1, x8.2)
noncomputable def internal_stringslite_HasSuffix (a : (List UInt8) × (List UInt8)) : Option (Bool) :=
  let x0 := a.1
  let x1 := a.2
  let x6 := (x0.length : Int)
  let x8 := (x1.length : Int)
  let x9 := (decide (x6 ≥ x8))
  let x11 := (if x9 = true then some x0 else none)
  let x12 := (if x9 = true then some x0 else none)
  Option.bind (if x9 = true then (x12.map (fun z25 => (z25.length : Int))).map some else some none) fun x13 =>
  let x14 := (if x9 = true then some x1 else none)
  Option.bind (if x9 = true then (x14.map (fun z26 => (z26.length : Int))).map some else some none) fun x15 =>
  Option.bind (if x9 = true then ((x13.bind (fun z27 => x15.map (fun z28 => (z27, z28)))).map (fun z29 => IntKind.i64.wrap (z29.1 - z29.2))).map some else some none) fun x16 =>
  Option.bind (if x9 = true then (((x11.bind (fun z30 => x16.map (fun z31 => (z30, z31)))).map (fun z32 => (z32.1, z32.2, (z32.1.length : Int)))).bind (fun z33 => lSub z33.1 z33.2.1 z33.2.2)).map some else some none) fun x17 =>
  let x18 := (if x9 = true then some x1 else none)
  Option.bind (if x9 = true then ((x17.bind (fun z34 => x18.map (fun z35 => (z34, z35)))).map (fun z36 => ((z36.1 == z36.2)))).map some else some none) fun x19 =>
  Option.bind (if x9 then x19 else some false) fun x20 =>
  some x20
noncomputable def internal_stringslite_CutSuffix (a : (List UInt8) × (List UInt8)) : Option ((List UInt8) × Bool) :=
  let x0 := a.1
  let x1 := a.2
  let x4 := ([] : List UInt8)
  Option.bind (internal_stringslite_HasSuffix (x0, x1)) fun x8 =>
  let x9 := (!x8)
  if x9 then (
    some (x0, false))
  else (
    let x13 := (x0.length : Int)
    let x15 := (x1.length : Int)
    let x16 := IntKind.i64.wrap (x13 - x15)
    Option.bind (lSub x0 (0 : Int) x16) fun x17 =>
    some (x17, true))
noncomputable def strings_CutSuffix (a : (List UInt8) × (List UInt8)) : Option ((List UInt8) × Bool) :=
  let x0 := a.1
  let x1 := a.2
  let x4 := ([] : List UInt8)
  Option.bind (internal_stringslite_CutSuffix (x0, x1)) fun x8 =>
  some (x8.1, x8.2)
noncomputable def internal_stringslite_Cut (a : (List UInt8) × (List UInt8)) : Option ((List UInt8) × (List UInt8) × Bool) :=
  let x0 := a.1
  let x1 := a.2
  let x4 := ([] : List UInt8)
  let x5 := ([] : List UInt8)
  Option.bind (internal_stringslite_Index (x0, x1)) fun x10 =>
  let x12 := (decide (x10 ≥ (0 : Int)))
  if x12 then (
    Option.bind (lSub x0 (0 : Int) x10) fun x15 =>
    let x19 := (x1.length : Int)
    let x20 := IntKind.i64.wrap (x10 + x19)
    Option.bind (lSub x0 x20 (x0.length : Int)) fun x21 =>
    some (x15, x21, true))
  else (
    let x5 := ([] : List UInt8)
    some (x0, x5, false))
noncomputable def strings_Cut (a : (List UInt8) × (List UInt8)) : Option ((List UInt8) × (List UInt8) × Bool) :=
  let x0 := a.1
  let x1 := a.2
  let x4 := ([] : List UInt8)
  let x5 := ([] : List UInt8)
  Option.bind (internal_stringslite_Cut (x0, x1)) fun x9 =>
  some (x9.1, x9.2.1, x9.2.2)
noncomputable def rate_digits_loop1 (s : (List UInt8) × (Int) × (Int) × Unit) : Option (((List UInt8) × (Int) × (Int) × Unit) ⊕ (((List UInt8) × Unit) ⊕ (Bool))) :=
  let x0 := s.1
  let x5 := s.2.1
  let x6 := s.2.2.1
  let x7 := (decide (x6 < x5))
  if x7 then (
    Option.bind (sAt x0 x6) fun x11 =>
    let x12 := (decide (x11 < (48 : Int)))
    let x14 := (if x12 = false then some x0 else none)
    let x15 := (if x12 = false then some x6 else none)
    Option.bind (if x12 = false then ((x14.bind (fun z85 => x15.map (fun z86 => (z85, z86)))).bind (fun z87 => sAt z87.1 z87.2)).map some else some none) fun x16 =>
    Option.bind (if x12 = false then ((x16.bind (fun z88 => some (z88, (57 : Int)))).map (fun z90 => (decide (z90.1 > z90.2)))).map some else some none) fun x17 =>
    Option.bind (if x12 then some true else x17.map (fun z91 => z91)) fun x18 =>
    if x18 then (
      some (Sum.inr (Sum.inr false)))
    else (
      let x19 := IntKind.i64.wrap (x6 + (1 : Int))
      some (Sum.inl (x0, x5, x19, ()))))
  else (
    some (Sum.inr (Sum.inl (x0, ()))))
noncomputable def rate_digits (a : (List UInt8)) : Option (Bool) :=
  let x0 := a
  let x5 := (x0.length : Int)
  Option.bind (iter rate_digits_loop1 (x0, x5, (0 : Int), ())) fun o =>
  match o with
  | Sum.inl p92 => (
    let x0 := p92.1
    let x21 := (!(x0 == ([] : List UInt8)))
    some x21)
  | Sum.inr q93 => (
    some q93)
noncomputable def rate_value_loop1 (s : (List UInt8) × (Int) × (Int) × (Int) × (Int) × Unit) : Option (((List UInt8) × (Int) × (Int) × (Int) × (Int) × Unit) ⊕ (((Int) × Unit))) :=
  let x0 := s.1
  let x1 := s.2.1
  let x5 := s.2.2.1
  let x8 := s.2.2.2.1
  let x9 := s.2.2.2.2.1
  let x10 := (decide (x9 < x8))
  if x10 then (
    let x13 := IntKind.i64.wrap (x5 * (10 : Int))
    Option.bind (sAt x0 x9) fun x16 =>
    let x17 := IntKind.u8.wrap (x16 - (48 : Int))
    let x18 := IntKind.i64.wrap x17
    let x19 := IntKind.i64.wrap (x13 + x18)
    let x21 := IntKind.i64.wrap (x1 + (1 : Int))
    let x22 := (min x19 x21)
    let x23 := IntKind.i64.wrap (x9 + (1 : Int))
    some (Sum.inl (x0, x1, x22, x8, x23, ())))
  else (
    some (Sum.inr (x5, ())))
noncomputable def rate_value (a : (List UInt8) × Int) : Option (Int) :=
  let x0 := a.1
  let x1 := a.2
  let x8 := (x0.length : Int)
  Option.bind (iter rate_value_loop1 (x0, x1, (0 : Int), x8, (0 : Int), ())) fun o =>
  let x5 := o.1
  some x5
noncomputable def rate_Parse (a : (List UInt8)) : Option (Int × Int) :=
  let x0 := a
  let x12 := ((x0 == ([] : List UInt8)))
  if x12 then (
    some ((0 : Int), (10 : Int)))
  else (
    Option.bind (strings_CutPrefix (x0, ([45] : List UInt8))) fun x15 =>
    Option.bind (strings_CutSuffix (x15.1, ([37] : List UInt8))) fun x20 =>
    Option.bind (strings_Cut (x20.1, ([46] : List UInt8))) fun x25 =>
    let x31 := (!x20.2)
    let x33 := (if x31 = false then some x25.1 else none)
    Option.bind (if x31 = false then ((x33.map (fun z115 => z115)).bind (fun z116 => rate_digits z116)).map some else some none) fun x34 =>
    Option.bind (if x31 = false then (x34.map (fun z117 => (!z117))).map some else some none) fun x35 =>
    Option.bind (if x31 then some true else x35.map (fun z118 => z118)) fun x36 =>
    let x38 := (if x36 = false then some x25.1 else none)
    Option.bind (if x36 = false then (x38.map (fun z119 => (z119.length : Int))).map some else some none) fun x39 =>
    Option.bind (if x36 = false then ((x39.bind (fun z120 => some (z120, (1 : Int)))).map (fun z122 => (decide (z122.1 > z122.2)))).map some else some none) fun x40 =>
    Option.bind (if x36 = false then x40.map some else some none) fun x41 =>
    let x42 := (if x41 = some true then some x25.1 else none)
    Option.bind (if x41 = some true then ((x42.bind (fun z123 => some (z123, (0 : Int)))).bind (fun z125 => sAt z125.1 z125.2)).map some else some none) fun x43 =>
    Option.bind (if x41 = some true then ((x43.bind (fun z126 => some (z126, (48 : Int)))).map (fun z128 => (z128.1 == z128.2))).map some else some none) fun x44 =>
    Option.bind (if x36 = false then (x41.bind (fun z129 => if z129 then x44 else some false)).map some else some none) fun x45 =>
    Option.bind (if x36 then some true else x45.map (fun z130 => z130)) fun x46 =>
    if x46 then (
      some ((0 : Int), (3 : Int)))
    else (
      let x50 := (if x25.2.2 = true then some x25.2.1 else none)
      Option.bind (if x25.2.2 = true then ((x50.map (fun z173 => z173)).bind (fun z174 => rate_digits z174)).map some else some none) fun x51 =>
      Option.bind (if x25.2.2 = true then (x51.map (fun z175 => (!z175))).map some else some none) fun x52 =>
      Option.bind (if x25.2.2 = true then x52.map some else some none) fun x53 =>
      let x54 := (if x53 = some false then some x25.2.1 else none)
      Option.bind (if x53 = some false then (x54.map (fun z176 => (z176.length : Int))).map some else some none) fun x55 =>
      Option.bind (if x53 = some false then ((x55.bind (fun z177 => some (z177, (4 : Int)))).map (fun z179 => (decide (z179.1 > z179.2)))).map some else some none) fun x56 =>
      Option.bind (if x25.2.2 = true then (x53.bind (fun z181 => if z181 then some true else x56.map (fun z180 => z180))).map some else some none) fun x57 =>
      Option.bind (if x25.2.2 = true then x57.map some else some none) fun x58 =>
      let x59 := (if x58 = some false then some x25.2.1 else none)
      let x60 := (if x58 = some false then some x25.2.1 else none)
      Option.bind (if x58 = some false then (x60.map (fun z182 => (z182.length : Int))).map some else some none) fun x61 =>
      Option.bind (if x58 = some false then ((x61.bind (fun z183 => some (z183, (1 : Int)))).map (fun z185 => IntKind.i64.wrap (z185.1 - z185.2))).map some else some none) fun x62 =>
      Option.bind (if x58 = some false then ((x59.bind (fun z186 => x62.map (fun z187 => (z186, z187)))).bind (fun z188 => sAt z188.1 z188.2)).map some else some none) fun x63 =>
      Option.bind (if x58 = some false then ((x63.bind (fun z189 => some (z189, (48 : Int)))).map (fun z191 => (z191.1 == z191.2))).map some else some none) fun x64 =>
      Option.bind (if x25.2.2 = true then (x58.bind (fun z193 => if z193 then some true else x64.map (fun z192 => z192))).map some else some none) fun x65 =>
      Option.bind (if x25.2.2 then x65 else some false) fun x66 =>
      if x66 then (
        some ((0 : Int), (3 : Int)))
      else (
        let x70 := (if x15.2 = true then some x25.1 else none)
        Option.bind (if x15.2 = true then ((x70.bind (fun z202 => some (z202, ([48] : List UInt8)))).map (fun z204 => ((z204.1 == z204.2)))).map some else some none) fun x71 =>
        Option.bind (if x15.2 then x71 else some false) fun x72 =>
        let x74 := (if x72 = true then some x25.2.2 else none)
        Option.bind (if x72 = true then (x74.map (fun z205 => (!z205))).map some else some none) fun x75 =>
        Option.bind (if x72 then x75 else some false) fun x76 =>
        if x76 then (
          some ((0 : Int), (3 : Int)))
        else (
          Option.bind (rate_value (x25.1, (100000 : Int))) fun x78 =>
          let x79 := IntKind.i64.wrap (x78 * (10000 : Int))
          Option.bind (if x25.2.1.length + ([48, 48, 48, 48] : List UInt8).length ≤ 4611686018427387904 then some (x25.2.1 ++ ([48, 48, 48, 48] : List UInt8)) else none) fun x81 =>
          Option.bind (lSub x81 (0 : Int) (4 : Int)) fun x82 =>
          Option.bind (rate_value (x82, (10000 : Int))) fun x83 =>
          let x84 := IntKind.i64.wrap (x79 + x83)
          let x86 := (decide (x84 > (1000000000 : Int)))
          if x86 then (
            some ((0 : Int), (2 : Int)))
          else (
            Option.bind (show Option (((Int) × Unit)) from (
              if x15.2 then (
                let x89 := IntKind.i64.wrap (0 - x84)
                some (x89, ()))
              else (
                some (x84, ())))) fun o =>
            let x10 := o.1
            some (x10, (0 : Int)))))))
noncomputable def rate_Text (a : Int) : Option (List UInt8) :=
  let x0 := a
  let x2 := ([] : List UInt8)
  Option.bind (rate_right x0) fun x7 =>
  let x8 := (!x7)
  if x8 then (
    let x2 := ([] : List UInt8)
    some x2)
  else (
    let x3 := ([] : List UInt8)
    Option.bind (show Option (((Int) × (List UInt8) × Unit)) from (
      let x10 := (decide (x0 < (0 : Int)))
      if x10 then (
        let x3 := ([45] : List UInt8)
        let x12 := IntKind.i64.wrap (0 - x0)
        some (x12, x3, ()))
      else (
        some (x0, x3, ())))) fun o =>
    let x0 := o.1
    let x3 := o.2.1
    Option.bind (if (10000 : Int) = 0 then none else some (IntKind.i64.wrap (x0.tdiv (10000 : Int)))) fun x15 =>
    Option.bind (strconv_FormatInt (x15, (10 : Int))) fun x16 =>
    Option.bind (if x3.length + x16.length ≤ 4611686018427387904 then some (x3 ++ x16) else none) fun x17 =>
    Option.bind (show Option (((List UInt8) × Unit)) from (
      Option.bind (if (10000 : Int) = 0 then none else some (x0.tmod (10000 : Int))) fun x19 =>
      let x21 := (decide (x19 > (0 : Int)))
      if x21 then (
        let x23 := IntKind.i64.wrap ((10000 : Int) + x19)
        Option.bind (strconv_FormatInt (x23, (10 : Int))) fun x24 =>
        Option.bind (lSub x24 (1 : Int) (x24.length : Int)) fun x25 =>
        Option.bind (strings_TrimRight (x25, ([48] : List UInt8))) fun x28 =>
        Option.bind (if ([46] : List UInt8).length + x28.length ≤ 4611686018427387904 then some (([46] : List UInt8) ++ x28) else none) fun x29 =>
        Option.bind (if x17.length + x29.length ≤ 4611686018427387904 then some (x17 ++ x29) else none) fun x30 =>
        some (x30, ()))
      else (
        some (x17, ())))) fun o =>
    let x3 := o.1
    Option.bind (if x3.length + ([37] : List UInt8).length ≤ 4611686018427387904 then some (x3 ++ ([37] : List UInt8)) else none) fun x32 =>
    some x32)
noncomputable def law02_awake (a : Unit) : Option (Bool) :=
  Option.bind (rate_Of ((1001 : Int), (125000 : Int), (1 : Int))) fun x8 =>
  Option.bind (rate_Part ((-5 : Int), (1 : Int), (2 : Int), (2 : Int))) fun x12 =>
  Option.bind (rate_Parse ([49, 50, 46, 53, 37] : List UInt8)) fun x16 =>
  let x20 := (x8.1 == (125 : Int))
  let x22 := (if x20 = true then some x8.2 else none)
  Option.bind (if x20 = true then ((x22.bind (fun z37 => some (z37, (0 : Int)))).map (fun z39 => (z39.1 == z39.2))).map some else some none) fun x23 =>
  Option.bind (if x20 then x23 else some false) fun x24 =>
  let x26 := (if x24 = true then some x12.1 else none)
  Option.bind (if x24 = true then ((x26.bind (fun z40 => some (z40, (-2 : Int)))).map (fun z42 => (z42.1 == z42.2))).map some else some none) fun x27 =>
  Option.bind (if x24 then x27 else some false) fun x28 =>
  let x30 := (if x28 = true then some x12.2 else none)
  Option.bind (if x28 = true then ((x30.bind (fun z43 => some (z43, (0 : Int)))).map (fun z45 => (z45.1 == z45.2))).map some else some none) fun x31 =>
  Option.bind (if x28 then x31 else some false) fun x32 =>
  let x34 := (if x32 = true then some x16.1 else none)
  Option.bind (if x32 = true then ((x34.bind (fun z46 => some (z46, (125000 : Int)))).map (fun z48 => (z48.1 == z48.2))).map some else some none) fun x35 =>
  Option.bind (if x32 then x35 else some false) fun x36 =>
  let x38 := (if x36 = true then some x16.2 else none)
  Option.bind (if x36 = true then ((x38.bind (fun z49 => some (z49, (0 : Int)))).map (fun z51 => (z51.1 == z51.2))).map some else some none) fun x39 =>
  Option.bind (if x36 then x39 else some false) fun x40 =>
  Option.bind (if x40 = true then (rate_Text (-1 : Int)).map some else some none) fun x42 =>
  Option.bind (if x40 = true then ((x42.bind (fun z52 => some (z52, ([45, 48, 46, 48, 48, 48, 49, 37] : List UInt8)))).map (fun z54 => ((z54.1 == z54.2)))).map some else some none) fun x43 =>
  Option.bind (if x40 then x43 else some false) fun x44 =>
  some x44
noncomputable def ref02_Fits (a : Int) : Option (Bool) :=
  let x0 := a
  let x4 := (decide (x0 ≥ (-1125899906842624 : Int)))
  let x6 := (if x4 = true then some x0 else none)
  Option.bind (if x4 = true then ((x6.bind (fun z7 => some (z7, (1125899906842624 : Int)))).map (fun z9 => (decide (z9.1 ≤ z9.2)))).map some else some none) fun x7 =>
  Option.bind (if x4 then x7 else some false) fun x8 =>
  some x8
noncomputable def ref02_Abs (a : Int) : Option (Int) :=
  let x0 := a
  let x4 := (decide (x0 < (0 : Int)))
  if x4 then (
    let x6 := IntKind.u64.wrap x0
    let x7 := IntKind.u64.wrap (0 - x6)
    some x7)
  else (
    let x9 := IntKind.u64.wrap x0
    some x9)
noncomputable def ref02_bit_loop1 (s : (Int) × (Int) × (Int) × Unit) : Option (((Int) × (Int) × (Int) × Unit) ⊕ (((Int) × Unit))) :=
  let x0 := s.1
  let x1 := s.2.1
  let x5 := s.2.2.1
  let x8 := (decide (x5 < x1))
  if x8 then (
    Option.bind (if (2 : Int) = 0 then none else some (IntKind.u64.wrap (x0.tdiv (2 : Int)))) fun x12 =>
    let x10 := IntKind.i64.wrap (x5 + (1 : Int))
    some (Sum.inl (x12, x1, x10, ())))
  else (
    some (Sum.inr (x0, ())))
noncomputable def ref02_bit (a : Int × Int) : Option (Int) :=
  let x0 := a.1
  let x1 := a.2
  Option.bind (iter ref02_bit_loop1 (x0, x1, (0 : Int), ())) fun o =>
  let x0 := o.1
  Option.bind (if (2 : Int) = 0 then none else some (x0.tmod (2 : Int))) fun x14 =>
  some x14
noncomputable def ref02_product_loop1 (s : (Int) × (Int) × (Int) × (Int) × (Int) × (List (Int)) × (Unit) × Unit) : Option (((Int) × (Int) × (Int) × (Int) × (Int) × (List (Int)) × (Unit) × Unit) ⊕ (((Int) × (Int) × (Int) × (List (Int)) × (Unit) × Unit))) :=
  let x0 := s.1
  let x1 := s.2.1
  let x6 := s.2.2.1
  let x7 := s.2.2.2.1
  let x10 := s.2.2.2.2.1
  let l12 := s.2.2.2.2.2.1
  let x49 := (decide (x7 > (0 : Int)))
  if x49 then (
    Option.bind (if 0 ≤ x10 ∧ x10 < (l12.length : Int) then some x10.toNat else none) fun x54 =>
    Option.bind ((l12[x54]?).map (fun y => y)) fun x55 =>
    let x57 := IntKind.u64.wrap (x55 + x7)
    Option.bind (if (2 : Int) = 0 then none else some (x57.tmod (2 : Int))) fun x61 =>
    Option.bind (if 0 ≤ x10 ∧ x10 < (l12.length : Int) then some x10.toNat else none) fun x62 =>
    Option.bind ((l12[x62]?).map (fun el62 => l12.set x62 x61)) fun l12 =>
    Option.bind (if (2 : Int) = 0 then none else some (IntKind.u64.wrap (x57.tdiv (2 : Int)))) fun x64 =>
    let x51 := IntKind.i64.wrap (x10 + (1 : Int))
    some (Sum.inl (x0, x1, x6, x64, x51, l12, (), ())))
  else (
    some (Sum.inr (x0, x1, x6, l12, (), ())))
noncomputable def ref02_product_loop2 (s : (Int) × (Int) × (Int) × (Int) × (Int) × (List (Int)) × (Unit) × Unit) : Option (((Int) × (Int) × (Int) × (Int) × (Int) × (List (Int)) × (Unit) × Unit) ⊕ (((Int) × (Int) × (Int) × (Int) × (List (Int)) × (Unit) × Unit))) :=
  let x0 := s.1
  let x1 := s.2.1
  let x6 := s.2.2.1
  let x7 := s.2.2.2.1
  let x8 := s.2.2.2.2.1
  let l12 := s.2.2.2.2.2.1
  let x22 := (decide (x8 < (64 : Int)))
  if x22 then (
    let x28 := IntKind.i64.wrap (x6 + x8)
    Option.bind (if 0 ≤ x28 ∧ x28 < (l12.length : Int) then some x28.toNat else none) fun x29 =>
    Option.bind ((l12[x29]?).map (fun y => y)) fun x30 =>
    Option.bind (ref02_bit (x1, x8)) fun x33 =>
    let x34 := IntKind.u64.wrap (x30 + x33)
    let x36 := IntKind.u64.wrap (x34 + x7)
    let x40 := IntKind.i64.wrap (x6 + x8)
    Option.bind (if (2 : Int) = 0 then none else some (x36.tmod (2 : Int))) fun x42 =>
    Option.bind (if 0 ≤ x40 ∧ x40 < (l12.length : Int) then some x40.toNat else none) fun x43 =>
    Option.bind ((l12[x43]?).map (fun el53 => l12.set x43 x42)) fun l12 =>
    Option.bind (if (2 : Int) = 0 then none else some (IntKind.u64.wrap (x36.tdiv (2 : Int)))) fun x45 =>
    let x24 := IntKind.i64.wrap (x8 + (1 : Int))
    some (Sum.inl (x0, x1, x6, x45, x24, l12, (), ())))
  else (
    some (Sum.inr (x0, x1, x6, x7, l12, (), ())))
noncomputable def ref02_product_loop3 (s : (Int) × (Int) × (Int) × (List (Int)) × (Unit) × Unit) : Option (((Int) × (Int) × (Int) × (List (Int)) × (Unit) × Unit) ⊕ (((List (Int)) × (Unit) × Unit))) :=
  let x0 := s.1
  let x1 := s.2.1
  let x6 := s.2.2.1
  let l12 := s.2.2.2.1
  let x14 := (decide (x6 < (64 : Int)))
  if x14 then (
    Option.bind (show Option (((Int) × (Int) × (Int) × (List (Int)) × (Unit) × Unit)) from (
      Option.bind (ref02_bit (x0, x6)) fun x19 =>
      let x20 := (x19 == (0 : Int))
      if x20 then (
        some (x0, x1, x6, l12, (), ()))
      else (
        Option.bind (iter ref02_product_loop2 (x0, x1, x6, (0 : Int), (0 : Int), l12, (), ())) fun o =>
        let x0 := o.1
        let x1 := o.2.1
        let x6 := o.2.2.1
        let x7 := o.2.2.2.1
        let l12 := o.2.2.2.2.1
        let x47 := IntKind.i64.wrap (x6 + (64 : Int))
        Option.bind (iter ref02_product_loop1 (x0, x1, x6, x7, x47, l12, (), ())) fun o =>
        let x0 := o.1
        let x1 := o.2.1
        let x6 := o.2.2.1
        let l12 := o.2.2.2.1
        some (x0, x1, x6, l12, (), ())))) fun o =>
    let x0 := o.1
    let x1 := o.2.1
    let x6 := o.2.2.1
    let l12 := o.2.2.2.1
    let x16 := IntKind.i64.wrap (x6 + (1 : Int))
    some (Sum.inl (x0, x1, x16, l12, (), ())))
  else (
    some (Sum.inr (l12, (), ())))
noncomputable def ref02_product (a : Int × Int) : Option (List (Int)) :=
  let x0 := a.1
  let x1 := a.2
  Option.bind (if 0 ≤ (129 : Int) ∧ (129 : Int) ≤ (129 : Int) ∧ (129 : Int) * (8 : Int) ≤ 140737488355328 ∧ (129 : Int) ≤ 4611686018427387904 then some (List.replicate (129 : Int).toNat (0 : Int)) else none) fun l12 =>
  Option.bind (iter ref02_product_loop3 (x0, x1, (0 : Int), l12, (), ())) fun o =>
  let l12 := o.1
  Option.bind (lSub l12 (0 : Int) (128 : Int)) fun x66 =>
  some x66
noncomputable def ref02_Divided_loop1 (s : (Int) × (List (Int)) × (Int) × (Int) × (Bool) × (Int) × Unit) : Option (((Int) × (List (Int)) × (Int) × (Int) × (Bool) × (Int) × Unit) ⊕ (((Int) × (Int) × (Bool) × Unit))) :=
  let x2 := s.1
  let x9 := s.2.1
  let x10 := s.2.2.1
  let x11 := s.2.2.2.1
  let x12 := s.2.2.2.2.1
  let x13 := s.2.2.2.2.2.1
  let x18 := (decide (x13 ≥ (0 : Int)))
  if x18 then (
    Option.bind (show Option (((Int) × (List (Int)) × (Int) × (Int) × (Bool) × (Int) × Unit)) from (
      let x22 := IntKind.u64.wrap ((2 : Int) * x11)
      Option.bind ((lAt x9 x13).map (fun y => y)) fun x25 =>
      let x27 := IntKind.u64.wrap (x22 + x25)
      let x30 := (if x12 = true then some x10 else none)
      Option.bind (if x12 = true then ((x30.bind (fun z37 => some (z37, (2305843009213693952 : Int)))).map (fun z39 => (decide (z39.1 < z39.2)))).map some else some none) fun x31 =>
      Option.bind (if x12 then x31 else some false) fun x32 =>
      let x34 := IntKind.u64.wrap ((2 : Int) * x10)
      let x37 := (decide (x27 ≥ x2))
      if x37 then (
        let x40 := IntKind.u64.wrap (x27 - x2)
        let x42 := IntKind.u64.wrap (x34 + (1 : Int))
        some (x2, x9, x42, x40, x32, x13, ()))
      else (
        some (x2, x9, x34, x27, x32, x13, ())))) fun o =>
    let x2 := o.1
    let x9 := o.2.1
    let x10 := o.2.2.1
    let x11 := o.2.2.2.1
    let x12 := o.2.2.2.2.1
    let x13 := o.2.2.2.2.2.1
    let x20 := IntKind.i64.wrap (x13 - (1 : Int))
    some (Sum.inl (x2, x9, x10, x11, x12, x20, ())))
  else (
    some (Sum.inr (x10, x11, x12, ())))
noncomputable def ref02_Divided (a : Int × Int × Int) : Option (Int × Int × Bool) :=
  let x0 := a.1
  let x1 := a.2.1
  let x2 := a.2.2
  Option.bind (ref02_product (x0, x1)) fun x16 =>
  Option.bind (iter ref02_Divided_loop1 (x2, x16, (0 : Int), (0 : Int), true, (127 : Int), ())) fun o =>
  let x10 := o.1
  let x11 := o.2.1
  let x12 := o.2.2.1
  some (x10, x11, x12)
noncomputable def ref02_Rounded (a : Int × Int × Int × Bool × Int) : Option (Int) :=
  let x0 := a.1
  let x1 := a.2.1
  let x2 := a.2.2.1
  let x3 := a.2.2.2.1
  let x4 := a.2.2.2.2
  Option.bind (show Option (((Int) × (Bool) × Unit)) from (
    let x14 := (x4 == (1 : Int))
    if x14 then (
      let x18 := IntKind.u64.wrap (x2 - x1)
      let x19 := (decide (x1 ≥ x18))
      some (x0, x19, ()))
    else (
      let x21 := (x4 == (2 : Int))
      if x21 then (
        let x25 := IntKind.u64.wrap (x2 - x1)
        let x26 := (decide (x1 > x25))
        let x28 := (if x26 = false then some x1 else none)
        let x29 := (if x26 = false then some x2 else none)
        let x30 := (if x26 = false then some x1 else none)
        Option.bind (if x26 = false then ((x29.bind (fun z43 => x30.map (fun z44 => (z43, z44)))).map (fun z45 => IntKind.u64.wrap (z45.1 - z45.2))).map some else some none) fun x31 =>
        Option.bind (if x26 = false then ((x28.bind (fun z46 => x31.map (fun z47 => (z46, z47)))).map (fun z48 => (z48.1 == z48.2))).map some else some none) fun x32 =>
        Option.bind (if x26 = false then x32.map some else some none) fun x33 =>
        let x34 := (if x33 = some true then some x0 else none)
        Option.bind (if x33 = some true then ((x34.bind (fun z49 => some (z49, (2 : Int)))).bind (fun z51 => if z51.2 = 0 then none else some (z51.1.tmod z51.2))).map some else some none) fun x35 =>
        Option.bind (if x33 = some true then ((x35.bind (fun z52 => some (z52, (1 : Int)))).map (fun z54 => (z54.1 == z54.2))).map some else some none) fun x36 =>
        Option.bind (if x26 = false then (x33.bind (fun z55 => if z55 then x36 else some false)).map some else some none) fun x37 =>
        Option.bind (if x26 then some true else x37.map (fun z56 => z56)) fun x38 =>
        some (x0, x38, ()))
      else (
        let x40 := (x4 == (3 : Int))
        if x40 then (
          let x42 := (decide (x1 > (0 : Int)))
          some (x0, x42, ()))
        else (
          let x44 := (x4 == (4 : Int))
          if x44 then (
            let x46 := (decide (x1 > (0 : Int)))
            let x48 := (if x46 = true then some x3 else none)
            Option.bind (if x46 then x48 else some false) fun x49 =>
            some (x0, x49, ()))
          else (
            some (x0, false, ()))))))) fun o =>
  let x0 := o.1
  let x11 := o.2.1
  if x11 then (
    let x52 := IntKind.u64.wrap (x0 + (1 : Int))
    some x52)
  else (
    some x0)
noncomputable def ref02_Part (a : Int × Int × Int × Int) : Option (Int × Int) :=
  let x0 := a.1
  let x1 := a.2.1
  let x2 := a.2.2.1
  let x3 := a.2.2.2
  Option.bind (ref02_Fits x0) fun x16 =>
  let x17 := (!x16)
  if x17 then (
    some ((0 : Int), (2 : Int)))
  else (
    let x19 := (x2 == (0 : Int))
    if x19 then (
      some ((0 : Int), (22 : Int)))
    else (
      let x21 := (decide (x2 < (0 : Int)))
      if x21 then (
        some ((0 : Int), (2 : Int)))
      else (
        let x23 := (decide (x3 < (0 : Int)))
        let x25 := (if x23 = false then some x3 else none)
        Option.bind (if x23 = false then ((x25.bind (fun z17 => some (z17, (4 : Int)))).map (fun z19 => (decide (z19.1 > z19.2)))).map some else some none) fun x26 =>
        Option.bind (if x23 then some true else x26.map (fun z20 => z20)) fun x27 =>
        if x27 then (
          some ((0 : Int), (11 : Int)))
        else (
          let x29 := (decide (x0 < (0 : Int)))
          let x31 := (decide (x1 < (0 : Int)))
          let x32 := (!(x29 == x31))
          Option.bind (ref02_Abs x0) fun x35 =>
          Option.bind (ref02_Abs x1) fun x37 =>
          let x39 := IntKind.u64.wrap x2
          Option.bind (ref02_Divided (x35, x37, x39)) fun x40 =>
          let x47 := IntKind.u64.wrap x2
          Option.bind (ref02_Rounded (x40.1, x40.2.1, x47, x32, x3)) fun x50 =>
          let x52 := (!x40.2.2)
          let x54 := (if x52 = false then some x50 else none)
          Option.bind (if x52 = false then ((x54.bind (fun z37 => some (z37, (1125899906842624 : Int)))).map (fun z39 => (decide (z39.1 > z39.2)))).map some else some none) fun x55 =>
          Option.bind (if x52 then some true else x55.map (fun z40 => z40)) fun x56 =>
          if x56 then (
            some ((0 : Int), (9 : Int)))
          else (
            if x32 then (
              let x59 := IntKind.i64.wrap x50
              let x60 := IntKind.i64.wrap (0 - x59)
              some (x60, (0 : Int)))
            else (
              let x62 := IntKind.i64.wrap x50
              some (x62, (0 : Int))))))))
noncomputable def law02_RatePart (a : Int × Int × Int × Int) : Option (Bool) :=
  let x0 := a.1
  let x1 := a.2.1
  let x2 := a.2.2.1
  let x3 := a.2.2.2
  Option.bind (law02_awake ()) fun x13 =>
  let x14 := (!x13)
  if x14 then (
    some false)
  else (
    Option.bind (rate_Part (x0, x1, x2, x3)) fun x20 =>
    Option.bind (ref02_Part (x0, x1, x2, x3)) fun x28 =>
    let x33 := (x20.1 == x28.1)
    let x35 := (if x33 = true then some x20.2 else none)
    let x36 := (if x33 = true then some x28.2 else none)
    Option.bind (if x33 = true then ((x35.bind (fun z7 => x36.map (fun z8 => (z7, z8)))).map (fun z9 => (z9.1 == z9.2))).map some else some none) fun x37 =>
    Option.bind (if x33 then x37 else some false) fun x38 =>
    some x38)
noncomputable def law02_RateModes_loop1 (s : (Int) × (Int) × (Int) × (Int) × (Int) × (Int) × (Int) × (Int) × (Int) × (Int) × (Int) × (Int) × (Int) × (Unit) × (Unit) × (Unit) × (Unit) × Unit) : Option (((Int) × (Int) × (Int) × (Int) × (Int) × (Int) × (Int) × (Int) × (Int) × (Int) × (Int) × (Int) × (Int) × (Unit) × (Unit) × (Unit) × (Unit) × Unit) ⊕ ((Unit) ⊕ (Bool))) :=
  let x7 := s.1
  let x16 := s.2.1
  let x17 := s.2.2.1
  let c9_0 := s.2.2.2.1
  let c9_1 := s.2.2.2.2.1
  let c9_2 := s.2.2.2.2.2.1
  let c9_3 := s.2.2.2.2.2.2.1
  let c9_4 := s.2.2.2.2.2.2.2.1
  let c10_0 := s.2.2.2.2.2.2.2.2.1
  let c10_1 := s.2.2.2.2.2.2.2.2.2.1
  let c10_2 := s.2.2.2.2.2.2.2.2.2.2.1
  let c10_3 := s.2.2.2.2.2.2.2.2.2.2.2.1
  let c10_4 := s.2.2.2.2.2.2.2.2.2.2.2.2.1
  let x97 := (decide (x17 < (4 : Int)))
  if x97 then (
    Option.bind (if 0 ≤ x17 ∧ x17 < (5 : Int) then some x17.toNat else none) fun x101 =>
    Option.bind (([c9_0, c9_1, c9_2, c9_3, c9_4] : List (Int))[x101]?) fun x102 =>
    let x104 := (x102 != x16)
    let x106 := (if x104 = true then some x17 else none)
    Option.bind (if x104 = true then ((x106.map (fun z470 => ((), z470))).bind (fun z471 => if 0 ≤ z471.2 ∧ z471.2 < (5 : Int) then some z471.2.toNat else none)).map some else some none) fun x107 =>
    Option.bind (if x104 = true then ((x107.map (fun z472 => ([c9_0, c9_1, c9_2, c9_3, c9_4] : List (Int))[z472]?)).bind (fun z473 => z473)).map some else some none) fun x108 =>
    let x109 := (if x104 = true then some x7 else none)
    Option.bind (if x104 = true then ((x108.bind (fun z474 => x109.map (fun z475 => (z474, z475)))).map (fun z476 => (z476.1 != z476.2))).map some else some none) fun x110 =>
    Option.bind (if x104 then x110 else some false) fun x111 =>
    let x113 := (if x111 = false then some x17 else none)
    Option.bind (if x111 = false then ((x113.map (fun z478 => ((), z478))).bind (fun z479 => if 0 ≤ z479.2 ∧ z479.2 < (5 : Int) then some z479.2.toNat else none)).map some else some none) fun x114 =>
    Option.bind (if x111 = false then ((x114.map (fun z480 => ([c10_0, c10_1, c10_2, c10_3, c10_4] : List (Int))[z480]?)).bind (fun z481 => z481)).map some else some none) fun x115 =>
    let x116 := (if x111 = false then some x17 else none)
    Option.bind (if x111 = false then ((x116.map (fun z483 => ((), z483))).bind (fun z484 => if 0 ≤ z484.2 ∧ z484.2 < (5 : Int) then some z484.2.toNat else none)).map some else some none) fun x117 =>
    Option.bind (if x111 = false then ((x117.map (fun z485 => ([c9_0, c9_1, c9_2, c9_3, c9_4] : List (Int))[z485]?)).bind (fun z486 => z486)).map some else some none) fun x118 =>
    Option.bind (if x111 = false then (x118.map (fun z487 => IntKind.i64.wrap (0 - z487))).map some else some none) fun x119 =>
    Option.bind (if x111 = false then ((x115.bind (fun z488 => x119.map (fun z489 => (z488, z489)))).map (fun z490 => (z490.1 != z490.2))).map some else some none) fun x120 =>
    Option.bind (if x111 then some true else x120.map (fun z491 => z491)) fun x121 =>
    if x121 then (
      some (Sum.inr (Sum.inr false)))
    else (
      let x99 := IntKind.i64.wrap (x17 + (1 : Int))
      some (Sum.inl (x7, x16, x99, c9_0, c9_1, c9_2, c9_3, c9_4, c10_0, c10_1, c10_2, c10_3, c10_4, (), (), (), (), ()))))
  else (
    some (Sum.inr (Sum.inl (()))))
noncomputable def law02_RateModes_loop2 (s : (Int) × (Int) × (Int) × (Int) × (Int) × (Int) × (Int) × (Int) × (Int) × (Int) × (Int) × (Int) × (Int) × (Int) × (Int) × (Unit) × (Unit) × (Unit) × (Unit) × Unit) : Option (((Int) × (Int) × (Int) × (Int) × (Int) × (Int) × (Int) × (Int) × (Int) × (Int) × (Int) × (Int) × (Int) × (Int) × (Int) × (Unit) × (Unit) × (Unit) × (Unit) × Unit) ⊕ (((Int) × (Int) × (Int) × (Int) × (Int) × (Int) × (Int) × (Int) × (Int) × (Int) × (Int) × (Unit) × (Unit) × (Unit) × (Unit) × Unit) ⊕ (Bool))) :=
  let x0 := s.1
  let x1 := s.2.1
  let x2 := s.2.2.1
  let x7 := s.2.2.2.1
  let x11 := s.2.2.2.2.1
  let c9_0 := s.2.2.2.2.2.1
  let c9_1 := s.2.2.2.2.2.2.1
  let c9_2 := s.2.2.2.2.2.2.2.1
  let c9_3 := s.2.2.2.2.2.2.2.2.1
  let c9_4 := s.2.2.2.2.2.2.2.2.2.1
  let c10_0 := s.2.2.2.2.2.2.2.2.2.2.1
  let c10_1 := s.2.2.2.2.2.2.2.2.2.2.2.1
  let c10_2 := s.2.2.2.2.2.2.2.2.2.2.2.2.1
  let c10_3 := s.2.2.2.2.2.2.2.2.2.2.2.2.2.1
  let c10_4 := s.2.2.2.2.2.2.2.2.2.2.2.2.2.2.1
  let x36 := (decide (x11 < (5 : Int)))
  if x36 then (
    Option.bind (rate_Part (x0, x1, x2, x11)) fun x44 =>
    let x49 := IntKind.i64.wrap (0 - x0)
    Option.bind (rate_Part (x49, x1, x2, x11)) fun x53 =>
    let x57 := (x44.2 != (0 : Int))
    let x59 := (if x57 = false then some x53.2 else none)
    Option.bind (if x57 = false then ((x59.bind (fun z77 => some (z77, (0 : Int)))).map (fun z79 => (z79.1 != z79.2))).map some else some none) fun x60 =>
    Option.bind (if x57 then some true else x60.map (fun z80 => z80)) fun x61 =>
    if x61 then (
      some (Sum.inr (Sum.inr false)))
    else (
      Option.bind (if 0 ≤ x11 ∧ x11 < (5 : Int) then some x11.toNat else none) fun x66 =>
      let c9_0 := (if x66 = 0 then x44.1 else c9_0)
      let c9_1 := (if x66 = 1 then x44.1 else c9_1)
      let c9_2 := (if x66 = 2 then x44.1 else c9_2)
      let c9_3 := (if x66 = 3 then x44.1 else c9_3)
      let c9_4 := (if x66 = 4 then x44.1 else c9_4)
      Option.bind (if 0 ≤ x11 ∧ x11 < (5 : Int) then some x11.toNat else none) fun x67 =>
      let c10_0 := (if x67 = 0 then x53.1 else c10_0)
      let c10_1 := (if x67 = 1 then x53.1 else c10_1)
      let c10_2 := (if x67 = 2 then x53.1 else c10_2)
      let c10_3 := (if x67 = 3 then x53.1 else c10_3)
      let c10_4 := (if x67 = 4 then x53.1 else c10_4)
      let x38 := IntKind.i64.wrap (x11 + (1 : Int))
      some (Sum.inl (x0, x1, x2, x7, x38, c9_0, c9_1, c9_2, c9_3, c9_4, c10_0, c10_1, c10_2, c10_3, c10_4, (), (), (), (), ()))))
  else (
    some (Sum.inr (Sum.inl (x7, c9_0, c9_1, c9_2, c9_3, c9_4, c10_0, c10_1, c10_2, c10_3, c10_4, (), (), (), (), ()))))
noncomputable def law02_RateModes (a : Int × Int × Int) : Option (Bool) :=
  let x0 := a.1
  let x1 := a.2.1
  let x2 := a.2.2
  Option.bind (law02_awake ()) fun x18 =>
  let x19 := (!x18)
  if x19 then (
    some false)
  else (
    let x21 := (decide (x0 < (0 : Int)))
    let x23 := (if x21 = false then some x1 else none)
    Option.bind (if x21 = false then ((x23.bind (fun z17 => some (z17, (0 : Int)))).map (fun z19 => (decide (z19.1 < z19.2)))).map some else some none) fun x24 =>
    Option.bind (if x21 then some true else x24.map (fun z20 => z20)) fun x25 =>
    if x25 then (
      some true)
    else (
      Option.bind (rate_Part (x0, x1, x2, (3 : Int))) fun x30 =>
      let x34 := (x30.2 != (0 : Int))
      if x34 then (
        some true)
      else (
        Option.bind (iter law02_RateModes_loop2 (x0, x1, x2, x30.1, (0 : Int), (0 : Int), (0 : Int), (0 : Int), (0 : Int), (0 : Int), (0 : Int), (0 : Int), (0 : Int), (0 : Int), (0 : Int), (), (), (), (), ())) fun o =>
        match o with
        | Sum.inl p81 => (
          let x7 := p81.1
          let c9_0 := p81.2.1
          let c9_1 := p81.2.2.1
          let c9_2 := p81.2.2.2.1
          let c9_3 := p81.2.2.2.2.1
          let c9_4 := p81.2.2.2.2.2.1
          let c10_0 := p81.2.2.2.2.2.2.1
          let c10_1 := p81.2.2.2.2.2.2.2.1
          let c10_2 := p81.2.2.2.2.2.2.2.2.1
          let c10_3 := p81.2.2.2.2.2.2.2.2.2.1
          let c10_4 := p81.2.2.2.2.2.2.2.2.2.2.1
          Option.bind (if 0 ≤ (0 : Int) ∧ (0 : Int) < (5 : Int) then some (0 : Int).toNat else none) fun x68 =>
          Option.bind (([c9_0, c9_1, c9_2, c9_3, c9_4] : List (Int))[x68]?) fun x69 =>
          Option.bind (if 0 ≤ (4 : Int) ∧ (4 : Int) < (5 : Int) then some (4 : Int).toNat else none) fun x70 =>
          Option.bind (([c9_0, c9_1, c9_2, c9_3, c9_4] : List (Int))[x70]?) fun x71 =>
          let x73 := (x71 != x69)
          let x75 := (if x73 = false then some x7 else none)
          let x76 := (if x73 = false then some x69 else none)
          Option.bind (if x73 = false then ((x75.bind (fun z171 => x76.map (fun z172 => (z171, z172)))).map (fun z173 => (decide (z173.1 < z173.2)))).map some else some none) fun x77 =>
          Option.bind (if x73 then some true else x77.map (fun z174 => z174)) fun x78 =>
          let x80 := (if x78 = false then some x7 else none)
          let x81 := (if x78 = false then some x69 else none)
          Option.bind (if x78 = false then ((x81.bind (fun z175 => some (z175, (1 : Int)))).map (fun z177 => IntKind.i64.wrap (z177.1 + z177.2))).map some else some none) fun x82 =>
          Option.bind (if x78 = false then ((x80.bind (fun z178 => x82.map (fun z179 => (z178, z179)))).map (fun z180 => (decide (z180.1 > z180.2)))).map some else some none) fun x83 =>
          Option.bind (if x78 then some true else x83.map (fun z181 => z181)) fun x84 =>
          let x86 := (if x84 = false then some x69 else none)
          Option.bind (if x84 = false then ((x86.bind (fun z182 => some (z182, (0 : Int)))).map (fun z184 => (decide (z184.1 < z184.2)))).map some else some none) fun x87 =>
          Option.bind (if x84 then some true else x87.map (fun z185 => z185)) fun x88 =>
          Option.bind (if x88 = false then (if 0 ≤ (4 : Int) ∧ (4 : Int) < (5 : Int) then some (4 : Int).toNat else none).map some else some none) fun x90 =>
          Option.bind (if x88 = false then ((x90.map (fun z186 => ([c10_0, c10_1, c10_2, c10_3, c10_4] : List (Int))[z186]?)).bind (fun z187 => z187)).map some else some none) fun x91 =>
          let x92 := (if x88 = false then some x7 else none)
          Option.bind (if x88 = false then (x92.map (fun z188 => IntKind.i64.wrap (0 - z188))).map some else some none) fun x93 =>
          Option.bind (if x88 = false then ((x91.bind (fun z189 => x93.map (fun z190 => (z189, z190)))).map (fun z191 => (z191.1 != z191.2))).map some else some none) fun x94 =>
          Option.bind (if x88 then some true else x94.map (fun z192 => z192)) fun x95 =>
          if x95 then (
            some false)
          else (
            Option.bind (iter law02_RateModes_loop1 (x7, x69, (0 : Int), c9_0, c9_1, c9_2, c9_3, c9_4, c10_0, c10_1, c10_2, c10_3, c10_4, (), (), (), (), ())) fun o =>
            match o with
            | Sum.inl p492 => (
              some true)
            | Sum.inr q493 => (
              some q493)))
        | Sum.inr q82 => (
          some q82))))
noncomputable def law02_RateSums_loop1 (s : (Int) × (Int) × (Int) × (Int) × (Int) × (Int) × (List (Int)) × (Unit) × Unit) : Option (((Int) × (Int) × (Int) × (Int) × (Int) × (Int) × (List (Int)) × (Unit) × Unit) ⊕ ((Unit) ⊕ (Bool))) :=
  let x0 := s.1
  let x1 := s.2.1
  let x2 := s.2.2.1
  let x3 := s.2.2.2.1
  let x21 := s.2.2.2.2.1
  let x22 := s.2.2.2.2.2.1
  let l20 := s.2.2.2.2.2.2.1
  let x23 := (decide (x22 < x21))
  if x23 then (
    Option.bind (show Option (((Int) × (Int) × (Int) × (Int) × (Int) × (Int) × (List (Int)) × (Unit) × Unit) ⊕ (Bool)) from (
      Option.bind (if 0 ≤ x22 ∧ x22 < (l20.length : Int) then some x22.toNat else none) fun x24 =>
      Option.bind ((l20[x24]?).map (fun y => y)) fun x25 =>
      Option.bind (ref02_Fits x0) fun x27 =>
      let x28 := (!x27)
      let x30 := (if x28 = false then some x1 else none)
      Option.bind (if x28 = false then ((x30.map (fun z257 => z257)).bind (fun z258 => ref02_Fits z258)).map some else some none) fun x31 =>
      Option.bind (if x28 = false then (x31.map (fun z259 => (!z259))).map some else some none) fun x32 =>
      Option.bind (if x28 then some true else x32.map (fun z260 => z260)) fun x33 =>
      if x33 then (
        some (Sum.inr true))
      else (
        Option.bind (rate_Part (x0, x2, x3, x25)) fun x39 =>
        Option.bind (rate_Part (x1, x2, x3, x25)) fun x47 =>
        let x53 := IntKind.i64.wrap (x0 + x1)
        Option.bind (rate_Part (x53, x2, x3, x25)) fun x57 =>
        let x61 := (x39.2 != (0 : Int))
        let x63 := (if x61 = false then some x47.2 else none)
        Option.bind (if x61 = false then ((x63.bind (fun z293 => some (z293, (0 : Int)))).map (fun z295 => (z295.1 != z295.2))).map some else some none) fun x64 =>
        Option.bind (if x61 then some true else x64.map (fun z296 => z296)) fun x65 =>
        let x67 := (if x65 = false then some x57.2 else none)
        Option.bind (if x65 = false then ((x67.bind (fun z297 => some (z297, (0 : Int)))).map (fun z299 => (z299.1 != z299.2))).map some else some none) fun x68 =>
        Option.bind (if x65 then some true else x68.map (fun z300 => z300)) fun x69 =>
        if x69 then (
          some (Sum.inl (x0, x1, x2, x3, x21, x22, l20, (), ())))
        else (
          let x72 := IntKind.i64.wrap (x57.1 - x39.1)
          let x74 := IntKind.i64.wrap (x72 - x47.1)
          let x76 := (decide (x74 > (1 : Int)))
          let x78 := (if x76 = false then some x74 else none)
          Option.bind (if x76 = false then ((x78.bind (fun z325 => some (z325, (-1 : Int)))).map (fun z327 => (decide (z327.1 < z327.2)))).map some else some none) fun x79 =>
          Option.bind (if x76 then some true else x79.map (fun z328 => z328)) fun x80 =>
          let x82 := (if x80 = false then some x25 else none)
          Option.bind (if x80 = false then ((x82.bind (fun z329 => some (z329, (4 : Int)))).map (fun z331 => (z331.1 == z331.2))).map some else some none) fun x83 =>
          Option.bind (if x80 = false then x83.map some else some none) fun x84 =>
          let x85 := (if x84 = some true then some x74 else none)
          Option.bind (if x84 = some true then ((x85.bind (fun z332 => some (z332, (0 : Int)))).map (fun z334 => (decide (z334.1 < z334.2)))).map some else some none) fun x86 =>
          Option.bind (if x80 = false then (x84.bind (fun z335 => if z335 then x86 else some false)).map some else some none) fun x87 =>
          Option.bind (if x80 then some true else x87.map (fun z336 => z336)) fun x88 =>
          if x88 then (
            some (Sum.inr false))
          else (
            some (Sum.inl (x0, x1, x2, x3, x21, x22, l20, (), ()))))))) fun o =>
    match o with
    | Sum.inl p337 => (
      let x0 := p337.1
      let x1 := p337.2.1
      let x2 := p337.2.2.1
      let x3 := p337.2.2.2.1
      let x21 := p337.2.2.2.2.1
      let x22 := p337.2.2.2.2.2.1
      let l20 := p337.2.2.2.2.2.2.1
      let x89 := IntKind.i64.wrap (x22 + (1 : Int))
      some (Sum.inl (x0, x1, x2, x3, x21, x89, l20, (), ())))
    | Sum.inr q338 => (
      some (Sum.inr (Sum.inr q338))))
  else (
    some (Sum.inr (Sum.inl (()))))
noncomputable def law02_RateSums (a : Int × Int × Int × Int) : Option (Bool) :=
  let x0 := a.1
  let x1 := a.2.1
  let x2 := a.2.2.1
  let x3 := a.2.2.2
  Option.bind (law02_awake ()) fun x18 =>
  let x19 := (!x18)
  if x19 then (
    some false)
  else (
    let l20 := ([(1 : Int), (4 : Int)] : List (Int))
    let x21 := (l20.length : Int)
    Option.bind (iter law02_RateSums_loop1 (x0, x1, x2, x3, x21, (0 : Int), l20, (), ())) fun o =>
    match o with
    | Sum.inl p339 => (
      some true)
    | Sum.inr q340 => (
      some q340))
noncomputable def law02_RateExact (a : Int × Int × Int × Int × Int) : Option (Bool) :=
  let x0 := a.1
  let x1 := a.2.1
  let x2 := a.2.2.1
  let x3 := a.2.2.2.1
  let x4 := a.2.2.2.2
  Option.bind (law02_awake ()) fun x24 =>
  let x25 := (!x24)
  if x25 then (
    some false)
  else (
    let x27 := IntKind.i64.wrap x4
    Option.bind (if (5 : Int) = 0 then none else some (x27.tmod (5 : Int))) fun x28 =>
    let x30 := (decide (x2 ≤ (0 : Int)))
    let x32 := (if x30 = false then some x0 else none)
    Option.bind (if x30 = false then ((x32.map (fun z17 => z17)).bind (fun z18 => ref02_Fits z18)).map some else some none) fun x33 =>
    Option.bind (if x30 = false then (x33.map (fun z19 => (!z19))).map some else some none) fun x34 =>
    Option.bind (if x30 then some true else x34.map (fun z20 => z20)) fun x35 =>
    if x35 then (
      some true)
    else (
      let x37 := IntKind.i64.wrap x2
      Option.bind (rate_Part (x0, x37, x37, x28)) fun x43 =>
      Option.bind (rate_Part (x0, (0 : Int), x37, x28)) fun x50 =>
      let x54 := (x43.2 != (0 : Int))
      let x56 := (if x54 = false then some x50.2 else none)
      Option.bind (if x54 = false then ((x56.bind (fun z69 => some (z69, (0 : Int)))).map (fun z71 => (z71.1 != z71.2))).map some else some none) fun x57 =>
      Option.bind (if x54 then some true else x57.map (fun z72 => z72)) fun x58 =>
      let x60 := (if x58 = false then some x43.1 else none)
      let x61 := (if x58 = false then some x0 else none)
      Option.bind (if x58 = false then ((x60.bind (fun z73 => x61.map (fun z74 => (z73, z74)))).map (fun z75 => (z75.1 != z75.2))).map some else some none) fun x62 =>
      Option.bind (if x58 then some true else x62.map (fun z76 => z76)) fun x63 =>
      let x65 := (if x63 = false then some x50.1 else none)
      Option.bind (if x63 = false then ((x65.bind (fun z77 => some (z77, (0 : Int)))).map (fun z79 => (z79.1 != z79.2))).map some else some none) fun x66 =>
      Option.bind (if x63 then some true else x66.map (fun z80 => z80)) fun x67 =>
      if x67 then (
        some false)
      else (
        let x69 := IntKind.i64.wrap x3
        let x70 := IntKind.i64.wrap (x69 + (1 : Int))
        let x74 := IntKind.i64.wrap x1
        Option.bind (rate_Part (x0, x74, x37, x28)) fun x77 =>
        let x83 := IntKind.i64.wrap x1
        let x85 := IntKind.i64.wrap (x83 * x70)
        let x88 := IntKind.i64.wrap (x37 * x70)
        Option.bind (rate_Part (x0, x85, x88, x28)) fun x90 =>
        let x95 := (x77.1 != x90.1)
        let x97 := (if x95 = false then some x77.2 else none)
        let x98 := (if x95 = false then some x90.2 else none)
        Option.bind (if x95 = false then ((x97.bind (fun z97 => x98.map (fun z98 => (z97, z98)))).map (fun z99 => (z99.1 != z99.2))).map some else some none) fun x99 =>
        Option.bind (if x95 then some true else x99.map (fun z100 => z100)) fun x100 =>
        if x100 then (
          some false)
        else (
          let x103 := IntKind.i64.wrap x1
          let x106 := IntKind.i64.wrap (x70 * x37)
          Option.bind (rate_Part (x103, x106, x37, x28)) fun x109 =>
          let x113 := (x109.2 == (0 : Int))
          let x115 := (if x113 = true then some x109.1 else none)
          let x116 := (if x113 = true then some x1 else none)
          Option.bind (if x113 = true then (x116.map (fun z115 => IntKind.i64.wrap z115)).map some else some none) fun x117 =>
          let x118 := (if x113 = true then some x70 else none)
          Option.bind (if x113 = true then ((x117.bind (fun z116 => x118.map (fun z117 => (z116, z117)))).map (fun z118 => IntKind.i64.wrap (z118.1 * z118.2))).map some else some none) fun x119 =>
          Option.bind (if x113 = true then ((x115.bind (fun z119 => x119.map (fun z120 => (z119, z120)))).map (fun z121 => (z121.1 == z121.2))).map some else some none) fun x120 =>
          Option.bind (if x113 then x120 else some false) fun x121 =>
          some x121))))
noncomputable def ref02_digits_loop1 (s : (List UInt8) × (Int) × (Int) × Unit) : Option (((List UInt8) × (Int) × (Int) × Unit) ⊕ (((Int) × Unit))) :=
  let x0 := s.1
  let x1 := s.2.1
  let x5 := s.2.2.1
  let x8 := IntKind.i64.wrap (x1 + x5)
  let x10 := (x0.length : Int)
  let x11 := (decide (x8 < x10))
  let x13 := (if x11 = true then some x0 else none)
  let x14 := (if x11 = true then some x1 else none)
  let x15 := (if x11 = true then some x5 else none)
  Option.bind (if x11 = true then ((x14.bind (fun z217 => x15.map (fun z218 => (z217, z218)))).map (fun z219 => IntKind.i64.wrap (z219.1 + z219.2))).map some else some none) fun x16 =>
  Option.bind (if x11 = true then ((x13.bind (fun z220 => x16.map (fun z221 => (z220, z221)))).bind (fun z222 => sAt z222.1 z222.2)).map some else some none) fun x17 =>
  Option.bind (if x11 = true then ((x17.bind (fun z223 => some (z223, (48 : Int)))).map (fun z225 => (decide (z225.1 ≥ z225.2)))).map some else some none) fun x18 =>
  Option.bind (if x11 then x18 else some false) fun x19 =>
  let x21 := (if x19 = true then some x0 else none)
  let x22 := (if x19 = true then some x1 else none)
  let x23 := (if x19 = true then some x5 else none)
  Option.bind (if x19 = true then ((x22.bind (fun z226 => x23.map (fun z227 => (z226, z227)))).map (fun z228 => IntKind.i64.wrap (z228.1 + z228.2))).map some else some none) fun x24 =>
  Option.bind (if x19 = true then ((x21.bind (fun z229 => x24.map (fun z230 => (z229, z230)))).bind (fun z231 => sAt z231.1 z231.2)).map some else some none) fun x25 =>
  Option.bind (if x19 = true then ((x25.bind (fun z232 => some (z232, (57 : Int)))).map (fun z234 => (decide (z234.1 ≤ z234.2)))).map some else some none) fun x26 =>
  Option.bind (if x19 then x26 else some false) fun x27 =>
  if x27 then (
    let x29 := IntKind.i64.wrap (x5 + (1 : Int))
    some (Sum.inl (x0, x1, x29, ())))
  else (
    some (Sum.inr (x5, ())))
noncomputable def ref02_digits (a : (List UInt8) × Int) : Option (Int) :=
  let x0 := a.1
  let x1 := a.2
  Option.bind (iter ref02_digits_loop1 (x0, x1, (0 : Int), ())) fun o =>
  let x5 := o.1
  some x5
noncomputable def ref02_Parse_loop1 (s : (List UInt8) × (Int) × (Int) × (Int) × (Int) × (Int) × (Int) × Unit) : Option (((List UInt8) × (Int) × (Int) × (Int) × (Int) × (Int) × (Int) × Unit) ⊕ (((Int) × (Int) × Unit))) :=
  let x0 := s.1
  let x4 := s.2.1
  let x5 := s.2.2.1
  let x7 := s.2.2.2.1
  let x8 := s.2.2.2.2.1
  let x10 := s.2.2.2.2.2.1
  let x11 := s.2.2.2.2.2.2.1
  let x105 := IntKind.i64.wrap (x4 + x5)
  let x106 := IntKind.i64.wrap (x105 + (1 : Int))
  let x108 := IntKind.i64.wrap (x106 + x7)
  let x109 := (decide (x11 < x108))
  if x109 then (
    Option.bind (sAt x0 x11) fun x116 =>
    let x117 := IntKind.u64.wrap x116
    let x118 := IntKind.u64.wrap (x117 - (48 : Int))
    let x119 := IntKind.u64.wrap (x10 * x118)
    let x120 := IntKind.u64.wrap (x8 + x119)
    Option.bind (if (10 : Int) = 0 then none else some (IntKind.u64.wrap (x10.tdiv (10 : Int)))) fun x122 =>
    let x111 := IntKind.i64.wrap (x11 + (1 : Int))
    some (Sum.inl (x0, x4, x5, x7, x120, x122, x111, ())))
  else (
    some (Sum.inr (x4, x8, ())))
noncomputable def ref02_Parse_loop2 (s : (List UInt8) × (Int) × (Int) × (Int) × (Int) × (Int) × Unit) : Option (((List UInt8) × (Int) × (Int) × (Int) × (Int) × (Int) × Unit) ⊕ (((List UInt8) × (Int) × (Int) × (Int) × (Int) × Unit))) :=
  let x0 := s.1
  let x4 := s.2.1
  let x5 := s.2.2.1
  let x7 := s.2.2.2.1
  let x8 := s.2.2.2.2.1
  let x9 := s.2.2.2.2.2.1
  let x82 := IntKind.i64.wrap (x4 + x5)
  let x83 := (decide (x9 < x82))
  if x83 then (
    Option.bind (show Option (((List UInt8) × (Int) × (Int) × (Int) × (Int) × (Int) × Unit)) from (
      let x87 := (decide (x8 < (1000000 : Int)))
      if x87 then (
        let x89 := IntKind.u64.wrap ((10 : Int) * x8)
        Option.bind (sAt x0 x9) fun x92 =>
        let x93 := IntKind.u64.wrap x92
        let x94 := IntKind.u64.wrap (x89 + x93)
        let x95 := IntKind.u64.wrap (x94 - (48 : Int))
        some (x0, x4, x5, x7, x95, x9, ()))
      else (
        some (x0, x4, x5, x7, x8, x9, ())))) fun o =>
    let x0 := o.1
    let x4 := o.2.1
    let x5 := o.2.2.1
    let x7 := o.2.2.2.1
    let x8 := o.2.2.2.2.1
    let x9 := o.2.2.2.2.2.1
    let x85 := IntKind.i64.wrap (x9 + (1 : Int))
    some (Sum.inl (x0, x4, x5, x7, x8, x85, ())))
  else (
    some (Sum.inr (x0, x4, x5, x7, x8, ())))
noncomputable def ref02_Parse (a : (List UInt8)) : Option (Int × Int) :=
  let x0 := a
  let x13 := ((x0 == ([] : List UInt8)))
  if x13 then (
    some ((0 : Int), (10 : Int)))
  else (
    Option.bind (show Option (((List UInt8) × (Int) × Unit)) from (
      Option.bind (sAt x0 (0 : Int)) fun x15 =>
      let x16 := (x15 == (45 : Int))
      if x16 then (
        some (x0, (1 : Int), ()))
      else (
        some (x0, (0 : Int), ())))) fun o =>
    let x0 := o.1
    let x4 := o.2.1
    Option.bind (ref02_digits (x0, x4)) fun x19 =>
    let x21 := (x19 == (0 : Int))
    let x23 := (if x21 = false then some x19 else none)
    Option.bind (if x21 = false then ((x23.bind (fun z45 => some (z45, (1 : Int)))).map (fun z47 => (decide (z47.1 > z47.2)))).map some else some none) fun x24 =>
    Option.bind (if x21 = false then x24.map some else some none) fun x25 =>
    let x26 := (if x25 = some true then some x0 else none)
    let x27 := (if x25 = some true then some x4 else none)
    Option.bind (if x25 = some true then ((x26.bind (fun z48 => x27.map (fun z49 => (z48, z49)))).bind (fun z50 => sAt z50.1 z50.2)).map some else some none) fun x28 =>
    Option.bind (if x25 = some true then ((x28.bind (fun z51 => some (z51, (48 : Int)))).map (fun z53 => (z53.1 == z53.2))).map some else some none) fun x29 =>
    Option.bind (if x21 = false then (x25.bind (fun z54 => if z54 then x29 else some false)).map some else some none) fun x30 =>
    Option.bind (if x21 then some true else x30.map (fun z55 => z55)) fun x31 =>
    if x31 then (
      some ((0 : Int), (3 : Int)))
    else (
      let x34 := IntKind.i64.wrap (x4 + x19)
      Option.bind (show Option (((List UInt8) × (Int) × (Int) × (Int) × (Int) × Unit) ⊕ (Int × Int)) from (
        let x37 := (x0.length : Int)
        let x38 := (decide (x34 < x37))
        let x40 := (if x38 = true then some x0 else none)
        let x41 := (if x38 = true then some x34 else none)
        Option.bind (if x38 = true then ((x40.bind (fun z108 => x41.map (fun z109 => (z108, z109)))).bind (fun z110 => sAt z110.1 z110.2)).map some else some none) fun x42 =>
        Option.bind (if x38 = true then ((x42.bind (fun z111 => some (z111, (46 : Int)))).map (fun z113 => (z113.1 == z113.2))).map some else some none) fun x43 =>
        Option.bind (if x38 then x43 else some false) fun x44 =>
        if x44 then (
          let x47 := IntKind.i64.wrap (x34 + (1 : Int))
          Option.bind (ref02_digits (x0, x47)) fun x48 =>
          let x50 := (x48 == (0 : Int))
          let x52 := (if x50 = false then some x48 else none)
          Option.bind (if x50 = false then ((x52.bind (fun z170 => some (z170, (4 : Int)))).map (fun z172 => (decide (z172.1 > z172.2)))).map some else some none) fun x53 =>
          Option.bind (if x50 then some true else x53.map (fun z173 => z173)) fun x54 =>
          let x56 := (if x54 = false then some x0 else none)
          let x57 := (if x54 = false then some x34 else none)
          let x58 := (if x54 = false then some x48 else none)
          Option.bind (if x54 = false then ((x57.bind (fun z174 => x58.map (fun z175 => (z174, z175)))).map (fun z176 => IntKind.i64.wrap (z176.1 + z176.2))).map some else some none) fun x59 =>
          Option.bind (if x54 = false then ((x56.bind (fun z177 => x59.map (fun z178 => (z177, z178)))).bind (fun z179 => sAt z179.1 z179.2)).map some else some none) fun x60 =>
          Option.bind (if x54 = false then ((x60.bind (fun z180 => some (z180, (48 : Int)))).map (fun z182 => (z182.1 == z182.2))).map some else some none) fun x61 =>
          Option.bind (if x54 then some true else x61.map (fun z183 => z183)) fun x62 =>
          if x62 then (
            some (Sum.inr ((0 : Int), (3 : Int))))
          else (
            let x64 := IntKind.i64.wrap (x34 + (1 : Int))
            let x66 := IntKind.i64.wrap (x64 + x48)
            some (Sum.inl (x0, x4, x19, x66, x48, ()))))
        else (
          some (Sum.inl (x0, x4, x19, x34, (0 : Int), ()))))) fun o =>
      match o with
      | Sum.inl p184 => (
        let x0 := p184.1
        let x4 := p184.2.1
        let x5 := p184.2.2.1
        let x6 := p184.2.2.2.1
        let x7 := p184.2.2.2.2.1
        let x69 := (x0.length : Int)
        let x70 := IntKind.i64.wrap (x69 - (1 : Int))
        let x71 := (x6 != x70)
        let x73 := (if x71 = false then some x0 else none)
        let x74 := (if x71 = false then some x6 else none)
        Option.bind (if x71 = false then ((x73.bind (fun z214 => x74.map (fun z215 => (z214, z215)))).bind (fun z216 => sAt z216.1 z216.2)).map some else some none) fun x75 =>
        Option.bind (if x71 = false then ((x75.bind (fun z217 => some (z217, (37 : Int)))).map (fun z219 => (z219.1 != z219.2))).map some else some none) fun x76 =>
        Option.bind (if x71 then some true else x76.map (fun z220 => z220)) fun x77 =>
        if x77 then (
          some ((0 : Int), (3 : Int)))
        else (
          Option.bind (iter ref02_Parse_loop2 (x0, x4, x5, x7, (0 : Int), x4, ())) fun o =>
          let x0 := o.1
          let x4 := o.2.1
          let x5 := o.2.2.1
          let x7 := o.2.2.2.1
          let x8 := o.2.2.2.2.1
          let x97 := IntKind.u64.wrap ((10000 : Int) * x8)
          let x100 := IntKind.i64.wrap (x4 + x5)
          let x101 := IntKind.i64.wrap (x100 + (1 : Int))
          Option.bind (iter ref02_Parse_loop1 (x0, x4, x5, x7, x97, (1000 : Int), x101, ())) fun o =>
          let x4 := o.1
          let x8 := o.2.1
          let x124 := (x8 == (0 : Int))
          let x126 := (if x124 = true then some x4 else none)
          Option.bind (if x124 = true then ((x126.bind (fun z233 => some (z233, (1 : Int)))).map (fun z235 => (z235.1 == z235.2))).map some else some none) fun x127 =>
          Option.bind (if x124 then x127 else some false) fun x128 =>
          if x128 then (
            some ((0 : Int), (3 : Int)))
          else (
            let x130 := (decide (x8 > (1000000000 : Int)))
            if x130 then (
              some ((0 : Int), (2 : Int)))
            else (
              let x132 := (x4 == (1 : Int))
              if x132 then (
                let x134 := IntKind.i64.wrap x8
                let x135 := IntKind.i64.wrap (0 - x134)
                some (x135, (0 : Int)))
              else (
                let x137 := IntKind.i64.wrap x8
                some (x137, (0 : Int)))))))
      | Sum.inr q185 => (
        some q185)))
noncomputable def ref02_Right (a : Int) : Option (Bool) :=
  let x0 := a
  let x4 := (decide (x0 ≥ (-1000000000 : Int)))
  let x6 := (if x4 = true then some x0 else none)
  Option.bind (if x4 = true then ((x6.bind (fun z7 => some (z7, (1000000000 : Int)))).map (fun z9 => (decide (z9.1 ≤ z9.2)))).map some else some none) fun x7 =>
  Option.bind (if x4 then x7 else some false) fun x8 =>
  some x8
noncomputable def ref02_tens_loop1 (s : (Int) × (List UInt8) × Unit) : Option (((Int) × (List UInt8) × Unit) ⊕ (((Int) × (List UInt8) × Unit))) :=
  let x0 := s.1
  let x3 := s.2.1
  let x5 := (decide (x0 > (9 : Int)))
  if x5 then (
    Option.bind (if (10 : Int) = 0 then none else some (x0.tmod (10 : Int))) fun x7 =>
    let x8 := IntKind.u64.wrap ((48 : Int) + x7)
    let x9 := IntKind.u8.wrap x8
    let l10 := ([x9] : List (Int))
    let x11 := (l10.map fun n => UInt8.ofNat n.toNat)
    Option.bind (if x11.length + x3.length ≤ 4611686018427387904 then some (x11 ++ x3) else none) fun x13 =>
    Option.bind (if (10 : Int) = 0 then none else some (IntKind.u64.wrap (x0.tdiv (10 : Int)))) fun x15 =>
    some (Sum.inl (x15, x13, ())))
  else (
    some (Sum.inr (x0, x3, ())))
noncomputable def ref02_tens (a : Int) : Option (List UInt8) :=
  let x0 := a
  let x2 := ([] : List UInt8)
  let x3 := ([] : List UInt8)
  Option.bind (iter ref02_tens_loop1 (x0, x3, ())) fun o =>
  let x0 := o.1
  let x3 := o.2.1
  let x17 := IntKind.u64.wrap ((48 : Int) + x0)
  let x18 := IntKind.u8.wrap x17
  let l19 := ([x18] : List (Int))
  let x20 := (l19.map fun n => UInt8.ofNat n.toNat)
  Option.bind (if x20.length + x3.length ≤ 4611686018427387904 then some (x20 ++ x3) else none) fun x22 =>
  some x22
noncomputable def ref02_Text_loop1 (s : (List UInt8) × (List UInt8) × Unit) : Option (((List UInt8) × (List UInt8) × Unit) ⊕ (((List UInt8) × (List UInt8) × Unit))) :=
  let x4 := s.1
  let x6 := s.2.1
  let x29 := (x6.length : Int)
  let x30 := IntKind.i64.wrap (x29 - (1 : Int))
  Option.bind (sAt x6 x30) fun x31 =>
  let x32 := (x31 == (48 : Int))
  if x32 then (
    let x35 := (x6.length : Int)
    let x36 := IntKind.i64.wrap (x35 - (1 : Int))
    Option.bind (lSub x6 (0 : Int) x36) fun x37 =>
    some (Sum.inl (x4, x37, ())))
  else (
    some (Sum.inr (x4, x6, ())))
noncomputable def ref02_Text (a : Int) : Option (List UInt8) :=
  let x0 := a
  let x2 := ([] : List UInt8)
  Option.bind (ref02_Right x0) fun x8 =>
  let x9 := (!x8)
  if x9 then (
    let x2 := ([] : List UInt8)
    some x2)
  else (
    Option.bind (ref02_Abs x0) fun x11 =>
    Option.bind (if (10000 : Int) = 0 then none else some (IntKind.u64.wrap (x11.tdiv (10000 : Int)))) fun x13 =>
    Option.bind (ref02_tens x13) fun x14 =>
    Option.bind (show Option (((Int) × (List UInt8) × Unit)) from (
      let x16 := (decide (x0 < (0 : Int)))
      if x16 then (
        Option.bind (if ([45] : List UInt8).length + x14.length ≤ 4611686018427387904 then some (([45] : List UInt8) ++ x14) else none) fun x18 =>
        some (x11, x18, ()))
      else (
        some (x11, x14, ())))) fun o =>
    let x3 := o.1
    let x4 := o.2.1
    Option.bind (if (10000 : Int) = 0 then none else some (x3.tmod (10000 : Int))) fun x20 =>
    Option.bind (show Option (((List UInt8) × Unit)) from (
      let x22 := (decide (x20 > (0 : Int)))
      if x22 then (
        let x24 := IntKind.u64.wrap ((10000 : Int) + x20)
        Option.bind (ref02_tens x24) fun x25 =>
        Option.bind (lSub x25 (1 : Int) (x25.length : Int)) fun x26 =>
        Option.bind (iter ref02_Text_loop1 (x4, x26, ())) fun o =>
        let x4 := o.1
        let x6 := o.2.1
        Option.bind (if x4.length + ([46] : List UInt8).length ≤ 4611686018427387904 then some (x4 ++ ([46] : List UInt8)) else none) fun x39 =>
        Option.bind (if x39.length + x6.length ≤ 4611686018427387904 then some (x39 ++ x6) else none) fun x41 =>
        some (x41, ()))
      else (
        some (x4, ())))) fun o =>
    let x4 := o.1
    Option.bind (if x4.length + ([37] : List UInt8).length ≤ 4611686018427387904 then some (x4 ++ ([37] : List UInt8)) else none) fun x43 =>
    some x43)
noncomputable def law02_RateText (a : Int × (List UInt8)) : Option (Bool) :=
  let x0 := a.1
  let x1 := a.2
  Option.bind (law02_awake ()) fun x12 =>
  let x13 := (!x12)
  if x13 then (
    some false)
  else (
    let x15 := (x1.length : Int)
    let x16 := (decide (x15 > (3000 : Int)))
    if x16 then (
      some true)
    else (
      Option.bind (rate_Text x0) fun x18 =>
      Option.bind (rate_Parse x1) fun x21 =>
      Option.bind (ref02_Parse x1) fun x26 =>
      Option.bind (ref02_Text x0) fun x31 =>
      let x32 := (!(x18 == x31))
      let x34 := (if x32 = false then some x21.1 else none)
      let x35 := (if x32 = false then some x26.1 else none)
      Option.bind (if x32 = false then ((x34.bind (fun z73 => x35.map (fun z74 => (z73, z74)))).map (fun z75 => (z75.1 != z75.2))).map some else some none) fun x36 =>
      Option.bind (if x32 then some true else x36.map (fun z76 => z76)) fun x37 =>
      let x39 := (if x37 = false then some x21.2 else none)
      let x40 := (if x37 = false then some x26.2 else none)
      Option.bind (if x37 = false then ((x39.bind (fun z77 => x40.map (fun z78 => (z77, z78)))).map (fun z79 => (z79.1 != z79.2))).map some else some none) fun x41 =>
      Option.bind (if x37 then some true else x41.map (fun z80 => z80)) fun x42 =>
      let x44 := (if x42 = false then some x21.2 else none)
      Option.bind (if x42 = false then ((x44.bind (fun z81 => some (z81, (0 : Int)))).map (fun z83 => (z83.1 == z83.2))).map some else some none) fun x45 =>
      Option.bind (if x42 = false then x45.map some else some none) fun x46 =>
      let x47 := (if x46 = some true then some x21.1 else none)
      Option.bind (if x46 = some true then ((x47.map (fun z84 => z84)).bind (fun z85 => rate_Text z85)).map some else some none) fun x48 =>
      let x49 := (if x46 = some true then some x1 else none)
      Option.bind (if x46 = some true then ((x48.bind (fun z86 => x49.map (fun z87 => (z86, z87)))).map (fun z88 => (!(z88.1 == z88.2)))).map some else some none) fun x50 =>
      Option.bind (if x42 = false then (x46.bind (fun z89 => if z89 then x50 else some false)).map some else some none) fun x51 =>
      Option.bind (if x42 then some true else x51.map (fun z90 => z90)) fun x52 =>
      if x52 then (
        some false)
      else (
        Option.bind (rate_Parse x18) fun x55 =>
        Option.bind (ref02_Right x0) fun x59 =>
        let x60 := (!x59)
        if x60 then (
          let x62 := ((x18 == ([] : List UInt8)))
          let x64 := (if x62 = true then some x55.2 else none)
          Option.bind (if x62 = true then ((x64.bind (fun z103 => some (z103, (10 : Int)))).map (fun z105 => (z105.1 == z105.2))).map some else some none) fun x65 =>
          Option.bind (if x62 then x65 else some false) fun x66 =>
          some x66)
        else (
          let x68 := (x55.2 == (0 : Int))
          let x70 := (if x68 = true then some x55.1 else none)
          let x71 := (if x68 = true then some x0 else none)
          Option.bind (if x68 = true then ((x70.bind (fun z112 => x71.map (fun z113 => (z112, z113)))).map (fun z114 => (z114.1 == z114.2))).map some else some none) fun x72 =>
          Option.bind (if x68 then x72 else some false) fun x73 =>
          some x73))))
noncomputable def law02_RateRises (a : Int × Int × Int × Int × Int × Int) : Option (Bool) :=
  let x0 := a.1
  let x1 := a.2.1
  let x2 := a.2.2.1
  let x3 := a.2.2.2.1
  let x4 := a.2.2.2.2.1
  let x5 := a.2.2.2.2.2
  Option.bind (law02_awake ()) fun x20 =>
  let x21 := (!x20)
  if x21 then (
    some false)
  else (
    let x23 := (decide (x2 < (0 : Int)))
    let x25 := (if x23 = false then some x3 else none)
    let x26 := (if x23 = false then some x2 else none)
    Option.bind (if x23 = false then ((x25.bind (fun z33 => x26.map (fun z34 => (z33, z34)))).map (fun z35 => (decide (z35.1 < z35.2)))).map some else some none) fun x27 =>
    Option.bind (if x23 then some true else x27.map (fun z36 => z36)) fun x28 =>
    let x30 := (if x28 = false then some x1 else none)
    let x31 := (if x28 = false then some x0 else none)
    Option.bind (if x28 = false then ((x30.bind (fun z37 => x31.map (fun z38 => (z37, z38)))).map (fun z39 => (decide (z39.1 < z39.2)))).map some else some none) fun x32 =>
    Option.bind (if x28 then some true else x32.map (fun z40 => z40)) fun x33 =>
    if x33 then (
      some true)
    else (
      let x35 := IntKind.i64.wrap x5
      Option.bind (if (5 : Int) = 0 then none else some (x35.tmod (5 : Int))) fun x36 =>
      Option.bind (rate_Part (x0, x2, x4, x36)) fun x42 =>
      Option.bind (rate_Part (x1, x2, x4, x36)) fun x50 =>
      Option.bind (rate_Part (x0, x3, x4, x36)) fun x58 =>
      let x62 := (x42.2 != (0 : Int))
      if x62 then (
        let x64 := (x42.1 == (0 : Int))
        some x64)
      else (
        let x66 := (x50.2 != (0 : Int))
        let x68 := (if x66 = false then some x50.1 else none)
        let x69 := (if x66 = false then some x42.1 else none)
        Option.bind (if x66 = false then ((x68.bind (fun z75 => x69.map (fun z76 => (z75, z76)))).map (fun z77 => (decide (z77.1 ≥ z77.2)))).map some else some none) fun x70 =>
        Option.bind (if x66 then some true else x70.map (fun z78 => z78)) fun x71 =>
        let x73 := (if x71 = true then some x58.2 else none)
        Option.bind (if x71 = true then ((x73.bind (fun z79 => some (z79, (0 : Int)))).map (fun z81 => (z81.1 != z81.2))).map some else some none) fun x74 =>
        Option.bind (if x71 = true then x74.map some else some none) fun x75 =>
        let x76 := (if x75 = some false then some x0 else none)
        Option.bind (if x75 = some false then ((x76.bind (fun z82 => some (z82, (0 : Int)))).map (fun z84 => (decide (z84.1 < z84.2)))).map some else some none) fun x77 =>
        Option.bind (if x71 = true then (x75.bind (fun z86 => if z86 then some true else x77.map (fun z85 => z85))).map some else some none) fun x78 =>
        Option.bind (if x71 = true then x78.map some else some none) fun x79 =>
        let x80 := (if x79 = some false then some x58.1 else none)
        let x81 := (if x79 = some false then some x42.1 else none)
        Option.bind (if x79 = some false then ((x80.bind (fun z87 => x81.map (fun z88 => (z87, z88)))).map (fun z89 => (decide (z89.1 ≥ z89.2)))).map some else some none) fun x82 =>
        Option.bind (if x71 = true then (x79.bind (fun z91 => if z91 then some true else x82.map (fun z90 => z90))).map some else some none) fun x83 =>
        Option.bind (if x71 then x83 else some false) fun x84 =>
        some x84)))
noncomputable def law02_RateNear (a : Int × Int × Int) : Option (Bool) :=
  let x0 := a.1
  let x1 := a.2.1
  let x2 := a.2.2
  Option.bind (law02_awake ()) fun x13 =>
  let x14 := (!x13)
  if x14 then (
    some false)
  else (
    let x16 := (decide (x1 ≤ (0 : Int)))
    let x18 := (if x16 = false then some x2 else none)
    Option.bind (if x16 = false then ((x18.bind (fun z81 => some (z81, (0 : Int)))).map (fun z83 => (decide (z83.1 ≤ z83.2)))).map some else some none) fun x19 =>
    Option.bind (if x16 then some true else x19.map (fun z84 => z84)) fun x20 =>
    let x22 := (if x20 = false then some x1 else none)
    Option.bind (if x20 = false then ((x22.bind (fun z85 => some (z85, (1073741824 : Int)))).map (fun z87 => (decide (z87.1 > z87.2)))).map some else some none) fun x23 =>
    Option.bind (if x20 then some true else x23.map (fun z88 => z88)) fun x24 =>
    let x26 := (if x24 = false then some x2 else none)
    Option.bind (if x24 = false then ((x26.bind (fun z89 => some (z89, (1073741824 : Int)))).map (fun z91 => (decide (z91.1 > z91.2)))).map some else some none) fun x27 =>
    Option.bind (if x24 then some true else x27.map (fun z92 => z92)) fun x28 =>
    let x30 := (if x28 = false then some x0 else none)
    Option.bind (if x28 = false then ((x30.bind (fun z93 => some (z93, (1073741824 : Int)))).map (fun z95 => (decide (z95.1 > z95.2)))).map some else some none) fun x31 =>
    Option.bind (if x28 then some true else x31.map (fun z96 => z96)) fun x32 =>
    let x34 := (if x32 = false then some x0 else none)
    Option.bind (if x32 = false then ((x34.bind (fun z97 => some (z97, (-1073741824 : Int)))).map (fun z99 => (decide (z99.1 < z99.2)))).map some else some none) fun x35 =>
    Option.bind (if x32 then some true else x35.map (fun z100 => z100)) fun x36 =>
    if x36 then (
      some true)
    else (
      let x40 := IntKind.i64.wrap x1
      let x42 := IntKind.i64.wrap x2
      Option.bind (rate_Part (x0, x40, x42, (1 : Int))) fun x43 =>
      let x47 := (x43.2 != (0 : Int))
      if x47 then (
        some true)
      else (
        let x51 := IntKind.i64.wrap x2
        let x53 := IntKind.i64.wrap x1
        Option.bind (rate_Part (x43.1, x51, x53, (1 : Int))) fun x54 =>
        let x58 := (x54.2 != (0 : Int))
        if x58 then (
          some true)
        else (
          let x61 := IntKind.i64.wrap (x54.1 - x0)
          let x63 := IntKind.i64.wrap x2
          let x65 := IntKind.i64.wrap x1
          Option.bind (if x65 = 0 then none else some (IntKind.i64.wrap (x63.tdiv x65))) fun x66 =>
          let x67 := IntKind.i64.wrap (x66 + (2 : Int))
          let x70 := (decide (x61 ≤ x67))
          let x72 := (if x70 = true then some x61 else none)
          let x73 := (if x70 = true then some x67 else none)
          Option.bind (if x70 = true then (x73.map (fun z109 => IntKind.i64.wrap (0 - z109))).map some else some none) fun x74 =>
          Option.bind (if x70 = true then ((x72.bind (fun z110 => x74.map (fun z111 => (z110, z111)))).map (fun z112 => (decide (z112.1 ≥ z112.2)))).map some else some none) fun x75 =>
          Option.bind (if x70 then x75 else some false) fun x76 =>
          some x76))))
noncomputable def ref02_Of (a : Int × Int × Int) : Option (Int × Int) :=
  let x0 := a.1
  let x1 := a.2.1
  let x2 := a.2.2
  Option.bind (ref02_Fits x0) fun x9 =>
  let x10 := (!x9)
  let x12 := (if x10 = false then some x1 else none)
  Option.bind (if x10 = false then ((x12.map (fun z17 => z17)).bind (fun z18 => ref02_Right z18)).map some else some none) fun x13 =>
  Option.bind (if x10 = false then (x13.map (fun z19 => (!z19))).map some else some none) fun x14 =>
  Option.bind (if x10 then some true else x14.map (fun z20 => z20)) fun x15 =>
  if x15 then (
    some ((0 : Int), (2 : Int)))
  else (
    Option.bind (ref02_Part (x0, x1, (1000000 : Int), x2)) fun x19 =>
    some (x19.1, x19.2))
noncomputable def rate_Times (a : Int × Int) : Option (Int × Int) :=
  let x0 := a.1
  let x1 := a.2
  Option.bind (rate_right x0) fun x9 =>
  let x10 := (!x9)
  let x12 := (if x10 = false then some x1 else none)
  Option.bind (if x10 = false then ((x12.map (fun z17 => z17)).bind (fun z18 => rate_right z18)).map some else some none) fun x13 =>
  Option.bind (if x10 = false then (x13.map (fun z19 => (!z19))).map some else some none) fun x14 =>
  Option.bind (if x10 then some true else x14.map (fun z20 => z20)) fun x15 =>
  if x15 then (
    some ((0 : Int), (2 : Int)))
  else (
    Option.bind (rate_quotient (x0, x1, (1000000 : Int), (1000000000 : Int), (1 : Int))) fun x19 =>
    let x23 := (!x19.2)
    if x23 then (
      some ((0 : Int), (9 : Int)))
    else (
      some (x19.1, (0 : Int))))
noncomputable def ref02_Times (a : Int × Int) : Option (Int × Int) :=
  let x0 := a.1
  let x1 := a.2
  Option.bind (ref02_Right x0) fun x9 =>
  let x10 := (!x9)
  let x12 := (if x10 = false then some x1 else none)
  Option.bind (if x10 = false then ((x12.map (fun z17 => z17)).bind (fun z18 => ref02_Right z18)).map some else some none) fun x13 =>
  Option.bind (if x10 = false then (x13.map (fun z19 => (!z19))).map some else some none) fun x14 =>
  Option.bind (if x10 then some true else x14.map (fun z20 => z20)) fun x15 =>
  if x15 then (
    some ((0 : Int), (2 : Int)))
  else (
    Option.bind (ref02_Part (x0, x1, (1000000 : Int), (1 : Int))) fun x19 =>
    Option.bind (ref02_Right x19.1) fun x23 =>
    let x24 := (!x23)
    if x24 then (
      some ((0 : Int), (9 : Int)))
    else (
      some (x19.1, (0 : Int))))
noncomputable def law02_RateOf (a : Int × Int × Int × Int) : Option (Bool) :=
  let x0 := a.1
  let x1 := a.2.1
  let x2 := a.2.2.1
  let x3 := a.2.2.2
  Option.bind (law02_awake ()) fun x17 =>
  let x18 := (!x17)
  if x18 then (
    some false)
  else (
    Option.bind (rate_Of (x0, x1, x3)) fun x23 =>
    Option.bind (ref02_Of (x0, x1, x3)) fun x30 =>
    Option.bind (rate_Times (x1, x2)) fun x36 =>
    Option.bind (ref02_Times (x1, x2)) fun x42 =>
    let x47 := (x23.1 == x30.1)
    let x49 := (if x47 = true then some x23.2 else none)
    let x50 := (if x47 = true then some x30.2 else none)
    Option.bind (if x47 = true then ((x49.bind (fun z19 => x50.map (fun z20 => (z19, z20)))).map (fun z21 => (z21.1 == z21.2))).map some else some none) fun x51 =>
    Option.bind (if x47 then x51 else some false) fun x52 =>
    let x54 := (if x52 = true then some x36.1 else none)
    let x55 := (if x52 = true then some x42.1 else none)
    Option.bind (if x52 = true then ((x54.bind (fun z22 => x55.map (fun z23 => (z22, z23)))).map (fun z24 => (z24.1 == z24.2))).map some else some none) fun x56 =>
    Option.bind (if x52 then x56 else some false) fun x57 =>
    let x59 := (if x57 = true then some x36.2 else none)
    let x60 := (if x57 = true then some x42.2 else none)
    Option.bind (if x57 = true then ((x59.bind (fun z25 => x60.map (fun z26 => (z25, z26)))).map (fun z27 => (z27.1 == z27.2))).map some else some none) fun x61 =>
    Option.bind (if x57 then x61 else some false) fun x62 =>
    some x62)
noncomputable def law02_RateTimes (a : Int × Int) : Option (Bool) :=
  let x0 := a.1
  let x1 := a.2
  Option.bind (law02_awake ()) fun x15 =>
  let x16 := (!x15)
  if x16 then (
    some false)
  else (
    Option.bind (ref02_Right x0) fun x18 =>
    let x19 := (!x18)
    let x21 := (if x19 = false then some x1 else none)
    Option.bind (if x19 = false then ((x21.map (fun z23 => z23)).bind (fun z24 => ref02_Right z24)).map some else some none) fun x22 =>
    Option.bind (if x19 = false then (x22.map (fun z25 => (!z25))).map some else some none) fun x23 =>
    Option.bind (if x19 then some true else x23.map (fun z26 => z26)) fun x24 =>
    if x24 then (
      Option.bind (rate_Times (x0, x1)) fun x28 =>
      let x32 := (x28.1 == (0 : Int))
      let x34 := (if x32 = true then some x28.2 else none)
      Option.bind (if x32 = true then ((x34.bind (fun z33 => some (z33, (2 : Int)))).map (fun z35 => (z35.1 == z35.2))).map some else some none) fun x35 =>
      Option.bind (if x32 then x35 else some false) fun x36 =>
      some x36)
    else (
      Option.bind (rate_Times (x0, x1)) fun x40 =>
      Option.bind (rate_Times (x1, x0)) fun x46 =>
      Option.bind (rate_Times (x0, (1000000 : Int))) fun x51 =>
      let x56 := IntKind.i64.wrap (0 - x0)
      Option.bind (rate_Times (x56, x1)) fun x58 =>
      let x63 := (x40.1 == x46.1)
      let x65 := (if x63 = true then some x40.2 else none)
      let x66 := (if x63 = true then some x46.2 else none)
      Option.bind (if x63 = true then ((x65.bind (fun z68 => x66.map (fun z69 => (z68, z69)))).map (fun z70 => (z70.1 == z70.2))).map some else some none) fun x67 =>
      Option.bind (if x63 then x67 else some false) fun x68 =>
      let x70 := (if x68 = true then some x51.1 else none)
      let x71 := (if x68 = true then some x0 else none)
      Option.bind (if x68 = true then ((x70.bind (fun z71 => x71.map (fun z72 => (z71, z72)))).map (fun z73 => (z73.1 == z73.2))).map some else some none) fun x72 =>
      Option.bind (if x68 then x72 else some false) fun x73 =>
      let x75 := (if x73 = true then some x51.2 else none)
      Option.bind (if x73 = true then ((x75.bind (fun z74 => some (z74, (0 : Int)))).map (fun z76 => (z76.1 == z76.2))).map some else some none) fun x76 =>
      Option.bind (if x73 then x76 else some false) fun x77 =>
      let x79 := (if x77 = true then some x58.1 else none)
      let x80 := (if x77 = true then some x40.1 else none)
      Option.bind (if x77 = true then (x80.map (fun z77 => IntKind.i64.wrap (0 - z77))).map some else some none) fun x81 =>
      Option.bind (if x77 = true then ((x79.bind (fun z78 => x81.map (fun z79 => (z78, z79)))).map (fun z80 => (z80.1 == z80.2))).map some else some none) fun x82 =>
      Option.bind (if x77 then x82 else some false) fun x83 =>
      let x85 := (if x83 = true then some x58.2 else none)
      let x86 := (if x83 = true then some x40.2 else none)
      Option.bind (if x83 = true then ((x85.bind (fun z81 => x86.map (fun z82 => (z81, z82)))).map (fun z83 => (z83.1 == z83.2))).map some else some none) fun x87 =>
      Option.bind (if x83 then x87 else some false) fun x88 =>
      some x88))
end WB
namespace WB
open Go Go.RowKit

theorem Mul64_eq {n m : Nat} (hn : n < 18446744073709551616) (hm : m < 18446744073709551616) :
    math_bits_Mul64 ((n : Int), (m : Int)) = some (((n * m / 18446744073709551616 : Nat) : Int), ((n * m % 18446744073709551616 : Nat) : Int)) := by
  unfold math_bits_Mul64
  obtain ⟨h1, h2, h3, h4⟩ := Go.Lib.mul64_hi n m hn hm
  have l : ∀ {a : Nat}, a < 18446744073709551616 → IntKind.u64.wrap (a : Int) = (a : Int) := fun h => wu64 h
  have h6 : n * m / 18446744073709551616 < 18446744073709551616 := by
    rw [Nat.div_lt_iff_lt_mul (by decide)]
    exact Nat.mul_lt_mul'' hn hm
  have e1 := Int.natCast_mul (n % 4294967296) (m % 4294967296)
  have e2 := Int.natCast_mul (n / 4294967296) (m % 4294967296)
  have e3 := Int.natCast_mul (n % 4294967296) (m / 4294967296)
  have e4 := Int.natCast_mul (n / 4294967296) (m / 4294967296)
  have e5 := Int.natCast_mul n m
  dsimp only
  rw [shr32, bs, shr32, bs, mask32 hn, mask32 hm, ← e1, ← e2, ← e3, ← e4, ← e5]
  generalize n % 4294967296 * (m % 4294967296) = A at *
  generalize n / 4294967296 * (m % 4294967296) = B at *
  generalize n % 4294967296 * (m / 4294967296) = C at *
  generalize n / 4294967296 * (m / 4294967296) = E at *
  generalize n * m = F at *
  rw [wu64 h1, shr32, bs, wu64 (show B < 18446744073709551616 by omega), ← Int.natCast_add, wu64 h2, shr32, bs, mask32 h2, wu64 (show C < 18446744073709551616 by omega), ← Int.natCast_add, wu64 h3, shr32, bs, wu64 (show E < 18446744073709551616 by omega), ← Int.natCast_add, wu64 (show E + (B + A / 4294967296) / 4294967296 < 18446744073709551616 by omega), ← Int.natCast_add, h4, wu64 h6, wu64m]

theorem shrK (n k : Nat) (hk : k ≤ 64) : (if (k : Int) < 0 then none else some ((n : Int).fdiv (2 ^ (min (k : Int).toNat 64)))) = some ((n / 2 ^ k : Nat) : Int) := by
  rw [if_neg (by omega), Int.toNat_natCast, Nat.min_eq_left hk, Int.fdiv_eq_ediv_of_nonneg _ (Int.pow_nonneg (by decide))]
  congr 1
theorem shr16 (n : Nat) : (if (16 : Int) < 0 then none else some ((n : Int).fdiv (2 ^ (min (16 : Int).toNat 64)))) = some ((n / 65536 : Nat) : Int) := shrK n 16 (by decide)
theorem shr8 (n : Nat) : (if (8 : Int) < 0 then none else some ((n : Int).fdiv (2 ^ (min (8 : Int).toNat 64)))) = some ((n / 256 : Nat) : Int) := shrK n 8 (by decide)

theorem len8L : ∀ n : Fin 256, ([0, 1, 2, 2, 3, 3, 3, 3, 4, 4, 4, 4, 4, 4, 4, 4, 5, 5, 5, 5, 5, 5, 5, 5, 5, 5, 5, 5, 5, 5, 5, 5, 6, 6, 6, 6, 6, 6, 6, 6, 6, 6, 6, 6, 6, 6, 6, 6, 6, 6, 6, 6, 6, 6, 6, 6, 6, 6, 6, 6, 6, 6, 6, 6, 7, 7, 7, 7, 7, 7, 7, 7, 7, 7, 7, 7, 7, 7, 7, 7, 7, 7, 7, 7, 7, 7, 7, 7, 7, 7, 7, 7, 7, 7, 7, 7, 7, 7, 7, 7, 7, 7, 7, 7, 7, 7, 7, 7, 7, 7, 7, 7, 7, 7, 7, 7, 7, 7, 7, 7, 7, 7, 7, 7, 7, 7, 7, 7, 8, 8, 8, 8, 8, 8, 8, 8, 8, 8, 8, 8, 8, 8, 8, 8, 8, 8, 8, 8, 8, 8, 8, 8, 8, 8, 8, 8, 8, 8, 8, 8, 8, 8, 8, 8, 8, 8, 8, 8, 8, 8, 8, 8, 8, 8, 8, 8, 8, 8, 8, 8, 8, 8, 8, 8, 8, 8, 8, 8, 8, 8, 8, 8, 8, 8, 8, 8, 8, 8, 8, 8, 8, 8, 8, 8, 8, 8, 8, 8, 8, 8, 8, 8, 8, 8, 8, 8, 8, 8, 8, 8, 8, 8, 8, 8, 8, 8, 8, 8, 8, 8, 8, 8, 8, 8, 8, 8, 8, 8, 8, 8, 8, 8, 8, 8, 8, 8, 8, 8, 8, 8, 8, 8, 8, 8, 8, 8] : List UInt8)[n.val]? = some (UInt8.ofNat (Go.Lib.bitLen n.val)) := by decide +kernel

theorem Len64_eq {n : Nat} (hn : n < 18446744073709551616) : math_bits_Len64 (n : Int) = some (Go.Lib.bitLen n : Int) := by
  unfold math_bits_Len64
  have a1 : ∃ n1 k1 : Nat, n1 < 4294967296 ∧ k1 ≤ 32 ∧ Go.Lib.bitLen n = k1 + Go.Lib.bitLen n1 ∧ (if decide ((n : Int) ≥ (4294967296 : Int)) = true then
      Option.bind (if (32 : Int) < 0 then none else some ((n : Int).fdiv (2 ^ (min (32 : Int).toNat 64)))) fun x6 => some (x6, (32 : Int), ()) else some ((n : Int), (0 : Int), ())) = some ((n1 : Int), (k1 : Int), ()) := by
    by_cases h : 4294967296 ≤ n
    · refine ⟨n / 4294967296, 32, by omega, by omega, Go.Lib.bitLen_shift32 n h hn, ?_⟩
      rw [if_pos (by simpa using by omega), shr32]; rfl
    · refine ⟨n, 0, by omega, by omega, by omega, ?_⟩
      rw [if_neg (by simpa using by omega)]; rfl
  obtain ⟨n1, k1, hn1, hk1, hl1, he1⟩ := a1
  have a2 : ∃ n2 k2 : Nat, n2 < 65536 ∧ k2 ≤ 48 ∧ Go.Lib.bitLen n = k2 + Go.Lib.bitLen n2 ∧ (if decide ((n1 : Int) ≥ (65536 : Int)) = true then
      Option.bind (if (16 : Int) < 0 then none else some ((n1 : Int).fdiv (2 ^ (min (16 : Int).toNat 64)))) fun x6 => some (x6, IntKind.i64.wrap ((k1 : Int) + (16 : Int)), ()) else some ((n1 : Int), (k1 : Int), ())) = some ((n2 : Int), (k2 : Int), ()) := by
    by_cases h : 65536 ≤ n1
    · refine ⟨n1 / 65536, k1 + 16, by omega, by omega, by rw [hl1, Go.Lib.bitLen_shift16 n1 h (by omega)]; omega, ?_⟩
      rw [if_pos (by simpa using by omega), shr16, w64' (by omega) (by omega)]; rfl
    · refine ⟨n1, k1, by omega, by omega, by omega, ?_⟩
      rw [if_neg (by simpa using by omega)]
  obtain ⟨n2, k2, hn2, hk2, hl2, he2⟩ := a2
  have a3 : ∃ n3 k3 : Nat, n3 < 256 ∧ k3 ≤ 56 ∧ Go.Lib.bitLen n = k3 + Go.Lib.bitLen n3 ∧ (if decide ((n2 : Int) ≥ (256 : Int)) = true then
      Option.bind (if (8 : Int) < 0 then none else some ((n2 : Int).fdiv (2 ^ (min (8 : Int).toNat 64)))) fun x6 => some (x6, IntKind.i64.wrap ((k2 : Int) + (8 : Int)), ()) else some ((n2 : Int), (k2 : Int), ())) = some ((n3 : Int), (k3 : Int), ()) := by
    by_cases h : 256 ≤ n2
    · refine ⟨n2 / 256, k2 + 8, by omega, by omega, by rw [hl2, Go.Lib.bitLen_shift8 n2 h (by omega)]; omega, ?_⟩
      rw [if_pos (by simpa using by omega), shr8, w64' (by omega) (by omega)]; rfl
    · refine ⟨n2, k2, by omega, by omega, by omega, ?_⟩
      rw [if_neg (by simpa using by omega)]
  obtain ⟨n3, k3, hn3, hk3, hl3, he3⟩ := a3
  have h8 : Go.Lib.bitLen n3 ≤ 8 := Go.Lib.bitLen_le8 ⟨n3, hn3⟩
  dsimp only
  rw [he1, bs]
  dsimp only
  rw [he2, bs]
  dsimp only
  rw [he3, bs]
  dsimp only
  have hw : IntKind.u8.wrap (n3 : Int) = (n3 : Int) := by rw [IntKind.wrap_u8]; omega
  rw [hw, sAt_nat (len8L ⟨n3, hn3⟩), bs]
  have hb : ((UInt8.ofNat (Go.Lib.bitLen n3)).toNat) = Go.Lib.bitLen n3 := by rw [UInt8.toNat_ofNat']; omega
  rw [hb, w64' (n := (Go.Lib.bitLen n3 : Int)) (by omega) (by omega), w64' (by omega) (by omega), hl3]
  rfl
theorem LeadingZeros64_eq {n : Nat} (hn : n < 18446744073709551616) : math_bits_LeadingZeros64 (n : Int) = some (64 - (Go.Lib.bitLen n : Int)) := by
  unfold math_bits_LeadingZeros64
  have : Go.Lib.bitLen n ≤ 64 := Go.Lib.bitLen_le n 64 (by omega) hn
  dsimp only
  rw [Len64_eq hn, bs, w64' (by omega) (by omega)]
end WB
namespace WB
open Go Go.RowKit

theorem bitLen_bd : ∀ (n : Nat), n < 18446744073709551616 → n ≠ 0 → 2 ^ Go.Lib.bitLen n ≤ 2 * n ∧ n < 2 ^ Go.Lib.bitLen n := by
  intro n
  induction n using Nat.strongRecOn with
  | _ n ih =>
    intro h h0
    rw [Go.Lib.bitLen_half n h0 h]
    by_cases h1 : n / 2 = 0
    · have : n = 1 := by omega
      subst this
      decide
    · obtain ⟨a, b⟩ := ih (n / 2) (by omega) (by omega) h1
      rw [Nat.add_comm 1, Nat.pow_succ]
      omega

section
variable {p z u n : Nat}
/-- One turn of guessing: the guess is too great just if the test says so; what is left says whether to go on. -/
theorem kn_turn (hz : z < 4294967296) (hn : n < 4294967296) (hu : u < p * 4294967296 + z) {q r : Nat} (h : q * p + r = u) (hQ : (u * 4294967296 + n) / (p * 4294967296 + z) ≤ q) (hq : q ≤ 4294967297) (hr : r < 4294967296) :
    q * z < 18446744073709551616 ∧ 4294967296 * r + n < 18446744073709551616 ∧
    ((q < 4294967296 ∧ q * z ≤ 4294967296 * r + n → q = (u * 4294967296 + n) / (p * 4294967296 + z))
    ∧ (4294967296 ≤ q ∨ 4294967296 * r + n < q * z → 1 ≤ q ∧ (q - 1) * p + (r + p) = u ∧ (u * 4294967296 + n) / (p * 4294967296 + z) ≤ q - 1 ∧ (4294967296 ≤ r + p → q - 1 = (u * 4294967296 + n) / (p * 4294967296 + z)))) := by
  have hd : 0 < p * 4294967296 + z := by omega
  have h1 : q * z ≤ 4294967297 * 4294967295 := Nat.mul_le_mul hq (by omega)
  refine ⟨by omega, by omega, fun ⟨a, b⟩ => ?_, fun a => ?_⟩
  · refine Nat.le_antisymm ?_ hQ
    rw [Nat.le_div_iff_mul_le hd]
    have := (kn_test (b := 4294967296) (z := z) (n := n) h)
    omega
  · have hlt : (u * 4294967296 + n) / (p * 4294967296 + z) < q := by
      rcases a with a | a
      · exact Nat.lt_of_lt_of_le (kn_digit hn hu) a
      · exact (kn_lt hd).1 ((kn_test h).1 a)
    have h1 : 1 ≤ q := Nat.lt_of_le_of_lt (Nat.zero_le _) hlt
    have e : (q - 1) * p + (r + p) = u := by
      obtain ⟨k, rfl⟩ : ∃ k, q = k + 1 := ⟨q - 1, by omega⟩
      rw [Nat.add_mul] at h
      simp only [Nat.add_sub_cancel]
      omega
    refine ⟨h1, e, Nat.le_sub_one_of_lt hlt, fun hb => ?_⟩
    refine Nat.le_antisymm ?_ (Nat.le_sub_one_of_lt hlt)
    rw [Nat.le_div_iff_mul_le hd]
    exact kn_break hb (by omega) hz e

theorem Div64_loop1_eq (hp : 2147483648 ≤ p) (hp2 : p < 4294967296) (hz : z < 4294967296) (hn : n < 4294967296) (hu : u < p * 4294967296 + z) (y s n0 : Int) :
    iter math_bits_Div64_loop1 (y, s, (p : Int), (z : Int), (u : Int), (n : Int), n0, ((u / p : Nat) : Int), ((u % p : Nat) : Int), ()) = some (y, s, (p : Int), (z : Int), (u : Int), (n : Int), n0, (((u * 4294967296 + n) / (p * 4294967296 + z) : Nat) : Int), ()) := by
  obtain ⟨f1, f2⟩ := kn_first (b := 4294967296) (p := p) (by omega) (by omega) hz hn hu
  refine iter_inv (fun m st => ∃ q r : Nat, st = (y, s, (p : Int), (z : Int), (u : Int), (n : Int), n0, (q : Int), (r : Int), ()) ∧ q * p + r = u ∧ (u * 4294967296 + n) / (p * 4294967296 + z) ≤ q ∧ q ≤ 4294967297 ∧ r < 4294967296 ∧ m = q) ?_ (u / p) _ ⟨u / p, u % p, rfl, Nat.div_add_mod' u p, f1, by omega, Nat.lt_of_lt_of_le (Nat.mod_lt _ (by omega)) (by omega), rfl⟩
  rintro m st ⟨q, r, rfl, h1, h2, h3, h4, hm⟩
  obtain ⟨b1, b2, c1, c2⟩ := kn_turn hz hn hu h1 h2 h3 h4
  have w1 : IntKind.u64.wrap ((q : Int) * (z : Int)) = ((q * z : Nat) : Int) := by rw [← Int.natCast_mul]; exact wu64 b1
  have w2 : IntKind.u64.wrap ((4294967296 : Int) * (r : Int)) = ((4294967296 * r : Nat) : Int) := by rw [wu64' (by omega) (by omega)]; omega
  have w3 : IntKind.u64.wrap (((4294967296 * r : Nat) : Int) + (n : Int)) = ((4294967296 * r + n : Nat) : Int) := by rw [wu64' (by omega) (by omega)]; omega
  have w5 : IntKind.u64.wrap ((r : Int) + (p : Int)) = ((r + p : Nat) : Int) := by rw [wu64' (by omega) (by omega)]; omega
  have hT : ∃ t : Bool, (t = true ↔ (4294967296 ≤ q ∨ 4294967296 * r + n < q * z)) ∧ math_bits_Div64_loop1 (y, s, (p : Int), (z : Int), (u : Int), (n : Int), n0, (q : Int), (r : Int), ()) = (if t then (if 4294967296 ≤ r + p then some (Sum.inr (y, s, (p : Int), (z : Int), (u : Int), (n : Int), n0, IntKind.u64.wrap ((q : Int) - 1), ())) else some (Sum.inl (y, s, (p : Int), (z : Int), (u : Int), (n : Int), n0, IntKind.u64.wrap ((q : Int) - 1), ((r + p : Nat) : Int), ()))) else some (Sum.inr (y, s, (p : Int), (z : Int), (u : Int), (n : Int), n0, (q : Int), ()))) := by
    unfold math_bits_Div64_loop1
    dsimp only
    rw [w5]
    have g2 : decide (((r + p : Nat) : Int) ≥ 4294967296) = decide (4294967296 ≤ r + p) := by apply decide_eq_decide.2; omega
    rw [g2]
    by_cases hb : 4294967296 ≤ q
    · have g1 : decide ((q : Int) ≥ 4294967296) = true := by simpa using by omega
      refine ⟨true, by simp [hb], ?_⟩
      simp only [g1, Bool.true_eq_false, if_false, if_true, bs, decide_eq_true_eq]
    · have g1 : decide ((q : Int) ≥ 4294967296) = false := by simpa using by omega
      refine ⟨decide (4294967296 * r + n < q * z), by simp [hb], ?_⟩
      have g3 : decide (((q * z : Nat) : Int) > ((4294967296 * r + n : Nat) : Int)) = decide (4294967296 * r + n < q * z) := by apply decide_eq_decide.2; omega
      simp only [g1, if_true, bs, ms, w1, w2, w3, g3, Bool.false_eq_true, if_false, decide_eq_true_eq]
  obtain ⟨t, ht, e⟩ := hT
  rw [e]
  cases t with
  | false =>
    refine .inr ?_
    have := c1 (by have := mt ht.2 (by decide); omega)
    rw [if_neg (by decide), ← this]
  | true =>
    obtain ⟨d1, d2, d3, d4⟩ := c2 (ht.1 rfl)
    have w6 : IntKind.u64.wrap ((q : Int) - 1) = ((q - 1 : Nat) : Int) := by rw [wu64' (by omega) (by omega)]; omega
    rw [if_pos rfl, w6]
    by_cases hb : 4294967296 ≤ r + p
    · rw [if_pos hb, d4 hb]
      exact .inr rfl
    · rw [if_neg hb]
      exact .inl ⟨_, rfl, q - 1, by omega, q - 1, r + p, rfl, d2, d3, by omega, by omega, rfl⟩
theorem Div64_loop2_eq (hp : 2147483648 ≤ p) (hp2 : p < 4294967296) (hz : z < 4294967296) (hn : n < 4294967296) (hu : u < p * 4294967296 + z) (y s x15 x17 : Int) :
    iter math_bits_Div64_loop2 (y, s, (p : Int), (z : Int), (n : Int), x15, ((u % p : Nat) : Int), x17, ((u / p : Nat) : Int), ()) = some (y, s, (n : Int), x15, x17, (((u * 4294967296 + n) / (p * 4294967296 + z) : Nat) : Int), ()) := by
  obtain ⟨f1, f2⟩ := kn_first (b := 4294967296) (p := p) (by omega) (by omega) hz hn hu
  refine iter_inv (fun m st => ∃ q r : Nat, st = (y, s, (p : Int), (z : Int), (n : Int), x15, (r : Int), x17, (q : Int), ()) ∧ q * p + r = u ∧ (u * 4294967296 + n) / (p * 4294967296 + z) ≤ q ∧ q ≤ 4294967297 ∧ r < 4294967296 ∧ m = q) ?_ (u / p) _ ⟨u / p, u % p, rfl, Nat.div_add_mod' u p, f1, by omega, Nat.lt_of_lt_of_le (Nat.mod_lt _ (by omega)) (by omega), rfl⟩
  rintro m st ⟨q, r, rfl, h1, h2, h3, h4, hm⟩
  obtain ⟨b1, b2, c1, c2⟩ := kn_turn hz hn hu h1 h2 h3 h4
  have w1 : IntKind.u64.wrap ((q : Int) * (z : Int)) = ((q * z : Nat) : Int) := by rw [← Int.natCast_mul]; exact wu64 b1
  have w2 : IntKind.u64.wrap ((4294967296 : Int) * (r : Int)) = ((4294967296 * r : Nat) : Int) := by rw [wu64' (by omega) (by omega)]; omega
  have w3 : IntKind.u64.wrap (((4294967296 * r : Nat) : Int) + (n : Int)) = ((4294967296 * r + n : Nat) : Int) := by rw [wu64' (by omega) (by omega)]; omega
  have w5 : IntKind.u64.wrap ((r : Int) + (p : Int)) = ((r + p : Nat) : Int) := by rw [wu64' (by omega) (by omega)]; omega
  have hT : ∃ t : Bool, (t = true ↔ (4294967296 ≤ q ∨ 4294967296 * r + n < q * z)) ∧ math_bits_Div64_loop2 (y, s, (p : Int), (z : Int), (n : Int), x15, (r : Int), x17, (q : Int), ()) = (if t then (if 4294967296 ≤ r + p then some (Sum.inr (y, s, (n : Int), x15, x17, IntKind.u64.wrap ((q : Int) - 1), ())) else some (Sum.inl (y, s, (p : Int), (z : Int), (n : Int), x15, ((r + p : Nat) : Int), x17, IntKind.u64.wrap ((q : Int) - 1), ()))) else some (Sum.inr (y, s, (n : Int), x15, x17, (q : Int), ()))) := by
    unfold math_bits_Div64_loop2
    dsimp only
    rw [w5]
    have g2 : decide (((r + p : Nat) : Int) ≥ 4294967296) = decide (4294967296 ≤ r + p) := by apply decide_eq_decide.2; omega
    rw [g2]
    by_cases hb : 4294967296 ≤ q
    · have g1 : decide ((q : Int) ≥ 4294967296) = true := by simpa using by omega
      refine ⟨true, by simp [hb], ?_⟩
      simp only [g1, Bool.true_eq_false, if_false, if_true, bs, decide_eq_true_eq]
    · have g1 : decide ((q : Int) ≥ 4294967296) = false := by simpa using by omega
      refine ⟨decide (4294967296 * r + n < q * z), by simp [hb], ?_⟩
      have g3 : decide (((q * z : Nat) : Int) > ((4294967296 * r + n : Nat) : Int)) = decide (4294967296 * r + n < q * z) := by apply decide_eq_decide.2; omega
      simp only [g1, if_true, bs, ms, w1, w2, w3, g3, Bool.false_eq_true, if_false, decide_eq_true_eq]
  obtain ⟨t, ht, e⟩ := hT
  rw [e]
  cases t with
  | false =>
    refine .inr ?_
    have := c1 (by have := mt ht.2 (by decide); omega)
    rw [if_neg (by decide), ← this]
  | true =>
    obtain ⟨d1, d2, d3, d4⟩ := c2 (ht.1 rfl)
    have w6 : IntKind.u64.wrap ((q : Int) - 1) = ((q - 1 : Nat) : Int) := by rw [wu64' (by omega) (by omega)]; omega
    rw [if_pos rfl, w6]
    by_cases hb : 4294967296 ≤ r + p
    · rw [if_pos hb, d4 hb]
      exact .inr rfl
    · rw [if_neg hb]
      exact .inl ⟨_, rfl, q - 1, by omega, q - 1, r + p, rfl, d2, d3, by omega, by omega, rfl⟩
end
end WB
namespace WB
open Go Go.RowKit

theorem shlK (n k : Nat) (hk : k ≤ 64) : (if (k : Int) < 0 then none else some (IntKind.u64.wrap ((n : Int) * 2 ^ (min (k : Int).toNat 64)))) = some ((n * 2 ^ k % 18446744073709551616 : Nat) : Int) := by
  rw [if_neg (by omega), Int.toNat_natCast, Nat.min_eq_left hk]
  refine congrArg some ?_
  rw [show (n : Int) * 2 ^ k = ((n * 2 ^ k : Nat) : Int) by rw [Int.natCast_mul, Int.natCast_pow]; rfl]
  exact wu64m _
theorem orJ {x y k : Nat} (hx : x % 2 ^ k = 0) (hx1 : x < 18446744073709551616) (hy : y < 2 ^ k) (hy1 : y < 18446744073709551616) : bitZ .or .u64 (x : Int) (y : Int) = ((x + y : Nat) : Int) := by
  rw [bitZ_bits _ _ _ _ (.inr rfl)]
  have h := bits_join .u64 64 (by decide) (fun n h1 h2 => wu64' h1 (by simpa using h2)) k (x : Int) (y : Int) (by omega) (by
      have : ((x % 2 ^ k : Nat) : Int) = 0 := by rw [hx]; rfl
      rw [Int.natCast_emod, Int.natCast_pow] at this
      exact this) (by have : ((2 : Int) ^ 64) = 18446744073709551616 := by decide
                      omega) (by omega) (by
      have : (y : Int) < ((2 ^ k : Nat) : Int) := by omega
      rw [Int.natCast_pow] at this
      exact this) (by have : ((2 : Int) ^ 64) = 18446744073709551616 := by decide
                      omega)
  rw [h]; omega

theorem quoN {a b : Nat} (hb : b ≠ 0) (ha : a < 18446744073709551616) : (if (b : Int) = 0 then none else some (IntKind.u64.wrap ((a : Int).tdiv (b : Int)))) = some ((a / b : Nat) : Int) := by
  rw [if_neg (by omega)]
  congr 1
  rw [Int.tdiv_eq_ediv_of_nonneg (by omega), ← Int.natCast_ediv]
  exact wu64 (Nat.lt_of_le_of_lt (Nat.div_le_self _ _) ha)
theorem remN {a b : Nat} (hb : b ≠ 0) : (if (b : Int) = 0 then none else some ((a : Int).tmod (b : Int))) = some ((a % b : Nat) : Int) := by
  rw [if_neg (by omega)]
  congr 1
/-- What is left, with words that wrap. -/
theorem left64 {a b m q : Nat} (hd : 0 < m) (hm : m < 18446744073709551616) (h : q = (a * 4294967296 + b) / m) :
    IntKind.u64.wrap (IntKind.u64.wrap (IntKind.u64.wrap ((a : Int) * 4294967296) + (b : Int)) - IntKind.u64.wrap ((q : Int) * (m : Int))) = (((a * 4294967296 + b) % m : Nat) : Int) := by
  have h1 := Nat.div_add_mod (a * 4294967296 + b) m
  rw [← h] at h1
  have h2 := Nat.mod_lt (a * 4294967296 + b) hd
  generalize (a * 4294967296 + b) % m = r at *
  rw [← Int.natCast_mul, Nat.mul_comm q m]
  generalize m * q = t at *
  simp only [IntKind.wrap_u64]
  omega

theorem tot64 {u vh vl w A1 A0 r v : Nat} (h1 : A1 + w = u * 4294967296 + vh) (h2 : A0 + r = w * 4294967296 + vl) (h3 : vh * 4294967296 + vl = v) : u * 18446744073709551616 + v = A1 * 4294967296 + A0 + r := by
  have e : u * 18446744073709551616 = u * 4294967296 * 4294967296 := by rw [Nat.mul_assoc]
  rw [e, ← h3, ← Nat.add_assoc, ← Nat.add_mul, ← h1, Nat.add_mul, Nat.add_assoc, ← h2, Nat.add_assoc]
theorem Div64_eq {hi lo y : Nat} (hy : y < 18446744073709551616) (hlo : lo < 18446744073709551616) (hh : hi < y) :
    math_bits_Div64 ((hi : Int), (lo : Int), (y : Int)) = some ((((hi * 18446744073709551616 + lo) / y : Nat) : Int), (((hi * 18446744073709551616 + lo) % y : Nat) : Int)) := by
  have hy0 : y ≠ 0 := by omega
  have g1 : ((y : Int) == 0) = false := by simpa using by omega
  have g2 : decide ((y : Int) ≤ (hi : Int)) = false := by simpa using by omega
  by_cases h0 : hi = 0
  · subst h0
    unfold math_bits_Div64
    dsimp only
    rw [g1, g2, quoN hy0 hlo, remN hy0]
    simp
  obtain ⟨k1, k2⟩ := bitLen_bd y hy hy0
  have k3 : Go.Lib.bitLen y ≤ 64 := Go.Lib.bitLen_le y 64 (by omega) hy
  have k4 : 1 ≤ Go.Lib.bitLen y := by
    rcases Nat.eq_zero_or_pos (Go.Lib.bitLen y) with h | h
    · rw [h] at k2; omega
    · exact h
  -- the shift
  obtain ⟨s, hs⟩ : ∃ s, s = 64 - Go.Lib.bitLen y := ⟨_, rfl⟩
  have e64 : 2 ^ Go.Lib.bitLen y * 2 ^ s = 18446744073709551616 := by
    rw [← Nat.pow_add, show Go.Lib.bitLen y + s = 64 by omega]
  have ps : 0 < 2 ^ s := Nat.pow_pos (by decide)
  have n1 : 9223372036854775808 ≤ y * 2 ^ s := by
    have := Nat.mul_le_mul_right (2 ^ s) k1
    rw [Nat.mul_assoc] at this
    omega
  have n2 : y * 2 ^ s < 18446744073709551616 := by rw [← e64]; exact Nat.mul_lt_mul_of_pos_right k2 ps
  have n3 : hi * 2 ^ s + 2 ^ s ≤ y * 2 ^ s := by
    have := Nat.mul_le_mul_right (2 ^ s) (show hi + 1 ≤ y from hh)
    rwa [Nat.add_mul, Nat.one_mul] at this
  have n4 : lo / 2 ^ Go.Lib.bitLen y < 2 ^ s := by rw [Nat.div_lt_iff_lt_mul (Nat.pow_pos (by decide)), Nat.mul_comm, e64]; exact hlo
  have n5 : lo * 2 ^ s / 18446744073709551616 = lo / 2 ^ Go.Lib.bitLen y := by rw [← e64, Nat.mul_div_mul_right _ _ ps]
  have n6 := Nat.div_add_mod (lo * 2 ^ s) 18446744073709551616
  rw [n5] at n6
  have n7 : lo * 2 ^ s % 18446744073709551616 < 18446744073709551616 := Nat.mod_lt _ (by decide)
  have n8 : (hi * 18446744073709551616 + lo) * 2 ^ s = (hi * 2 ^ s + lo / 2 ^ Go.Lib.bitLen y) * 18446744073709551616 + lo * 2 ^ s % 18446744073709551616 := by
    rw [Nat.add_mul, Nat.add_mul, Nat.mul_right_comm]
    omega
  have o1 := orJ (x := hi * 2 ^ s) (y := lo / 2 ^ Go.Lib.bitLen y) (k := s) (Nat.mul_mod_left _ _) (by omega) n4 (by omega)
  unfold math_bits_Div64
  dsimp only
  have g3 : ((hi : Int) == 0) = false := by simpa using by omega
  have a0 : IntKind.u64.wrap (64 - (Go.Lib.bitLen y : Int)) = (s : Int) := by rw [wu64' (by omega) (by omega)]; omega
  have a1 : IntKind.u64.wrap (64 - (s : Int)) = (Go.Lib.bitLen y : Int) := by rw [wu64' (by omega) (by omega)]; omega
  rw [g1, g2, g3, LeadingZeros64_eq hy]
  simp only [Bool.false_eq_true, if_false]
  rw [bs, a0, a1, shlK y s (by omega), bs, shlK hi s (by omega), shlK lo s (by omega), Nat.mod_eq_of_lt n2, Nat.mod_eq_of_lt (show hi * 2 ^ s < 18446744073709551616 by omega), shrK lo _ k3]
  simp only [bs]
  rw [o1, mask32 n2, shr32, shr32, mask32 n7]
  simp only [bs]
  generalize hP : y * 2 ^ s = Y at *
  generalize hU : hi * 2 ^ s + lo / 2 ^ Go.Lib.bitLen y = u at *
  generalize hV : lo * 2 ^ s % 18446744073709551616 = v at *
  have eY : Y / 4294967296 * 4294967296 + Y % 4294967296 = Y := Nat.div_add_mod' Y 4294967296
  have eV : v / 4294967296 * 4294967296 + v % 4294967296 = v := Nat.div_add_mod' v 4294967296
  have hu : u < Y := by omega
  have hp0 : Y / 4294967296 ≠ 0 := by omega
  have qr (a : Nat) (ha : a < 18446744073709551616) : IntKind.u64.wrap ((a : Int) - IntKind.u64.wrap (((a / (Y / 4294967296) : Nat) : Int) * ((Y / 4294967296 : Nat) : Int))) = ((a % (Y / 4294967296) : Nat) : Int) := by
    have h1 := Nat.div_add_mod' a (Y / 4294967296)
    rw [← Int.natCast_mul]
    generalize a / (Y / 4294967296) * (Y / 4294967296) = t at *
    generalize a % (Y / 4294967296) = r at *
    rw [wu64 (show t < 18446744073709551616 by omega), wu64' (by omega) (by omega)]
    omega
  rw [quoN hp0 (show u < 18446744073709551616 by omega), bs, qr u (by omega)]
  rw [Div64_loop1_eq (by omega) (by omega) (by omega) (by omega) (by rw [eY]; exact hu), eY]
  simp only [bs]
  obtain ⟨q1, hq1⟩ : ∃ x, (u * 4294967296 + v / 4294967296) / Y = x := ⟨_, rfl⟩
  rw [hq1]
  have l1 := left64 (show 0 < Y by omega) n2 hq1.symm
  rw [l1]
  obtain ⟨w, hw⟩ : ∃ x, (u * 4294967296 + v / 4294967296) % Y = x := ⟨_, rfl⟩
  rw [hw]
  have hw1 : w < Y := by rw [← hw]; exact Nat.mod_lt _ (by omega)
  rw [quoN hp0 (show w < 18446744073709551616 by omega), bs, qr w (by omega)]
  rw [Div64_loop2_eq (by omega) (by omega) (by omega) (by omega) (by rw [eY]; exact hw1), eY]
  simp only [bs]
  obtain ⟨q0, hq0⟩ : ∃ x, (w * 4294967296 + v % 4294967296) / Y = x := ⟨_, rfl⟩
  rw [hq0]
  have l2 := left64 (show 0 < Y by omega) n2 hq0.symm
  rw [l2, shrK _ s (by omega), bs]
  have e1 := Nat.div_add_mod (u * 4294967296 + v / 4294967296) Y
  have e2 := Nat.div_add_mod (w * 4294967296 + v % 4294967296) Y
  have r1 : (w * 4294967296 + v % 4294967296) % Y < Y := Nat.mod_lt _ (by omega)
  rw [hq1, hw] at e1
  rw [hq0] at e2
  obtain ⟨r, hr0⟩ : ∃ x, (w * 4294967296 + v % 4294967296) % Y = x := ⟨_, rfl⟩
  rw [hr0] at e2 r1
  rw [hr0]
  -- put together
  have d0 : q0 < 4294967296 := by rw [← hq0, ← eY]; exact kn_digit (by omega) (by rw [eY]; exact hw1)
  have d1 : q1 < 4294967296 := by rw [← hq1]; conv => lhs; rw [← eY]
                                  exact kn_digit (by omega) (by rw [eY]; exact hu)
  have tot : (hi * 18446744073709551616 + lo) * 2 ^ s = y * (q1 * 4294967296 + q0) * 2 ^ s + r := by
    have h3 : Y * (q1 * 4294967296 + q0) = Y * q1 * 4294967296 + Y * q0 := by rw [Nat.mul_add, ← Nat.mul_assoc]
    rw [Nat.mul_right_comm y, hP, n8, h3]
    exact tot64 e1 e2 eV
  have rm : 2 ^ s ∣ r := by
    have h1 : 2 ^ s ∣ (hi * 18446744073709551616 + lo) * 2 ^ s := Nat.dvd_mul_left _ _
    rw [tot] at h1
    exact (Nat.dvd_add_right (Nat.dvd_mul_left _ _)).1 h1
  obtain ⟨c, hc⟩ := rm
  have hr : r / 2 ^ s = c := by rw [hc, Nat.mul_div_cancel_left _ ps]
  have tot2 : hi * 18446744073709551616 + lo = y * (q1 * 4294967296 + q0) + c := by
    rw [hc, Nat.mul_comm (2 ^ s) c, ← Nat.add_mul] at tot
    exact Nat.eq_of_mul_eq_mul_right ps tot
  have hcy : c < y := by
    rw [hc, ← hP, Nat.mul_comm] at r1
    exact Nat.lt_of_mul_lt_mul_right r1
  rw [tot2, Nat.mul_add_div (by omega), Nat.mul_add_mod, Nat.div_eq_of_lt hcy, Nat.mod_eq_of_lt hcy, hr, Nat.add_zero]
  have f1 : IntKind.u64.wrap (IntKind.u64.wrap ((q1 : Int) * 4294967296) + (q0 : Int)) = ((q1 * 4294967296 + q0 : Nat) : Int) := by
    simp only [IntKind.wrap_u64]; omega
  rw [f1]
end WB
namespace WB
open Go Go.RowKit

/-- Whether a quotient goes up. -/
def upS (neg : Bool) (q r d : Nat) (mode : Int) : Bool :=
  if mode = 4 then neg && decide (0 < r)
  else if mode = 3 then decide (0 < r)
  else if mode = 2 then (if r = d - r then q % 2 == 1 else decide (d - r ≤ r))
  else if mode = 1 then decide (d - r ≤ r)
  else false
/-- A part's size. -/
def sizeS (neg : Bool) (n d : Nat) (mode : Int) : Nat := n / d + (if upS neg (n / d) (n % d) d mode then 1 else 0)
def negS (c num : Int) : Bool := !(decide (c < 0) == decide (num < 0))
/-- A part of an amount, and the error's number. -/
def partS (c num den mode : Int) : Int × Int :=
  if ¬ (-1125899906842624 ≤ c ∧ c ≤ 1125899906842624) then (0, 2)
  else if den = 0 then (0, 22)
  else if den < 0 then (0, 2)
  else if mode < 0 ∨ 4 < mode then (0, 11)
  else if 1125899906842624 < sizeS (negS c num) (c.natAbs * num.natAbs) den.toNat mode then (0, 9)
  else (if negS c num then -(sizeS (negS c num) (c.natAbs * num.natAbs) den.toNat mode : Int) else (sizeS (negS c num) (c.natAbs * num.natAbs) den.toNat mode : Int), 0)

theorem amount_eq (c : Int) : rate_amount c = some (decide (-1125899906842624 ≤ c ∧ c ≤ 1125899906842624)) := by
  unfold rate_amount
  by_cases h1 : -1125899906842624 ≤ c
  · have g : decide (c ≥ -1125899906842624) = true := by simpa using h1
    simp only [g, if_true, bs, ms]
    simp [h1]
  · have g : decide (c ≥ -1125899906842624) = false := by simpa using h1
    simp only [g, Bool.false_eq_true, if_false, bs]
    simp [h1]
theorem rsize_eq {c : Int} (h1 : -9223372036854775808 ≤ c) (h2 : c ≤ 9223372036854775807) : rate_size c = some (c.natAbs : Int) := by
  unfold rate_size
  by_cases h : c < 0
  · have g : decide (c < 0) = true := by simpa using h
    simp only [g, if_true, IntKind.wrap_u64]
    refine congrArg some ?_
    omega
  · have g : decide (c < 0) = false := by simpa using h
    simp only [g, Bool.false_eq_true, if_false, IntKind.wrap_u64]
    refine congrArg some ?_
    omega
theorem up_eq {neg : Bool} {q r d : Nat} {mode : Int} (hd : d < 18446744073709551616) (hr : r < d) : rate_up (neg, (q : Int), (r : Int), (d : Int), mode) = some (upS neg q r d mode) := by
  have w : IntKind.u64.wrap ((d : Int) - (r : Int)) = ((d - r : Nat) : Int) := by rw [wu64' (by omega) (by omega)]; omega
  have c1 : decide ((r : Int) > 0) = decide (0 < r) := by apply decide_eq_decide.2; omega
  have c2 : decide ((r : Int) ≥ ((d - r : Nat) : Int)) = decide (d - r ≤ r) := by apply decide_eq_decide.2; omega
  have c3 : ((r : Int) == ((d - r : Nat) : Int)) = decide (r = d - r) := by
    rw [Bool.eq_iff_iff]; simp only [beq_iff_eq, decide_eq_true_eq]; omega
  have c4 : (if (2 : Int) = 0 then none else some ((q : Int).tmod 2)) = some ((q % 2 : Nat) : Int) := remN (b := 2) (by decide)
  have c5 : (((q % 2 : Nat) : Int) == 1) = (q % 2 == 1) := by
    rw [Bool.eq_iff_iff]; simp only [beq_iff_eq]; omega
  unfold rate_up upS
  dsimp only
  by_cases m4 : mode = 4
  · subst m4
    cases neg
    · rfl
    · simp only [beq_self_eq_true, if_true, Bool.not_true, Bool.false_eq_true, if_false, bs, Bool.true_and, c1]
  have m4' : (mode == 4) = false := by simpa using m4
  rw [m4', if_neg m4]
  by_cases m3 : mode = 3
  · subst m3
    simp only [beq_self_eq_true, if_true, Bool.false_eq_true, if_false, bs, c1]
  have m3' : (mode == 3) = false := by simpa using m3
  rw [m3', if_neg m3]
  by_cases m2 : mode = 2
  · subst m2
    by_cases e : r = d - r
    · have c3' : ((r : Int) == ((d - r : Nat) : Int)) = true := by rw [c3]; exact decide_eq_true e
      simp only [beq_self_eq_true, if_true, Bool.false_eq_true, if_false, bs, w, c3', c4, c5, if_pos e]
    · have c3' : ((r : Int) == ((d - r : Nat) : Int)) = false := by rw [c3]; exact decide_eq_false e
      simp only [beq_self_eq_true, if_true, Bool.false_eq_true, if_false, bs, w, c3', c2, if_neg e]
  have m2' : (mode == 2) = false := by simpa using m2
  rw [m2', if_neg m2]
  by_cases m1 : mode = 1
  · subst m1
    simp only [beq_self_eq_true, if_true, Bool.false_eq_true, if_false, bs, w, c2]
  have m1' : (mode == 1) = false := by simpa using m1
  rw [m1', if_neg m1]
  rfl
theorem quotient_eq {c num : Int} {d : Nat} {mode : Int} (c1 : -9223372036854775808 ≤ c) (c2 : c ≤ 9223372036854775807) (n1 : -9223372036854775808 ≤ num) (n2 : num ≤ 9223372036854775807) (hd : d < 18446744073709551616) (hd0 : 0 < d) {mx : Nat} (hmx : mx ≤ 1125899906842624) :
    rate_quotient (c, num, (d : Int), (mx : Int), mode) = some (if mx < sizeS (negS c num) (c.natAbs * num.natAbs) d mode then (0, false) else (if negS c num then -(sizeS (negS c num) (c.natAbs * num.natAbs) d mode : Int) else (sizeS (negS c num) (c.natAbs * num.natAbs) d mode : Int), true)) := by
  unfold rate_quotient
  dsimp only
  rw [rsize_eq c1 c2, rsize_eq n1 n2, show (!(decide (c < 0) == decide (num < 0))) = negS c num from rfl]
  simp only [bs]
  have a1 : c.natAbs < 18446744073709551616 := by omega
  have a2 : num.natAbs < 18446744073709551616 := by omega
  rw [Mul64_eq a1 a2]
  simp only [bs]
  generalize negS c num = neg
  generalize c.natAbs * num.natAbs = N
  have e : N / 18446744073709551616 * 18446744073709551616 + N % 18446744073709551616 = N := Nat.div_add_mod' N _
  by_cases h : d ≤ N / 18446744073709551616
  · have g : decide (((N / 18446744073709551616 : Nat) : Int) ≥ (d : Int)) = true := decide_eq_true (by omega)
    rw [g, if_pos rfl, if_pos]
    have : 18446744073709551616 ≤ N / d := by
      rw [Nat.le_div_iff_mul_le hd0, Nat.mul_comm, ← Nat.le_div_iff_mul_le (by decide)]
      exact h
    unfold sizeS
    omega
  · have g : decide (((N / 18446744073709551616 : Nat) : Int) ≥ (d : Int)) = false := decide_eq_false (by omega)
    rw [g, if_neg (by decide), Div64_eq hd (Nat.mod_lt _ (by decide)) (by omega), e]
    simp only [bs]
    have hr : N % d < d := Nat.mod_lt _ hd0
    have hq0 : (0 : Int) ≤ ((N / d : Nat) : Int) := Int.natCast_nonneg _
    by_cases hq : mx < N / d
    · have g : decide (((N / d : Nat) : Int) > (mx : Int)) = true := decide_eq_true (by omega)
      rw [g, if_pos rfl, if_pos (by unfold sizeS; omega)]
    · have g : decide (((N / d : Nat) : Int) > (mx : Int)) = false := decide_eq_false (by omega)
      rw [g, if_neg (by decide), up_eq hd hr]
      simp only [bs]
      have w : IntKind.u64.wrap (((N / d : Nat) : Int) + 1) = ((N / d + 1 : Nat) : Int) := by rw [wu64' (by omega) (by omega)]; omega
      rw [w]
      have s : ∀ k : Nat, k = sizeS neg N d mode → (Option.bind (some ((mx : Int), neg, (k : Int), ())) fun (o : Int × Bool × Int × Unit) => if decide (o.2.2.1 > o.1) then some ((0 : Int), false) else if o.2.1 then some (IntKind.i64.wrap (0 - IntKind.i64.wrap o.2.2.1), true) else some (IntKind.i64.wrap o.2.2.1, true)) = some (if mx < sizeS neg N d mode then (0, false) else (if neg then -(sizeS neg N d mode : Int) else (sizeS neg N d mode : Int), true)) := by
        intro k hk
        rw [← hk, bs]
        dsimp only
        by_cases h9 : mx < k
        · have g : decide ((k : Int) > (mx : Int)) = true := decide_eq_true (by omega)
          rw [g, if_pos rfl, if_pos h9]
        · have g : decide ((k : Int) > (mx : Int)) = false := decide_eq_false (by omega)
          rw [g, if_neg (by decide), if_neg h9, w64' (n := (k : Int)) (by omega) (by omega), w64' (by omega) (by omega)]
          cases neg
          · rfl
          · simp
      by_cases hu : upS neg (N / d) (N % d) d mode = true
      · rw [hu, if_pos rfl]
        exact s _ (by unfold sizeS; rw [if_pos hu])
      · rw [Bool.eq_false_iff.2 hu, if_neg (by decide)]
        exact s _ (by unfold sizeS; rw [if_neg hu]; rfl)
theorem rPart_eq {c num den mode : Int} (c1 : -9223372036854775808 ≤ c) (c2 : c ≤ 9223372036854775807) (n1 : -9223372036854775808 ≤ num) (n2 : num ≤ 9223372036854775807) (hd : den ≤ 9223372036854775807) : rate_Part (c, num, den, mode) = some (partS c num den mode) := by
  unfold rate_Part partS
  dsimp only
  rw [amount_eq, bs]
  by_cases h1 : -1125899906842624 ≤ c ∧ c ≤ 1125899906842624
  · rw [decide_eq_true h1, if_neg (show ¬((!true) = true) by decide), if_neg (show ¬¬(-1125899906842624 ≤ c ∧ c ≤ 1125899906842624) from fun k => k h1)]
    by_cases h2 : den = 0
    · subst h2; rfl
    have g : (den == 0) = false := by simpa using h2
    rw [g, if_neg (by decide), if_neg h2]
    by_cases h3 : den < 0
    · rw [decide_eq_true h3, if_pos rfl, if_pos h3]
    rw [decide_eq_false h3, if_neg (by decide), if_neg h3]
    have m : (Option.bind (if decide (mode < 0) = false then (((if decide (mode < 0) = false then some mode else none).bind (fun z17 => some (z17, (4 : Int)))).map (fun z19 => (decide (z19.1 > z19.2)))).map some else some none) fun x27 => (Option.bind (if decide (mode < 0) then some true else x27.map (fun z20 => z20)) some)) = some (decide (mode < 0 ∨ 4 < mode)) := by
      by_cases h4 : mode < 0
      · simp only [decide_eq_true h4, if_true, Bool.true_eq_false, if_false, bs]
        simp [h4]
      · simp only [decide_eq_false h4, if_true, Bool.false_eq_true, if_false, bs, ms]
        simp [h4]
    have k : ∀ {β : Type} (F : Bool → Option β), (Option.bind (if decide (mode < 0) = false then (((if decide (mode < 0) = false then some mode else none).bind (fun z17 => some (z17, (4 : Int)))).map (fun z19 => (decide (z19.1 > z19.2)))).map some else some none) fun x27 => (Option.bind (if decide (mode < 0) then some true else x27.map (fun z20 => z20)) F)) = F (decide (mode < 0 ∨ 4 < mode)) := by
      intro β F
      have := congrArg (fun o => Option.bind o F) m
      simp only [bs] at this
      rw [← this, Option.bind_assoc]
      congr 1
      funext x
      rw [Option.bind_assoc]
      rfl
    rw [k]
    by_cases h5 : mode < 0 ∨ 4 < mode
    · rw [decide_eq_true h5, if_pos rfl, if_pos h5]
    rw [decide_eq_false h5, if_neg (by decide), if_neg h5]
    obtain ⟨d, rfl⟩ := Int.eq_ofNat_of_zero_le (show 0 ≤ den by omega)
    rw [wu64 (show d < 18446744073709551616 by omega), show (1125899906842624 : Int) = ((1125899906842624 : Nat) : Int) from rfl, quotient_eq c1 c2 n1 n2 (by omega) (by omega) (Nat.le_refl _), bs, Int.toNat_natCast]
    by_cases h9 : 1125899906842624 < sizeS (negS c num) (c.natAbs * num.natAbs) d mode
    · rw [if_pos h9, if_pos h9]; rfl
    · rw [if_neg h9, if_neg h9]; rfl
  · rw [decide_eq_false h1, if_pos (by decide), if_pos h1]
end WB
