/-
  THE OWN LAYER, WB: an entry that is made, behind what has looked it up.
-/
import Derived.Test.YtpkoilfecgmogaaCoreW
namespace WB
open Go Go.RowKit

def gd (l : SL) (fr : Nat → SV) : Option Bool :=
  match l.guard with
  | none => some true
  | some (g, want) => match fr g with
    | .c (.bool b) => some (decide (b = want))
    | .c (.tup []) => some false
    | _ => none

section
variable {E : Env}

theorem evalL_gd {D : Option (List Nat)} {l : SL} {st : St} : evalL E D l st = (gd l st.fr).bind fun t => if t = true then evalOp E (mask D st.ob) st l.dst l.op else some (st.set l.dst skipped) := by
  unfold evalL gd
  cases l.guard with
  | none => rfl
  | some p =>
    obtain ⟨g, want⟩ := p
    simp only
    generalize st.fr g = q
    cases q with
    | c v =>
      cases v with
      | bool b => by_cases hb : b = want <;> simp [hb]
      | tup l => cases l <;> rfl
      | _ => rfl
    | _ => rfl

theorem gd_congr {l : SL} {fr fr' : Nat → SV} (h : ∀ i ∈ l.looks, fr i = fr' i) : gd l fr = gd l fr' := by
  unfold gd
  cases hg : l.guard with
  | none => rfl
  | some p =>
    obtain ⟨g, want⟩ := p
    simp only
    rw [h g (by simp [SL.looks, hg])]

theorem kIdx_snoc {kt : KT} {k c : CV} : ∀ (ks : List CV), kIdx kt k (ks ++ [c]) = match kIdx kt k ks with
    | some i => some i
    | none => if keyEq kt k c then some ks.length else none
  | [] => by simp [kIdx]
  | a :: ks => by
    simp only [List.cons_append, kIdx, kIdx_snoc ks]
    split
    · rfl
    · cases kIdx kt k ks with
      | some i => rfl
      | none =>
        simp only [Option.map_none]
        split <;> simp

/-- An entry that stands for its own zero turns no lookup's value. -/
theorem look_entry {kt : KT} {z : CV} {ks vs : List CV} (k k' : CV) (hl : ks.length = vs.length) : (look kt z (insertK kt ks k) (insertV kt ks vs k (look kt z ks vs k).1) k').1 = (look kt z ks vs k').1 := by
  unfold insertK insertV
  cases hk : kIdx kt k ks with
  | some i =>
    have : (look kt z ks vs k).1 = vs.getD i z := by simp [look, hk]
    rw [this]
    have hi := kIdx_lt hk
    have : vs.set i (vs.getD i z) = vs := by
      rw [List.getD_eq_getElem?_getD, List.getElem?_eq_getElem (by omega : i < vs.length)]
      simp
    simp only [this]
  | none =>
    have : (look kt z ks vs k).1 = z := by simp [look, hk]
    rw [this]
    simp only [look, kIdx_snoc]
    cases hk' : kIdx kt k' ks with
    | some j =>
      have hj := kIdx_lt hk'
      simp [List.getD_eq_getElem?_getD, List.getElem?_append_left (by omega : j < vs.length)]
    | none =>
      simp only
      by_cases he : keyEq kt k' k <;> simp [he, List.getD_eq_getElem?_getD, hl]

theorem calm_entry {rd rd' : Nat → Ob} {mt : TypeId} {kt : KT} {z : CV} {ks vs : List CV} {k : CV} (hl : ks.length = vs.length)
    (h : ∀ i, rd' i = rd i ∨ (rd i = .map mt kt z ks vs ∧ rd' i = .map mt kt z (insertK kt ks k) (insertV kt ks vs k (look kt z ks vs k).1))) {ρ : SO → SV} {d : Option Nat} {op : SOp} (hc : op.calm = true) : softOp E rd' ρ d op = softOp E rd ρ d op := by
  cases op <;> simp only [SOp.calm, Bool.false_eq_true] at hc <;> try rfl
  rename_i mt' kt' z' ok x y
  cases ok <;> simp only [Bool.false_eq_true] at hc
  simp only [softOp, SOp.cls, valOp]
  congr 2
  generalize ρ x = q1
  generalize ρ y = q2
  cases q1 with
  | omap id =>
    cases q2 with
    | c kc =>
      rcases h id with e | ⟨e1, e2⟩
      · simp only [lookV, e]
      · simp only [lookV, e1, e2, Bool.false_eq_true, if_false, look_entry k kc hl]
    | _ => rfl
  | c v => cases v <;> cases q2 <;> rfl
  | _ => rfl

theorem swap_entry {D : List Nat} {a b : SL} {st s1 s2 : St} (ha : a.op.calm = true) (hb : b.op.entry = true)
    (hab : ∀ i, a.dst = some i → i ∉ b.looks ∧ b.dst ≠ some i) (hba : ∀ i, b.dst = some i → i ∉ a.looks) (h1 : evalL E (some D) a st = some s1) (h2 : evalL E (some D) b s1 = some s2) :
    ∃ s, evalL E (some D) b st = some s ∧ evalL E (some D) a s = some s2 := by
  have hah : a.op.hard = false := by
    revert ha
    cases a.op <;> simp [SOp.calm, SOp.hard]
  have ham : a.op.makes = false := by
    revert ha
    cases a.op <;> simp [SOp.calm, SOp.makes]
  rw [softL_put hah, Option.bind_eq_some_iff] at h1
  obtain ⟨⟨v, o⟩, e1, h1⟩ := h1
  have ho : o = none := by
    cases o with
    | none => rfl
    | some o => have := softL_makes e1 rfl; rw [ham] at this; cases this
  subst ho
  have hf1 : ∀ i ∈ b.looks, s1.fr i = st.fr i := fun i hi => put_fr h1 (fun e => (hab i e).1 hi)
  simp only [put, Option.some.injEq] at h1
  have hob1 : s1.ob = st.ob := by subst h1; cases a.dst <;> rfl
  rw [evalL_gd, gd_congr hf1, Option.bind_eq_some_iff] at h2
  obtain ⟨t, ht, h2⟩ := h2
  have dcomm : ∀ i j, b.dst = some i → a.dst = some j → i ≠ j := fun i j hi hj e => (hab j hj).2 (by rw [hi, e])
  cases t with
  | false =>
    simp only [Bool.false_eq_true, if_false, Option.some.injEq] at h2
    refine ⟨st.set b.dst skipped, by rw [evalL_gd, ht]; rfl, ?_⟩
    have g1 : put st b.dst (skipped, none) = some (st.set b.dst skipped) := rfl
    have hm : (st.set b.dst skipped).ob = st.ob := by cases b.dst <;> rfl
    rw [softL_put hah, hm, softL_congr (fr' := st.fr) (fun i hi => put_fr g1 (fun e => hba i e hi)), e1]
    have hc : ∀ (x y : Option Nat) (u v : SV), (∀ i j, x = some i → y = some j → i ≠ j) → (st.set x u).set y v = (st.set y v).set x u := by
      intro x y u v hxy
      cases x <;> cases y <;> try rfl
      simp only [St.set, upd_comm _ _ _ (hxy _ _ rfl rfl)]
    simp only [Option.bind_some, put, ← h2, ← h1, hc _ _ _ _ dcomm]
  | true =>
    simp only [if_true] at h2
    cases hop : b.op <;> simp only [hop, SOp.entry, Bool.false_eq_true] at hb
    rename_i mt x k
    have hslots : ∀ y : SO, (y = x ∨ y = k) → so E.G s1.fr y = so E.G st.fr y := fun y hy => so_congr y fun i hi => hf1 i (by
      simp only [SL.looks, hop, SOp.slots, List.mem_append]
      rcases hy with rfl | rfl
      · exact .inl (.inl hi)
      · exact .inl (.inr hi))
    simp only [hop, evalOp, SOp.cls, effOp, hslots x (.inl rfl), hslots k (.inr rfl), hob1] at h2
    cases hx : so E.G st.fr x <;> simp only [hx, reduceCtorEq] at h2
    cases hkk : so E.G st.fr k <;> simp only [hkk, reduceCtorEq] at h2
    rename_i id kc
    cases hobi : st.ob id <;> simp only [hobi, reduceCtorEq] at h2
    rename_i mt' kt z ks vs
    simp only [Option.ite_none_right_eq_some, Option.some.injEq] at h2
    obtain ⟨⟨rfl, hcf, hlen⟩, h2⟩ := h2
    refine ⟨St.set { st with ob := upd st.ob id (.map mt' kt z (insertK kt ks kc) (insertV kt ks vs kc (look kt z ks vs kc).1)) } b.dst (.ent id kc (look kt z ks vs kc).1), ?_, ?_⟩
    · rw [evalL_gd, ht]
      simp [hop, evalOp, SOp.cls, effOp, hx, hkk, hobi, hcf, hlen]
    · have hfr : ∀ i ∈ a.looks, (St.set { st with ob := upd st.ob id (.map mt' kt z (insertK kt ks kc) (insertV kt ks vs kc (look kt z ks vs kc).1)) } b.dst (.ent id kc (look kt z ks vs kc).1)).fr i = st.fr i := by
        intro i hi
        cases hbd : b.dst with
        | none => rfl
        | some j => exact upd_ne _ _ (fun e => hba j hbd (e ▸ hi))
      have hob : (St.set { st with ob := upd st.ob id (.map mt' kt z (insertK kt ks kc) (insertV kt ks vs kc (look kt z ks vs kc).1)) } b.dst (.ent id kc (look kt z ks vs kc).1)).ob = upd st.ob id (.map mt' kt z (insertK kt ks kc) (insertV kt ks vs kc (look kt z ks vs kc).1)) := by
        cases b.dst <;> rfl
      have hrd : ∀ i, mask (some D) (upd st.ob id (.map mt' kt z (insertK kt ks kc) (insertV kt ks vs kc (look kt z ks vs kc).1))) i = mask (some D) st.ob i ∨ (mask (some D) st.ob i = .map mt' kt z ks vs ∧ mask (some D) (upd st.ob id (.map mt' kt z (insertK kt ks kc) (insertV kt ks vs kc (look kt z ks vs kc).1))) i = .map mt' kt z (insertK kt ks kc) (insertV kt ks vs kc (look kt z ks vs kc).1)) := by
        intro i
        simp only [mask, upd_apply]
        by_cases hi : D.contains i = true
        · simp only [hi, if_true]; exact .inl trivial
        · by_cases e : i = id
          · subst e
            rw [if_neg hi, if_neg hi, if_pos rfl]
            exact .inr ⟨hobi, rfl⟩
          · rw [if_neg hi, if_neg hi, if_neg e]
            exact .inl rfl
      have e1' : softL E a st.fr (mask (some D) (upd st.ob id (.map mt' kt z (insertK kt ks kc) (insertV kt ks vs kc (look kt z ks vs kc).1)))) = some (v, none) := by
        rw [← e1]
        unfold softL
        simp only [calm_entry hlen hrd ha]
      rw [softL_put hah, hob, softL_congr hfr, e1']
      simp only [Option.bind_some, put, ← h2, ← h1]
      congr 1
      cases hbd : b.dst <;> cases had : a.dst <;> try rfl
      simp only [St.set, upd_comm _ _ _ (dcomm _ _ hbd had)]
end
end WB
