/-
  THE OWN LAYER, K: the sum of all operations that yield a value.
-/
import Derived.Test.YtpkoilfecgmogaaCoreJ
namespace WB
open Go Go.RowKit

section
variable {G : Nat → List CV} {P : Program} {w : World} {M : Nat → Prop} {B : Nat} {z : Cz} {ob rd : Nat → Ob} {fr : Nat → SV} {a : Act} {o : Oper}

theorem minmax_fold (mx : Bool) : ∀ (l : List CV) (vs : List Value) (c r : CV) (v : Value), RelC w M c v → RelL w M l vs → l.foldlM (minmaxC mx) c = some r →
    ∃ u, (vs.foldlM (if mx then Builtin.max2 else Builtin.min2) v).run P w = .ok u w ∧ RelC w M r u
  | [], vs, c, r, v, hc, hl, h => by
    unfold RelL at hl; subst hl
    simp only [List.foldlM_nil] at h
    cases h
    exact ⟨v, rfl, hc⟩
  | d :: l, vs, c, r, v, hc, hl, h => by
    unfold RelL at hl
    obtain ⟨u, us, rfl, h1, h2⟩ := hl
    rw [List.foldlM_cons] at h
    simp only [Option.bind_eq_bind, Option.bind_eq_some_iff] at h
    obtain ⟨e, he, h⟩ := h
    cases c <;> try (simp only [minmaxC, reduceCtorEq] at he; done)
    cases d <;> try (simp only [minmaxC, reduceCtorEq] at he; done)
    simp only [minmaxC, Option.ite_none_right_eq_some, Option.some.injEq] at he
    obtain ⟨rfl, rfl⟩ := he
    have e1 := of_int hc
    have e2 := of_int h1
    subst e1; subst e2
    rename_i k n m
    have step : ((if mx then Builtin.max2 else Builtin.min2) (.int k n) (.int k m)).run P w = .ok (.int k (if mx then max n m else min n m)) w := by
      cases mx
      · simp only [Bool.false_eq_true, if_false, Builtin.min2, Sem.run_pure]
        congr 2
        omega
      · simp only [if_true, Builtin.max2, Sem.run_pure]
        congr 2
        omega
    obtain ⟨u, g1, g2⟩ := minmax_fold mx l us _ r _ (rel_int (w := w) (M := M)) h2 h
    refine ⟨u, ?_, g2⟩
    rw [List.foldlM_cons]
    simp only [Sem.run_bind, step, Result.andThen_ok]
    exact g1

theorem val_minmax (h : Ctx P G w M B z ob fr a) {mx : Bool} {args : Array Operand} {l : List SO} (hl : allM compO args.toList = some l) {sv : SV} (hv : valOp rd (so G fr) (.minmax mx l) = some sv) (at_ : Array TypeId) (ty : TypeId) :
    ∃ v, ((if mx then Builtin.max_ else Builtin.min_) at_ ty (args.map a.eval)).run P w = .ok v w ∧ RelS w M z ob sv v := by
  simp only [valOp, Option.bind_eq_some_iff] at hv
  obtain ⟨cs, hcs, hv⟩ := hv
  have hr := opds_c h.fr h.glob hl hcs
  cases cs with
  | nil => cases hv
  | cons c cs =>
    simp only [Option.map_eq_some_iff] at hv
    obtain ⟨r, hr', rfl⟩ := hv
    unfold RelL at hr
    obtain ⟨v, vs, e, h1, h2⟩ := hr
    obtain ⟨u, g1, g2⟩ := minmax_fold (P := P) mx cs vs c r v h1 h2 hr'
    refine ⟨u, ?_, g2⟩
    have e' : (args.map a.eval).toList = v :: vs := by rw [Array.toList_map]; exact e
    cases mx
    · simp only [Bool.false_eq_true, if_false, Builtin.min_, e'] at g1 ⊢
      exact g1
    · simp only [if_true, Builtin.max_, e'] at g1 ⊢
      exact g1

theorem nilKind_some {d : TypeDesc} {y : Operand} {kd : Nat} (h : nilKind d y = some kd) :
    (kd = 1 ∧ (∃ e, d = .slice e) ∧ y = .const (.slice none 0 0)) ∨ (kd = 2 ∧ (∃ k e, d = .map k e) ∧ y = .const (.map none)) ∨ (kd = 3 ∧ (∃ ms, d = .interface ms) ∧ y = .const .nilIface) := by
  unfold nilKind at h
  split at h <;> simp only [Option.some.injEq, reduceCtorEq] at h <;> subst h
  · exact .inl ⟨rfl, ⟨_, rfl⟩, rfl⟩
  · exact .inr (.inl ⟨rfl, ⟨_, _, rfl⟩, rfl⟩)
  · exact .inr (.inr ⟨rfl, ⟨_, rfl⟩, rfl⟩)

theorem run_nil {op : BinOp} (hop : op = .eql ∨ op = .neq) {t : TypeId} {x y : Operand} {va vb : Value} {b : Bool} (hg : (eqGuard op t x y va vb).run P w = .ok () w) (he : ∀ n, (Op.equalIn (n + 1) t va vb).run P w = .ok b w)
    (hb1 : binOp .eql t va vb = (do pure (.bool (← Op.equal t va vb)))) (hb2 : binOp .neq t va vb = (do pure (.bool (!(← Op.equal t va vb))))) :
    (do eqGuard op t x y va vb; binOp op t va vb : Sem Value).run P w = .ok (.bool (if isNeq op then !b else b)) w := by
  have he' := he 9999
  rcases hop with rfl | rfl
  · simp [hg, hb1, Op.equal, Op.maxDepth, he', isNeq]
  · simp [hg, hb2, Op.equal, Op.maxDepth, he', isNeq]

theorem val_isnil (h : Ctx P G w M B z ob fr a) {op : BinOp} {t : TypeId} {d : TypeDesc} (hu : P.underlying t = some d) (hop : op = .eql ∨ op = .neq) {x y : Operand} {kd : Nat} (hy : nilKind d y = some kd) {sx : SO} (hx : compO x = some sx)
    {sv : SV} (hv : valOp rd (so G fr) (.isnil kd (isNeq op) sx) = some sv) :
    ∃ v, (do eqGuard op t x y (a.eval x) (a.eval y); binOp op t (a.eval x) (a.eval y) : Sem Value).run P w = .ok v w ∧ RelS w M z ob sv v := by
  have hr := h.opd hx
  simp only [valOp] at hv
  generalize so G fr sx = q at hr hv
  rcases nilKind_some hy with ⟨rfl, ⟨e, rfl⟩, rfl⟩ | ⟨rfl, ⟨k, e, rfl⟩, rfl⟩ | ⟨rfl, ⟨ms, rfl⟩, rfl⟩
  · cases q <;> try (simp only [reduceCtorEq] at hv; done)
    rename_i cv
    cases cv <;> try (simp only [reduceCtorEq] at hv; done)
    rename_i nl es
    cases nl <;> try (simp only [reduceCtorEq] at hv; done)
    rename_i b
    simp only [Option.some.injEq] at hv
    subst hv
    unfold RelS RelC at hr
    obtain ⟨ad, n, c, e1, _, _, e4, e5, _⟩ := hr
    rw [e1]
    refine ⟨_, run_nil hop (b := b) (guard_ok op t x _ ⟨(fun _ hh => by cases hh), (fun hh => by cases hh)⟩) (fun n => ?_) (by rfl) (by rfl), rel_bool (w := w) (M := M)⟩
    cases ad with
    | none =>
      cases b with
      | true => simp [Op.equalIn, run_underlying hu, Act.eval]
      | false => exact absurd rfl (e5 rfl)
    | some ad =>
      cases b with
      | true => have := e4 rfl; cases this
      | false => simp [Op.equalIn, run_underlying hu, Act.eval]
  · cases q <;> try (simp only [reduceCtorEq] at hv; done)
    rename_i cv
    cases cv <;> try (simp only [reduceCtorEq] at hv; done)
    rename_i nl ks vs
    cases nl <;> try (simp only [reduceCtorEq] at hv; done)
    rename_i b
    simp only [Option.some.injEq] at hv
    subst hv
    unfold RelS RelC at hr
    obtain ⟨r, e1, e4, e5, _⟩ := hr
    rw [e1]
    refine ⟨_, run_nil hop (b := b) (guard_ok op t x _ ⟨(fun _ hh => by cases hh), (fun hh => by cases hh)⟩) (fun n => ?_) (by rfl) (by rfl), rel_bool (w := w) (M := M)⟩
    cases r with
    | none =>
      cases b with
      | true => simp [Op.equalIn, run_underlying hu, Act.eval]
      | false => exact absurd rfl (e5 rfl)
    | some r =>
      cases b with
      | true => have := e4 rfl; cases this
      | false => simp [Op.equalIn, run_underlying hu, Act.eval]
  · cases q <;> try (simp only [reduceCtorEq] at hv; done)
    rename_i cv
    cases cv <;> try (simp only [reduceCtorEq] at hv; done)
    all_goals simp only [Option.some.injEq] at hv
    · subst hv
      unfold RelS RelC at hr
      rw [hr]
      have := run_nil (P := P) (w := w) hop (t := t) (x := x) (y := .const .nilIface) (va := .nilIface) (vb := .nilIface) (b := true) (by rcases hop with rfl | rfl <;> simp [eqGuard]) (fun n => by simp [Op.equalIn, run_underlying hu]) (by rfl) (by rfl)
      refine ⟨_, this, ?_⟩
      rcases hop with rfl | rfl <;> exact rel_bool (w := w) (M := M)
    · subst hv
      unfold RelS RelC at hr
      obtain ⟨t', x', hr⟩ := hr
      rw [hr]
      have := run_nil (P := P) (w := w) hop (t := t) (x := x) (y := .const .nilIface) (va := .iface t' x') (vb := .nilIface) (b := false) (guard_ok op t x _ ⟨(fun _ hh => by cases hh), (fun hh => by cases hh)⟩) (fun n => by simp [Op.equalIn, run_underlying hu]) (by rfl) (by rfl)
      refine ⟨_, this, ?_⟩
      rcases hop with rfl | rfl <;> exact rel_bool (w := w) (M := M)

theorem val_ext (h : Ctx P G w M B z ob fr a) {x : Operand} {i : Nat} {sx : SO} (hx : compO x = some sx) {sv : SV} (hv : valOp rd (so G fr) (.ext sx i) = some sv) :
    ∃ v, (Instr.extract (a.eval x) i).run P w = .ok v w ∧ RelS w M z ob sv v := by
  have hr := h.opd hx
  simp only [valOp] at hv
  generalize so G fr sx = q at hr hv
  cases q <;> try (simp only [reduceCtorEq] at hv; done)
  · rename_i cv
    cases cv <;> try (simp only [reduceCtorEq] at hv; done)
    simp only [Option.map_eq_some_iff] at hv
    obtain ⟨c, hc, rfl⟩ := hv
    unfold RelS RelC at hr
    obtain ⟨vs, e, hl⟩ := hr
    obtain ⟨v, h1, h2⟩ := hl.get hc
    exact ⟨v, by rw [e]; simp [Instr.extract, h1], h2⟩
  · rename_i id k c
    obtain ⟨hlive, b, u, e1, e2, e3⟩ := hr
    rw [e2]
    change (if i = 0 then some (SV.c c) else if i = 1 then some (SV.stamp id k) else none) = some sv at hv
    split at hv
    · rename_i h0
      subst h0
      simp only [Option.some.injEq] at hv
      subst hv
      exact ⟨u, by simp [Instr.extract], e3⟩
    · split at hv
      · rename_i _ h1
        subst h1
        simp only [Option.some.injEq] at hv
        subst hv
        exact ⟨.int .i64 b, by simp [Instr.extract], hlive, b, e1, rfl⟩
      · cases hv

theorem val_sidx (h : Ctx P G w M B z ob fr a) {t : TypeId} (ht : P.underlying t = some .string) {x ix : Operand} {sx si : SO} (hx : compO x = some sx) (hix : compO ix = some si) {sv : SV} (hv : valOp rd (so G fr) (.sidx sx si) = some sv) :
    ∃ v, (Instr.index t (a.eval x) (a.eval ix)).run P w = .ok v w ∧ RelS w M z ob sv v := by
  have hr := h.opd hx
  have hr2 := h.opd hix
  simp only [valOp] at hv
  generalize so G fr sx = q at hr hv
  generalize so G fr si = q2 at hr2 hv
  split at hv
  · rename_i s k n
    simp only [Option.bind_eq_some_iff, Option.map_eq_some_iff] at hv
    obtain ⟨j, hj, b, hb, rfl⟩ := hv
    obtain ⟨h0, h1, rfl⟩ := idxOf_some hj
    have e1 := of_str (w := w) (M := M) hr
    have e2 := of_int (w := w) (M := M) hr2
    have e3 : (⟨⟨s⟩⟩ : ByteArray)[n.toNat]? = some b := by
      have hlt : n.toNat < (⟨⟨s⟩⟩ : ByteArray).size := by show n.toNat < s.length; omega
      rw [ByteArray.getElem?_lt' _ _ hlt]
      have : s[n.toNat]? = some (s[n.toNat]'(by omega)) := List.getElem?_eq_getElem _
      rw [this] at hb
      rw [← hb]
      rfl
    exact ⟨_, by rw [e1, e2]; simp [Instr.index, asIntOf, run_underlying ht, h0, e3], rel_int (w := w) (M := M)⟩
  · cases hv

theorem val_aidx (h : Ctx P G w M B z ob fr a) {t e : TypeId} {n : Nat} {i : TypeInfo} {s : Option Nat} (ht : P.underlying t = some (.array n e)) (hi : P.info? e = some i) (hs : szOf P e = some s)
    {x ix : Operand} {sx si : SO} (hx : compO x = some sx) (hix : compO ix = some si) {sv : SV} (hv : valOp rd (so G fr) (.aidx n i.size s sx si) = some sv) :
    ∃ v, (Instr.index t (a.eval x) (a.eval ix)).run P w = .ok v w ∧ RelS w M z ob sv v := by
  have hr := h.opd hx
  have hr2 := h.opd hix
  simp only [valOp] at hv
  generalize so G fr sx = q at hr hv
  generalize so G fr si = q2 at hr2 hv
  split at hv
  · rename_i cs k m
    simp only [Option.bind_eq_some_iff, Option.map_eq_some_iff] at hv
    obtain ⟨j, hj, c, hc, rfl⟩ := hv
    obtain ⟨h0, h1, rfl⟩ := idxOf_some hj
    unfold RelS RelC at hr
    obtain ⟨vs, e1, hl⟩ := hr
    have e2 := of_int (w := w) (M := M) hr2
    obtain ⟨v, g1, g2⟩ := run_part (P := P) hs hl hc
    exact ⟨v, by rw [e1, e2]; simp [Instr.index, asIntOf, run_underlying ht, h0, h1, run_sizeOf_some hi, g1], g2⟩
  · cases hv
end
end WB
