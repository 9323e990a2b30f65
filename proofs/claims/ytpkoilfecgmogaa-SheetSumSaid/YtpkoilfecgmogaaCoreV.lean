/-
  THE OWN LAYER, V: one operation, whatever it is.
-/
import Derived.Test.YtpkoilfecgmogaaCoreU
namespace WB
open Go Go.RowKit

section
variable {P : Program} {E : Env} {w0 : World} {M0 : Nat → Prop} {n : Nat} {st : St} {a : Act} {w w' : World} {z : Cz}

theorem call_op {o : Oper} {sop : SOp} (hc : compOp P o = some sop) (hcls : sop.cls = .call) : ∃ c, o.op = .call c ∧
    ((∃ f l, c.callee = .value (.func f) ∧ hasBody P f = true ∧ allM compO c.args.toList = some l ∧ sop = .call f l) ∨
     (∃ t l, c.callee = .value (.tmp t) ∧ allM compO c.args.toList = some l ∧ sop = .callv (.t t) l)) := by
  unfold compOp at hc
  split at hc <;> rename_i ho <;> first
    | (cases hc; done)
    | (exfalso; have := compBin_cls hc; rw [hcls] at this; cases this; done)
    | (exfalso; have := compConv_cls hc; rw [hcls] at this; rcases this with h' | h' <;> cases h')
    | (unfold compCall at hc
       refine ⟨_, ho, ?_⟩
       split at hc <;> first
        | (cases hc; done)
        | (rename_i f hcal
           split at hc
           · rename_i hb
             simp only [Option.map_eq_some_iff] at hc
             obtain ⟨l, hl, rfl⟩ := hc
             exact .inl ⟨f, l, hcal, hb, hl, rfl⟩
           · cases hc)
        | (rename_i t hcal
           simp only [Option.map_eq_some_iff] at hc
           obtain ⟨l, hl, rfl⟩ := hc
           exact .inr ⟨t, l, hcal, hl, rfl⟩)
        | (exfalso
           (repeat' split at hc) <;> simp only [Option.bind_eq_some_iff, Option.map_eq_some_iff, Option.ite_none_right_eq_some, Option.some.injEq, reduceCtorEq] at hc
           all_goals (repeat (first | (subst hc; cases hcls; done) | (obtain ⟨_, hc⟩ := hc)))
           done))
    | (exfalso
       (repeat' split at hc) <;> simp only [Option.bind_eq_some_iff, Option.map_eq_some_iff, Option.ite_none_left_eq_some, Option.ite_none_right_eq_some, Option.some.injEq, Prod.exists, reduceCtorEq] at hc
       all_goals (repeat (first | (subst hc; cases hcls; done) | (obtain ⟨_, hc⟩ := hc)))
       done)

theorem run_callFunc {f : FuncId} (hb : hasBody P f = true) (args : Array Value) : (callFunc f args).run P w = .ok (.enter f args) w := by
  unfold hasBody at hb
  cases hf : P.funcs[f]? with
  | none => rw [hf] at hb; cases hb
  | some fn =>
    rw [hf] at hb
    simp only [Bool.and_eq_true, Bool.not_eq_true', Option.isSome_iff_exists] at hb
    obtain ⟨⟨b, hb⟩, hn⟩ := hb
    have hn' : ¬ fn.name = "runtime.NumGoroutine" := by simpa using hn
    simp [callFunc, hf, hn', hb]

theorem callOp_some {rd : Nat → Ob} {ρ : SO → SV} {d : Option Nat} {f : FuncId} {args : List SO} {caps : List CV} {st' : St} (h : callOp E rd ρ st d f args caps = some st') :
    ∃ l r, allM (fun x => close rd (ρ x)) args = some l ∧ E.fn f (l ++ caps) = some r ∧ ((args.all fun x => isC (ρ x)) = true ∨ r.memless = true) ∧ setRes st d r = some st' := by
  simp only [callOp, Option.bind_eq_some_iff, Option.ite_none_right_eq_some, Bool.or_eq_true] at h
  obtain ⟨l, hl, r, hr, hc, hs⟩ := h
  exact ⟨l, r, hl, hr, hc, hs⟩

theorem evalOp_sound (hE : EOk P E) (h : SR P E.G w0 M0 n st a w z) {rd : Nat → Ob} (hrd : ∀ id, rd id = .none ∨ rd id = st.ob id) {o : Oper} {sop : SOp} (hc : compOp P o = some sop) (hd : ∀ j, o.dst = some j → j < n) (hm : mute sop = true → o.dst = none) {st' : St}
    (hv : evalOp E rd st o.dst sop = some st') {K : Act → World → Prop} {Q : Exit → Act → World → Prop} (hK : ∀ a' w' z', SR P E.G w0 M0 n st' a' w' z' → K a' w') : o.wp P a w K Q := by
  unfold Oper.wp
  unfold evalOp at hv
  cases hcls : sop.cls with
  | val =>
    simp only [hcls, Option.map_eq_some_iff] at hv
    obtain ⟨sv, hv, rfl⟩ := hv
    obtain ⟨v, h1, h2⟩ := val_sound h.ctx hrd hc hcls hv
    rw [h1]
    exact hK _ _ _ (h.put hd h2)
  | grow =>
    simp only [hcls, Option.map_eq_some_iff] at hv
    obtain ⟨sv, hv, rfl⟩ := hv
    obtain ⟨v, w', h1, h2, h3⟩ := grow_sound h hc hcls hv
    rw [h1]
    exact hK _ _ _ ((h.grow h2).put hd h3)
  | new =>
    simp only [hcls, Option.bind_eq_some_iff, Prod.exists] at hv
    obtain ⟨sv, ob, hv, ha⟩ := hv
    unfold addNew at ha
    cases hod : o.dst with
    | none => rw [hod] at ha; cases ha
    | some d =>
      rw [hod] at ha hv
      simp only [Option.getD_some] at ha hv
      split at ha <;> try (cases ha; done)
      rename_i hn
      simp only [Option.some.injEq] at ha
      subst ha
      obtain ⟨v, w', z', h1, h2⟩ := new_sound h hc hcls hv (hd d hod) hn
      rw [h1]
      refine hK _ _ z' ?_
      rw [hod]
      exact h2
  | eff =>
    simp only [hcls] at hv
    rcases eff_sound h hc hcls hd hm hv with ⟨v, w', z', h1, h2⟩ | ⟨w', z', h1, h2⟩
    · rw [h1]; exact hK _ _ _ h2
    · rw [h1]; exact hK _ _ _ h2
  | call =>
    obtain ⟨c, ho, hcase⟩ := call_op hc hcls
    have fin : ∀ {f : FuncId} {vs : List Value} {l : List CV} {r : Res} {b : Bool}, hasBody P f = true → (execOp a.eval o).run P w = (callFunc f ⟨vs⟩).run P w → E.fn f l = some r → RelL w M0 l vs → (b = false → RelL w (mutb M0 z st.ob) l vs) → (b = true → r.memless = true) → setRes st o.dst r = some st' →
        o.upon P a K Q ((execOp a.eval o).run P w) := by
      intro f vs l r b hb hrun hf h1 h2 h3 h4
      rw [hrun, run_callFunc hb]
      refine (call_sound hE h hd hf h1 h2 h3 h4).mono fun e w' ⟨v, he, z', hS⟩ => ?_
      subst he
      exact hK _ _ _ hS
    rcases hcase with ⟨f, args, hcal, hb, hargs, rfl⟩ | ⟨t, args, hcal, hargs, rfl⟩
    · simp only [hcls] at hv
      obtain ⟨l, r, hl, hf, hor, hs⟩ := callOp_some hv
      obtain ⟨g1, g2⟩ := closes_rel h hrd hargs hl
      rw [List.append_nil] at hf
      have hrun : (execOp a.eval o).run P w = (callFunc f ⟨c.args.toList.map a.eval⟩).run P w := by
        have e : (⟨c.args.toList.map a.eval⟩ : Array Value) = c.args.map a.eval := Array.toList_inj.1 (by simp)
        rw [e]
        simp [execOp, ho, resolve, hcal, Act.eval, Deferred.ofValue, invoke]
      cases hall : args.all (fun x => isC (so E.G st.fr x)) with
      | true => exact fin (b := false) hb hrun hf g1 (fun _ => g2 hall) (fun hh => by cases hh) hs
      | false =>
        rw [hall] at hor
        exact fin (b := true) hb hrun hf g1 (fun hh => by cases hh) (fun _ => by simpa using hor) hs
    · simp only [hcls] at hv
      have hr := h.fr t
      have hso : so E.G st.fr (.t t) = st.fr t := rfl
      rw [hso] at hv
      split at hv <;> try (cases hv; done)
      rename_i f caps hfr
      rw [hfr] at hr
      unfold RelS RelC at hr
      obtain ⟨cvs, e1, hcaps⟩ := hr
      obtain ⟨l, r, hl, hf, hor, hs⟩ := callOp_some hv
      obtain ⟨g1, g2⟩ := closes_rel h hrd hargs hl
      have hb := (hE f _ r hf).1
      have hrun : (execOp a.eval o).run P w = (callFunc f ⟨c.args.toList.map a.eval ++ cvs⟩).run P w := by
        have e : (⟨c.args.toList.map a.eval ++ cvs⟩ : Array Value) = c.args.map a.eval ++ ⟨cvs⟩ := Array.toList_inj.1 (by simp)
        rw [e]
        simp [execOp, ho, resolve, hcal, Act.eval, e1, Deferred.ofValue, invoke]
      have hk : Keeps w (mutb M0 z st.ob) w M0 := ⟨Nat.le_refl _, fun _ _ _ => rfl, fun g _ hg => .inl hg⟩
      cases hall : args.all (fun x => isC (so E.G st.fr x)) with
      | true => exact fin (b := false) hb hrun hf (g1.append (RelL.keep hk _ _ hcaps)) (fun _ => (g2 hall).append hcaps) (fun hh => by cases hh) hs
      | false =>
        rw [hall] at hor
        exact fin (b := true) hb hrun hf (g1.append (RelL.keep hk _ _ hcaps)) (fun hh => by cases hh) (fun _ => by simpa using hor) hs

/-! ### Lines -/

def compL (P : Program) (n : Nat) (ops : Array Oper) (o : Oper) : Option SL :=
  (compOp P o).bind fun sop =>
    if (o.dst.all fun d => decide (d < n)) && (!(mute sop) || o.dst.isNone) then
      match o.guard with
      | none => some ⟨o.dst, sop, none⟩
      | some (j, want) => ((ops[j]?).bind (·.dst)).map fun t => ⟨o.dst, sop, some (t, want)⟩
    else none

theorem compL_some {ops : Array Oper} {o : Oper} {l : SL} (h : compL P n ops o = some l) : compOp P o = some l.op ∧ l.dst = o.dst ∧ (∀ j, o.dst = some j → j < n) ∧ (mute l.op = true → o.dst = none) ∧
    ((o.guard = none ∧ l.guard = none) ∨ ∃ j t want, o.guard = some (j, want) ∧ (ops[j]?).bind (·.dst) = some t ∧ l.guard = some (t, want)) := by
  simp only [compL, Option.bind_eq_some_iff, Option.ite_none_right_eq_some, Bool.and_eq_true, Bool.or_eq_true, Bool.not_eq_true'] at h
  obtain ⟨sop, hs, ⟨h1, h2⟩, h3⟩ := h
  have hd : ∀ j, o.dst = some j → j < n := fun j hj => by rw [hj] at h1; simpa using h1
  have hm : mute sop = true → o.dst = none := fun hm => by
    rcases h2 with h2 | h2
    · rw [hm] at h2; cases h2
    · simpa using h2
  split at h3
  · rename_i hg
    simp only [Option.some.injEq] at h3
    subst h3
    exact ⟨hs, rfl, hd, hm, .inl ⟨hg, rfl⟩⟩
  · rename_i j want hg
    simp only [Option.map_eq_some_iff] at h3
    obtain ⟨t, ht, rfl⟩ := h3
    exact ⟨hs, rfl, hd, hm, .inr ⟨j, t, want, hg, ht, rfl⟩⟩

theorem skipped_rel {G : Nat → List CV} (h : SR P G w0 M0 n st a w z) {d : Option Nat} (hd : ∀ j, d = some j → j < n) : SR P G w0 M0 n (st.set d skipped) (a.put d undef) w z := by
  refine h.put hd ?_
  show RelC _ _ (.tup []) undef
  unfold RelC
  exact ⟨[], rfl, RelL.nil⟩

theorem evalL_sound (hE : EOk P E) (h : SR P E.G w0 M0 n st a w z) {D : Option (List Nat)} {ops : Array Oper} {i : Nat} {o : Oper} (ho : ops[i]? = some o) {l : SL} (hc : compL P n ops o = some l) {st' : St} (hv : evalL E D l st = some st')
    {rest : List Nat} {Q : Exit → Act → World → Prop} (hK : ∀ a' w' z', SR P E.G w0 M0 n st' a' w' z' → wpOps P ops Q rest a' w') : wpOps P ops Q (i :: rest) a w := by
  obtain ⟨h1, h2, h3, h4, h5⟩ := compL_some hc
  have hrd : ∀ id, mask D st.ob id = .none ∨ mask D st.ob id = st.ob id := by
    intro id
    cases D with
    | none => exact .inr rfl
    | some D => unfold mask; simp only; split <;> first | exact .inl rfl | exact .inr rfl
  simp only [wpOps, ho]
  unfold evalL at hv
  rcases h5 with ⟨hg, hlg⟩ | ⟨j, t, want, hg, ht, hlg⟩
  · rw [hlg] at hv
    simp only at hv
    rw [if_pos (by simp [Region.wanted, hg])]
    rw [h2] at hv
    exact .inl (evalOp_sound hE h hrd h1 h3 h4 hv hK)
  · rw [hlg] at hv
    simp only at hv
    have hr := h.fr t
    have hy : ∀ b, st.fr t = .c (.bool b) → yielded ops a.tmps j = some b := by
      intro b hb
      rw [hb] at hr
      have e := of_bool (w := w) (M := mutb M0 z st.ob) hr
      have hlt : t < a.tmps.size := by
        rcases Nat.lt_or_ge t a.tmps.size with hh | hh
        · exact hh
        · simp [Array.getD, Nat.not_lt.2 hh, undef] at e
      have e' : a.tmps[t]? = some (.bool b) := by
        rw [Array.getElem?_eq_getElem hlt]
        simpa [Array.getD, hlt] using e
      simp only [yielded, ht, Option.bind_some, e']
    have hskip : st.fr t = .c (.tup []) → yielded ops a.tmps j = none := by
      intro hb
      rw [hb] at hr
      unfold RelS RelC at hr
      obtain ⟨vs, e, _⟩ := hr
      simp only [yielded, ht, Option.bind_some]
      cases ht' : a.tmps[t]? with
      | none => rfl
      | some v =>
        have : a.tmps.getD t undef = v := by rw [Array.getD_eq_getD_getElem?, ht']; rfl
        rw [this] at e
        rw [e]
    split at hv
    · rename_i b hb
      have hyb := hy b hb
      split at hv
      · rename_i hbw
        rw [if_pos (by simp [Region.wanted, hg, hyb, hbw])]
        rw [h2] at hv
        exact .inl (evalOp_sound hE h hrd h1 h3 h4 hv hK)
      · rename_i hbw
        rw [if_neg (by simp [Region.wanted, hg, hyb, hbw])]
        simp only [Option.some.injEq] at hv
        subst hv
        rw [h2] at hK
        exact hK _ _ _ (skipped_rel h h3)
    · rename_i hb
      rw [if_neg (by simp [Region.wanted, hg, hskip hb])]
      simp only [Option.some.injEq] at hv
      subst hv
      rw [h2] at hK
      exact hK _ _ _ (skipped_rel h h3)
    · cases hv

/-- Operations in whatever order. -/
def evalSeq (E : Env) (D : Option (List Nat)) (ls : List SL) : List Nat → St → Option St
  | [], st => some st
  | i :: is, st => match ls[i]? with
    | some l => (evalL E D l st).bind (evalSeq E D ls is)
    | none => none

theorem evalSeq_sound (hE : EOk P E) {D : Option (List Nat)} {ops : Array Oper} {ls : List SL} (hc : allM (compL P n ops) ops.toList = some ls) {Q : Exit → Act → World → Prop} : ∀ {is : List Nat} {st st' : St} {a : Act} {w : World} {z : Cz}, SR P E.G w0 M0 n st a w z →
    evalSeq E D ls is st = some st' → (∀ a' w' z', SR P E.G w0 M0 n st' a' w' z' → Q .normal a' w') → wpOps P ops Q is a w
  | [], st, st', a, w, z, h, hv, hK => by
    simp only [evalSeq, Option.some.injEq] at hv
    subst hv
    exact hK _ _ _ h
  | i :: is, st, st', a, w, z, h, hv, hK => by
    simp only [evalSeq] at hv
    split at hv <;> try (cases hv; done)
    rename_i l hl
    simp only [Option.bind_eq_some_iff] at hv
    obtain ⟨st1, h1, h2⟩ := hv
    have hlen := allM_length hc
    have hi : i < ops.toList.length := by rw [← hlen]; exact (List.getElem?_eq_some_iff.1 hl).1
    have ho : ops.toList[i]? = some (ops.toList[i]) := List.getElem?_eq_getElem hi
    obtain ⟨l', g1, g2⟩ := allM_get hc ho
    rw [hl] at g1
    simp only [Option.some.injEq] at g1
    subst g1
    have ho' : ops[i]? = some (ops.toList[i]) := by rw [← Array.getElem?_toList]; exact ho
    exact evalL_sound hE h ho' g2 h1 fun a' w' z' hS => evalSeq_sound hE hc hS h2 hK
end
end WB
