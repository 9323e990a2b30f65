/-
  THE OWN LAYER, S: whatever turns what is there.
-/
import Derived.Test.YtpkoilfecgmogaaCoreR
namespace WB
open Go Go.RowKit

section
variable {P : Program} {G : Nat → List CV} {w0 : World} {M0 : Nat → Prop} {n : Nat} {st : St} {a : Act} {w w' : World} {z : Cz}

theorem foundAt_some {ens : List MapEntry} {o : Option Nat} {i : Nat} {v : Value} (h : foundAt ens o = some (i, v)) : o = some i ∧ ∃ en, ens[i]? = some en ∧ en.val = v := by
  unfold foundAt at h
  cases o with
  | none => cases h
  | some j =>
    simp only [Option.bind_some, Option.map_eq_some_iff, Prod.mk.injEq] at h
    obtain ⟨en, h1, rfl, h2⟩ := h
    exact ⟨rfl, en, h1, h2⟩

theorem eff_mapupd (h : SR P G w0 M0 n st a w z) {o : Oper} {t : TypeId} {m k x : Operand} (ho : o.op = .mapUpdate t m k x) (hdst : o.dst = none) {sm sk sx : SO} (hm : compO m = some sm) (hk : compO k = some sk) (hx : compO x = some sx) {st' : St}
    (hv : effOp none (so G st.fr) st (.mapupd t sm sk sx) = some st') : Turns P G w0 M0 n st' a w o := by
  have hr := h.ctx.opd hm
  have hr2 := h.ctx.opd hk
  have hr3 := h.ctx.opd hx
  simp only [effOp] at hv
  generalize so G st.fr sm = q at hr hv
  generalize so G st.fr sk = q2 at hr2 hv
  generalize so G st.fr sx = q3 at hr3 hv
  split at hv <;> try (cases hv; done)
  rename_i id kc vc
  obtain ⟨hlive, e1⟩ := hr
  cases hob : st.ob id <;> simp only [hob, reduceCtorEq] at hv
  rename_i mt kt zc ks vs
  simp only [Option.ite_none_right_eq_some, Option.some.injEq] at hv
  obtain ⟨⟨rfl, hc⟩, rfl⟩ := hv
  obtain ⟨hmt, r, ens, clk, e2, hh, h1, h2, h3, h4, h5, h6, h7⟩ := map_form h hob
  obtain ⟨kty, ety, i, vz, hu, hkt, hi, hz, hzc⟩ := mapTy_some hmt
  have rc := run_checkKey (P := P) hkt false hr2 hc
  have rf := run_findKey (P := P) hkt hr2 hc h1 h3
  have fin : ∀ {w' z' st'}, (Instr.mapUpdate mt (a.eval m) (a.eval k) (a.eval x)).run P w = .ok () w' → SR P G w0 M0 n st' a w' z' → Turns P G w0 M0 n st' a w o := by
    intro w' z' st' hrun hS
    refine .inr ⟨w', z', by simp [execOp, ho, hrun], ?_⟩
    rw [hdst]; exact hS
  have base : (Instr.mapUpdate mt (a.eval m) (a.eval k) (a.eval x)).run P w = (match foundAt ens (kIdx kt kc ks) with
      | some (i, _) => (do
        let key ← Instr.keyThatStays ((((⟨ens⟩ : Array MapEntry)[i]?).map MapEntry.key).getD (a.eval k)) (a.eval k)
        setObj r (.map ((⟨ens⟩ : Array MapEntry).modify i fun e => { e with key, val := a.eval x }) clk) : Sem Unit)
      | none => setObj r (.map ((⟨ens⟩ : Array MapEntry).push { key := a.eval k, val := a.eval x, born := clk }) (clk + 1))).run P w := by
    rw [e1, e2]
    simp only [Instr.mapUpdate, Sem.run_bind, run_underlying hu, Result.andThen_ok, getObj, Sem.run, hh, rc, rf]
    cases foundAt ens (kIdx kt kc ks) <;> rfl
  cases hf : kIdx kt kc ks with
  | none =>
    have hfa : foundAt ens (kIdx kt kc ks) = none := by rw [hf]; rfl
    rw [hfa] at base
    have hS := map_push h hob e2 hh hc (kIdx_none hc hf) hr2 hr3 (z.β id) (fun _ _ hh => hh) (fun _ _ hh => .inl hh)
    have e3 : insertK kt ks kc = ks ++ [kc] := by simp [insertK, hf]
    have e4 : insertV kt ks vs kc vc = vs ++ [vc] := by simp [insertV, hf]
    rw [e3, e4]
    refine fin ?_ hS
    rw [base]
    exact setObj_run hh (fun _ _ _ hh => by cases hh)
  | some i =>
    have hki := kIdx_some hf
    have hil : i < ens.length := by have := h1.length; rw [List.length_map] at this; have := (List.getElem?_eq_some_iff.1 hki).1; omega
    have hE : ens[i]? = some (ens[i]'hil) := List.getElem?_eq_getElem _
    have hfa : foundAt ens (kIdx kt kc ks) = some (i, ens[i].val) := by rw [hf]; simp [foundAt, hE]
    rw [hfa] at base
    obtain ⟨v0, g1, g2⟩ := h1.get hki
    rw [List.getElem?_map, hE] at g1
    simp only [Option.map_some, Option.some.injEq] at g1
    have hS := map_set h hob e2 hh hki hr2 hr3 (z.β id) (fun _ _ hh => hh) (fun _ _ hh => .inl hh)
    have e3 : insertK kt ks kc = ks := by simp [insertK, hf]
    have e4 : insertV kt ks vs kc vc = vs.set i vc := by simp [insertV, hf]
    rw [e3, e4]
    refine fin ?_ hS
    rw [base]
    have hEa : (⟨ens⟩ : Array MapEntry)[i]? = some ens[i] := by rw [← Array.getElem?_toList]; exact hE
    have hst := stays (P := P) hc (M := mutb M0 z st.ob) (M' := mutb M0 z st.ob) (u := ens[i].key) (v := a.eval k) (by rw [g1]; exact g2) hr2 w
    simp only [hEa, Option.map_some, Option.getD_some, Sem.run_bind, hst, Result.andThen_ok]
    exact setObj_run hh (fun _ _ _ hh => by cases hh)

theorem eff_mapent (h : SR P G w0 M0 n st a w z) {o : Oper} {t : TypeId} {m k : Operand} (ho : o.op = .mapEntry t m k) (hd : ∀ j, o.dst = some j → j < n) {sm sk : SO} (hm : compO m = some sm) (hk : compO k = some sk) {st' : St}
    (hv : effOp o.dst (so G st.fr) st (.mapent t sm sk) = some st') : Turns P G w0 M0 n st' a w o := by
  have hr := h.ctx.opd hm
  have hr2 := h.ctx.opd hk
  simp only [effOp] at hv
  generalize so G st.fr sm = q at hr hv
  generalize so G st.fr sk = q2 at hr2 hv
  split at hv <;> try (cases hv; done)
  rename_i id kc
  obtain ⟨hlive, e1⟩ := hr
  cases hob : st.ob id <;> simp only [hob, reduceCtorEq] at hv
  rename_i mt kt zc ks vs
  simp only [Option.ite_none_right_eq_some, Option.some.injEq] at hv
  obtain ⟨⟨rfl, hc, -⟩, rfl⟩ := hv
  obtain ⟨hmt, r, ens, clk, e2, hh, h1, h2, h3, h4, h5, h6, h7⟩ := map_form h hob
  obtain ⟨kty, ety, i, vz, hu, hkt, hi, hz, hzc⟩ := mapTy_some hmt
  have rc := run_checkKey (P := P) hkt false hr2 hc
  have rf := run_findKey (P := P) hkt hr2 hc h1 h3
  have fin : ∀ {w' z' v st1}, (Instr.mapEntry mt (a.eval m) (a.eval k)).run P w = .ok v w' → SR P G w0 M0 n st1 a w' z' → RelS w' (mutb M0 z' st1.ob) z' st1.ob (.ent id kc (look kt zc ks vs kc).1) v →
      Turns P G w0 M0 n (St.set st1 o.dst (.ent id kc (look kt zc ks vs kc).1)) a w o := by
    intro w' z' v st1 hrun hS hs
    exact .inl ⟨v, w', z', by simp [execOp, ho, hrun], hS.put hd hs⟩
  have base : (Instr.mapEntry mt (a.eval m) (a.eval k)).run P w = (match foundAt ens (kIdx kt kc ks) with
      | some (i, v) => (do
        let key ← Instr.keyThatStays ((((⟨ens⟩ : Array MapEntry)[i]?).map MapEntry.key).getD (a.eval k)) (a.eval k)
        setObj r (.map ((⟨ens⟩ : Array MapEntry).modify i fun e => { e with key }) clk)
        pure (.tuple #[v, goInt ((((⟨ens⟩ : Array MapEntry)[i]?).map (fun (x : MapEntry) => (x.born : Int))).getD 0)]) : Sem Value)
      | none => (do
        let zero ← zeroValue ety
        setObj r (.map ((⟨ens⟩ : Array MapEntry).push { key := a.eval k, val := zero, born := clk }) (clk + 1))
        pure (.tuple #[zero, goInt clk]) : Sem Value)).run P w := by
    rw [e1, e2]
    simp only [Instr.mapEntry, Sem.run_bind, run_underlying hu, Result.andThen_ok, getObj, Sem.run, hh, rc, rf]
    cases foundAt ens (kIdx kt kc ks) <;> rfl
  cases hf : kIdx kt kc ks with
  | none =>
    have hfa : foundAt ens (kIdx kt kc ks) = none := by rw [hf]; rfl
    rw [hfa] at base
    have hzr : RelC w (mutb M0 z st.ob) zc vz := cvOf_rel _ _ _ _ hzc
    have hlook : look kt zc ks vs kc = (zc, false) := by simp [look, hf]
    have hS := map_push h hob e2 hh hc (kIdx_none hc hf) hr2 hzr (fun k' b => z.β id k' b ∨ (k' = kc ∧ b = clk)) (fun _ _ hh => .inl hh) (fun _ _ hh => hh)
    have e3 : insertK kt ks kc = ks ++ [kc] := by simp [insertK, hf]
    have e4 : insertV kt ks vs kc zc = vs ++ [zc] := by simp [insertV, hf]
    rw [hlook] at fin ⊢
    rw [e3, e4]
    refine fin (v := .tuple #[vz, goInt clk]) ?_ hS ⟨by simp [upd_same], clk, vz, by simp [upd_same], rfl, cvOf_rel _ _ _ _ hzc⟩
    rw [base]
    simp only [Sem.run_bind, run_zero hi hz, Result.andThen_ok, setObj_run hh (fun _ _ _ hh => by cases hh), Sem.run_pure]
  | some i =>
    have hki := kIdx_some hf
    have hil : i < ens.length := by have := h1.length; rw [List.length_map] at this; have := (List.getElem?_eq_some_iff.1 hki).1; omega
    have hE : ens[i]? = some (ens[i]'hil) := List.getElem?_eq_getElem _
    have hfa : foundAt ens (kIdx kt kc ks) = some (i, ens[i].val) := by rw [hf]; simp [foundAt, hE]
    rw [hfa] at base
    obtain ⟨v0, g1, g2⟩ := h1.get hki
    rw [List.getElem?_map, hE] at g1
    simp only [Option.map_some, Option.some.injEq] at g1
    have hvl : i < vs.length := by have := h2.length; rw [List.length_map] at this; omega
    have hV : vs[i]? = some (vs[i]'hvl) := List.getElem?_eq_getElem _
    obtain ⟨v1, g3, g4⟩ := h2.get hV
    rw [List.getElem?_map, hE] at g3
    simp only [Option.map_some, Option.some.injEq] at g3
    have hlook : look kt zc ks vs kc = (vs[i], true) := by simp [look, hf, hV]
    have hS := map_set h hob e2 hh hki hr2 (v := vs[i]) (vv := ens[i].val) (by rw [g3]; exact g4) (fun k' b => z.β id k' b ∨ (k' = kc ∧ b = ens[i].born)) (fun _ _ hh => .inl hh) (fun k' b hb => by
      rcases hb with hb | ⟨rfl, rfl⟩
      · exact .inl hb
      · exact .inr ⟨_, hE, hki, rfl⟩)
    have e3 : insertK kt ks kc = ks := by simp [insertK, hf]
    have e4 : insertV kt ks vs kc vs[i] = vs.set i vs[i] := by simp [insertV, hf]
    rw [hlook] at fin ⊢
    rw [e3, e4]
    have hEa : (⟨ens⟩ : Array MapEntry)[i]? = some ens[i] := by rw [← Array.getElem?_toList]; exact hE
    have hmod : ((⟨ens⟩ : Array MapEntry).modify i fun e => { e with key := a.eval k }) = ((⟨ens⟩ : Array MapEntry).modify i fun e => { e with key := a.eval k, val := ens[i].val }) := by
      apply Array.ext_getElem?
      intro j
      rw [Array.getElem?_modify, Array.getElem?_modify]
      by_cases hj : i = j
      · subst hj; simp [hil]
      · simp [hj]
    refine fin (v := .tuple #[ens[i].val, goInt ens[i].born]) ?_ hS ⟨by simp [upd_same], ens[i].born, ens[i].val, by simp [upd_same], rfl, ?_⟩
    · rw [base]
      have hst := stays (P := P) hc (M := mutb M0 z st.ob) (M' := mutb M0 z st.ob) (u := ens[i].key) (v := a.eval k) (by rw [g1]; exact g2) hr2 w
      simp only [hEa, Option.map_some, Option.getD_some, Sem.run_bind, hst, Result.andThen_ok, hmod, setObj_run hh (fun _ _ _ hh => by cases hh), Sem.run_pure]
    · have hk2 := (map_form (id := id) hS (upd_same _ _ _)).2
      obtain ⟨r', ens', clk', k1, k2, _, k4, _⟩ := hk2
      obtain ⟨v2, g5, g6⟩ := k4.get (i := i) (c := vs[i]) (by simp [hvl])
      simp only at k1
      rw [e2] at k1
      simp only [Value.map.injEq, Option.some.injEq] at k1
      subst k1
      rw [setObj_at hh] at k2
      simp only [Option.some.injEq, Obj.map.injEq] at k2
      have : ens'[i]? = some { ens[i] with key := a.eval k, val := ens[i].val } := by
        have h9 := congrArg (fun x : Array MapEntry => x[i]?) k2.1
        simp only [Array.getElem?_modify, hEa] at h9
        simpa using h9.symm
      rw [List.getElem?_map, this] at g5
      simp only [Option.map_some, Option.some.injEq] at g5
      rw [← g5] at g6
      exact g6

theorem turns_skip {o : Oper} {st' : St} {z' : Cz} (hdst : o.dst = none) (hS : SR P G w0 M0 n st' a w' z') (run : (execOp a.eval o).run P w = .ok .skip w') : Turns P G w0 M0 n st' a w o :=
  .inr ⟨w', z', run, by rw [hdst]; exact hS⟩

theorem eff_entst (h : SR P G w0 M0 n st a w z) {o : Oper} {t : TypeId} {m s x : Operand} (ho : o.op = .entryStore t m s x) (hdst : o.dst = none) {sm ss sx : SO} (hm : compO m = some sm) (hs : compO s = some ss) (hx : compO x = some sx) {st' : St}
    (hv : effOp none (so G st.fr) st (.entst sm ss sx) = some st') : Turns P G w0 M0 n st' a w o := by
  have hr := h.ctx.opd hm
  have hr2 := h.ctx.opd hs
  have hr3 := h.ctx.opd hx
  simp only [effOp] at hv
  generalize so G st.fr sm = q at hr hv
  generalize so G st.fr ss = q2 at hr2 hv
  generalize so G st.fr sx = q3 at hr3 hv
  split at hv <;> try (cases hv; done)
  rename_i id id' kc vc
  obtain ⟨hlive, e1⟩ := hr
  obtain ⟨_, b, hb, e5⟩ := hr2
  cases hob : st.ob id <;> simp only [hob, reduceCtorEq] at hv
  rename_i mt kt zc ks vs
  simp only [Option.ite_none_right_eq_some, Option.some.injEq] at hv
  obtain ⟨rfl, rfl⟩ := hv
  obtain ⟨hmt, r, ens, clk, e2, hh, h1, h2, h3, h4, h5, h6, h7⟩ := map_form h hob
  obtain ⟨i, en, hki, hE, hen⟩ := h7 kc b hb
  have hc := h3 kc (List.mem_of_getElem? hki)
  have hf := kIdx_of hc h4 hki
  have hil := (List.getElem?_eq_some_iff.1 hE).1
  have hE' : ens[i] = en := by rw [List.getElem?_eq_getElem hil] at hE; simpa using hE
  obtain ⟨v0, g1, g2⟩ := h1.get hki
  rw [List.getElem?_map, hE] at g1
  simp only [Option.map_some, Option.some.injEq] at g1
  have hfind : (⟨ens⟩ : Array MapEntry).findIdx? (fun e => (e.born : Int) == (b : Int)) = some i := by
    rw [Array.findIdx?_eq_some_iff_getElem]
    refine ⟨by simpa using hil, by simp [hE', hen], fun j hj => ?_⟩
    have hjl : j < ens.length := by omega
    simp only [beq_iff_eq, Int.natCast_inj]
    intro hbj
    have e6 : (ens.map (·.born))[j]? = some b := by simp [List.getElem?_eq_getElem hjl]; simpa using hbj
    have e7 : (ens.map (·.born))[i]? = some b := by simp [List.getElem?_eq_getElem hil, hE', hen]
    have := (List.getElem?_inj (by simpa using hjl) h6).1 (e6.trans e7.symm)
    omega
  have hS := map_set h hob e2 hh hki (vk := ens[i].key) (by rw [hE', g1]; exact g2) hr3 (z.β id) (fun _ _ hh => hh) (fun _ _ hh => .inl hh)
  have e4 : insertV kt ks vs kc vc = vs.set i vc := by simp [insertV, hf]
  rw [e4]
  have hmod : ((⟨ens⟩ : Array MapEntry).modify i fun e => { e with val := a.eval x }) = ((⟨ens⟩ : Array MapEntry).modify i fun e => { e with key := ens[i].key, val := a.eval x }) := by
    apply Array.ext_getElem?
    intro j
    rw [Array.getElem?_modify, Array.getElem?_modify]
    by_cases hj : i = j
    · subst hj; simp [hil]
    · simp [hj]
  have run : (Instr.entryStore t (a.eval m) (a.eval s) (a.eval x)).run P w = .ok () (setObjW w r (.map ((⟨ens⟩ : Array MapEntry).modify i fun e => { e with key := ens[i].key, val := a.eval x }) clk)) := by
    rw [e1, e2, e5]
    simp only [Instr.entryStore, Sem.run_bind, getObj, Sem.run, hh, asInt, asIntOf, Sem.run_pure, Result.andThen_ok, hfind, hmod, setObj_run hh (fun _ _ _ hh => by cases hh)]
  refine turns_skip hdst hS ?_
  simp only [execOp, ho, Sem.run_bind, run, Result.andThen_ok, Sem.run_pure]

/-- Is it an operation that yields nothing. -/
def mute : SOp → Bool
  | .store .. | .entst .. | .mapupd .. => true
  | _ => false

theorem eff_sound (h : SR P G w0 M0 n st a w z) {o : Oper} {sop : SOp} (hc : compOp P o = some sop) (hcls : sop.cls = .eff) (hd : ∀ j, o.dst = some j → j < n) (hm : mute sop = true → o.dst = none) {st' : St}
    (hv : effOp o.dst (so G st.fr) st sop = some st') : Turns P G w0 M0 n st' a w o := by
  unfold compOp at hc
  split at hc <;> rename_i ho <;> try (cases hc; done)
  · simp only [Option.map_eq_some_iff] at hc; obtain ⟨_, _, rfl⟩ := hc; cases hcls
  · simp only [Option.map_eq_some_iff] at hc; obtain ⟨_, _, rfl⟩ := hc; cases hcls
  · simp only [Option.bind_eq_some_iff, Option.map_eq_some_iff] at hc; obtain ⟨_, _, _, _, _, _, rfl⟩ := hc; cases hcls
  · simp only [Option.bind_eq_some_iff, Option.map_eq_some_iff] at hc; obtain ⟨_, _, _, _, _, _, rfl⟩ := hc; cases hcls
  · simp only [Option.map_eq_some_iff] at hc; obtain ⟨_, _, rfl⟩ := hc; cases hcls
  · simp only [Option.bind_eq_some_iff, Option.map_eq_some_iff] at hc; obtain ⟨_, _, _, _, _, _, _, _, rfl⟩ := hc; cases hcls
  · split at hc <;> try (cases hc; done)
    simp only [Option.bind_eq_some_iff, Option.ite_none_right_eq_some, Option.some.injEq] at hc
    obtain ⟨_, _, _, _, _, _, _, _, _, rfl⟩ := hc
    cases hcls
  · simp only [Option.bind_eq_some_iff, Option.map_eq_some_iff] at hc; obtain ⟨_, _, _, _, rfl⟩ := hc; cases hcls
  · -- store
    simp only [Option.bind_eq_some_iff, Option.map_eq_some_iff] at hc
    obtain ⟨i, hi, sa, hsa, sx, hsx, rfl⟩ := hc
    have hdn := hm rfl
    rw [hdn] at hv
    exact eff_store h ho hdn hi hsa hsx hv
  · have := compBin_cls hc; rw [hcls] at this; cases this
  · simp only [Option.map_eq_some_iff] at hc; obtain ⟨_, _, rfl⟩ := hc; cases hcls
  · have := compConv_cls hc; rw [hcls] at this; rcases this with h' | h' <;> cases h'
  · split at hc
    · simp only [Option.map_eq_some_iff] at hc; obtain ⟨_, _, rfl⟩ := hc; cases hcls
    · cases hc
  · simp only [Option.map_eq_some_iff, Prod.exists] at hc; obtain ⟨_, _, _, rfl⟩ := hc; cases hcls
  · split at hc <;> try (cases hc; done)
    simp only [Option.bind_eq_some_iff, Option.ite_none_right_eq_some, Option.some.injEq] at hc
    obtain ⟨_, _, _, _, _, _, _, _, _, _, _, rfl⟩ := hc
    cases hcls
  · split at hc <;> try (cases hc; done)
    · simp only [Option.bind_eq_some_iff, Option.map_eq_some_iff] at hc; obtain ⟨_, _, _, _, _, _, rfl⟩ := hc; cases hcls
    · simp only [Option.bind_eq_some_iff, Option.map_eq_some_iff] at hc; obtain ⟨_, _, _, _, _, _, _, _, rfl⟩ := hc; cases hcls
  · split at hc <;> try (cases hc; done)
    simp only [Option.bind_eq_some_iff, Option.ite_none_left_eq_some, Option.map_eq_some_iff] at hc; obtain ⟨_, _, _, _, _, _, _, rfl⟩ := hc; cases hcls
  · split at hc <;> try (cases hc; done)
    simp only [Option.bind_eq_some_iff, Option.map_eq_some_iff] at hc; obtain ⟨_, _, _, _, _, _, rfl⟩ := hc; cases hcls
  · split at hc <;> try (cases hc; done)
    · simp only [Option.bind_eq_some_iff, Option.ite_none_left_eq_some, Option.map_eq_some_iff] at hc; obtain ⟨_, _, _, _, _, _, _, rfl⟩ := hc; cases hcls
    · simp only [Option.bind_eq_some_iff, Option.ite_none_left_eq_some, Option.map_eq_some_iff] at hc; obtain ⟨_, _, _, _, _, _, _, rfl⟩ := hc; cases hcls
  · split at hc <;> try (cases hc; done)
    · simp only [Option.bind_eq_some_iff, Option.map_eq_some_iff] at hc; obtain ⟨_, _, _, _, rfl⟩ := hc; cases hcls
    · simp only [Option.bind_eq_some_iff, Option.map_eq_some_iff] at hc; obtain ⟨_, _, _, _, _, _, _, _, rfl⟩ := hc; cases hcls
  · simp only [Option.bind_eq_some_iff, Option.map_eq_some_iff] at hc; obtain ⟨_, _, _, _, _, _, rfl⟩ := hc; cases hcls
  · split at hc <;> try (cases hc; done)
    simp only [Option.bind_eq_some_iff, Option.map_eq_some_iff] at hc
    obtain ⟨sm, hsm, sk, hsk, sx, hsx, rfl⟩ := hc
    have hdn := hm rfl
    rw [hdn] at hv
    exact eff_mapupd h ho hdn hsm hsk hsx hv
  · split at hc <;> try (cases hc; done)
    simp only [Option.bind_eq_some_iff, Option.map_eq_some_iff] at hc
    obtain ⟨sm, hsm, sk, hsk, rfl⟩ := hc
    exact eff_mapent h ho hd hsm hsk hv
  · simp only [Option.bind_eq_some_iff, Option.map_eq_some_iff] at hc
    obtain ⟨sm, hsm, ss, hss, sx, hsx, rfl⟩ := hc
    have hdn := hm rfl
    rw [hdn] at hv
    exact eff_entst h ho hdn hsm hss hsx hv
  · split at hc <;> try (cases hc; done)
    simp only [Option.map_eq_some_iff] at hc; obtain ⟨_, _, rfl⟩ := hc; cases hcls
  · simp only [Option.map_eq_some_iff] at hc; obtain ⟨_, _, rfl⟩ := hc; cases hv
  · simp only [Option.map_eq_some_iff] at hc; obtain ⟨_, _, rfl⟩ := hc; cases hcls
  · -- append
    rename_i c
    obtain ⟨callee, args, argTypes⟩ := c
    unfold compCall at hc
    split at hc <;> try (cases hc; done)
    · split at hc <;> first
        | (cases hc; done)
        | (simp only [Option.map_eq_some_iff] at hc; obtain ⟨_, _, rfl⟩ := hc; cases hcls)
        | (simp only [Option.some.injEq] at hc; subst hc; cases hcls)
    · simp only [Option.map_eq_some_iff] at hc; obtain ⟨_, _, rfl⟩ := hc; cases hcls
    · simp only [Option.map_eq_some_iff] at hc; obtain ⟨_, _, rfl⟩ := hc; cases hcls
    · rename_i hcal
      simp only at hcal
      subst hcal
      split at hc <;> try (cases hc; done)
      rename_i x y t u hargs hat
      split at hc <;> try (cases hc; done)
      rename_i e _ hu _
      simp only [Option.bind_eq_some_iff, Option.ite_none_right_eq_some, Option.some.injEq] at hc
      obtain ⟨i, hi, zv, hz, sx, hsx, sy, hsy, ⟨rfl, h0, hzs⟩, rfl⟩ := hc
      exact eff_append h ho hargs hat hu hi hz hzs h0 hd hsx hsy hv
    · split at hc <;> try (cases hc; done)
      simp only [Option.map_eq_some_iff] at hc; obtain ⟨_, _, rfl⟩ := hc; cases hcls
    · simp only [Option.map_eq_some_iff] at hc; obtain ⟨_, _, rfl⟩ := hc; cases hcls
end
end WB
