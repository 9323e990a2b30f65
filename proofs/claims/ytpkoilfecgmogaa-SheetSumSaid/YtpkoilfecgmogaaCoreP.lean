/-
  THE OWN LAYER, P: stores and appends.
-/
import Derived.Test.YtpkoilfecgmogaaCoreO
namespace WB
open Go Go.RowKit

section
variable {P : Program} {G : Nat → List CV} {w0 : World} {M0 : Nat → Prop} {n : Nat} {st : St} {a : Act} {w w' : World} {z : Cz}

theorem RelSs.append {M : Nat → Prop} {ob : Nat → Ob} : ∀ {cs ds : List SV} {vs us : List Value}, RelSs w M z ob cs vs → RelSs w M z ob ds us → RelSs w M z ob (cs ++ ds) (vs ++ us)
  | [], _, _, _, h, k => by unfold RelSs at h; subst h; exact k
  | _ :: _, _, _, _, h, k => by
    obtain ⟨v, vs', rfl, h1, h2⟩ := h
    exact ⟨v, vs' ++ _, rfl, h1, RelSs.append h2 k⟩

theorem one_live (h : SR P G w0 M0 n st a w z) {s : SV} {v : Value} (hs : RelS w (mutb M0 z st.ob) z st.ob s v) (h1 : oneS s = true) : v.oneCell' = true := by
  have live : ∀ id, st.ob id ≠ .none → (z.σ id).oneCell' = true := by
    intro id hl
    have ho := h.ob id
    cases hob : st.ob id with
    | none => exact absurd hob hl
    | box cs => rw [hob] at ho; obtain ⟨g, ty, vs, e, _⟩ := ho; rw [e]; rfl
    | arr e size es =>
      rw [hob] at ho
      obtain ⟨xs, hown, _⟩ := ho
      rcases hown.2 with ⟨e, _⟩ | ⟨g, cap, cur, e, _⟩ <;> rw [e] <;> rfl
    | map mt kt zc ks vs => rw [hob] at ho; obtain ⟨_, r, ens, clk, e, _⟩ := ho; rw [e]; rfl
    | siter s pos => rw [hob] at ho; obtain ⟨r, e, _⟩ := ho; rw [e]; rfl
  cases s with
  | c cv => exact oneC_cell hs h1
  | ptr id o => obtain ⟨_, g, _, e⟩ := hs; rw [e]; rfl
  | eptr id i sz o => obtain ⟨_, g, n, c, _, e⟩ := hs; rw [e]; rfl
  | osl id => obtain ⟨hl, e⟩ := hs; rw [e]; exact live id hl
  | omap id => obtain ⟨hl, e⟩ := hs; rw [e]; exact live id hl
  | iter id => obtain ⟨hl, e⟩ := hs; rw [e]; exact live id hl
  | stamp id k => obtain ⟨_, b, _, e⟩ := hs; rw [e]; rfl
  | ent id k cv => simp [oneS] at h1
  | undef => simp [oneS] at h1

/-- The operation turns what is there. -/
def Turns (P : Program) (G : Nat → List CV) (w0 : World) (M0 : Nat → Prop) (n : Nat) (st' : St) (a : Act) (w : World) (o : Oper) : Prop :=
  (∃ v w' z', (execOp a.eval o).run P w = .ok (.value v) w' ∧ SR P G w0 M0 n st' (a.put o.dst v) w' z') ∨
  (∃ w' z', (execOp a.eval o).run P w = .ok .skip w' ∧ SR P G w0 M0 n st' (a.put o.dst undef) w' z')

theorem run_storeVar {t : TypeId} {i : TypeInfo} (hi : P.info? t = some i) {g o : Nat} {vs us : List Value} {v : Value} {ty : TypeId} (hv : v.cells = ⟨us⟩) (hs : us.length = i.size) (hh : w.heap[g]? = some (.cells ⟨vs⟩ ty (0, 0))) (hle : o + us.length ≤ vs.length)
    (h1 : ∀ u ∈ us, u.oneCell' = true) : (storeVar t ⟨g, o, none⟩ v).run P w = .ok () (w.setRow g ⟨vs.take o ++ us ++ vs.drop (o + us.length)⟩) := by
  have := run_storeCells_at (P := P) g o ty us 0 ⟨vs⟩ w hh (by simpa using hle) h1
  simp only [Nat.add_zero] at this
  simp [storeVar, run_sizeOf_some hi, hv, hs, this]

theorem RelF_set {M : Nat → Prop} {size : Nat} : ∀ {es : List CV} {xs : List Value} {i : Nat} {el' : CV} {u' : Value}, RelF w M size es xs → i < es.length → RelC w M el' u' → u'.cells.size = size →
    RelF w M size (es.set i el') (xs.take (i * size) ++ u'.cells.toList ++ xs.drop (i * size + size))
  | [], xs, i, el', u', _, hi, _, _ => by simp at hi
  | e :: es, xs, 0, el', u', h, _, hr, hs => by
    obtain ⟨v, xs', rfl, h1, h2, h3⟩ := h
    refine ⟨u', xs', ?_, hs, hr, h3⟩
    have : v.cells.toList.length = size := by simpa using h1
    simp [this]
  | e :: es, xs, i + 1, el', u', h, hi, hr, hs => by
    obtain ⟨v, xs', rfl, h1, h2, h3⟩ := h
    have hl : v.cells.toList.length = size := by simpa using h1
    have ih := RelF_set h3 (by simpa using hi) hr hs
    refine ⟨v, xs'.take (i * size) ++ u'.cells.toList ++ xs'.drop (i * size + size), ?_, h1, h2, ih⟩
    rw [Nat.add_mul, Nat.one_mul]
    rw [List.take_append, List.drop_append, hl]
    rw [List.take_of_length_le (by omega), List.drop_eq_nil_of_le (by omega)]
    rw [show i * size + size - size = i * size by omega, show i * size + size + size - size = i * size + size by omega]
    simp

theorem eff_store (h : SR P G w0 M0 n st a w z) {o : Oper} {t : TypeId} {ad x : Operand} (ho : o.op = .store t ad x) (hdst : o.dst = none) {i : TypeInfo} (hi : P.info? t = some i) {sa sx : SO} (hsa : compO ad = some sa) (hsx : compO x = some sx) {st' : St}
    (hv : effOp none (so G st.fr) st (.store i.size sa sx) = some st') : Turns P G w0 M0 n st' a w o := by
  have hr := h.ctx.opd hsa
  have hr2 := h.ctx.opd hsx
  simp only [effOp] at hv
  generalize so G st.fr sa = q at hr hv
  generalize so G st.fr sx = q2 at hr2 hv
  have fin : ∀ {w' z'}, (Instr.storeAt t (a.eval ad) (a.eval x)).run P w = .ok () w' → SR P G w0 M0 n st' a w' z' → Turns P G w0 M0 n st' a w o := by
    intro w' z' hr hS
    refine .inr ⟨w', z', by simp [execOp, ho, hr], ?_⟩
    rw [hdst]; exact hS
  cases q <;> try (simp only [reduceCtorEq] at hv; done)
  · -- a variable of the call's own
    rename_i id off
    obtain ⟨hlive, g, e1, e2⟩ := hr
    have ho' := h.ob id
    cases hob : st.ob id <;> simp only [hob, reduceCtorEq] at hv
    rename_i cs
    rw [hob] at ho'
    obtain ⟨g', ty, vs, e3, e4, e5⟩ := ho'
    rw [e1] at e3
    simp only [Value.pointer.injEq, Option.some.injEq, Addr.mk.injEq, and_true] at e3
    subst e3
    have hlen := RelSs.length e5
    have go : ∀ (us : List Value) (ss : List SV), (a.eval x).cells = ⟨us⟩ → us.length = i.size → off + us.length ≤ vs.length → (∀ u ∈ us, u.oneCell' = true) → RelSs w (mutb M0 z st.ob) z st.ob ss us →
        st' = { st with ob := upd st.ob id (.box (cs.take off ++ ss ++ cs.drop (off + us.length))) } → Turns P G w0 M0 n st' a w o := by
      intro us ss hus hsz hle h1 hss hst
      subst hst
      refine fin (w' := w.setRow g ⟨vs.take off ++ us ++ vs.drop (off + us.length)⟩) ?_ (SR.turn h hlive (by simp) (by rw [e1]; exact grown_setRow w g _) (fun _ _ hh => hh) fun hk hz => ⟨g, ty, _, e1, setRow_heap w g _ _ _ _ e4, ?_⟩)
      · simp [Instr.storeAt, Instr.sureAddr, e2, run_storeVar hi hus hsz e4 hle h1]
      · exact RelSs.keep hk (fun s _ => hz s) (((e5.take off).append hss).append (e5.drop _))
    have one : ∀ (v : SV), RelS w (mutb M0 z st.ob) z st.ob v (a.eval x) → (∀ l, v ≠ .c (.agg l)) → (if i.size = 1 ∧ off < cs.length ∧ oneS v = true then some { st with ob := upd st.ob id (.box (cs.set off v)) } else none) = some st' → Turns P G w0 M0 n st' a w o := by
      intro v hrv hna hv
      simp only [Option.ite_none_right_eq_some, Option.some.injEq] at hv
      obtain ⟨⟨h1, h2, h3⟩, rfl⟩ := hv
      have hcell := cells_live h hrv hna (by rintro rfl; simp [oneS] at h3)
      have hone : (a.eval x).oneCell' = true := one_live h hrv h3
      refine go [a.eval x] [v] hcell (by simp [h1]) (by simp [hlen]; omega) (by simpa using hone) ⟨a.eval x, [], rfl, hrv, rfl⟩ ?_
      congr 3
      simp only [List.length_cons, List.length_nil, Nat.zero_add]
      rw [List.set_eq_take_append_cons_drop, if_pos h2]
      simp
    cases q2 with
    | c cv =>
      cases cv with
      | agg l =>
        simp only [Option.ite_none_right_eq_some, Option.some.injEq] at hv
        obtain ⟨⟨h1, h2, h3⟩, rfl⟩ := hv
        unfold RelS RelC at hr2
        obtain ⟨us, e6, hl⟩ := hr2
        have hul := hl.length
        refine go us (l.map .c) (by rw [e6]; rfl) (by rw [hul, h1]) (by omega) (oneC_cells hl h3) (RelSs.of_c hl) ?_
        simp [setCells, hul]
      | _ => exact one _ hr2 (fun l hh => by cases hh) hv
    | _ => exact one _ hr2 (fun l hh => by cases hh) hv
  · -- an element of the call's own
    rename_i id j size off
    obtain ⟨hlive, g, n', c', e1, e2⟩ := hr
    have ho' := h.ob id
    cases hob : st.ob id <;> simp only [hob, reduceCtorEq] at hv
    rename_i et sz es
    rw [hob] at ho'
    obtain ⟨xs, hown, hf⟩ := ho'
    cases q2 <;> try (simp only [reduceCtorEq] at hv; done)
    rename_i cv
    simp only [Option.ite_none_right_eq_some, Option.bind_eq_some_iff, Option.some.injEq] at hv
    obtain ⟨⟨rfl, hn0, hn, hone⟩, el, hel, hle, rfl⟩ := hv
    have hjl : j < es.length := (List.getElem?_eq_some_iff.1 hel).1
    have hxl := RelF_length hf
    obtain ⟨u, hu1, hu2, hu3⟩ := RelF_get hf hel
    have hus := RelC.cells hr2
    have hul : (a.eval x).cells.toList.length = i.size := by
      have := hr2.cells_size
      simpa [hn] using this
    have hel_size : cellsN el = size := by rw [← hu1.cells_size, hu2]
    rcases hown.2 with ⟨e3, e4⟩ | ⟨g', cap, cur, e3, e4, e5, e6, e7, e8, e9⟩
    · omega
    · rw [e1] at e3
      simp only [Value.slice.injEq, Option.some.injEq, Addr.mk.injEq, and_true] at e3
      obtain ⟨rfl, rfl, rfl⟩ := e3
      have hcl : cur.toList.length = c' * size := by simpa using e8
      have hbound : j * size + size ≤ es.length * size := by
        have := Nat.mul_le_mul_right size (show j + 1 ≤ es.length by omega)
        rw [Nat.add_mul, Nat.one_mul] at this
        exact this
      have hcap : es.length * size ≤ c' * size := Nat.mul_le_mul_right _ e6
      have run := run_storeVar (P := P) (w := w) hi (g := g) (o := j * size + off) (vs := cur.toList) (us := (a.eval x).cells.toList) (v := a.eval x) (ty := et) rfl hul (by simpa using e5) (by omega) (oneC_cells hus hone)
      -- the element as it is behind the store
      obtain ⟨u', hu1', hu2'⟩ : ∃ u', RelC w (mutb M0 z st.ob) (putC el off i.size cv) u' ∧ u'.cells.toList = u.cells.toList.take off ++ (a.eval x).cells.toList ++ u.cells.toList.drop (off + i.size) := by
        have hother : (∀ l, el ≠ .agg l) → putC el off i.size cv = cv → ∃ u', RelC w (mutb M0 z st.ob) (putC el off i.size cv) u' ∧ u'.cells.toList = u.cells.toList.take off ++ (a.eval x).cells.toList ++ u.cells.toList.drop (off + i.size) := by
          intro hna hp
          have h1 : cellsN el = 1 := by cases el <;> first | rfl | exact absurd rfl (hna _)
          have h2 : u.cells.toList.length = 1 := by simpa [hu2, ← hel_size] using h1
          have h3 : off = 0 := by omega
          have h4 : i.size = 1 := by omega
          refine ⟨a.eval x, by rw [hp]; exact hr2, ?_⟩
          rw [h3, h4, List.drop_eq_nil_of_le (by omega)]
          simp
        cases el with
        | agg l =>
          have hu1c := RelC.cells hu1
          refine ⟨.agg ⟨u.cells.toList.take off ++ (a.eval x).cells.toList ++ u.cells.toList.drop (off + i.size)⟩, ?_, rfl⟩
          show RelC _ _ (.agg _) _
          unfold RelC
          exact ⟨_, rfl, ((hu1c.take off).append hus).append (hu1c.drop _)⟩
        | _ => exact hother (fun l hh => by cases hh) rfl
      have hulen : u.cells.toList.length = size := by simpa using hu2
      have hu's : u'.cells.size = size := by
        have : u'.cells.toList.length = size := by
          rw [hu2']
          simp only [List.length_append, List.length_take, List.length_drop, hul, hulen]
          omega
        simpa using this
      -- the chunk of the row
      have hchunk : u.cells.toList = (cur.toList.drop (j * size)).take size := by
        apply List.ext_getElem?
        intro k
        by_cases hk : k < size
        · have hku : u.cells.toList[k]? = some (u.cells.toList[k]'(by omega)) := List.getElem?_eq_getElem _
          have h1 := hu3 k (u.cells.toList[k]'(by omega)) (by rw [← Array.getElem?_toList]; exact hku)
          rw [← e9, List.getElem?_take] at h1
          split at h1
          · rw [hku, List.getElem?_take, if_pos hk, List.getElem?_drop]; exact h1.symm
          · cases h1
        · rw [List.getElem?_eq_none (by omega), List.getElem?_eq_none (by simp; omega)]
      have hrow : cur.toList.take (j * size + off) ++ (a.eval x).cells.toList ++ cur.toList.drop (j * size + off + (a.eval x).cells.toList.length) = cur.toList.take (j * size) ++ u'.cells.toList ++ cur.toList.drop (j * size + size) := by
        rw [hu2', hchunk, hul]
        rw [List.take_take, Nat.min_eq_left (by omega), List.drop_take]
        have t1 : cur.toList.take (j * size + off) = cur.toList.take (j * size) ++ (cur.toList.drop (j * size)).take off := by rw [List.take_add]
        have t2 : cur.toList.drop (j * size + off + i.size) = ((cur.toList.drop (j * size)).drop (off + i.size)).take (size - (off + i.size)) ++ cur.toList.drop (j * size + size) := by
          have : cur.toList.drop (j * size + size) = ((cur.toList.drop (j * size)).drop (off + i.size)).drop (size - (off + i.size)) := by
            rw [List.drop_drop, List.drop_drop]; congr 1; omega
          rw [this, List.take_append_drop, List.drop_drop]; congr 1; omega
        rw [t1, t2]
        simp only [List.append_assoc]
      rw [hrow] at run
      have hcurl : (cur.toList.take (j * size) ++ u'.cells.toList ++ cur.toList.drop (j * size + size)).length = c' * size := by
        have hu'l : u'.cells.toList.length = size := by simpa using hu's
        simp only [List.length_append, List.length_take, List.length_drop, hu'l, hcl]
        omega
      have hx' : (cur.toList.take (j * size) ++ u'.cells.toList ++ cur.toList.drop (j * size + size)).take (es.length * size) = xs.take (j * size) ++ u'.cells.toList ++ xs.drop (j * size + size) := by
        have hu'l : u'.cells.toList.length = size := by simpa using hu's
        have hp : (cur.toList.take (j * size) ++ u'.cells.toList).length = j * size + size := by
          simp only [List.length_append, List.length_take, hu'l, hcl]; omega
        rw [List.take_append, List.take_of_length_le (by omega), hp]
        rw [← e9, List.take_take, Nat.min_eq_left (by omega), List.drop_take]
      refine fin (w' := w.setRow g ⟨cur.toList.take (j * size) ++ u'.cells.toList ++ cur.toList.drop (j * size + size)⟩) ?_ (SR.turn h hlive (by simp) (by rw [e1]; exact grown_setRow w g _) (fun _ _ hh => hh) fun hk hz => ⟨xs.take (j * size) ++ u'.cells.toList ++ xs.drop (j * size + size), ⟨?_, .inr ⟨g, c', ⟨cur.toList.take (j * size) ++ u'.cells.toList ++ cur.toList.drop (j * size + size)⟩, ?_, e4, setRow_heap w g _ _ _ _ e5, ?_, e7, by simpa using hcurl, ?_⟩⟩, RelF.keep hk (RelF_set hf hjl hu1' hu's)⟩)
      · simp [Instr.storeAt, Instr.sureAddr, e2, run]
      · rw [← hx', List.length_take, List.length_set, hcurl]; omega
      · rw [e1, List.length_set]
      · rw [List.length_set]; exact e6
      · rw [List.length_set]; exact hx'
end
end WB
