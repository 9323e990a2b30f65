/-
  THE OWN LAYER, R: maps turn.
-/
import Derived.Test.YtpkoilfecgmogaaCoreQ
namespace WB
open Go Go.RowKit

theorem eq1_eq {kt : KT} {a b : CV} (h : eq1 kt a b = some true) : a = b := by
  cases kt <;> cases a <;> (try (simp only [eq1, reduceCtorEq] at h; done)) <;> cases b <;> (try (simp only [eq1, reduceCtorEq] at h; done)) <;> simp only [eq1] at h
  · simp only [Option.ite_none_right_eq_some, Option.some.injEq, beq_iff_eq] at h
    rw [h.1, h.2]
  · simp only [Option.some.injEq, beq_iff_eq] at h; rw [h]
  · simp only [Option.some.injEq, beq_iff_eq] at h; rw [h]
theorem eqL_eq : ∀ {ts : List KT} {as bs : List CV}, eqL ts as bs = some true → as = bs
  | [], [], [], _ => rfl
  | [], _ :: _, _, h => by simp [eqL] at h
  | [], [], _ :: _, h => by simp [eqL] at h
  | _ :: _, [], _, h => by simp [eqL] at h
  | _ :: _, _ :: _, [], h => by simp [eqL] at h
  | t :: ts, a :: as, b :: bs, h => by
    simp only [eqL, Option.bind_eq_some_iff, Option.map_eq_some_iff] at h
    obtain ⟨x, hx, y, hy, hxy⟩ := h
    simp only [Bool.and_eq_true] at hxy
    obtain ⟨rfl, rfl⟩ := hxy
    rw [eq1_eq hx, eqL_eq hy]
theorem getD_true {o : Option Bool} (h : o.getD false = true) : o = some true := by
  cases o with
  | none => simp at h
  | some r => simp at h; rw [h]
theorem keyEq_eq {kt : KT} {a b : CV} (h : keyEq kt a b = true) : a = b := by
  unfold keyEq at h
  split at h
  · rw [eqL_eq (getD_true h)]
  · exact eq1_eq (getD_true h)

theorem eq1_refl {kt : KT} {a : CV} (h : conf1 kt a = true) : eq1 kt a a = some true := by
  cases kt <;> cases a <;> simp [conf1] at h <;> simp [eq1]
theorem eqL_refl : ∀ {ts : List KT} {as : List CV}, confL ts as = true → eqL ts as as = some true
  | [], [], _ => rfl
  | [], _ :: _, h => by simp [confL] at h
  | _ :: _, [], h => by simp [confL] at h
  | t :: ts, a :: as, h => by
    simp only [confL, Bool.and_eq_true] at h
    simp [eqL, eq1_refl h.1, eqL_refl h.2]
theorem keyEq_refl {kt : KT} {a : CV} (h : conf kt a = true) : keyEq kt a a = true := by
  cases kt with
  | struct ts =>
    cases a <;> try (simp [conf, conf1] at h; done)
    simp only [conf] at h
    simp [keyEq, eqL_refl h]
  | int k => simp only [conf] at h; simp [keyEq, eq1_refl h]
  | str => simp only [conf] at h; simp [keyEq, eq1_refl h]
  | bool => simp only [conf] at h; simp [keyEq, eq1_refl h]

theorem kIdx_some {kt : KT} {k : CV} : ∀ {ks : List CV} {i : Nat}, kIdx kt k ks = some i → ks[i]? = some k
  | [], i, h => by simp [kIdx] at h
  | c :: cs, i, h => by
    simp only [kIdx] at h
    split at h
    · rename_i hk
      simp only [Option.some.injEq] at h
      subst h
      rw [keyEq_eq hk]
      rfl
    · simp only [Option.map_eq_some_iff] at h
      obtain ⟨j, hj, rfl⟩ := h
      simpa using kIdx_some hj
theorem kIdx_none {kt : KT} {k : CV} (hc : conf kt k = true) : ∀ {ks : List CV}, kIdx kt k ks = none → k ∉ ks
  | [], _ => by simp
  | c :: cs, h => by
    simp only [kIdx] at h
    split at h
    · cases h
    · rename_i hk
      simp only [Option.map_eq_none_iff] at h
      have := kIdx_none hc h
      simp only [List.mem_cons, not_or]
      exact ⟨fun e => hk (by rw [← e]; exact keyEq_refl hc), this⟩
theorem kIdx_of {kt : KT} {k : CV} (hc : conf kt k = true) {ks : List CV} (hn : ks.Nodup) {i : Nat} (h : ks[i]? = some k) : kIdx kt k ks = some i := by
  cases hi : kIdx kt k ks with
  | none => exact absurd (List.mem_of_getElem? h) (kIdx_none hc hi)
  | some j =>
    have hj := kIdx_some hi
    have h1 := (List.getElem?_eq_some_iff.1 h).1
    congr 1
    exact ((List.getElem?_inj h1 hn).1 (h.trans hj.symm)).symm

section
variable {P : Program} {G : Nat → List CV} {w0 : World} {M0 : Nat → Prop} {n : Nat} {st : St} {a : Act} {w w' : World} {z : Cz}

/-- A key's value is just what the layer's key says. -/
theorem conf1_val {M M' : Nat → Prop} {kt : KT} {c : CV} {u v : Value} (hc : conf1 kt c = true) (hu : RelC w M c u) (hv : RelC w M' c v) : u = v ∧ ∀ n, Instr.sameBits n u u = true := by
  cases kt <;> cases c <;> simp [conf1] at hc
  · rw [of_int hu, of_int hv]; exact ⟨rfl, fun n => by simp [Instr.sameBits]⟩
  · rw [of_str hu, of_str hv]; exact ⟨rfl, fun n => by simp [Instr.sameBits, beq_toListBytes]⟩
  · rw [of_bool hu, of_bool hv]; exact ⟨rfl, fun n => by simp [Instr.sameBits]⟩
theorem confL_val {M M' : Nat → Prop} : ∀ {ts : List KT} {cs : List CV} {us vs : List Value}, confL ts cs = true → RelL w M cs us → RelL w M' cs vs → us = vs ∧ ∀ n, (us.zip us).all (fun (x, y) => Instr.sameBits n x y) = true
  | [], [], us, vs, _, hu, hv => by unfold RelL at hu hv; subst hu; subst hv; exact ⟨rfl, fun n => rfl⟩
  | [], _ :: _, _, _, h, _, _ => by simp [confL] at h
  | _ :: _, [], _, _, h, _, _ => by simp [confL] at h
  | t :: ts, c :: cs, us, vs, h, hu, hv => by
    simp only [confL, Bool.and_eq_true] at h
    unfold RelL at hu hv
    obtain ⟨u, us', rfl, h1, h2⟩ := hu
    obtain ⟨v, vs', rfl, g1, g2⟩ := hv
    obtain ⟨e1, e2⟩ := conf1_val h.1 h1 g1
    obtain ⟨e3, e4⟩ := confL_val h.2 h2 g2
    exact ⟨by rw [e1, e3], fun n => by simp [e2 n, e4 n]⟩
theorem conf_val {M M' : Nat → Prop} {kt : KT} {c : CV} {u v : Value} (hc : conf kt c = true) (hu : RelC w M c u) (hv : RelC w M' c v) : u = v ∧ ∀ n, Instr.sameBits (n + 1) u u = true := by
  unfold conf at hc
  split at hc
  · unfold RelC at hu hv
    obtain ⟨us, rfl, hu⟩ := hu
    obtain ⟨vs, rfl, hv⟩ := hv
    obtain ⟨e1, e2⟩ := confL_val hc hu hv
    subst e1
    exact ⟨rfl, fun n => by simpa [Instr.sameBits] using e2 n⟩
  · obtain ⟨e1, e2⟩ := conf1_val hc hu hv
    exact ⟨e1, fun n => e2 (n + 1)⟩

theorem stays {M M' : Nat → Prop} {kt : KT} {c : CV} {u v : Value} (hc : conf kt c = true) (hu : RelC w M c u) (hv : RelC w M' c v) (w' : World) : (Instr.keyThatStays u v).run P w' = .ok v w' := by
  obtain ⟨rfl, h⟩ := conf_val hc hu hv
  have := h 9999
  simp [Instr.keyThatStays, this]

def setObjW (w : World) (r : Nat) (o : Obj) : World := { w with heap := w.heap.setIfInBounds r o }
theorem setObj_run {r : Nat} {o o' : Obj} (h : w.heap[r]? = some o) (hm : ∀ c t f, o ≠ .cells c t f) : (setObj r o').run P w = .ok () (setObjW w r o') := by
  simp only [setObj, Sem.run, h]
  cases o <;> first | exact absurd rfl (hm _ _ _) | rfl
theorem setObj_at {r : Nat} {o o' : Obj} (h : w.heap[r]? = some o) : (setObjW w r o').heap[r]? = some o' := by
  have := heap_lt h
  simp [setObjW, this]
theorem setObj_grown (w : World) (r : Nat) (o : Obj) : w.grownBy (setObjW w r o) (some r) := by
  refine ⟨rfl, rfl, rfl, by simp [setObjW], fun k _ hk => ?_⟩
  simp only [setObjW, Array.getElem?_setIfInBounds]
  rw [if_neg (fun e => hk (by rw [e]))]

theorem RelL_set {M : Nat → Prop} {cs : List CV} {vs : List Value} {i : Nat} {c : CV} {v : Value} (h : RelL w M cs vs) (hc : RelC w M c v) : RelL w M (cs.set i c) (vs.set i v) := RelL.set i h hc

/-- A map of the call's own, as it lies in memory. -/
theorem map_form (h : SR P G w0 M0 n st a w z) {id : Nat} {mt : TypeId} {kt : KT} {zc : CV} {ks vs : List CV} (hob : st.ob id = .map mt kt zc ks vs) :
    mapTy P mt = some (kt, zc) ∧ ∃ (r : Nat) (ens : List MapEntry) (clk : Nat), z.σ id = .map (some r) ∧ w.heap[r]? = some (.map ⟨ens⟩ clk) ∧ RelL w (mutb M0 z st.ob) ks (ens.map (·.key)) ∧ RelL w (mutb M0 z st.ob) vs (ens.map (·.val)) ∧
      (∀ k ∈ ks, conf kt k = true) ∧ ks.Nodup ∧ (∀ en : MapEntry, en ∈ ens → en.born < clk) ∧ (ens.map (·.born)).Nodup ∧ (∀ k b, z.β id k b → ∃ (i : Nat) (en : MapEntry), ks[i]? = some k ∧ ens[i]? = some en ∧ en.born = b) := by
  have := h.ob id
  rw [hob] at this
  exact this

theorem live_of_map {id : Nat} {mt : TypeId} {kt : KT} {zc : CV} {ks vs : List CV} (hob : st.ob id = .map mt kt zc ks vs) : st.ob id ≠ .none := by rw [hob]; simp

/-- An entry's value turns. -/
theorem map_set (h : SR P G w0 M0 n st a w z) {id : Nat} {mt : TypeId} {kt : KT} {zc : CV} {ks vs : List CV} (hob : st.ob id = .map mt kt zc ks vs) {r : Nat} {ens : List MapEntry} {clk : Nat} (hσ : z.σ id = .map (some r)) (hh : w.heap[r]? = some (.map ⟨ens⟩ clk))
    {i : Nat} {k v : CV} {vk vv : Value} (hk : ks[i]? = some k) (hvk : RelC w (mutb M0 z st.ob) k vk) (hvv : RelC w (mutb M0 z st.ob) v vv) (β' : CV → Nat → Prop) (hβ : ∀ k b, z.β id k b → β' k b)
    (hβ' : ∀ k b, β' k b → z.β id k b ∨ ∃ en, ens[i]? = some en ∧ ks[i]? = some k ∧ en.born = b) :
    SR P G w0 M0 n { st with ob := upd st.ob id (.map mt kt zc ks (vs.set i v)) } a (setObjW w r (.map ((⟨ens⟩ : Array MapEntry).modify i (fun e => { e with key := vk, val := vv })) clk)) { z with β := upd z.β id β' } := by
  obtain ⟨hmt, r', ens', clk', e1, e2, h1, h2, h3, h4, h5, h6, h7⟩ := map_form h hob
  rw [hσ] at e1
  simp only [Value.map.injEq, Option.some.injEq] at e1
  subst e1
  rw [hh] at e2
  simp only [Option.some.injEq, Obj.map.injEq, Array.mk.injEq] at e2
  obtain ⟨rfl, rfl⟩ := e2
  have hi : i < ks.length := (List.getElem?_eq_some_iff.1 hk).1
  have hil : i < ens.length := by have := h1.length; rw [List.length_map] at this; omega
  have hE : ens[i]? = some (ens[i]'hil) := List.getElem?_eq_getElem _
  obtain ⟨v0, g1, g2⟩ := h1.get hk
  rw [List.getElem?_map, hE] at g1
  simp only [Option.map_some, Option.some.injEq] at g1
  have hkey : ens[i].key = vk := by
    rw [g1]
    exact (conf_val (h3 k (List.mem_of_getElem? hk)) g2 hvk).1
  have hl : ((⟨ens⟩ : Array MapEntry).modify i (fun e => { e with key := vk, val := vv })).toList = ens.set i { ens[i] with key := vk, val := vv } := by
    apply List.ext_getElem?
    intro j
    rw [Array.getElem?_toList, Array.getElem?_modify, List.getElem?_set]
    by_cases hj : i = j
    · subst hj; simp [hil]
    · simp [hj]
  have hkeys : ((ens.set i { ens[i] with key := vk, val := vv }).map (·.key)) = ens.map (·.key) := by
    rw [List.map_set]
    apply List.ext_getElem?
    intro j
    rw [List.getElem?_set]
    by_cases hj : i = j
    · subst hj; simp [hil, hkey]
    · simp [hj]
  have hborns : ((ens.set i { ens[i] with key := vk, val := vv }).map (·.born)) = ens.map (·.born) := by
    rw [List.map_set]
    apply List.ext_getElem?
    intro j
    rw [List.getElem?_set]
    by_cases hj : i = j
    · subst hj; simp [hil]
    · simp [hj]
  have hob' : ((⟨ens⟩ : Array MapEntry).modify i (fun e => { e with key := vk, val := vv })) = ⟨ens.set i { ens[i] with key := vk, val := vv }⟩ := Array.toList_inj.1 hl
  rw [hob']
  refine SR.turn h (live_of_map hob) (by simp) (by rw [hσ]; exact setObj_grown w r _) hβ fun hkp hz => ⟨hmt, r, _, clk, hσ, setObj_at hh, ?_, ?_, h3, h4, ?_, ?_, ?_⟩
  · rw [hkeys]; exact RelL.keep hkp _ _ h1
  · rw [List.map_set]; exact RelL.set i (RelL.keep hkp _ _ h2) (RelC.keep hkp _ _ hvv)
  · intro en hen
    rcases List.mem_or_eq_of_mem_set hen with hen | hen
    · exact h5 en hen
    · rw [hen]; exact h5 ens[i] (List.mem_of_getElem? hE)
  · rw [hborns]; exact h6
  · intro k' b hb
    simp only [upd_same] at hb
    have put : ∀ (j : Nat) (en : MapEntry), ens[j]? = some en → en.born = b → ∃ en', (ens.set i { ens[i] with key := vk, val := vv })[j]? = some en' ∧ en'.born = b := by
      intro j en hj hb'
      rw [List.getElem?_set]
      by_cases hij : i = j
      · subst hij
        rw [hE] at hj
        simp only [Option.some.injEq] at hj
        subst hj
        exact ⟨{ ens[i] with key := vk, val := vv }, by simp [hil], hb'⟩
      · exact ⟨en, by simp [hij, hj], hb'⟩
    rcases hβ' k' b hb with hb | ⟨en, h8, h9, h10⟩
    · obtain ⟨j, en, g3, g4, g5⟩ := h7 k' b hb
      obtain ⟨en', g6, g7⟩ := put j en g4 g5
      exact ⟨j, en', g3, g6, g7⟩
    · obtain ⟨en', g6, g7⟩ := put i en h8 h10
      exact ⟨i, en', h9, g6, g7⟩

/-- A new entry. -/
theorem map_push (h : SR P G w0 M0 n st a w z) {id : Nat} {mt : TypeId} {kt : KT} {zc : CV} {ks vs : List CV} (hob : st.ob id = .map mt kt zc ks vs) {r : Nat} {ens : List MapEntry} {clk : Nat} (hσ : z.σ id = .map (some r)) (hh : w.heap[r]? = some (.map ⟨ens⟩ clk))
    {k v : CV} {vk vv : Value} (hc : conf kt k = true) (hk : k ∉ ks) (hvk : RelC w (mutb M0 z st.ob) k vk) (hvv : RelC w (mutb M0 z st.ob) v vv) (β' : CV → Nat → Prop) (hβ : ∀ k b, z.β id k b → β' k b)
    (hβ' : ∀ k' b, β' k' b → z.β id k' b ∨ (k' = k ∧ b = clk)) :
    SR P G w0 M0 n { st with ob := upd st.ob id (.map mt kt zc (ks ++ [k]) (vs ++ [v])) } a (setObjW w r (.map ((⟨ens⟩ : Array MapEntry).push { key := vk, val := vv, born := clk }) (clk + 1))) { z with β := upd z.β id β' } := by
  obtain ⟨hmt, r', ens', clk', e1, e2, h1, h2, h3, h4, h5, h6, h7⟩ := map_form h hob
  rw [hσ] at e1
  simp only [Value.map.injEq, Option.some.injEq] at e1
  subst e1
  rw [hh] at e2
  simp only [Option.some.injEq, Obj.map.injEq, Array.mk.injEq] at e2
  obtain ⟨rfl, rfl⟩ := e2
  have hp : (⟨ens⟩ : Array MapEntry).push { key := vk, val := vv, born := clk } = ⟨ens ++ [{ key := vk, val := vv, born := clk }]⟩ := Array.toList_inj.1 (by simp)
  rw [hp]
  have hkl : ks.length = ens.length := by have := h1.length; rw [List.length_map] at this; omega
  refine SR.turn h (live_of_map hob) (by simp) (by rw [hσ]; exact setObj_grown w r _) hβ fun hkp hz => ⟨hmt, r, _, clk + 1, hσ, setObj_at hh, ?_, ?_, ?_, ?_, ?_, ?_, ?_⟩
  · rw [List.map_append]; exact (RelL.keep hkp _ _ h1).append (RelL.cons (RelC.keep hkp _ _ hvk) RelL.nil)
  · rw [List.map_append]; exact (RelL.keep hkp _ _ h2).append (RelL.cons (RelC.keep hkp _ _ hvv) RelL.nil)
  · intro c hcm
    rcases List.mem_append.1 hcm with hcm | hcm
    · exact h3 c hcm
    · rw [List.mem_singleton.1 hcm]; exact hc
  · rw [List.nodup_append]
    refine ⟨h4, by simp, fun x hx y hy => ?_⟩
    rw [List.mem_singleton.1 hy]
    intro e
    exact hk (e ▸ hx)
  · intro en hen
    rcases List.mem_append.1 hen with hen | hen
    · have := h5 en hen; omega
    · rw [List.mem_singleton.1 hen]; simp
  · rw [List.map_append, List.nodup_append]
    refine ⟨h6, by simp, fun x hx y hy => ?_⟩
    simp only [List.map_cons, List.map_nil, List.mem_singleton] at hy
    subst hy
    obtain ⟨en, hen, rfl⟩ := List.mem_map.1 hx
    have := h5 en hen
    omega
  · intro k' b hb
    simp only [upd_same] at hb
    rcases hβ' k' b hb with hb | ⟨rfl, rfl⟩
    · obtain ⟨j, en, g3, g4, g5⟩ := h7 k' b hb
      have hj1 := (List.getElem?_eq_some_iff.1 g3).1
      have hj2 := (List.getElem?_eq_some_iff.1 g4).1
      exact ⟨j, en, by rw [List.getElem?_append_left hj1]; exact g3, by rw [List.getElem?_append_left hj2]; exact g4, g5⟩
    · exact ⟨ks.length, { key := vk, val := vv, born := b }, by simp, by rw [hkl]; simp, rfl⟩
end
end WB
