/-
  THE OWN LAYER, TJ: turns of the abstract state alone: a nil slice taken for an own one, an own one closed.
-/
import Derived.Test.YtpkoilfecgmogaaCoreTi
namespace WB
open Go Go.RowKit

/-- Whatever the state stands for, the other one stands for it too. -/
def Seen (st st' : St) : Prop := ∀ {P : Program} {G : Nat → List CV} {w0 : World} {M0 : Nat → Prop} {n : Nat} {a : Act} {w : World} {z : Cz}, SR P G w0 M0 n st a w z → ∃ z', SR P G w0 M0 n st' a w z'
theorem Seen.refl (st : St) : Seen st st := fun h => ⟨_, h⟩
theorem Seen.trans {s t u : St} (h : Seen s t) (k : Seen t u) : Seen s u := fun hs => by
  obtain ⟨z', h1⟩ := h hs
  exact k h1
theorem Seen.kill (st : St) (ids : List Nat) : Seen st (WB.kill ids st) := fun h => ⟨_, h.killed ids⟩

section
variable {P : Program} {G : Nat → List CV} {w0 : World} {M0 : Nat → Prop} {n : Nat} {st : St} {a : Act} {w : World} {z : Cz}

theorem SR.reslot (h : SR P G w0 M0 n st a w z) {i : Nat} {sv : SV} (hs : RelS w (mutb M0 z st.ob) z st.ob sv (a.tmps.getD i undef)) : SR P G w0 M0 n { st with fr := upd st.fr i sv } a w z := by
  refine ⟨h.size, h.defers, h.below, h.outer, h.glob, fun j => ?_, h.ob, h.lo, h.apart⟩
  show RelS w _ z st.ob (upd st.fr i sv j) _
  by_cases hj : j = i
  · subst hj; rw [upd_same]; exact hs
  · rw [upd_ne _ _ hj]; exact h.fr j

theorem SR.reob (h : SR P G w0 M0 n st a w z) {b : Nat} {o : Ob} (hl : st.ob b ≠ .none) (hl' : o ≠ .none) (ho : RelO P w (mutb M0 z st.ob) w0.heap.size z st.ob b (z.σ b) o) : SR P G w0 M0 n { st with ob := upd st.ob b o } a w z := by
  have live : ∀ id, upd st.ob b o id ≠ .none ↔ st.ob id ≠ .none := by
    intro id
    by_cases hid : id = b
    · subst hid; simp [upd_same, hl, hl']
    · rw [upd_ne _ _ hid]
  have hm : ∀ g, mutb M0 z (upd st.ob b o) g → mutb M0 z st.ob g := fun g hg => hg.imp id fun ⟨id, h1, h2⟩ => ⟨id, (live id).1 h1, h2⟩
  have hk : Keeps w (mutb M0 z st.ob) w (mutb M0 z (upd st.ob b o)) := ⟨Nat.le_refl _, fun _ _ _ => rfl, fun g _ hg => hm g hg⟩
  have hz : ∀ s, KeepsZ st.ob z (upd st.ob b o) z s := fun s => ⟨fun id _ hh => (live id).2 hh, fun _ _ _ => rfl, fun _ _ _ _ _ hh => hh⟩
  refine ⟨h.size, h.defers, h.below, h.outer, h.glob, fun i => RelS.keep hk (hz _) (h.fr i), fun id => ?_, fun id g h1 h2 => h.lo id g ((live id).1 h1) h2, fun i j g hij h1 h2 => h.apart i j g hij ((live i).1 h1) ((live j).1 h2)⟩
  show RelO P w _ _ z (upd st.ob b o) id (z.σ id) (upd st.ob b o id)
  by_cases hid : id = b
  · subst hid
    rw [upd_same]
    exact RelO.keep hk (fun _ _ => rfl) (fun _ _ _ _ => hz _) (fun _ _ hh => hh) ho
  · rw [upd_ne _ _ hid]
    exact RelO.keep hk (fun _ _ => rfl) (fun _ _ _ _ => hz _) (fun _ _ hh => hh) (h.ob id)

theorem SR.newNil (h : SR P G w0 M0 n st a w z) {id e size : Nat} (hn : st.ob id = .none) : SR P G w0 M0 n { st with ob := upd st.ob id (.arr e size []) } a w (z.new id (.slice none 0 0)) := by
  have hk := keeps_new (M0 := M0) (z := z) (d := id) (v := .slice none 0 0) (o := .arr e size []) (w := w) (w' := w) hn (Below.refl _ _) (fun g hg => by cases hg)
  refine ⟨h.size, h.defers, h.below, h.outer, h.glob, fun i => RelS.keep hk (keepsZ_new hn _) (h.fr i), fun i => ?_, fun i g h1 h2 => ?_, fun i j g hij h1 h2 h3 h4 => ?_⟩
  · show RelO P w _ _ _ (upd st.ob id _) i _ (upd st.ob id _ i)
    by_cases hi : i = id
    · subst hi
      rw [upd_same]
      have : (z.new i (.slice none 0 0)).σ i = .slice none 0 0 := by simp [Cz.new, upd]
      rw [this]
      exact ⟨[], ⟨by simp, .inl ⟨rfl, rfl⟩⟩, rfl⟩
    · rw [upd_ne _ _ hi]
      have e1 : (z.new id (.slice none 0 0)).σ i = z.σ i := by simp [Cz.new, upd, hi]
      rw [e1]
      by_cases hl : st.ob i = .none
      · rw [hl]; trivial
      · exact RelO.keep hk (fun g hg => rfl) (fun _ _ _ _ => keepsZ_new hn _) (fun k b hh => by simpa [Cz.new, hi] using hh) (h.ob i)
  · by_cases hi : i = id
    · subst hi
      simp only [Cz.new, upd_same] at h2
      cases h2
    · simp only [upd_ne _ _ hi] at h1
      simp only [Cz.new, upd_ne _ _ hi] at h2
      exact h.lo i g h1 h2
  · by_cases hi : i = id
    · subst hi
      simp only [Cz.new, upd_same] at h3
      cases h3
    · by_cases hj : j = id
      · subst hj
        simp only [Cz.new, upd_same] at h4
        cases h4
      · simp only [upd_ne _ _ hi] at h1
        simp only [upd_ne _ _ hj] at h2
        simp only [Cz.new, upd_ne _ _ hi] at h3
        simp only [Cz.new, upd_ne _ _ hj] at h4
        exact h.apart i j g hij h1 h2 h3 h4

/-- An own slice, once given up, is closed. -/
theorem frz_rel (h : SR P G w0 M0 n st a w z) {id et sz : Nat} {es : List CV} (hob : st.ob id = .arr et sz es) {v : Value} (hv : RelS w (mutb M0 z st.ob) z st.ob (.osl id) v) : RelC w (mutb M0 z (kill [id] st).ob) (.sl none es) v := by
  have hless : ∀ g, mutb M0 z (kill [id] st).ob g → mutb M0 z st.ob g := fun g hg => hg.imp _root_.id own_kill
  have hk : Keeps w (mutb M0 z st.ob) w (mutb M0 z (kill [id] st).ob) := ⟨Nat.le_refl _, fun _ _ _ => rfl, fun g _ hg => hless g hg⟩
  obtain ⟨hlive, e⟩ := hv
  have hout : ∀ g, blk (z.σ id) = some g → ¬ mutb M0 z (kill [id] st).ob g := fun g hb hm => by
    rcases hm with hm | ⟨id', hl', hb'⟩
    · have := h.outer g hm
      have := (h.lo id g hlive hb).1
      omega
    · have hl2 := kill_ob_live.1 hl'
      have hne : id ≠ id' := fun e => hl2.1 (by simp [e])
      exact h.apart id id' g hne hlive hl2.2 hb hb'
  have ho := h.ob id
  rw [hob] at ho
  obtain ⟨xs, hown, hf⟩ := ho
  unfold RelC
  rcases hown.2 with ⟨e1, e2⟩ | ⟨g, cap, cur, e1, e2, e3, e4, e5, e6, e7⟩
  · refine ⟨none, 0, 0, by rw [e, e1], e2.symm, Nat.le_refl _, (fun hh => by cases hh), (fun hh => by cases hh), fun _ => rfl, fun hne => ?_⟩
    exact absurd (List.eq_nil_of_length_eq_zero e2) hne
  · refine ⟨some ⟨g, 0, none⟩, es.length, cap, by rw [e, e1], rfl, e4, (fun hh => by cases hh), (fun hh => by cases hh), (fun hh => by cases hh), fun _ => ⟨⟨g, 0, none⟩, sz, rfl, heap_lt e3, hout g (by rw [e1]; rfl), ?_⟩⟩
    refine RelE_of_get fun k el hel => ?_
    obtain ⟨u, g1, g2, g3⟩ := RelF_get hf hel
    refine ⟨u, RelC.keep hk _ _ g1, g2, fun j u' hu => ?_⟩
    rw [addr_add, cell_of_row w g _ cur et (0, 0) e3]
    have h8 := g3 j u' hu
    rw [← e7, List.getElem?_take] at h8
    split at h8
    · simpa using h8
    · cases h8
theorem frzm_rel (h : SR P G w0 M0 n st a w z) {id : Nat} {mt : TypeId} {kt : KT} {zc : CV} {ks vs : List CV} (hob : st.ob id = .map mt kt zc ks vs) {v : Value} (hv : RelS w (mutb M0 z st.ob) z st.ob (.omap id) v) : RelC w (mutb M0 z (kill [id] st).ob) (.map none ks vs) v := by
  have hless : ∀ g, mutb M0 z (kill [id] st).ob g → mutb M0 z st.ob g := fun g hg => hg.imp _root_.id own_kill
  have hk : Keeps w (mutb M0 z st.ob) w (mutb M0 z (kill [id] st).ob) := ⟨Nat.le_refl _, fun _ _ _ => rfl, fun g _ hg => hless g hg⟩
  obtain ⟨hlive, e⟩ := hv
  have hout : ∀ g, blk (z.σ id) = some g → ¬ mutb M0 z (kill [id] st).ob g := fun g hb hm => by
    rcases hm with hm | ⟨id', hl', hb'⟩
    · have := h.outer g hm
      have := (h.lo id g hlive hb).1
      omega
    · have hl2 := kill_ob_live.1 hl'
      have hne : id ≠ id' := fun e => hl2.1 (by simp [e])
      exact h.apart id id' g hne hlive hl2.2 hb hb'
  obtain ⟨hmt, r, ens, clk, e1, hh, h1, h2, _⟩ := map_form h hob
  unfold RelC
  refine ⟨some r, by rw [e, e1], (fun hh => by cases hh), (fun hh => by cases hh), (fun hh => by cases hh), fun b hb => ?_⟩
  cases hb
  exact ⟨hout r (by rw [e1]; rfl), ens, clk, hh, RelL.keep hk _ _ h1, RelL.keep hk _ _ h2⟩
end

theorem nil_of {w : World} {M : Nat → Prop} {v : Value} (h : RelC w M (.sl (some true) []) v) : v = .slice none 0 0 := by
  unfold RelC at h
  obtain ⟨a, m, c, rfl, h1, _, h2, _, h3, _⟩ := h
  have := h2 rfl
  subst this
  have hm : m = 0 := by simpa using h1
  subst hm
  rw [h3 rfl]

/-- A slot's nil slice is taken for an own one. -/
theorem Seen.own {st : St} {i id e size : Nat} (hi : st.fr i = .c (.sl (some true) [])) (hn : st.ob id = .none) : Seen st { fr := upd st.fr i (.osl id), ob := upd st.ob id (.arr e size []) } := fun {P G w0 M0 n a w z} h => by
  have h1 := h.newNil (e := e) (size := size) hn
  refine ⟨_, h1.reslot (i := i) (sv := .osl id) ⟨by simp [upd], ?_⟩⟩
  have hr := h.fr i
  rw [hi] at hr
  rw [nil_of hr]
  simp [Cz.new, upd]
theorem RelSs.set {P : Program} {w : World} {M : Nat → Prop} {z : Cz} {ob : Nat → Ob} : ∀ {cs : List SV} {vs : List Value} (j : Nat) {s : SV}, RelSs w M z ob cs vs → (∀ v, vs[j]? = some v → RelS w M z ob s v) → RelSs w M z ob (cs.set j s) vs
  | [], _, _, _, h, _ => by simpa using h
  | c :: cs, vs, 0, s, h, k => by
    obtain ⟨v, vs', rfl, _, h2⟩ := h
    exact ⟨v, vs', rfl, k v rfl, h2⟩
  | c :: cs, vs, j + 1, s, h, k => by
    obtain ⟨v, vs', rfl, h1, h2⟩ := h
    exact ⟨v, vs', rfl, h1, RelSs.set (P := P) j h2 (fun u hu => k u (by simpa using hu))⟩
/-- A cell's nil slice is. -/
theorem Seen.ownc {st : St} {b j id e size : Nat} {cs : List SV} (hb : st.ob b = .box cs) (hj : cs[j]? = some (.c (.sl (some true) []))) (hn : st.ob id = .none) : Seen st { fr := st.fr, ob := upd (upd st.ob id (.arr e size [])) b (.box (cs.set j (.osl id))) } := fun {P G w0 M0 n a w z} h => by
  have hne : b ≠ id := fun e => by rw [e, hn] at hb; cases hb
  have h1 := h.newNil (e := e) (size := size) hn
  have ho := h1.ob b
  simp only [upd_ne _ _ hne, hb] at ho
  have ho0 := h.ob b
  rw [hb] at ho0
  obtain ⟨g, ty, vs, e1, e2, e3⟩ := ho
  obtain ⟨g', ty', vs', e1', e2', e3'⟩ := ho0
  have hσ : (z.new id (.slice none 0 0)).σ b = z.σ b := by simp [Cz.new, upd, hne]
  rw [hσ, e1'] at e1
  cases e1
  rw [e2'] at e2
  cases e2
  refine ⟨_, h1.reob (b := b) (o := .box (cs.set j (.osl id))) ?_ (by simp) ⟨g, ty, vs, by rw [hσ, e1'], e2', RelSs.set (P := P) j e3 fun v hv => ⟨by simp [upd], ?_⟩⟩⟩
  · simp only [upd_ne _ _ hne, hb]; simp
  · obtain ⟨v', h3, h4⟩ := RelSs.get e3' hj
    rw [hv] at h3
    cases h3
    rw [nil_of h4]
    simp [Cz.new, upd]
/-- A slot's own slice is closed. -/
theorem Seen.frz {st : St} {i id e size : Nat} {es : List CV} (hi : st.fr i = .osl id) (ho : st.ob id = .arr e size es) : Seen st { fr := upd (WB.kill [id] st).fr i (.c (.sl none es)), ob := (WB.kill [id] st).ob } := fun {P G w0 M0 n a w z} h => by
  have hr := h.fr i
  rw [hi] at hr
  exact ⟨z, (h.killed [id]).reslot (frz_rel h ho hr)⟩
theorem Seen.frzm {st : St} {i id : Nat} {mt : TypeId} {kt : KT} {zc : CV} {ks vs : List CV} (hi : st.fr i = .omap id) (ho : st.ob id = .map mt kt zc ks vs) : Seen st { fr := upd (WB.kill [id] st).fr i (.c (.map none ks vs)), ob := (WB.kill [id] st).ob } := fun {P G w0 M0 n a w z} h => by
  have hr := h.fr i
  rw [hi] at hr
  exact ⟨z, (h.killed [id]).reslot (frzm_rel h ho hr)⟩
/-- A cell's own slice is closed. -/
theorem Seen.frzc {st : St} {b j id e size : Nat} {cs : List SV} {es : List CV} (hb : st.ob b = .box cs) (hj : cs[j]? = some (.osl id)) (ho : st.ob id = .arr e size es) : Seen st { fr := (WB.kill [id] st).fr, ob := upd (WB.kill [id] st).ob b (.box ((cs.map (killSV [id])).set j (.c (.sl none es)))) } := fun {P G w0 M0 n a w z} h => by
  have hne : b ≠ id := fun e => by rw [e, ho] at hb; cases hb
  have h1 := h.killed [id]
  have hkb : (WB.kill [id] st).ob b = .box (cs.map (killSV [id])) := by simp [WB.kill, hne, hb, killOb]
  have o1 := h1.ob b
  rw [hkb] at o1
  have o0 := h.ob b
  rw [hb] at o0
  obtain ⟨g, ty, vs, e1, e2, e3⟩ := o1
  obtain ⟨g', ty', vs', e1', e2', e3'⟩ := o0
  rw [e1'] at e1
  cases e1
  rw [e2'] at e2
  cases e2
  refine ⟨z, h1.reob (b := b) (by rw [hkb]; simp) (by simp) ⟨g, ty, vs, e1', e2', RelSs.set (P := P) j e3 fun v hv => ?_⟩⟩
  obtain ⟨v', h3, h4⟩ := RelSs.get e3' hj
  rw [hv] at h3
  cases h3
  exact frz_rel h ho h4
end WB
