/-
  THE OWN LAYER, O: what is there turns.
-/
import Derived.Test.YtpkoilfecgmogaaCoreN
import Derived.Maps.AppendAt
namespace WB
open Go Go.RowKit

section
variable {P : Program} {G : Nat → List CV} {w0 : World} {M0 : Nat → Prop} {n : Nat} {st : St} {a : Act} {w w' : World} {z : Cz}

theorem live_mut {id g : Nat} (hl : st.ob id ≠ .none) (hb : blk (z.σ id) = some g) : mutb M0 z st.ob g := .inr ⟨id, hl, hb⟩

/-- An object turns in place. -/
theorem SR.turn (h : SR P G w0 M0 n st a w z) {id : Nat} (hl : st.ob id ≠ .none) {o' : Ob} (hl' : o' ≠ .none) (hg : w.grownBy w' (blk (z.σ id))) {β' : CV → Nat → Prop} (hβ : ∀ k b, z.β id k b → β' k b)
    (ho : Keeps w (mutb M0 z st.ob) w' (mutb M0 { z with β := upd z.β id β' } (upd st.ob id o')) → (∀ s, KeepsZ st.ob z (upd st.ob id o') { z with β := upd z.β id β' } s) →
      RelO P w' (mutb M0 { z with β := upd z.β id β' } (upd st.ob id o')) w0.heap.size { z with β := upd z.β id β' } (upd st.ob id o') id (z.σ id) o') :
    SR P G w0 M0 n { st with ob := upd st.ob id o' } a w' { z with β := upd z.β id β' } := by
  have live : ∀ i, upd st.ob id o' i ≠ .none ↔ st.ob i ≠ .none := by
    intro i
    by_cases hi : i = id
    · subst hi; rw [upd_same]; exact ⟨fun _ => hl, fun _ => hl'⟩
    · rw [upd_ne _ _ hi]
  have hk : Keeps w (mutb M0 z st.ob) w' (mutb M0 { z with β := upd z.β id β' } (upd st.ob id o')) := ⟨hg.size, fun g hlt hm => hg.block g hlt (fun e => hm (live_mut hl e.symm)), fun g _ hm => by
    rcases hm with hm | ⟨i, h1, h2⟩
    · exact .inl hm
    · exact .inr ⟨i, (live i).1 h1, h2⟩⟩
  have hz : ∀ s, KeepsZ st.ob z (upd st.ob id o') { z with β := upd z.β id β' } s := fun s => ⟨fun i _ h1 => (live i).2 h1, fun _ _ _ => rfl, fun i _ _ k b hb => by
    by_cases hi : i = id
    · subst hi; simp only [upd_same]; exact hβ k b hb
    · simp only [upd_ne _ _ hi]; exact hb⟩
  refine ⟨h.size, h.defers, h.below.trans ⟨hg.os, hg.tape, hg.output, hg.size, fun k hk' => hg.block k (Nat.lt_of_lt_of_le hk' h.below.size) (fun e => by have := (h.lo id k hl e.symm).1; omega)⟩, h.outer, h.glob, fun i => RelS.keep hk (hz _) (h.fr i), fun i => ?_, fun i g h1 h2 => ?_, fun i j g hij h1 h2 => h.apart i j g hij ((live i).1 h1) ((live j).1 h2)⟩
  · by_cases hi : i = id
    · subst hi
      simp only [upd_same]
      exact ho hk hz
    · simp only [upd_ne _ _ hi]
      by_cases hli : st.ob i = .none
      · rw [hli]; trivial
      · exact RelO.keep hk (fun g hg' => hg.block g (h.lo i g hli hg').2 (fun e => h.apart i id g hi hli hl hg' e.symm)) (fun _ _ s _ => hz s) (fun k b hh => by simpa [upd_ne _ _ hi] using hh) (h.ob i)
  · have := h.lo i g ((live i).1 h1) h2
    exact ⟨this.1, Nat.lt_of_lt_of_le this.2 hg.size⟩

/-- An object is given up, and another one lies in its place or at a new one. -/
theorem SR.renew (h : SR P G w0 M0 n st a w z) {id : Nat} (hl : st.ob id ≠ .none) {o' : Ob} {v' : Value} (hg : w.grownBy w' (blk (z.σ id))) (hv : ∀ g, blk v' = some g → blk (z.σ id) = some g ∨ (w.heap.size ≤ g ∧ g < w'.heap.size))
    (ho : Keeps w (mutb M0 z st.ob) w' (mutb M0 (z.new id v') (upd (kill [id] st).ob id o')) → RelO P w' (mutb M0 (z.new id v') (upd (kill [id] st).ob id o')) w0.heap.size (z.new id v') (upd (kill [id] st).ob id o') id v' o') :
    SR P G w0 M0 n { fr := (kill [id] st).fr, ob := upd (kill [id] st).ob id o' } a w' (z.new id v') := by
  have live : ∀ i, i ≠ id → (upd (kill [id] st).ob id o' i ≠ .none ↔ st.ob i ≠ .none) := by
    intro i hi
    rw [upd_ne _ _ hi, kill_ob_live]
    simp [hi]
  have σne : ∀ i, i ≠ id → (z.new id v').σ i = z.σ i := fun i hi => by simp [Cz.new, upd, hi]
  have hk : Keeps w (mutb M0 z st.ob) w' (mutb M0 (z.new id v') (upd (kill [id] st).ob id o')) := ⟨hg.size, fun g hlt hm => hg.block g hlt (fun e => hm (live_mut hl e.symm)), fun g hlt hm => by
    rcases hm with hm | ⟨i, h1, h2⟩
    · exact .inl hm
    · by_cases hi : i = id
      · subst hi
        rw [new_σ] at h2
        rcases hv g h2 with h3 | h3
        · exact live_mut hl h3
        · omega
      · rw [σne i hi] at h2
        exact live_mut ((live i hi).1 h1) h2⟩
  have hz : ∀ s : SV, ∀ v, RelS w (mutb M0 z st.ob) z st.ob s v → RelS w' (mutb M0 (z.new id v') (upd (kill [id] st).ob id o')) (z.new id v') (upd (kill [id] st).ob id o') (killSV [id] s) v := by
    intro s v hs
    cases hr : s.ref with
    | none =>
      cases s <;> simp [SV.ref] at hr
      · exact RelC.keep hk _ _ hs
      · trivial
    | some i =>
      by_cases hi : i = id
      · subst hi
        have : killSV [i] s = .undef := by cases s <;> simp_all [SV.ref, killSV]
        rw [this]; trivial
      · have e : killSV [id] s = s := by cases s <;> simp_all [SV.ref, killSV]
        rw [e]
        refine RelS.keep hk ⟨fun j hj h1 => ?_, fun j hj h1 => ?_, fun j hj h1 k b hb => ?_⟩ hs
        all_goals (rw [hr] at hj; cases hj)
        · exact (live i hi).2 h1
        · exact σne i hi
        · simpa [Cz.new, hi] using hb
  have hzs : ∀ (cs : List SV) vs, RelSs w (mutb M0 z st.ob) z st.ob cs vs → RelSs w' (mutb M0 (z.new id v') (upd (kill [id] st).ob id o')) (z.new id v') (upd (kill [id] st).ob id o') (cs.map (killSV [id])) vs := by
    intro cs
    induction cs with
    | nil => intro vs hh; exact hh
    | cons c cs ih =>
      intro vs hh
      obtain ⟨v, vs', e, h1, h2⟩ := hh
      exact ⟨v, vs', e, hz c v h1, ih vs' h2⟩
  refine ⟨h.size, h.defers, h.below.trans ⟨hg.os, hg.tape, hg.output, hg.size, fun k hk' => hg.block k (Nat.lt_of_lt_of_le hk' h.below.size) (fun e => by have := (h.lo id k hl e.symm).1; omega)⟩, h.outer, h.glob, fun i => hz _ _ (h.fr i), fun i => ?_, fun i g h1 h2 => ?_, fun i j g hij h1 h2 h3 h4 => ?_⟩
  · by_cases hi : i = id
    · subst hi
      simp only [upd_same, new_σ]
      exact ho hk
    · simp only [upd_ne _ _ hi, σne i hi]
      have e : (kill [id] st).ob i = killOb [id] (st.ob i) := by simp [kill, hi]
      rw [e]
      have hoi := h.ob i
      cases hob : st.ob i with
      | none => trivial
      | box cs =>
        rw [hob] at hoi
        obtain ⟨g, ty, vs, e1, e2, e3⟩ := hoi
        have hli : st.ob i ≠ .none := by rw [hob]; simp
        exact ⟨g, ty, vs, e1, (hg.block g (h.lo i g hli (by rw [e1]; rfl)).2 (fun e' => h.apart i id g hi hli hl (by rw [e1]; rfl) e'.symm)).trans e2, hzs cs vs e3⟩
      | _ =>
        rw [hob] at hoi
        have hli : st.ob i ≠ .none := by rw [hob]; simp
        exact RelO.keep hk (fun g hg' => hg.block g (h.lo i g hli hg').2 (fun e => h.apart i id g hi hli hl hg' e.symm)) (fun cs hc => by cases hc) (fun k b hh => by simpa [Cz.new, hi] using hh) hoi
  · by_cases hi : i = id
    · subst hi
      simp only [new_σ] at h2
      rcases hv g h2 with h3 | h3
      · have := h.lo i g hl h3
        exact ⟨this.1, Nat.lt_of_lt_of_le this.2 hg.size⟩
      · exact ⟨Nat.le_trans h.below.size h3.1, h3.2⟩
    · rw [σne i hi] at h2
      have := h.lo i g ((live i hi).1 h1) h2
      exact ⟨this.1, Nat.lt_of_lt_of_le this.2 hg.size⟩
  · by_cases hi : i = id
    · subst hi
      have hj : j ≠ i := fun e => hij e.symm
      rw [new_σ] at h3
      rw [σne j hj] at h4
      rcases hv g h3 with h5 | h5
      · exact h.apart i j g hij hl ((live j hj).1 h2) h5 h4
      · have := (h.lo j g ((live j hj).1 h2) h4).2; omega
    · by_cases hj : j = id
      · subst hj
        rw [new_σ] at h4
        rw [σne i hi] at h3
        rcases hv g h4 with h5 | h5
        · exact h.apart i j g hij ((live i hi).1 h1) hl h3 h5
        · have := (h.lo i g ((live i hi).1 h1) h3).2; omega
      · rw [σne i hi] at h3
        rw [σne j hj] at h4
        exact h.apart i j g hij ((live i hi).1 h1) ((live j hj).1 h2) h3 h4

theorem oneC_cell {M : Nat → Prop} {c : CV} {v : Value} (h : RelC w M c v) (hc : oneC c = true) : v.oneCell' = true := by
  cases c <;> simp [oneC] at hc <;> unfold RelC at h <;> first
    | (subst h; rfl)
    | (obtain ⟨_, _, rfl⟩ := h; rfl)
    | (obtain ⟨_, _, _, rfl, _⟩ := h; rfl)
    | (obtain ⟨_, rfl, _⟩ := h; rfl)
    | (obtain ⟨_, _, rfl, _⟩ := h; rfl)
theorem oneC_cells {M : Nat → Prop} : ∀ {cs : List CV} {vs : List Value}, RelL w M cs vs → cs.all oneC = true → ∀ v ∈ vs, v.oneCell' = true
  | [], vs, h, _, v, hv => by unfold RelL at h; subst h; cases hv
  | c :: cs, vs, h, hc, v, hv => by
    unfold RelL at h
    obtain ⟨u, us, rfl, h1, h2⟩ := h
    simp only [List.all_cons, Bool.and_eq_true] at hc
    rcases List.mem_cons.1 hv with rfl | hv
    · exact oneC_cell h1 hc.1
    · exact oneC_cells h2 hc.2 v hv

theorem grown_setRow (w : World) (g : Nat) (cs : Array Value) : w.grownBy (w.setRow g cs) (some g) := by
  refine ⟨rfl, rfl, rfl, by simp [World.setRow], fun k _ hk => ?_⟩
  simp only [World.setRow, Array.getElem?_modify]
  rw [if_neg (fun e => hk (by rw [e]))]
end
end WB
