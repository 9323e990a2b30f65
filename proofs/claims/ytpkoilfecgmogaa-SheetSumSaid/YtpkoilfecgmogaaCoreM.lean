/-
  THE OWN LAYER, M: the world grows; new objects.
-/
import Derived.Test.YtpkoilfecgmogaaCoreL
namespace WB
open Go Go.RowKit

section
variable {P : Program} {G : Nat → List CV} {w0 : World} {M0 : Nat → Prop} {n : Nat} {st : St} {a : Act} {w w' : World} {z : Cz}

theorem SR.ctx (h : SR P G w0 M0 n st a w z) : Ctx P G w (mutb M0 z st.ob) w0.heap.size z st.ob st.fr a where
  fr := h.fr
  ob := h.ob
  glob := fun i hi => by
    have hg := h.glob i hi
    have hk : Keeps w0 M0 w (mutb M0 z st.ob) := ⟨h.below.size, fun g hg _ => h.below.block g hg, fun g hlt hm => by
      rcases hm with hm | ⟨id, hl, hb⟩
      · exact hm
      · have := (h.lo id g hl hb).1; omega⟩
    exact RelC.keep hk _ _ hg

theorem keeps_below {M : Nat → Prop} (hb : Below w.heap.size w w') : Keeps w M w' M := ⟨hb.size, fun g hg _ => hb.block g hg, fun _ _ h => h⟩

/-- The world may grow: nothing that was there has turned. -/
theorem SR.grow (h : SR P G w0 M0 n st a w z) (hb : Below w.heap.size w w') : SR P G w0 M0 n st a w' z := by
  have hk := keeps_below (M := mutb M0 z st.ob) hb
  have hz : ∀ s : SV, KeepsZ st.ob z st.ob z s := fun s => ⟨fun _ _ hh => hh, fun _ _ _ => rfl, fun _ _ _ _ _ hh => hh⟩
  refine ⟨h.size, h.defers, h.below.trans (hb.mono h.below.size), h.outer, h.glob, fun i => RelS.keep hk (hz _) (h.fr i), fun id => ?_, fun id g h1 h2 => ?_, h.apart⟩
  · by_cases hl : st.ob id = .none
    · rw [hl]; trivial
    · exact RelO.keep hk (fun g hg => hb.block g (h.lo id g hl hg).2) (fun _ _ _ _ => hz _) (fun _ _ hh => hh) (h.ob id)
  · have := h.lo id g h1 h2
    exact ⟨this.1, Nat.lt_of_lt_of_le this.2 hb.size⟩

/-- The place of a new object. -/
def Cz.new (z : Cz) (d : Nat) (v : Value) : Cz := { σ := upd z.σ d v, β := fun id => if id = d then fun _ _ => False else z.β id }

theorem keepsZ_new {v : Value} {d : Nat} {o : Ob} (hn : st.ob d = .none) (s : SV) : KeepsZ st.ob z (upd st.ob d o) (z.new d v) s where
  live := fun id _ hl => by
    have : id ≠ d := fun e => hl (e ▸ hn)
    rw [upd_ne _ _ this]; exact hl
  at_ := fun id _ hl => by
    have : id ≠ d := fun e => hl (e ▸ hn)
    simp [Cz.new, upd, this]
  born := fun id _ hl k b hh => by
    have : id ≠ d := fun e => hl (e ▸ hn)
    simp [Cz.new, this, hh]

theorem keeps_new {v : Value} {d : Nat} {o : Ob} (hn : st.ob d = .none) (hb : Below w.heap.size w w') (hv : ∀ g, blk v = some g → w.heap.size ≤ g) :
    Keeps w (mutb M0 z st.ob) w' (mutb M0 (z.new d v) (upd st.ob d o)) := ⟨hb.size, fun g hg _ => hb.block g hg, fun g hlt hm => by
  rcases hm with hm | ⟨id, hl, hbk⟩
  · exact .inl hm
  · by_cases hid : id = d
    · subst hid
      simp [Cz.new, upd] at hbk
      have := hv g hbk
      omega
    · refine .inr ⟨id, ?_, ?_⟩
      · rw [upd_ne _ _ hid] at hl; exact hl
      · simpa [Cz.new, upd, hid] using hbk⟩

/-- A new object. -/
theorem SR.new (h : SR P G w0 M0 n st a w z) {d : Nat} (hd : d < n) (hn : st.ob d = .none) {v : Value} {o : Ob} {sv : SV} (hb : Below w.heap.size w w') (hv : ∀ g, blk v = some g → w.heap.size ≤ g ∧ g < w'.heap.size)
    (ho : RelO P w' (mutb M0 (z.new d v) (upd st.ob d o)) w0.heap.size (z.new d v) (upd st.ob d o) d v o) (hs : RelS w' (mutb M0 (z.new d v) (upd st.ob d o)) (z.new d v) (upd st.ob d o) sv v) :
    SR P G w0 M0 n { fr := upd st.fr d sv, ob := upd st.ob d o } (a.put (some d) v) w' (z.new d v) := by
  have hk := keeps_new (M0 := M0) (z := z) (o := o) hn hb (fun g hg => (hv g hg).1)
  refine ⟨by simpa [Act.put] using h.size, h.defers, h.below.trans (hb.mono h.below.size), h.outer, h.glob, fun i => ?_, fun id => ?_, fun id g h1 h2 => ?_, fun i j g hij h1 h2 h3 h4 => ?_⟩
  · rw [put_getD]
    by_cases hi : i = d
    · subst hi
      rw [if_pos ⟨rfl, by rw [h.size]; exact hd⟩]
      simpa [upd_same] using hs
    · rw [if_neg (fun hh => hi hh.1)]
      simp only [upd_ne _ _ hi]
      exact RelS.keep hk (keepsZ_new hn _) (h.fr i)
  · by_cases hid : id = d
    · subst hid
      simp only [upd_same]
      have : (z.new id v).σ id = v := by simp [Cz.new, upd]
      rw [this]
      exact ho
    · simp only [upd_ne _ _ hid]
      have e : (z.new d v).σ id = z.σ id := by simp [Cz.new, upd, hid]
      rw [e]
      by_cases hl : st.ob id = .none
      · rw [hl]; trivial
      · exact RelO.keep hk (fun g hg => hb.block g (h.lo id g hl hg).2) (fun _ _ _ _ => keepsZ_new hn _) (fun k b hh => by simpa [Cz.new, hid] using hh) (h.ob id)
  · by_cases hid : id = d
    · subst hid
      simp only [Cz.new, upd_same] at h2
      have := hv g h2
      exact ⟨Nat.le_trans h.below.size this.1, this.2⟩
    · simp only [upd_ne _ _ hid] at h1
      simp only [Cz.new, upd_ne _ _ hid] at h2
      have := h.lo id g h1 h2
      exact ⟨this.1, Nat.lt_of_lt_of_le this.2 hb.size⟩
  · by_cases hi : i = d
    · subst hi
      have hj : j ≠ i := fun e => hij e.symm
      simp only [Cz.new, upd_same] at h3
      simp only [Cz.new, upd_ne _ _ hj] at h4
      simp only [upd_ne _ _ hj] at h2
      have e1 := (hv g h3).1
      have e2 := (h.lo j g h2 h4).2
      omega
    · by_cases hj : j = d
      · subst hj
        simp only [Cz.new, upd_same] at h4
        simp only [Cz.new, upd_ne _ _ hi] at h3
        simp only [upd_ne _ _ hi] at h1
        have e1 := (hv g h4).1
        have e2 := (h.lo i g h1 h3).2
        omega
      · simp only [Cz.new, upd_ne _ _ hi] at h3
        simp only [Cz.new, upd_ne _ _ hj] at h4
        simp only [upd_ne _ _ hi] at h1
        simp only [upd_ne _ _ hj] at h2
        exact h.apart i j g hij h1 h2 h3 h4
end

theorem below_alloc (w : World) (o : Obj) : Below w.heap.size w (w.alloc o) := (Below.refl _ _).alloc (Nat.le_refl _) _
theorem run_newVar {P : Program} (t : TypeId) (v : Value) (w : World) : (newVar t v).run P w = .ok ⟨w.heap.size, 0, none⟩ (w.alloc (.cells v.cells t)) := by
  simp [newVar, newRow]
theorem run_newRow {P : Program} (t : TypeId) (c : Array Value) (w : World) : (newRow t c).run P w = .ok ⟨w.heap.size, 0, none⟩ (w.alloc (.cells c t)) := by
  simp [newRow]
theorem alloc_new (w : World) (o : Obj) : (w.alloc o).heap[w.heap.size]? = some o := heap_alloc_new w o
end WB
