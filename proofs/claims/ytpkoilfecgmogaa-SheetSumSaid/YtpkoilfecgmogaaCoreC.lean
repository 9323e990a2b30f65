/-
  THE OWN LAYER, C: what it is for a frame and a world of the model to stand for an abstract state.
-/
import Derived.Test.YtpkoilfecgmogaaCoreB
namespace WB
open Go Go.RowKit

/-- Where the call's own objects lie. -/
structure Cz where
  σ : Nat → Value
  β : Nat → CV → Nat → Prop

def blk : Value → Option Nat
  | .pointer (some a) => some a.block
  | .slice (some a) _ _ => some a.block
  | .map (some r) => some r
  | _ => none

def RelS (w : World) (M : Nat → Prop) (z : Cz) (ob : Nat → Ob) : SV → Value → Prop
  | .c cv, v => RelC w M cv v
  | .ptr id o, v => ob id ≠ .none ∧ ∃ g, z.σ id = .pointer (some ⟨g, 0, none⟩) ∧ v = .pointer (some ⟨g, o, none⟩)
  | .eptr id i size o, v => ob id ≠ .none ∧ ∃ g n c, z.σ id = .slice (some ⟨g, 0, none⟩) n c ∧ v = .pointer (some ⟨g, i * size + o, none⟩)
  | .osl id, v => ob id ≠ .none ∧ v = z.σ id
  | .omap id, v => ob id ≠ .none ∧ v = z.σ id
  | .iter id, v => ob id ≠ .none ∧ v = z.σ id
  | .stamp id k, v => ob id ≠ .none ∧ ∃ b, z.β id k b ∧ v = .int .i64 b
  | .ent id k cv, v => ob id ≠ .none ∧ ∃ b u, z.β id k b ∧ v = .tuple #[u, .int .i64 b] ∧ RelC w M cv u
  | .undef, _ => True

def RelSs (w : World) (M : Nat → Prop) (z : Cz) (ob : Nat → Ob) : List SV → List Value → Prop
  | [], vs => vs = []
  | s :: ss, vs => ∃ v vs', vs = v :: vs' ∧ RelS w M z ob s v ∧ RelSs w M z ob ss vs'

/-- A list of elements, and their cells one behind the other. -/
def RelF (w : World) (M : Nat → Prop) (size : Nat) : List CV → List Value → Prop
  | [], xs => xs = []
  | e :: es, xs => ∃ v xs', xs = v.cells.toList ++ xs' ∧ v.cells.size = size ∧ RelC w M e v ∧ RelF w M size es xs'

/-- What an object of the call's own is, at the value that names it. -/
def RelO (P : Program) (w : World) (M : Nat → Prop) (B : Nat) (z : Cz) (ob : Nat → Ob) (id : Nat) (v : Value) : Ob → Prop
  | .none => True
  | .box cs => ∃ g ty vs, v = .pointer (some ⟨g, 0, none⟩) ∧ w.heap[g]? = some (.cells ⟨vs⟩ ty (0, 0)) ∧ RelSs w M z ob cs vs
  | .arr e size es => ∃ xs, w.ownsRow B e size v es.length xs ∧ RelF w M size es xs
  | .map mt kt zc ks vs => mapTy P mt = some (kt, zc) ∧ ∃ (r : Nat) (ens : List MapEntry) (clk : Nat), v = .map (some r) ∧ w.heap[r]? = some (.map ⟨ens⟩ clk) ∧ RelL w M ks (ens.map (·.key)) ∧ RelL w M vs (ens.map (·.val)) ∧
      (∀ k ∈ ks, conf kt k = true) ∧ ks.Nodup ∧ (∀ en : MapEntry, en ∈ ens → en.born < clk) ∧ (ens.map (·.born)).Nodup ∧ (∀ k b, z.β id k b → ∃ (i : Nat) (en : MapEntry), ks[i]? = some k ∧ ens[i]? = some en ∧ en.born = b)
  | .siter s pos => ∃ r, v = .pointer (some ⟨r, 0, none⟩) ∧ w.heap[r]? = some (.stringIter ⟨⟨s⟩⟩ pos)

/-- What may turn: what the callers hold open, and the call's own objects. -/
def own (z : Cz) (ob : Nat → Ob) (g : Nat) : Prop := ∃ id, ob id ≠ .none ∧ blk (z.σ id) = some g
def mutb (M0 : Nat → Prop) (z : Cz) (ob : Nat → Ob) (g : Nat) : Prop := M0 g ∨ own z ob g

structure SR (P : Program) (G : Nat → List CV) (w0 : World) (M0 : Nat → Prop) (n : Nat) (st : St) (a : Act) (w : World) (z : Cz) : Prop where
  size : a.tmps.size = n
  defers : a.defers = []
  below : Below w0.heap.size w0 w
  outer : ∀ g, M0 g → g < w0.heap.size
  glob : ∀ i, G i ≠ [] → RelC w0 M0 (.rp (G i)) (.pointer (some ⟨i, 0, none⟩))
  fr : ∀ i, RelS w (mutb M0 z st.ob) z st.ob (st.fr i) (a.tmps.getD i undef)
  ob : ∀ id, RelO P w (mutb M0 z st.ob) w0.heap.size z st.ob id (z.σ id) (st.ob id)
  lo : ∀ id g, st.ob id ≠ .none → blk (z.σ id) = some g → w0.heap.size ≤ g ∧ g < w.heap.size
  apart : ∀ i j g, i ≠ j → st.ob i ≠ .none → st.ob j ≠ .none → blk (z.σ i) = some g → blk (z.σ j) ≠ some g

section
variable {P : Program} {w w' : World} {M M' : Nat → Prop} {z z' : Cz} {ob ob' : Nat → Ob}

/-- A slot's relation is kept where its object lives on, at the same place. -/
structure KeepsZ (ob : Nat → Ob) (z : Cz) (ob' : Nat → Ob) (z' : Cz) (s : SV) : Prop where
  live : ∀ id, s.ref = some id → ob id ≠ .none → ob' id ≠ .none
  at_ : ∀ id, s.ref = some id → ob id ≠ .none → z'.σ id = z.σ id
  born : ∀ id, s.ref = some id → ob id ≠ .none → ∀ k b, z.β id k b → z'.β id k b

theorem RelS.keep (h : Keeps w M w' M') : ∀ {s : SV} {v : Value}, KeepsZ ob z ob' z' s → RelS w M z ob s v → RelS w' M' z' ob' s v
  | .c cv, v, _, hv => RelC.keep h cv v hv
  | .ptr id o, v, k, hv => by
    obtain ⟨hl, g, e, e2⟩ := hv
    exact ⟨k.live id rfl hl, g, (k.at_ id rfl hl).trans e, e2⟩
  | .eptr id i s o, v, k, hv => by
    obtain ⟨hl, g, n, c, e, e2⟩ := hv
    exact ⟨k.live id rfl hl, g, n, c, (k.at_ id rfl hl).trans e, e2⟩
  | .osl id, v, k, hv => ⟨k.live id rfl hv.1, hv.2.trans (k.at_ id rfl hv.1).symm⟩
  | .omap id, v, k, hv => ⟨k.live id rfl hv.1, hv.2.trans (k.at_ id rfl hv.1).symm⟩
  | .iter id, v, k, hv => ⟨k.live id rfl hv.1, hv.2.trans (k.at_ id rfl hv.1).symm⟩
  | .stamp id key, v, k, hv => by
    obtain ⟨hl, b, e, e2⟩ := hv
    exact ⟨k.live id rfl hl, b, k.born id rfl hl _ _ e, e2⟩
  | .ent id key cv, v, k, hv => by
    obtain ⟨hl, b, u, e, e2, e3⟩ := hv
    exact ⟨k.live id rfl hl, b, u, k.born id rfl hl _ _ e, e2, RelC.keep h cv u e3⟩
  | .undef, _, _, _ => trivial

theorem RelSs.keep (h : Keeps w M w' M') : ∀ {cs : List SV} {vs : List Value}, (∀ s ∈ cs, KeepsZ ob z ob' z' s) → RelSs w M z ob cs vs → RelSs w' M' z' ob' cs vs
  | [], _, _, hv => hv
  | c :: cs, vs, k, hv => by
    obtain ⟨v, vs', e, h1, h2⟩ := hv
    exact ⟨v, vs', e, RelS.keep h (k c (by simp)) h1, RelSs.keep h (fun s hs => k s (by simp [hs])) h2⟩

theorem RelF.keep (h : Keeps w M w' M') {size : Nat} : ∀ {es : List CV} {xs : List Value}, RelF w M size es xs → RelF w' M' size es xs
  | [], _, hv => hv
  | e :: es, xs, hv => by
    obtain ⟨v, xs', e1, h1, h2, h3⟩ := hv
    exact ⟨v, xs', e1, h1, RelC.keep h e v h2, RelF.keep h h3⟩

/-- An object's relation is kept where its block is as it was. -/
theorem RelO.keep (h : Keeps w M w' M') {B id : Nat} {v : Value} : ∀ {o : Ob}, (∀ g, blk v = some g → w'.heap[g]? = w.heap[g]?) →
    (∀ cs, o = .box cs → ∀ s ∈ cs, KeepsZ ob z ob' z' s) → (∀ k b, z'.β id k b → z.β id k b) → RelO P w M B z ob id v o → RelO P w' M' B z' ob' id v o
  | .none, _, _, _, _ => trivial
  | .box cs, hb, hc, _, hv => by
    obtain ⟨g, ty, vs, e, hh, hs⟩ := hv
    exact ⟨g, ty, vs, e, (hb g (by rw [e]; rfl)).trans hh, RelSs.keep h (hc cs rfl) hs⟩
  | .arr e size es, hb, _, _, hv => by
    obtain ⟨xs, ho, hf⟩ := hv
    refine ⟨xs, ⟨ho.1, ?_⟩, RelF.keep h hf⟩
    rcases ho.2 with h2 | ⟨g, cap, cur, e1, e2, e3, r⟩
    · exact .inl h2
    · exact .inr ⟨g, cap, cur, e1, e2, (hb g (by rw [e1]; rfl)).trans e3, r⟩
  | .map mt kt zz ks vs, hb, _, hβ, hv => by
    obtain ⟨hmt, r, ens, clk, e, hh, h1, h2, h3, h7, h4, h5, h6⟩ := hv
    exact ⟨hmt, r, ens, clk, e, (hb r (by rw [e]; rfl)).trans hh, RelL.keep h _ _ h1, RelL.keep h _ _ h2, h3, h7, h4, h5, fun k b hk => h6 k b (hβ k b hk)⟩
  | .siter s pos, hb, _, _, hv => by
    obtain ⟨r, e, hh⟩ := hv
    exact ⟨r, e, (hb r (by rw [e]; rfl)).trans hh⟩
end

theorem killSV_ref {D : List Nat} {s : SV} {id : Nat} (h : (killSV D s).ref = some id) : s.ref = some id ∧ id ∉ D ∧ killSV D s = s := by
  cases s <;> simp only [killSV] at h ⊢ <;> first
    | (simp [SV.ref] at h; done)
    | (split at h <;> simp_all [SV.ref])

theorem RelS.killed {w : World} {M M' : Nat → Prop} {z : Cz} {ob ob' : Nat → Ob} {D : List Nat} {s : SV} {v : Value} (h : Keeps w M w M')
    (hl : ∀ id, id ∉ D → ob id ≠ .none → ob' id ≠ .none) (hv : RelS w M z ob s v) : RelS w M' z ob' (killSV D s) v := by
  have key : ∀ id, s.ref = some id → killSV D s = s ∨ killSV D s = .undef := by
    intro id hid
    cases s <;> simp only [killSV] <;> first | (split <;> simp; done) | (simp; done)
  cases hr : s.ref with
  | none =>
    cases s <;> simp [SV.ref] at hr
    · exact RelC.keep h _ _ hv
    · trivial
  | some id =>
    rcases key id hr with e | e
    · rw [e]
      have hd := (killSV_ref (D := D) (s := s) (id := id) (by rw [e]; exact hr)).2.1
      exact RelS.keep h ⟨fun i hi hn => by rw [hr] at hi; cases hi; exact hl _ hd hn, fun _ _ _ => rfl, fun _ _ _ _ _ hh => hh⟩ hv
    · rw [e]; trivial

theorem RelSs.killed {w : World} {M M' : Nat → Prop} {z : Cz} {ob ob' : Nat → Ob} {D : List Nat} (h : Keeps w M w M')
    (hl : ∀ id, id ∉ D → ob id ≠ .none → ob' id ≠ .none) : ∀ {cs : List SV} {vs : List Value}, RelSs w M z ob cs vs → RelSs w M' z ob' (cs.map (killSV D)) vs
  | [], _, hv => hv
  | c :: cs, vs, hv => by
    obtain ⟨v, vs', e, h1, h2⟩ := hv
    exact ⟨v, vs', e, RelS.killed h hl h1, RelSs.killed h hl h2⟩

theorem killOb_none {D : List Nat} {o : Ob} : killOb D o = .none ↔ o = .none := by
  cases o <;> simp [killOb]
theorem kill_ob_live {D : List Nat} {st : St} {id : Nat} : (kill D st).ob id ≠ .none ↔ id ∉ D ∧ st.ob id ≠ .none := by
  unfold kill
  by_cases h : id ∈ D
  · simp [h]
  · simp [h, killOb_none]

theorem own_kill {z : Cz} {D : List Nat} {st : St} {g : Nat} (h : own z (kill D st).ob g) : own z st.ob g := by
  obtain ⟨id, hl, hb⟩ := h
  exact ⟨id, (kill_ob_live.1 hl).2, hb⟩

section
variable {P : Program} {G : Nat → List CV} {w0 : World} {M0 : Nat → Prop} {n : Nat} {st : St} {a : Act} {w : World} {z : Cz}

/-- Objects may be given up, and references to them. -/
theorem SR.killed (h : SR P G w0 M0 n st a w z) (D : List Nat) : SR P G w0 M0 n (kill D st) a w z := by
  have hk : Keeps w (mutb M0 z st.ob) w (mutb M0 z (WB.kill D st).ob) := ⟨Nat.le_refl _, fun _ _ _ => rfl, fun g _ hg => hg.imp id own_kill⟩
  have hl : ∀ id, id ∉ D → st.ob id ≠ .none → (WB.kill D st).ob id ≠ .none := fun id h1 h2 => kill_ob_live.2 ⟨h1, h2⟩
  refine ⟨h.size, h.defers, h.below, h.outer, h.glob, fun i => RelS.killed hk hl (h.fr i), fun id => ?_, fun id g h1 h2 => h.lo id g (kill_ob_live.1 h1).2 h2,
    fun i j g hij h1 h2 => h.apart i j g hij (kill_ob_live.1 h1).2 (kill_ob_live.1 h2).2⟩
  by_cases hid : id ∈ D
  · have : (WB.kill D st).ob id = .none := by simp [WB.kill, hid]
    rw [this]; trivial
  · have e : (WB.kill D st).ob id = killOb D (st.ob id) := by simp [WB.kill, hid]
    rw [e]
    have ho := h.ob id
    cases hob : st.ob id with
    | box cs =>
      rw [hob] at ho
      obtain ⟨g, ty, vs, e1, e2, e3⟩ := ho
      exact ⟨g, ty, vs, e1, e2, RelSs.killed hk hl e3⟩
    | none => trivial
    | arr e size es => rw [hob] at ho; exact RelO.keep hk (fun _ _ => rfl) (fun cs hc => by cases hc) (fun _ _ hh => hh) ho
    | map mt kt zz ks vs => rw [hob] at ho; exact RelO.keep hk (fun _ _ => rfl) (fun cs hc => by cases hc) (fun _ _ hh => hh) ho
    | siter s pos => rw [hob] at ho; exact RelO.keep hk (fun _ _ => rfl) (fun cs hc => by cases hc) (fun _ _ hh => hh) ho

theorem put_getD (a : Act) (d : Nat) (v : Value) (i : Nat) : (a.put (some d) v).tmps.getD i undef = if i = d ∧ d < a.tmps.size then v else a.tmps.getD i undef := by
  simp only [Act.put, Array.getD_eq_getD_getElem?, Array.getElem?_setIfInBounds]
  by_cases h : d = i
  · subst h
    by_cases hd : d < a.tmps.size
    · simp [hd]
    · simp [hd]
  · simp [h, Ne.symm h]

/-- A value is put into a slot. -/
theorem SR.put (h : SR P G w0 M0 n st a w z) {d : Option Nat} (hd : ∀ i, d = some i → i < n) {s : SV} {v : Value} (hs : RelS w (mutb M0 z st.ob) z st.ob s v) :
    SR P G w0 M0 n (st.set d s) (a.put d v) w z := by
  cases d with
  | none => exact h
  | some d =>
    have hlt := hd d rfl
    refine ⟨by simpa [Act.put] using h.size, h.defers, h.below, h.outer, h.glob, fun i => ?_, h.ob, h.lo, h.apart⟩
    rw [put_getD]
    by_cases hi : i = d
    · subst hi
      rw [if_pos ⟨rfl, by rw [h.size]; exact hlt⟩]
      simpa [St.set, upd] using hs
    · rw [if_neg (fun hh => hi hh.1)]
      simpa [St.set, upd, hi] using h.fr i

/-- A slot may be forgotten. -/
theorem SR.forget (h : SR P G w0 M0 n st a w z) (st' : St) (hob : st'.ob = st.ob) (hfr : ∀ i, st'.fr i = st.fr i ∨ st'.fr i = .undef) : SR P G w0 M0 n st' a w z := by
  obtain ⟨fr', ob'⟩ := st'
  simp only at hob hfr
  subst hob
  refine ⟨h.size, h.defers, h.below, h.outer, h.glob, fun i => ?_, h.ob, h.lo, h.apart⟩
  show RelS w _ z st.ob (fr' i) _
  rcases hfr i with e | e
  · rw [e]; exact h.fr i
  · rw [e]; trivial
end
end WB
