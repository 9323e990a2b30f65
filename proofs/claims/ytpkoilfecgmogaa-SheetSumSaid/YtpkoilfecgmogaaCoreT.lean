/-
  THE OWN LAYER, T: calls; one operation.
-/
import Derived.Test.YtpkoilfecgmogaaCoreS
namespace WB
open Go Go.RowKit

def z0 (v : Value) : Cz := { σ := fun _ => v, β := fun _ _ _ => False }
def ob0 : Nat → Ob := fun _ => .none

/-- Arrays and maps may be handed over as new objects. -/
def handy : Ob → Bool
  | .arr .. | .map .. => true
  | _ => false

def RelR (P : Program) (w : World) (M : Nat → Prop) (B : Nat) (v : Value) : Res → Prop
  | .val c => RelC w M c v
  | .new o => handy o = true ∧ (∀ g, blk v = some g → B ≤ g ∧ g < w.heap.size) ∧ RelO P w (fun g => M g ∨ blk v = some g) B (z0 v) ob0 0 v o

/-- A function's contract at some arguments. -/
def CallsTo (P : Program) (G : Nat → List CV) (f : FuncId) (args : List CV) (r : Res) : Prop :=
  ∀ (w : World) (M : Nat → Prop) (vs : List Value), (∀ g, M g → g < w.heap.size) → (∀ i, G i ≠ [] → RelC w M (.rp (G i)) (.pointer (some ⟨i, 0, none⟩))) → RelL w M args vs →
    Calls P f ⟨vs⟩ w fun e w' => ∃ v, e = .returned v ∧ Below w.heap.size w w' ∧ RelR P w' M w.heap.size v r

def EOk (P : Program) (E : Env) : Prop := ∀ f args r, E.fn f args = some r → hasBody P f = true ∧ CallsTo P E.G f args r

section
variable {P : Program} {w w' : World} {M M' : Nat → Prop}
mutual
theorem memless_any : ∀ (c : CV) (v : Value), memless c = true → RelC w M c v → RelC w' M' c v
  | .int _ _, _, _, h => by unfold RelC at *; exact h
  | .bool _, _, _, h => by unfold RelC at *; exact h
  | .str _, _, _, h => by unfold RelC at *; exact h
  | .nilif, _, _, h => by unfold RelC at *; exact h
  | .agg cs, v, hm, h => by
    unfold RelC at *
    obtain ⟨vs, e, hl⟩ := h
    exact ⟨vs, e, memlessL_any cs vs (by simpa [memless] using hm) hl⟩
  | .tup cs, v, hm, h => by
    unfold RelC at *
    obtain ⟨vs, e, hl⟩ := h
    exact ⟨vs, e, memlessL_any cs vs (by simpa [memless] using hm) hl⟩
  | .sl _ _, _, hm, _ => by simp [memless] at hm
  | .map _ _ _, _, hm, _ => by simp [memless] at hm
  | .rp _, _, hm, _ => by simp [memless] at hm
  | .fn _ _, _, hm, _ => by simp [memless] at hm
  | .ifc, _, hm, _ => by simp [memless] at hm
theorem memlessL_any : ∀ (cs : List CV) (vs : List Value), memlessL cs = true → RelL w M cs vs → RelL w' M' cs vs
  | [], _, _, h => by unfold RelL at *; exact h
  | c :: cs, vs, hm, h => by
    unfold RelL at *
    obtain ⟨v, vs', e, h1, h2⟩ := h
    simp only [memlessL, Bool.and_eq_true] at hm
    exact ⟨v, vs', e, memless_any c v hm.1 h1, memlessL_any cs vs' hm.2 h2⟩
end
theorem memlessF_any {size : Nat} : ∀ (cs : List CV) (xs : List Value), memlessL cs = true → RelF w M size cs xs → RelF w' M' size cs xs
  | [], _, _, h => h
  | c :: cs, xs, hm, h => by
    obtain ⟨v, xs', e, h1, h2, h3⟩ := h
    simp only [memlessL, Bool.and_eq_true] at hm
    exact ⟨v, xs', e, h1, memless_any c v hm.1 h2, memlessF_any cs xs' hm.2 h3⟩

theorem ownsRow_mono {B B' e size n : Nat} {v : Value} {xs : List Value} (h : w.ownsRow B e size v n xs) (hB : B' ≤ B) : w.ownsRow B' e size v n xs := by
  refine ⟨h.1, ?_⟩
  rcases h.2 with h2 | ⟨g, cap, cur, e1, e2, r⟩
  · exact .inl h2
  · exact .inr ⟨g, cap, cur, e1, Nat.le_trans hB e2, r⟩

/-- A new object's relation, at other marks. -/
theorem RelO_marks {B B' id id' : Nat} {v : Value} {z z' : Cz} {ob ob' : Nat → Ob} {o : Ob} (hB : B' ≤ B) (hh : handy o = true) (hM : ∀ g, g < w.heap.size → M' g → M g) (hβ : ∀ k b, ¬ z'.β id k b) (h : RelO P w M B z ob id' v o) : RelO P w M' B' z' ob' id v o := by
  have hk : Keeps w M w M' := ⟨Nat.le_refl _, fun _ _ _ => rfl, hM⟩
  cases o <;> simp [handy] at hh
  · obtain ⟨xs, h1, h2⟩ := h
    exact ⟨xs, ownsRow_mono h1 hB, RelF.keep hk h2⟩
  · obtain ⟨hmt, r, ens, clk, e, g1, g2, g3, g4, g5, g6, g7, _⟩ := h
    exact ⟨hmt, r, ens, clk, e, g1, RelL.keep hk _ _ g2, RelL.keep hk _ _ g3, g4, g5, g6, g7, fun k b hb => absurd hb (hβ k b)⟩
theorem RelO_memless {B B' id id' : Nat} {v : Value} {z z' : Cz} {ob ob' : Nat → Ob} {o : Ob} (hB : B' ≤ B) (hm : (Res.new o).memless = true) (hβ : ∀ k b, ¬ z'.β id k b) (h : RelO P w M B z ob id' v o) : RelO P w M' B' z' ob' id v o := by
  cases o <;> simp [Res.memless] at hm
  · obtain ⟨xs, h1, h2⟩ := h
    exact ⟨xs, ownsRow_mono h1 hB, memlessF_any _ _ hm h2⟩
  · obtain ⟨hmt, r, ens, clk, e, g1, g2, g3, g4, g5, g6, g7, _⟩ := h
    exact ⟨hmt, r, ens, clk, e, g1, memlessL_any _ _ hm.1 g2, memlessL_any _ _ hm.2 g3, g4, g5, g6, g7, fun k b hb => absurd hb (hβ k b)⟩
end

section
variable {P : Program} {E : Env} {w0 : World} {M0 : Nat → Prop} {n : Nat} {st : St} {a : Act} {w w' : World} {z : Cz}

theorem SR.outerW {G : Nat → List CV} (h : SR P G w0 M0 n st a w z) : ∀ g, M0 g → g < w.heap.size := fun g hg => Nat.lt_of_lt_of_le (h.outer g hg) h.below.size
theorem SR.mutW {G : Nat → List CV} (h : SR P G w0 M0 n st a w z) : ∀ g, mutb M0 z st.ob g → g < w.heap.size := fun g hg => by
  rcases hg with hg | ⟨id, hl, hb⟩
  · exact h.outerW g hg
  · exact (h.lo id g hl hb).2

/-- Arguments, closed. -/
theorem close_rel {G : Nat → List CV} (h : SR P G w0 M0 n st a w z) {rd : Nat → Ob} (hrd : ∀ id, rd id = .none ∨ rd id = st.ob id) {s : SV} {v : Value} {c : CV} (hs : RelS w (mutb M0 z st.ob) z st.ob s v) (hc : close rd s = some c) : RelC w M0 c v := by
  have hk : Keeps w (mutb M0 z st.ob) w M0 := ⟨Nat.le_refl _, fun _ _ _ => rfl, fun g _ hg => .inl hg⟩
  have hout : ∀ id g, st.ob id ≠ .none → blk (z.σ id) = some g → ¬ M0 g := fun id g hl hb hm => by
    have := h.outer g hm
    have := (h.lo id g hl hb).1
    omega
  cases s <;> try (simp only [close, reduceCtorEq] at hc; done)
  · simp only [close, Option.some.injEq] at hc
    subst hc
    exact RelC.keep hk _ _ hs
  · rename_i id
    obtain ⟨hlive, e⟩ := hs
    simp only [close] at hc
    rcases hrd id with e' | e'
    · rw [e'] at hc; cases hc
    · rw [e'] at hc
      cases hob : st.ob id <;> rw [hob] at hc <;> try (simp only [reduceCtorEq] at hc; done)
      rename_i et sz es
      simp only [Option.some.injEq] at hc
      subst hc
      have ho := h.ob id
      rw [hob] at ho
      obtain ⟨xs, hown, hf⟩ := ho
      unfold RelC
      rcases hown.2 with ⟨e1, e2⟩ | ⟨g, cap, cur, e1, e2, e3, e4, e5, e6, e7⟩
      · refine ⟨none, 0, 0, by rw [e, e1], e2.symm, Nat.le_refl _, (fun hh => by cases hh), (fun hh => by cases hh), fun _ => rfl, fun hne => ?_⟩
        exact absurd (List.eq_nil_of_length_eq_zero e2) hne
      · refine ⟨some ⟨g, 0, none⟩, es.length, cap, by rw [e, e1], rfl, e4, (fun hh => by cases hh), (fun hh => by cases hh), (fun hh => by cases hh), fun _ => ⟨⟨g, 0, none⟩, sz, rfl, heap_lt e3, hout id g hlive (by rw [e1]; rfl), ?_⟩⟩
        refine RelE_of_get fun k el hel => ?_
        obtain ⟨u, g1, g2, g3⟩ := RelF_get hf hel
        refine ⟨u, RelC.keep hk _ _ g1, g2, fun j u' hu => ?_⟩
        rw [addr_add, cell_of_row w g _ cur et (0, 0) e3]
        have h8 := g3 j u' hu
        rw [← e7, List.getElem?_take] at h8
        split at h8
        · simpa using h8
        · cases h8
  · rename_i id
    obtain ⟨hlive, e⟩ := hs
    simp only [close] at hc
    rcases hrd id with e' | e'
    · rw [e'] at hc; cases hc
    · rw [e'] at hc
      cases hob : st.ob id <;> rw [hob] at hc <;> try (simp only [reduceCtorEq] at hc; done)
      simp only [Option.some.injEq] at hc
      subst hc
      obtain ⟨hmt, r, ens, clk, e1, hh, h1, h2, _⟩ := map_form h hob
      unfold RelC
      refine ⟨some r, by rw [e, e1], (fun hh => by cases hh), (fun hh => by cases hh), (fun hh => by cases hh), fun b hb => ?_⟩
      cases hb
      exact ⟨hout id r hlive (by rw [e1]; rfl), ens, clk, hh, RelL.keep hk _ _ h1, RelL.keep hk _ _ h2⟩

theorem closes_rel {G : Nat → List CV} (h : SR P G w0 M0 n st a w z) {rd : Nat → Ob} (hrd : ∀ id, rd id = .none ∨ rd id = st.ob id) : ∀ {xs : List Operand} {sxs : List SO} {l : List CV}, allM compO xs = some sxs → allM (fun x => close rd (so G st.fr x)) sxs = some l →
    RelL w M0 l (xs.map a.eval) ∧ ((sxs.all fun x => isC (so G st.fr x)) = true → RelL w (mutb M0 z st.ob) l (xs.map a.eval))
  | [], sxs, l, h1, h2 => by
    simp only [allM, Option.some.injEq] at h1; subst h1
    simp only [allM, Option.some.injEq] at h2; subst h2
    exact ⟨RelL.nil, fun _ => RelL.nil⟩
  | x :: xs, sxs, l, h1, h2 => by
    simp only [allM, Option.bind_eq_some_iff, Option.map_eq_some_iff] at h1
    obtain ⟨s, hs, ss, hss, rfl⟩ := h1
    simp only [allM, Option.bind_eq_some_iff, Option.map_eq_some_iff] at h2
    obtain ⟨c, hc, cs, hcs, rfl⟩ := h2
    obtain ⟨g1, g2⟩ := closes_rel h hrd hss hcs
    refine ⟨RelL.cons (close_rel h hrd (h.ctx.opd hs) hc) g1, fun hall => ?_⟩
    simp only [List.all_cons, Bool.and_eq_true] at hall
    refine RelL.cons ?_ (g2 hall.2)
    have hr := h.ctx.opd hs
    generalize so G st.fr s = q at hr hc hall
    cases q <;> simp [isC] at hall
    simp only [close, Option.some.injEq] at hc
    subst hc
    exact hr

theorem glob_M0 {G : Nat → List CV} (h : SR P G w0 M0 n st a w z) : ∀ i, G i ≠ [] → RelC w M0 (.rp (G i)) (.pointer (some ⟨i, 0, none⟩)) := fun i hi =>
  RelC.keep ⟨h.below.size, fun g hg _ => h.below.block g hg, fun _ _ hm => hm⟩ _ _ (h.glob i hi)

/-- What a call leaves. -/
theorem call_sound (hE : EOk P E) (h : SR P E.G w0 M0 n st a w z) {d : Option Nat} (hd : ∀ j, d = some j → j < n) {f : FuncId} {l : List CV} {vs : List Value} {r : Res} {open_ : Bool} (hf : E.fn f l = some r)
    (h1 : RelL w M0 l vs) (h2 : open_ = false → RelL w (mutb M0 z st.ob) l vs) (hmem : open_ = true → r.memless = true) {st' : St} (hs : setRes st d r = some st') :
    Calls P f ⟨vs⟩ w fun e w' => ∃ v, e = .returned v ∧ ∃ z', SR P E.G w0 M0 n st' (a.put d v) w' z' := by
  obtain ⟨_, hc⟩ := hE f l r hf
  cases open_ with
  | true =>
    have hm := hmem rfl
    refine (hc w M0 vs h.outerW (glob_M0 h) h1).mono fun e w' ⟨v, he, hb, hr⟩ => ⟨v, he, ?_⟩
    have hg := h.grow hb
    cases r with
    | val c =>
      simp only [setRes, Option.some.injEq] at hs
      subst hs
      exact ⟨z, hg.put hd (memless_any c v hm hr)⟩
    | new o =>
      obtain ⟨hh, hv, ho⟩ := hr
      simp only [setRes, addNew] at hs
      cases d with
      | none => cases hs
      | some d =>
        simp only at hs
        split at hs <;> try (cases hs; done)
        rename_i hn
        simp only [Option.some.injEq, Option.getD_some] at hs
        subst hs
        refine ⟨z.new d v, h.new (hd d rfl) hn hb hv (RelO_memless h.below.size hm (fun k b hh => by simp [Cz.new] at hh) ho) ?_⟩
        cases o <;> simp [handy] at hh <;> exact ⟨live_upd (by simp), new_σ.symm⟩
  | false =>
    refine (hc w (mutb M0 z st.ob) vs h.mutW h.ctx.glob (h2 rfl)).mono fun e w' ⟨v, he, hb, hr⟩ => ⟨v, he, ?_⟩
    have hg := h.grow hb
    cases r with
    | val c =>
      simp only [setRes, Option.some.injEq] at hs
      subst hs
      exact ⟨z, hg.put hd hr⟩
    | new o =>
      obtain ⟨hh, hv, ho⟩ := hr
      simp only [setRes, addNew] at hs
      cases d with
      | none => cases hs
      | some d =>
        simp only at hs
        split at hs <;> try (cases hs; done)
        rename_i hn
        simp only [Option.some.injEq, Option.getD_some] at hs
        subst hs
        refine ⟨z.new d v, h.new (hd d rfl) hn hb hv (RelO_marks h.below.size hh (fun g _ hg => ?_) (fun k b hh => by simp [Cz.new] at hh) ho) ?_⟩
        · rcases hg with hg | ⟨id, hl, hb'⟩
          · exact .inl (.inl hg)
          · by_cases hid : id = d
            · subst hid
              rw [new_σ] at hb'
              exact .inr hb'
            · rw [upd_ne _ _ hid] at hl
              exact .inl (.inr ⟨id, hl, by simpa [Cz.new, upd, hid] using hb'⟩)
        · cases o <;> simp [handy] at hh <;> exact ⟨live_upd (by simp), new_σ.symm⟩
end
end WB
