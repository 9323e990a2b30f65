/-
  THE OWN LAYER, Q: appends; maps turn.
-/
import Derived.Test.YtpkoilfecgmogaaCoreP
namespace WB
open Go Go.RowKit

section
variable {P : Program} {G : Nat → List CV} {w0 : World} {M0 : Nat → Prop} {n : Nat} {st : St} {a : Act} {w w' : World} {z : Cz}

theorem RelE_flat {M : Nat → Prop} {ad : Addr} {size : Nat} : ∀ {i : Nat} {es : List CV}, RelE w M ad size i es → ∃ xs, RelF w M size es xs ∧ ∀ (j : Nat) u, xs[j]? = some u → w.cell? (ad.add (i * size + j)) = some u
  | i, [], _ => ⟨[], rfl, fun j u hu => by simp at hu⟩
  | i, e :: es, h => by
    unfold RelE at h
    obtain ⟨⟨v, h1, h2, h3⟩, h4⟩ := h
    obtain ⟨xs, g1, g2⟩ := RelE_flat h4
    refine ⟨v.cells.toList ++ xs, ⟨v, xs, rfl, h2, h1, g1⟩, fun j u hu => ?_⟩
    have hl : v.cells.toList.length = size := by simpa using h2
    by_cases hj : j < size
    · rw [List.getElem?_append_left (by omega)] at hu
      exact h3 j u (by simpa using hu)
    · rw [List.getElem?_append_right (by omega), hl] at hu
      have := g2 _ u hu
      rw [show (i + 1) * size + (j - size) = i * size + j by rw [Nat.add_mul]; omega] at this
      exact this

theorem RelF_one {M : Nat → Prop} {size : Nat} : ∀ {es : List CV} {xs : List Value}, RelF w M size es xs → (es.all fun v => v.cells.all oneC) = true → ∀ u ∈ xs, u.oneCell' = true
  | [], xs, h, _, u, hu => by unfold RelF at h; subst h; cases hu
  | e :: es, xs, h, h1, u, hu => by
    obtain ⟨v, xs', rfl, g1, g2, g3⟩ := h
    simp only [List.all_cons, Bool.and_eq_true] at h1
    rcases List.mem_append.1 hu with hu | hu
    · exact oneC_cells (RelC.cells g2) h1.1 u hu
    · exact RelF_one g3 h1.2 u hu

/-- What an append brings, as it lies in memory. -/
theorem news_run (h : SR P G w0 M0 n st a w z) {s : SV} {v : Value} (hs : RelS w (mutb M0 z st.ob) z st.ob s v) {news : List CV} (hn : newsOf st s = some news) {size : Nat} (hsz : (news.all fun v => cellsN v == size) = true) :
    ∃ A c xs, v = .slice A news.length c ∧ RelF w (mutb M0 z st.ob) size news xs ∧ (A = none → news = []) ∧ ∀ ad, A = some ad → ∀ (j : Nat) u, xs[j]? = some u → w.cell? (ad.add j) = some u := by
  cases s <;> try (simp only [newsOf, reduceCtorEq] at hn; done)
  · rename_i cv
    cases cv <;> try (simp only [newsOf, reduceCtorEq] at hn; done)
    rename_i nl es
    simp only [newsOf, Option.some.injEq] at hn
    subst hn
    unfold RelS RelC at hs
    obtain ⟨A, len, c, e1, e2, _, _, _, e3, e4⟩ := hs
    subst e2
    by_cases hes : es = []
    · subst hes
      exact ⟨A, c, [], e1, rfl, fun _ => rfl, fun ad _ j u hu => by simp at hu⟩
    · obtain ⟨ad, size', e5, _, _, hE⟩ := e4 hes
      subst e5
      obtain ⟨xs, g1, g2⟩ := RelE_flat hE
      have hss : size' = size := by
        cases es with
        | nil => exact absurd rfl hes
        | cons e es =>
          obtain ⟨v, xs', _, k1, k2, _⟩ := g1
          simp only [List.all_cons, Bool.and_eq_true, beq_iff_eq] at hsz
          rw [← k1, k2.cells_size, hsz.1]
      subst hss
      refine ⟨some ad, c, xs, e1, g1, (fun hh => by cases hh), fun ad' hh j u hu => ?_⟩
      cases hh
      have := g2 j u hu
      simpa using this
  · rename_i id
    obtain ⟨hlive, e1⟩ := hs
    have ho := h.ob id
    simp only [newsOf] at hn
    cases hob : st.ob id <;> simp only [hob, reduceCtorEq, Option.some.injEq] at hn
    rename_i et sz es
    subst hn
    rw [hob] at ho
    obtain ⟨xs, hown, hf⟩ := ho
    have hss : es = [] ∨ sz = size := by
      cases es with
      | nil => exact .inl rfl
      | cons e es =>
        obtain ⟨v, xs', _, k1, k2, _⟩ := hf
        simp only [List.all_cons, Bool.and_eq_true, beq_iff_eq] at hsz
        exact .inr (by rw [← k1, k2.cells_size, hsz.1])
    rcases hss with rfl | rfl
    · have : xs = [] := by unfold RelF at hf; exact hf
      subst this
      rcases hown.2 with ⟨e2, _⟩ | ⟨g, cap, cur, e2, _⟩
      · exact ⟨none, 0, [], by rw [e1, e2]; rfl, rfl, fun _ => rfl, fun ad _ j u hu => by simp at hu⟩
      · exact ⟨_, cap, [], by rw [e1, e2], rfl, fun _ => rfl, fun ad _ j u hu => by simp at hu⟩
    · rcases Nat.eq_zero_or_pos es.length with h0 | h0
      · have : es = [] := List.eq_nil_of_length_eq_zero h0
        subst this
        have : xs = [] := by unfold RelF at hf; exact hf
        subst this
        rcases hown.2 with ⟨e2, _⟩ | ⟨g, cap, cur, e2, _⟩
        · exact ⟨none, 0, [], by rw [e1, e2]; rfl, rfl, fun _ => rfl, fun ad _ j u hu => by simp at hu⟩
        · exact ⟨_, cap, [], by rw [e1, e2], rfl, fun _ => rfl, fun ad _ j u hu => by simp at hu⟩
      · obtain ⟨g, cap, cur, e2, _, hc⟩ := own_form hown h0
        refine ⟨some ⟨g, 0, none⟩, cap, xs, by rw [e1, e2], hf, (fun hh => by cases hh), fun ad hh j u hu => ?_⟩
        cases hh
        rw [addr_add]
        simpa using hc j u hu

theorem run_append_of_nil (base : Nat) (t ty e : TypeId) (i : TypeInfo) (size : Nat) (ht : P.underlying t = some (.slice e)) (hi : P.info? e = some i)
    (v : Value) (n : Nat) (xs : List Value) (hown : w.ownsRow base e size v n xs) (c : Nat) : (Builtin.append_ #[t, t] ty #[v, .slice none 0 c]).run P w = .ok v w := by
  rcases hown.2 with ⟨rfl, rfl⟩ | ⟨g, cap, cur, rfl, _, _, hnc, _⟩
  · simp [Builtin.append_, run_underlying ht, Go.sizeOf, typeInfo, hi, Builtin.lenOf, Builtin.firstCells]
  · simp [Builtin.append_, run_underlying ht, Go.sizeOf, typeInfo, hi, Builtin.lenOf, Builtin.firstCells, hnc, storeCells]

theorem own_blk {v : Value} {B e size n : Nat} {xs : List Value} (h : w.ownsRow B e size v n xs) : v.ownBlock = blk v := by
  rcases h.2 with ⟨rfl, _⟩ | ⟨g, cap, cur, rfl, _⟩ <;> rfl

theorem run_append_any (base : Nat) (t ty e : TypeId) (i : TypeInfo) (zv : Value) (ht : P.underlying t = some (.slice e)) (hi : P.info? e = some i) (hz : i.zero = some zv)
    (hzs : zv.cells.size = i.size) (hsz : 0 < i.size) (v : Value) (n : Nat) (xs : List Value) (hown : w.ownsRow base e i.size v n xs)
    (A : Option Addr) (m c : Nat) (news : List Value) (hnl : news.length = m * i.size) (hA : A = none → m = 0) (hc : ∀ ad, A = some ad → ∀ (j : Nat) u, news[j]? = some u → w.cell? (ad.add j) = some u) (h1 : ∀ u ∈ news, u.oneCell' = true)
    (h63 : n + m ≤ maxLen) (hbytes : (n + m) * i.bytes ≤ 140737488355328) (hbase : base ≤ w.heap.size) :
    ∃ v' w', (Builtin.append_ #[t, t] ty #[v, .slice A m c]).run P w = .ok v' w' ∧ w'.ownsRow base e i.size v' (n + m) (xs ++ news) ∧ w.grownBy w' (blk v) ∧
      (blk v' = blk v ∨ blk v' = some w.heap.size) := by
  cases A with
  | none =>
    have hm := hA rfl
    subst hm
    have hn : news = [] := List.eq_nil_of_length_eq_zero (by simpa using hnl)
    subst hn
    exact ⟨v, w, run_append_of_nil base t ty e i i.size ht hi v n xs hown c, by simpa using hown, World.grownBy.refl w _, .inl rfl⟩
  | some ad =>
    obtain ⟨v', w', hrun, h2, h3, _, h5⟩ := run_append_own_at (P := P) w base t ty e i zv i.size i.bytes ht hi hz rfl rfl hzs hsz v n xs hown ad m c news hnl (hc ad rfl) h1 h63 hbytes hbase
    rw [own_blk hown] at h3 h5
    rw [own_blk h2] at h5
    exact ⟨v', w', hrun, h2, h3, h5⟩

theorem eff_append (h : SR P G w0 M0 n st a w z) {o : Oper} {t e : TypeId} {i : TypeInfo} {zv : Value} {x y : Operand} {args : Array Operand} {argTypes : Array TypeId} (ho : o.op = .call { callee := .builtin .append, args := args, argTypes := argTypes })
    (hargs : args.toList = [x, y]) (hat : argTypes.toList = [t, t]) (ht : P.underlying t = some (.slice e)) (hi : P.info? e = some i) (hz : i.zero = some zv) (hzs : zv.cells.size = i.size) (hsz : 0 < i.size)
    (hd : ∀ j, o.dst = some j → j < n) {sx sy : SO} (hx : compO x = some sx) (hy : compO y = some sy) {st' : St} (hv : effOp o.dst (so G st.fr) st (.append e i.size i.bytes sx sy) = some st') : Turns P G w0 M0 n st' a w o := by
  have hr := h.ctx.opd hx
  have hr2 := h.ctx.opd hy
  simp only [effOp] at hv
  generalize so G st.fr sx = q at hr hv
  generalize so G st.fr sy = q2 at hr2 hv
  cases hnews : newsOf st q2 with
  | none => rw [hnews] at hv; cases hv
  | some news =>
    rw [hnews] at hv
    simp only [Option.ite_none_right_eq_some, Bool.and_eq_true] at hv
    obtain ⟨⟨hall, hone⟩, hv⟩ := hv
    obtain ⟨A, c, xs2, e1, hf2, hA, hcells⟩ := news_run h hr2 hnews hall
    have hx2l := RelF_length hf2
    have hone' := RelF_one hf2 hone
    have fin : ∀ {v' w' z'}, (Builtin.append_ #[t, t] o.type #[a.eval x, a.eval y]).run P w = .ok v' w' → SR P G w0 M0 n st' (a.put o.dst v') w' z' → Turns P G w0 M0 n st' a w o := by
      intro v' w' z' hrun hS
      refine .inl ⟨v', w', z', ?_, hS⟩
      obtain ⟨al⟩ := args
      obtain ⟨tl⟩ := argTypes
      simp only at hargs hat
      subst hargs; subst hat
      simp [execOp, ho, resolve, invoke, builtin, hrun]
    cases q <;> try (simp only [reduceCtorEq] at hv; done)
    · -- nil
      rename_i cv
      cases cv <;> try (simp only [reduceCtorEq] at hv; done)
      rename_i nl es
      cases nl <;> try (simp only [reduceCtorEq] at hv; done)
      rename_i b
      cases b <;> try (simp only [reduceCtorEq] at hv; done)
      simp only [Option.ite_none_right_eq_some] at hv
      obtain ⟨⟨hb1, hb2⟩, hv⟩ := hv
      cases hod : o.dst with
      | none => rw [hod] at hv; cases hv
      | some d =>
        rw [hod] at hv
        simp only [Option.some.injEq] at hv
        subst hv
        unfold RelS RelC at hr
        obtain ⟨A', len, c', e2, e3, _, e4, _, e5, e6⟩ := hr
        have hA' := e4 rfl
        subst hA'
        have hes : es = [] := by
          cases es with
          | nil => rfl
          | cons e es => obtain ⟨ad, size, hh, _⟩ := e6 (by simp); cases hh
        subst hes
        have hc0 := e5 rfl
        subst hc0
        subst e3
        have hk := h.killed [d]
        have hown0 : w.ownsRow w0.heap.size e i.size (.slice none 0 0) 0 [] := ⟨by simp, .inl ⟨rfl, rfl⟩⟩
        obtain ⟨v', w', hrun, h2, h3, h4⟩ := run_append_any (P := P) w0.heap.size t o.type e i zv ht hi hz hzs hsz (.slice none 0 0) 0 [] hown0 A news.length c xs2 hx2l (fun hh => by simp [hA hh]) hcells hone' (by unfold maxLen; omega) (by simpa using hb1) h.below.size
        rw [e2, e1] at fin
        refine fin (z' := z.new d v') hrun ?_
        rw [hod]
        have hgb : Below w.heap.size w w' := ⟨h3.os, h3.tape, h3.output, h3.size, fun k hk => h3.block k hk (by simp [blk])⟩
        have hnone : (kill [d] st).ob d = .none := by simp [kill]
        have hlt : ∀ g, blk v' = some g → w.heap.size ≤ g ∧ g < w'.heap.size := by
          intro g hg
          rcases h4 with h4 | h4
          · rw [h4] at hg; simp [blk] at hg
          · rw [hg] at h4
            simp only [Option.some.injEq] at h4
            subst h4
            rcases h2.2 with ⟨e7, _⟩ | ⟨g', cap, cur, e7, _, e8, _⟩
            · rw [e7] at hg; simp [blk] at hg
            · rw [e7] at hg
              simp only [blk, Option.some.injEq] at hg
              exact ⟨Nat.le_refl _, by rw [← hg]; exact heap_lt e8⟩
        have kn := keeps_new (M0 := M0) (z := z) (o := .arr e i.size news) hnone hgb (fun g hg => (hlt g hg).1)
        have hkk : Keeps w (mutb M0 z st.ob) w (mutb M0 z (kill [d] st).ob) := ⟨Nat.le_refl _, fun _ _ _ => rfl, fun g _ hg => hg.imp id own_kill⟩
        exact hk.new (hd d hod) hnone hgb hlt ⟨xs2, by simpa using h2, RelF.keep kn (RelF.keep hkk hf2)⟩ ⟨live_upd (by simp), new_σ.symm⟩
    · -- the call's own
      rename_i id
      obtain ⟨hlive, e2⟩ := hr
      have ho' := h.ob id
      cases hob : st.ob id <;> simp only [hob, reduceCtorEq] at hv
      rename_i et sz es
      simp only [Option.ite_none_right_eq_some, Option.some.injEq] at hv
      obtain ⟨⟨rfl, rfl, hb1, hb2⟩, rfl⟩ := hv
      rw [hob] at ho'
      obtain ⟨xs, hown, hf⟩ := ho'
      obtain ⟨v', w', hrun, h2, h3, h4⟩ := run_append_any (P := P) w0.heap.size t o.type et i zv ht hi hz hzs hsz (z.σ id) es.length xs hown A news.length c xs2 hx2l (fun hh => by simp [hA hh]) hcells hone' (by unfold maxLen; omega) hb1 h.below.size
      rw [e2, e1] at fin
      refine fin (z' := z.new id v') hrun ?_
      have hlt : ∀ g, blk v' = some g → blk (z.σ id) = some g ∨ (w.heap.size ≤ g ∧ g < w'.heap.size) := by
        intro g hg
        rcases h4 with h4 | h4
        · exact .inl (h4 ▸ hg)
        · rw [hg] at h4
          simp only [Option.some.injEq] at h4
          subst h4
          rcases h2.2 with ⟨e7, _⟩ | ⟨g', cap, cur, e7, _, e8, _⟩
          · rw [e7] at hg; simp [blk] at hg
          · rw [e7] at hg
            simp only [blk, Option.some.injEq] at hg
            exact .inr ⟨Nat.le_refl _, by rw [← hg]; exact heap_lt e8⟩
      have hS := h.renew (o' := .arr et i.size (es ++ news)) hlive h3 hlt fun hk => ⟨xs ++ xs2, by simpa using h2, RelF.keep hk (RelF_append hf hf2)⟩
      exact hS.put hd ⟨by simp [upd_same], new_σ.symm⟩
end
end WB
