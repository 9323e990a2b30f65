/-
  THE OWN LAYER, H: whatever yields a value in the layer yields it in the model.
-/
import Derived.Test.YtpkoilfecgmogaaCoreG
namespace WB
open Go Go.RowKit

structure Ctx (P : Program) (G : Nat → List CV) (w : World) (M : Nat → Prop) (B : Nat) (z : Cz) (ob : Nat → Ob) (fr : Nat → SV) (a : Act) : Prop where
  fr : ∀ i, RelS w M z ob (fr i) (a.tmps.getD i undef)
  glob : ∀ i, G i ≠ [] → RelC w M (.rp (G i)) (.pointer (some ⟨i, 0, none⟩))
  ob : ∀ id, RelO P w M B z ob id (z.σ id) (ob id)

/-- The operation yields a value that stands for sv. -/
def Yes (P : Program) (w : World) (M : Nat → Prop) (z : Cz) (ob : Nat → Ob) (a : Act) (o : Oper) (sv : SV) : Prop :=
  ∃ v, (execOp a.eval o).run P w = .ok (.value v) w ∧ RelS w M z ob sv v

section
variable {G : Nat → List CV} {P : Program} {w : World} {M : Nat → Prop} {B : Nat} {z : Cz} {ob rd : Nat → Ob} {fr : Nat → SV} {a : Act} {o : Oper}

theorem Ctx.opd (h : Ctx P G w M B z ob fr a) {x : Operand} {sx : SO} (hx : compO x = some sx) : RelS w M z ob (so G fr sx) (a.eval x) := WB.opd h.fr h.glob hx
theorem Ctx.c (h : Ctx P G w M B z ob fr a) {x : Operand} {sx : SO} (hx : compO x = some sx) {c : CV} (hc : so G fr sx = .c c) : RelC w M c (a.eval x) := WB.opd_c h.fr h.glob hx hc
theorem Ctx.int (h : Ctx P G w M B z ob fr a) {x : Operand} {sx : SO} (hx : compO x = some sx) {k : IntKind} {n : Int} (hc : so G fr sx = .c (.int k n)) : a.eval x = .int k n := of_int (h.c hx hc)

theorem szOf_pos {t : TypeId} {s : Option Nat} (h : szOf P t = some s) : ∃ i, P.info? t = some i ∧ (∀ n, s = some n → i.size = n) ∧ (s = none → i.size = 1) := by
  unfold szOf at h
  cases hu : P.underlying t with
  | none => rw [hu] at h; cases hi : P.info? t <;> rw [hi] at h <;> simp at h
  | some d =>
    cases hi : P.info? t with
    | none => rw [hu, hi] at h; cases d <;> simp at h
    | some i =>
      rw [hu, hi] at h
      refine ⟨i, rfl, ?_, ?_⟩
      · intro n hn
        subst hn
        cases d <;> simp only [Option.some.injEq] at h <;> first
          | exact h
          | (split at h <;> simp at h)
      · intro hn
        subst hn
        cases d <;> simp only [Option.some.injEq, reduceCtorEq] at h <;> first
          | (split at h <;> first | assumption | cases h)

/-- A part of plain cells. -/
theorem run_part {t : TypeId} {s : Option Nat} (hs : szOf P t = some s) {cs : List CV} {vs : List Value} (hl : RelL w M cs vs) {off : Nat} {c : CV} (h : partC cs off s = some c) :
    ∃ v, (part t ⟨vs⟩ off).run P w = .ok v w ∧ RelC w M c v := by
  have ha := run_isAgg_some hs w
  obtain ⟨i, hi, h1, _⟩ := szOf_pos hs
  cases s with
  | none =>
    simp only [partC] at h
    obtain ⟨v, hv, hr⟩ := RelL.get hl h
    exact ⟨v, by simp [part, ha, hv], hr⟩
  | some n =>
    simp only [partC, Option.ite_none_right_eq_some, Option.some.injEq] at h
    obtain ⟨hle, rfl⟩ := h
    have hn := h1 n rfl
    refine ⟨.agg ⟨(vs.drop off).take n⟩, ?_, by unfold RelC; exact ⟨_, rfl, (hl.drop off).take n⟩⟩
    simp [part, ha, run_sizeOf_some hi, hn]

/-- A variable is loaded whose cells are plain. -/
theorem run_load_cells {t : TypeId} {s : Option Nat} (hs : szOf P t = some s) {cs : List CV} {vs : List Value} (hl : RelL w M cs vs) {ad : Addr} (hc : ∀ (j : Nat) u, vs[j]? = some u → w.cell? (ad.add j) = some u)
    {off : Nat} {c : CV} (h : partC cs off s = some c) : ∃ v, (loadVar t (ad.add off)).run P w = .ok v w ∧ RelC w M c v := by
  cases s with
  | none =>
    simp only [partC] at h
    obtain ⟨v, hv, hr⟩ := RelL.get hl h
    exact ⟨v, (run_loadVar_l hs (ad.add off)).2 v rfl (hc off v hv), hr⟩
  | some n =>
    simp only [partC, Option.ite_none_right_eq_some, Option.some.injEq] at h
    obtain ⟨hle, rfl⟩ := h
    have hlen := RelL.length hl
    refine ⟨.agg ⟨(vs.drop off).take n⟩, (run_loadVar_l hs (ad.add off)).1 n _ rfl (by simp; omega) fun j u hu => ?_, by unfold RelC; exact ⟨_, rfl, (hl.drop off).take n⟩⟩
    rw [add_add]
    refine hc _ u ?_
    rw [List.getElem?_take] at hu
    split at hu
    · rw [List.getElem?_drop] at hu; exact hu
    · cases hu

theorem guard_ok (op : BinOp) (t : TypeId) (x y : Operand) {va vb : Value} (h : (∀ cs, va ≠ .agg cs) ∧ va ≠ .nilIface) : (eqGuard op t x y va vb).run P w = .ok () w := by
  unfold eqGuard
  cases op <;> simp
  all_goals
    cases va <;> first | exact absurd rfl (h.1 _) | exact absurd rfl h.2 | rfl

theorem idxOf_some {n : Int} {len i : Nat} (h : idxOf n len = some i) : 0 ≤ n ∧ n < len ∧ i = n.toNat := by
  unfold idxOf at h
  split at h
  · rename_i hh
    simp only [Option.some.injEq] at h
    exact ⟨hh.1, hh.2, h.symm⟩
  · cases h

theorem yes_pure {v : Value} {sv : SV} (he : execOp a.eval o = (do pure (.value (← (pure v : Sem Value))) : Sem Next)) (hr : RelS w M z ob sv v) : Yes P w M z ob a o sv :=
  ⟨v, by rw [he]; rfl, hr⟩

theorem own_form {B : Nat} {e size n : Nat} {v : Value} {xs : List Value} (h : w.ownsRow B e size v n xs) (hn : 0 < n) :
    ∃ g cap cur, v = .slice (some ⟨g, 0, none⟩) n cap ∧ w.heap[g]? = some (.cells cur e (0, 0)) ∧ (∀ (j : Nat) u, xs[j]? = some u → w.cell? ⟨g, j, none⟩ = some u) := by
  rcases h.2 with h2 | ⟨g, cap, cur, e1, _, e3, _, _, _, e6⟩
  · omega
  · refine ⟨g, cap, cur, e1, e3, fun j u hu => ?_⟩
    rw [cell_of_row w g j cur e (0, 0) e3]
    rw [← e6, List.getElem?_take] at hu
    split at hu
    · simpa using hu
    · cases hu

theorem val_load (h : Ctx P G w M B z ob fr a) (hrd : ∀ id, rd id = .none ∨ rd id = ob id) {t : TypeId} {x : Operand} {s : Option Nat} {sx : SO} (hs : szOf P t = some s) (hx : compO x = some sx) {sv : SV}
    (hv : loadV rd s (so G fr sx) = some sv) : ∃ v, (Instr.loadAt t (a.eval x)).run P w = .ok v w ∧ RelS w M z ob sv v := by
  have hr := h.opd hx
  generalize so G fr sx = q at hr hv
  cases q <;> try (simp only [loadV, reduceCtorEq] at hv; done)
  case c cv =>
    cases cv <;> try (simp only [loadV, reduceCtorEq] at hv; done)
    rename_i cs
    unfold RelS RelC at hr
    obtain ⟨ad, vs, e, _, _, hl, hc⟩ := hr
    have hv' : (partC cs 0 s).map SV.c = some sv := by
      cases s <;> exact hv
    simp only [Option.map_eq_some_iff] at hv'
    obtain ⟨c, hc', rfl⟩ := hv'
    obtain ⟨v, h1, h2⟩ := run_load_cells (P := P) hs hl hc hc'
    rw [add_zero] at h1
    exact ⟨v, by simp [Instr.loadAt, Instr.sureAddr, e, h1], h2⟩
  case ptr id o =>
    obtain ⟨hlive, g, e1, e2⟩ := hr
    have ho := h.ob id
    rcases hrd id with e | e
    · simp only [loadV, e, reduceCtorEq] at hv
    · simp only [loadV, e] at hv
      cases hob : ob id <;> rw [hob] at hv <;> try (simp only [reduceCtorEq] at hv; done)
      rename_i cs
      rw [hob] at ho
      obtain ⟨g', ty, vs, e3, e4, hs'⟩ := ho
      rw [e1] at e3
      simp only [Value.pointer.injEq, Option.some.injEq, Addr.mk.injEq, and_true] at e3
      subst e3
      have hcell : ∀ j, w.cell? ((⟨g, o, none⟩ : Addr).add j) = vs[o + j]? := fun j => by rw [addr_add, cell_at e4]
      cases s with
      | none =>
        obtain ⟨v, h1, h2⟩ := RelSs.get hs' hv
        refine ⟨v, ?_, h2⟩
        have := (run_loadVar_l (w := w) hs ⟨g, o, none⟩).2 v rfl (by rw [cell_at e4]; exact h1)
        simp [Instr.loadAt, Instr.sureAddr, e2, this]
      | some n =>
        simp only [Option.ite_none_right_eq_some, Option.map_eq_some_iff] at hv
        obtain ⟨hle, l, hl, rfl⟩ := hv
        have hlen := RelSs.length hs'
        have hl' := RelSs.closed ((hs'.drop o).take n) hl
        refine ⟨.agg ⟨(vs.drop o).take n⟩, ?_, by show RelC _ _ _ _; unfold RelC; exact ⟨_, rfl, hl'⟩⟩
        have := (run_loadVar_l (w := w) hs ⟨g, o, none⟩).1 n ((vs.drop o).take n) rfl (by simp; omega) fun j u hu => by
          rw [hcell]
          rw [List.getElem?_take] at hu
          split at hu
          · rw [List.getElem?_drop] at hu; exact hu
          · cases hu
        simp [Instr.loadAt, Instr.sureAddr, e2, this]
  case eptr id i size o =>
    obtain ⟨hlive, g, n, c, e1, e2⟩ := hr
    have ho := h.ob id
    rcases hrd id with e | e
    · simp only [loadV, e, reduceCtorEq] at hv
    · simp only [loadV, e] at hv
      cases hob : ob id <;> rw [hob] at hv <;> try (simp only [reduceCtorEq] at hv; done)
      rename_i et sz es
      rw [hob] at ho
      obtain ⟨xs, hown, hf⟩ := ho
      simp only [Option.ite_none_right_eq_some, Option.bind_eq_some_iff, Option.map_eq_some_iff] at hv
      obtain ⟨rfl, el, hel, cv, hcv, rfl⟩ := hv
      obtain ⟨v, hv1, hv2, hv3⟩ := RelF_get hf hel
      have hpos : 0 < es.length := by have := (List.getElem?_eq_some_iff.1 hel).1; omega
      obtain ⟨g', cap, cur, e3, _, hcells⟩ := own_form hown hpos
      rw [e1] at e3
      simp only [Value.slice.injEq, Option.some.injEq, Addr.mk.injEq, and_true] at e3
      obtain ⟨rfl, _⟩ := e3
      have hcl : RelL w M el.cells v.cells.toList := RelC.cells hv1
      have hpart : partC el.cells o s = some cv := by
        cases el <;> exact hcv
      have hcc : ∀ (j : Nat) u, v.cells.toList[j]? = some u → w.cell? ((⟨g, i * size, none⟩ : Addr).add j) = some u := fun j u hu => by
        rw [addr_add]
        exact hcells _ _ (hv3 j u (by simpa using hu))
      obtain ⟨u, h1, h2⟩ := run_load_cells (P := P) hs hcl hcc hpart
      rw [addr_add] at h1
      exact ⟨u, by simp [Instr.loadAt, Instr.sureAddr, e2, h1], h2⟩
end
end WB
