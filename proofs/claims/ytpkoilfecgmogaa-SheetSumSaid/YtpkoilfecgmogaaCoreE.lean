/-
  THE OWN LAYER, E: operations that yield a value.
-/
import Derived.Test.YtpkoilfecgmogaaCoreD
namespace WB
open Go Go.RowKit

theorem allM_length {α β : Type} {f : α → Option β} : ∀ {l : List α} {r : List β}, allM f l = some r → r.length = l.length
  | [], r, h => by simp only [allM, Option.some.injEq] at h; subst h; rfl
  | a :: as, r, h => by
    simp only [allM, Option.bind_eq_some_iff, Option.map_eq_some_iff] at h
    obtain ⟨b, _, bs, h2, rfl⟩ := h
    simp [allM_length h2]
theorem allM_get {α β : Type} {f : α → Option β} : ∀ {l : List α} {r : List β} {i : Nat} {a : α}, allM f l = some r → l[i]? = some a → ∃ b, r[i]? = some b ∧ f a = some b
  | [], _, _, _, _, hi => by simp at hi
  | x :: xs, r, i, a, h, hi => by
    simp only [allM, Option.bind_eq_some_iff, Option.map_eq_some_iff] at h
    obtain ⟨b, hb, bs, h2, rfl⟩ := h
    cases i with
    | zero => simp at hi; subst hi; exact ⟨b, rfl, hb⟩
    | succ i => simp only [List.getElem?_cons_succ] at hi ⊢; exact allM_get h2 hi

theorem oneCell_of_RelC {w : World} {M : Nat → Prop} {c : CV} {v : Value} (h : RelC w M c v) (hc : ∀ cs, c ≠ .agg cs) : v.cells = #[v] := by
  cases c <;> unfold RelC at h <;> first
    | (subst h; rfl)
    | (obtain ⟨_, _, rfl⟩ := h; rfl)
    | (exact absurd rfl (hc _))
    | (obtain ⟨_, _, _, rfl, _⟩ := h; rfl)
    | (obtain ⟨_, rfl, _⟩ := h; rfl)
    | (obtain ⟨_, _, rfl, _⟩ := h; rfl)

theorem RelC.cells_size {w : World} {M : Nat → Prop} {c : CV} {v : Value} (h : RelC w M c v) : v.cells.size = cellsN c := by
  have := (RelC.cells h).length
  rw [Array.length_toList] at this
  rw [this]
  cases c <;> rfl

section
variable {G : Nat → List CV} {P : Program} {w : World} {M : Nat → Prop} {B : Nat} {z : Cz} {ob rd : Nat → Ob} {fr : Nat → SV} {a : Act}

theorem run_isAgg_some {t : TypeId} {s : Option Nat} (h : szOf P t = some s) (w : World) : (isAgg t).run P w = .ok s.isSome w := by
  unfold szOf at h
  have hd : ∃ d, P.underlying t = some d := by
    cases hu : P.underlying t with
    | none => rw [hu] at h; cases hi : P.info? t <;> rw [hi] at h <;> simp at h
    | some d => exact ⟨d, rfl⟩
  obtain ⟨d, hu⟩ := hd
  simp only [isAgg, Sem.run_bind, run_underlying hu, Result.andThen_ok]
  rw [hu] at h
  cases hi : P.info? t with
  | none => rw [hi] at h; cases d <;> simp at h
  | some i =>
    rw [hi] at h
    cases d <;> simp only [] at h <;> first
      | (simp only [Option.some.injEq] at h; subst h; rfl)
      | (split at h <;> first | (simp only [Option.some.injEq] at h; subst h; rfl) | cases h)

theorem run_sizeOf_some {t : TypeId} {i : TypeInfo} (h : P.info? t = some i) (w : World) : (Go.sizeOf t).run P w = .ok i.size w := by
  simp [Go.sizeOf, typeInfo, h]

theorem run_loadCells_l (ad : Addr) (vs : List Value) (h : ∀ (j : Nat) u, vs[j]? = some u → w.cell? (ad.add j) = some u) :
    (loadCells ad vs.length).run P w = .ok ⟨vs⟩ w := by
  have := run_loadCells_list (P := P) (w := w) ad vs h
  simpa using this

/-- A variable is loaded, whose cells are known. -/
theorem run_loadVar_l {t : TypeId} {s : Option Nat} (h : szOf P t = some s) (ad : Addr) :
    (∀ n (vs : List Value), s = some n → vs.length = n → (∀ (j : Nat) u, vs[j]? = some u → w.cell? (ad.add j) = some u) → (loadVar t ad).run P w = .ok (.agg ⟨vs⟩) w) ∧
    (∀ u, s = none → w.cell? ad = some u → (loadVar t ad).run P w = .ok u w) := by
  have ha := run_isAgg_some h w
  constructor
  · intro n vs hs hn hc
    subst hs
    have hi : ∃ i, P.info? t = some i ∧ i.size = n := by
      unfold szOf at h
      cases hu : P.underlying t with
      | none => rw [hu] at h; cases hi : P.info? t <;> rw [hi] at h <;> simp at h
      | some d =>
        cases hi : P.info? t with
        | none => rw [hu, hi] at h; cases d <;> simp at h
        | some i =>
          rw [hu, hi] at h
          refine ⟨i, rfl, ?_⟩
          cases d <;> simp only [Option.some.injEq] at h <;> first
            | exact h
            | (split at h <;> simp at h)
    obtain ⟨i, hi, hsz⟩ := hi
    simp only [loadVar, Sem.run_bind, ha, Result.andThen_ok, Option.isSome_some, if_true, run_sizeOf_some hi, hsz]
    subst hn
    simp [run_loadCells_l ad vs hc]
  · intro u hs hc
    subst hs
    simp [loadVar, ha, hc]

variable (hfr : ∀ i, RelS w M z ob (fr i) (a.tmps.getD i undef)) (hglob : ∀ i, G i ≠ [] → RelC w M (.rp (G i)) (.pointer (some ⟨i, 0, none⟩)))
include hfr hglob

theorem opd {x : Operand} {sx : SO} (h : compO x = some sx) : RelS w M z ob (so G fr sx) (a.eval x) := by
  cases x with
  | tmp t => simp only [compO, Option.some.injEq] at h; subst h; exact hfr t
  | const v =>
    simp only [compO, Option.map_eq_some_iff] at h
    obtain ⟨c, hc, rfl⟩ := h
    exact cvOf_rel w M v c hc
  | global g =>
    simp only [compO, Option.some.injEq] at h; subst h
    have e : so G fr (.g g) = match G g with | [] => .undef | cs => .c (.rp cs) := rfl
    rw [e]
    cases hg : G g with
    | nil => trivial
    | cons c cs =>
      have := hglob g (by rw [hg]; simp)
      rw [hg] at this
      exact this
  | func f => simp only [compO, Option.some.injEq] at h; subst h; show RelC _ _ _ _; unfold RelC; exact ⟨[], rfl, RelL.nil⟩

theorem opd_c {x : Operand} {sx : SO} (h : compO x = some sx) {c : CV} (hc : so G fr sx = .c c) : RelC w M c (a.eval x) := by
  have := opd hfr hglob h
  rw [hc] at this
  exact this

/-- Closed operands, one by one. -/
theorem opds_c : ∀ {xs : List Operand} {sxs : List SO} {l : List CV}, allM compO xs = some sxs → allM (fun x => closed (so G fr x)) sxs = some l → RelL w M l (xs.map a.eval)
  | [], sxs, l, h, hl => by
    simp only [allM, Option.some.injEq] at h; subst h
    simp only [allM, Option.some.injEq] at hl; subst hl
    exact RelL.nil
  | x :: xs, sxs, l, h, hl => by
    simp only [allM, Option.bind_eq_some_iff, Option.map_eq_some_iff] at h
    obtain ⟨s, hs, ss, hss, rfl⟩ := h
    simp only [allM, Option.bind_eq_some_iff, Option.map_eq_some_iff] at hl
    obtain ⟨c, hc, cs, hcs, rfl⟩ := hl
    have e : so G fr s = .c c := by
      cases hh : so G fr s <;> rw [hh] at hc <;> simp [closed] at hc
      rw [hc]
    exact RelL.cons (opd_c hfr hglob hs e) (opds_c hss hcs)
end
end WB
