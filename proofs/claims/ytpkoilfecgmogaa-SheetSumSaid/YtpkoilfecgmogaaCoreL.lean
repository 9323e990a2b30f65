/-
  THE OWN LAYER, L: whatever yields a value.
-/
import Derived.Test.YtpkoilfecgmogaaCoreK
namespace WB
open Go Go.RowKit

section
variable {G : Nat → List CV} {P : Program} {w : World} {M : Nat → Prop} {B : Nat} {z : Cz} {ob rd : Nat → Ob} {fr : Nat → SV} {a : Act}

theorem yes_of {o : Oper} {s : Sem Value} {sv : SV} (he : execOp a.eval o = (do pure (.value (← s)) : Sem Next)) (h : ∃ v, s.run P w = .ok v w ∧ RelS w M z ob sv v) : Yes P w M z ob a o sv := by
  obtain ⟨v, h1, h2⟩ := h
  exact ⟨v, by rw [he]; simp [h1], h2⟩

theorem bin_c {op : BinOp} {x y : CV} {c : CV} (h : binC op x y = some c) : (∃ k n, x = .int k n) ∨ (∃ s, x = .str s) := by
  cases x <;> try (simp only [binC, reduceCtorEq] at h; done)
  · exact .inl ⟨_, _, rfl⟩
  · exact .inr ⟨_, rfl⟩

theorem val_bin (h : Ctx P G w M B z ob fr a) {op : BinOp} {t : TypeId} {x y : Operand} {sx sy : SO} (hx : compO x = some sx) (hy : compO y = some sy) {sv : SV} (hv : valOp rd (so G fr) (.bin op sx sy) = some sv) :
    ∃ v, (do eqGuard op t x y (a.eval x) (a.eval y); binOp op t (a.eval x) (a.eval y) : Sem Value).run P w = .ok v w ∧ RelS w M z ob sv v := by
  have hr := h.opd hx
  have hr2 := h.opd hy
  simp only [valOp] at hv
  generalize so G fr sx = q at hr hv
  generalize so G fr sy = q2 at hr2 hv
  split at hv
  · rename_i c1 c2
    simp only [Option.map_eq_some_iff] at hv
    obtain ⟨c, hc, rfl⟩ := hv
    obtain ⟨v, g1, g2⟩ := run_bin (P := P) (t := t) hr hr2 hc
    refine ⟨v, ?_, g2⟩
    have hg : (eqGuard op t x y (a.eval x) (a.eval y)).run P w = .ok () w := by
      rcases bin_c hc with ⟨k, n, rfl⟩ | ⟨s, rfl⟩
      · rw [of_int (w := w) (M := M) hr]; exact guard_ok op t x y ⟨(fun _ hh => by cases hh), (fun hh => by cases hh)⟩
      · rw [of_str (w := w) (M := M) hr]; exact guard_ok op t x y ⟨(fun _ hh => by cases hh), (fun hh => by cases hh)⟩
    simp [hg, g1]
  · cases hv

theorem val_beq (h : Ctx P G w M B z ob fr a) {op : BinOp} (hop : op = .eql ∨ op = .neq) {t : TypeId} (hu : P.underlying t = some .bool) {x y : Operand} {sx sy : SO} (hx : compO x = some sx) (hy : compO y = some sy) {sv : SV} (hv : valOp rd (so G fr) (.beq (isNeq op) sx sy) = some sv) :
    ∃ v, (do eqGuard op t x y (a.eval x) (a.eval y); binOp op t (a.eval x) (a.eval y) : Sem Value).run P w = .ok v w ∧ RelS w M z ob sv v := by
  have hr := h.opd hx
  have hr2 := h.opd hy
  simp only [valOp] at hv
  generalize so G fr sx = q at hr hv
  generalize so G fr sy = q2 at hr2 hv
  split at hv
  · rename_i b1 b2
    simp only [Option.some.injEq] at hv
    subst hv
    rw [of_bool (w := w) (M := M) hr, of_bool (w := w) (M := M) hr2]
    have hg := guard_ok (P := P) (w := w) op t x y (va := .bool b1) (vb := .bool b2) ⟨(fun _ hh => by cases hh), (fun hh => by cases hh)⟩
    have hb := run_beq (w := w) hu b1 b2
    refine ⟨_, ?_, rel_bool (w := w) (M := M)⟩
    rcases hop with rfl | rfl
    · simp [hg, hb.1, isNeq]
    · simp [hg, hb.2, isNeq]
  · cases hv

theorem val_eqs (h : Ctx P G w M B z ob fr a) {op : BinOp} (hop : op = .eql ∨ op = .neq) {t : TypeId} {fs : Array Field} (hu : P.underlying t = some (.struct fs)) (hp : P.stoodInHeld t = false) (hq : P.eqGuardType P.depth t = false)
    {ts : List KT} (hk : ktFields P 0 fs.toList = some ts) {x y : Operand} {sx sy : SO} (hx : compO x = some sx) (hy : compO y = some sy) {sv : SV} (hv : valOp rd (so G fr) (.eqs (isNeq op) ts sx sy) = some sv) :
    ∃ v, (do eqGuard op t x y (a.eval x) (a.eval y); binOp op t (a.eval x) (a.eval y) : Sem Value).run P w = .ok v w ∧ RelS w M z ob sv v := by
  have hr := h.opd hx
  have hr2 := h.opd hy
  simp only [valOp] at hv
  generalize so G fr sx = q at hr hv
  generalize so G fr sy = q2 at hr2 hv
  split at hv
  · rename_i c1 c2
    simp only [Option.map_eq_some_iff] at hv
    obtain ⟨r, hr', rfl⟩ := hv
    obtain ⟨⟨xs, e1⟩, ⟨ys, e2⟩, he⟩ := run_eqs (w := w) (M := M) hu hp hk hr hr2 hr'
    rw [e1, e2] at he ⊢
    have hg := run_eqGuard_agg (P := P) w op t x y xs ys hq
    have he' := he 9998
    refine ⟨_, ?_, rel_bool (w := w) (M := M)⟩
    rcases hop with rfl | rfl
    · simp [hg, run_eql_struct, he', isNeq]
    · simp [hg, run_neq_struct, he', isNeq]
  · cases hv

theorem val_un (h : Ctx P G w M B z ob fr a) {op : UnOp} {x : Operand} {sx : SO} (hx : compO x = some sx) {sv : SV} (hv : valOp rd (so G fr) (.un op sx) = some sv) :
    ∃ v, (Op.unary op (a.eval x)).run P w = .ok v w ∧ RelS w M z ob sv v := by
  have hr := h.opd hx
  simp only [valOp] at hv
  generalize so G fr sx = q at hr hv
  split at hv
  · simp only [Option.map_eq_some_iff] at hv
    obtain ⟨c, hc, rfl⟩ := hv
    obtain ⟨v, g1, g2⟩ := run_un (P := P) hr hc
    exact ⟨v, g1, g2⟩
  · cases hv

theorem val_field (h : Ctx P G w M B z ob fr a) {t : TypeId} {fs : Array Field} {f : Nat} {fd : Field} {s : Option Nat} (ht : P.underlying t = some (.struct fs)) (hf : fs[f]? = some fd) (hs : szOf P fd.type = some s)
    {x : Operand} {sx : SO} (hx : compO x = some sx) {sv : SV} (hv : valOp rd (so G fr) (.field fd.offset s sx) = some sv) :
    ∃ v, (Instr.field t (a.eval x) f).run P w = .ok v w ∧ RelS w M z ob sv v := by
  have hr := h.opd hx
  simp only [valOp] at hv
  generalize so G fr sx = q at hr hv
  split at hv
  · simp only [Option.map_eq_some_iff] at hv
    obtain ⟨c, hc, rfl⟩ := hv
    unfold RelS RelC at hr
    obtain ⟨vs, e1, hl⟩ := hr
    obtain ⟨v, g1, g2⟩ := run_part (P := P) hs hl hc
    exact ⟨v, by rw [e1]; simp [Instr.field, run_underlying ht, hf, asAgg, g1], g2⟩
  · cases hv

theorem val_conv (h : Ctx P G w M B z ob fr a) {src dst : TypeId} {x : Operand} {sop : SOp} (hc : compConv P src dst x = some sop) (hcls : sop.cls = .val) {sv : SV} (hv : valOp rd (so G fr) sop = some sv) :
    ∃ v, (convert src dst (a.eval x)).run P w = .ok v w ∧ RelS w M z ob sv v := by
  unfold compConv at hc
  split at hc
  · rename_i k0 k h1 h2
    simp only [Option.map_eq_some_iff] at hc
    obtain ⟨sx, hx, rfl⟩ := hc
    have hr := h.opd hx
    simp only [valOp] at hv
    generalize so G fr sx = q at hr hv
    split at hv
    · simp only [Option.some.injEq] at hv
      subst hv
      rw [of_int (w := w) (M := M) hr]
      exact ⟨_, by simp [convert, run_underlying h1, run_underlying h2, Conv.intToInt], rel_int (w := w) (M := M)⟩
    · cases hv
  · rename_i k0 h1 h2
    simp only [Option.map_eq_some_iff] at hc
    obtain ⟨sx, hx, rfl⟩ := hc
    have hr := h.opd hx
    simp only [valOp] at hv
    generalize so G fr sx = q at hr hv
    split at hv
    · simp only [Option.some.injEq] at hv
      subst hv
      rw [of_int (w := w) (M := M) hr]
      exact ⟨_, by simp [convert, run_underlying h1, run_underlying h2, Conv.intToString], rel_str (w := w) (M := M)⟩
    · cases hv
  · rename_i h1 h2
    simp only [Option.map_eq_some_iff] at hc
    obtain ⟨sx, hx, rfl⟩ := hc
    have hr := h.opd hx
    simp only [valOp] at hv
    generalize so G fr sx = q at hr hv
    split at hv
    · simp only [Option.some.injEq] at hv
      subst hv
      rw [of_str (w := w) (M := M) hr]
      exact ⟨_, by simp [convert, run_underlying h1, run_underlying h2], rel_str (w := w) (M := M)⟩
    · cases hv
  · split at hc
    · simp only [Option.map_eq_some_iff] at hc
      obtain ⟨sx, hx, rfl⟩ := hc
      cases hcls
    · cases hc
  · split at hc
    · simp only [Option.map_eq_some_iff] at hc
      obtain ⟨sx, hx, rfl⟩ := hc
      cases hv
    · cases hc
  · cases hc

theorem bin_sound (h : Ctx P G w M B z ob fr a) {op : BinOp} {t : TypeId} {x y : Operand} {sop : SOp} (hc : compBin P op t x y = some sop) {sv : SV} (hv : valOp rd (so G fr) sop = some sv) :
    ∃ v, (do eqGuard op t x y (a.eval x) (a.eval y); binOp op t (a.eval x) (a.eval y) : Sem Value).run P w = .ok v w ∧ RelS w M z ob sv v := by
  by_cases hop : op = .eql ∨ op = .neq
  · have hc' : (match P.underlying t with
      | some (.int _) | some .string => (compO x).bind fun a => (compO y).map fun b => SOp.bin op a b
      | some .bool => (compO x).bind fun a => (compO y).map fun b => .beq (isNeq op) a b
      | some (.struct fs) => if P.stoodInHeld t || P.eqGuardType P.depth t then none else
        (ktFields P 0 fs.toList).bind fun ts => (compO x).bind fun a => (compO y).map fun b => .eqs (isNeq op) ts a b
      | some d => (nilKind d y).bind fun kd => (compO x).map fun a => .isnil kd (isNeq op) a
      | _ => none) = some sop := by
      rcases hop with rfl | rfl <;> exact hc
    split at hc'
    · simp only [Option.bind_eq_some_iff, Option.map_eq_some_iff] at hc'
      obtain ⟨sx, hx, sy, hy, rfl⟩ := hc'
      exact val_bin h hx hy hv
    · simp only [Option.bind_eq_some_iff, Option.map_eq_some_iff] at hc'
      obtain ⟨sx, hx, sy, hy, rfl⟩ := hc'
      exact val_bin h hx hy hv
    · rename_i hu
      simp only [Option.bind_eq_some_iff, Option.map_eq_some_iff] at hc'
      obtain ⟨sx, hx, sy, hy, rfl⟩ := hc'
      exact val_beq h hop hu hx hy hv
    · rename_i fs hu
      split at hc'
      · cases hc'
      · rename_i hn
        simp only [Bool.or_eq_true, not_or, Bool.not_eq_true] at hn
        simp only [Option.bind_eq_some_iff, Option.map_eq_some_iff] at hc'
        obtain ⟨ts, hts, sx, hx, sy, hy, rfl⟩ := hc'
        exact val_eqs h hop hu hn.1 hn.2 hts hx hy hv
    · rename_i d _ _ _ _ hu
      simp only [Option.bind_eq_some_iff, Option.map_eq_some_iff] at hc'
      obtain ⟨kd, hkd, sx, hx, rfl⟩ := hc'
      exact val_isnil h hu hop hkd hx hv
    · cases hc'
  · have hc' : (match P.underlying t with
      | some (.int _) | some .string => (compO x).bind fun a => (compO y).map fun b => SOp.bin op a b
      | _ => none) = some sop := by
      cases op <;> first | exact hc | (exact absurd (.inl rfl) hop) | (exact absurd (.inr rfl) hop)
    split at hc'
    · simp only [Option.bind_eq_some_iff, Option.map_eq_some_iff] at hc'
      obtain ⟨sx, hx, sy, hy, rfl⟩ := hc'
      exact val_bin h hx hy hv
    · simp only [Option.bind_eq_some_iff, Option.map_eq_some_iff] at hc'
      obtain ⟨sx, hx, sy, hy, rfl⟩ := hc'
      exact val_bin h hx hy hv
    · cases hc'

theorem val_fnv (h : Ctx P G w M B z ob fr a) {f : FuncId} {captured : Array Operand} {l : List SO} (hl : allM compO captured.toList = some l) {sv : SV} (hv : valOp rd (so G fr) (.fnv f l) = some sv) :
    RelS w M z ob sv (.func (.func f) #[] (captured.map a.eval)) := by
  simp only [valOp, Option.map_eq_some_iff] at hv
  obtain ⟨cs, hcs, rfl⟩ := hv
  have hr := opds_c h.fr h.glob hl hcs
  show RelC _ _ _ _
  unfold RelC
  refine ⟨captured.toList.map a.eval, ?_, hr⟩
  congr 1
  apply Array.toList_inj.1
  simp

theorem val_call (h : Ctx P G w M B z ob fr a) (hrd : ∀ id, rd id = .none ∨ rd id = ob id) {c : Call} {ty : TypeId} {sop : SOp} (hc : compCall P c = some sop) (hcls : sop.cls = .val) {sv : SV} (hv : valOp rd (so G fr) sop = some sv) :
    ∃ v, (do let d ← resolve a.eval c ty; invoke d.target d.args : Sem Next).run P w = .ok (.value v) w ∧ RelS w M z ob sv v := by
  obtain ⟨callee, args, argTypes⟩ := c
  unfold compCall at hc
  split at hc <;> try (cases hc; done)
  · rename_i hcal
    simp only at hcal
    subst hcal
    simp only at hc
    have hat : ∃ t, argTypes[0]? = some t := by
      cases hh : argTypes[0]? with
      | none => rw [hh] at hc; simp at hc
      | some t => exact ⟨t, rfl⟩
    obtain ⟨t, hat⟩ := hat
    rw [hat] at hc
    simp only [Option.bind_some] at hc
    have run : ∀ (x : Operand), args.toList = [x] → (do let d ← resolve a.eval { callee := .builtin .len, args := args, argTypes := argTypes } ty; invoke d.target d.args : Sem Next).run P w = ((Builtin.len_ #[t] ty #[a.eval x]).run P w).andThen fun v w' => .ok (.value v) w' := by
      intro x hx
      obtain ⟨l⟩ := args
      simp only at hx
      subst hx
      have e : ∀ v : Array Value, Builtin.len_ argTypes ty v = Builtin.len_ #[t] ty v := fun v => by simp [Builtin.len_, hat]
      simp [resolve, invoke, builtin, e]
    split at hc
    · rename_i x hu hx
      simp only [Option.map_eq_some_iff] at hc
      obtain ⟨sx, hsx, rfl⟩ := hc
      simp only [valOp, Option.map_eq_some_iff] at hv
      obtain ⟨n, hn, rfl⟩ := hv
      rw [run x hx, val_len h hrd hu (.inl ⟨rfl, rfl⟩) hsx hn]
      exact ⟨_, rfl, rel_int (w := w) (M := M)⟩
    · rename_i e x hu hx
      simp only [Option.map_eq_some_iff] at hc
      obtain ⟨sx, hsx, rfl⟩ := hc
      simp only [valOp, Option.map_eq_some_iff] at hv
      obtain ⟨n, hn, rfl⟩ := hv
      rw [run x hx, val_len h hrd hu (.inr (.inl ⟨rfl, _, rfl⟩)) hsx hn]
      exact ⟨_, rfl, rel_int (w := w) (M := M)⟩
    · rename_i k e x hu hx
      simp only [Option.map_eq_some_iff] at hc
      obtain ⟨sx, hsx, rfl⟩ := hc
      simp only [valOp, Option.map_eq_some_iff] at hv
      obtain ⟨n, hn, rfl⟩ := hv
      rw [run x hx, val_len h hrd hu (.inr (.inr ⟨rfl, _, _, rfl⟩)) hsx hn]
      exact ⟨_, rfl, rel_int (w := w) (M := M)⟩
    · rename_i n e x hu hx
      simp only [Option.some.injEq] at hc
      subst hc
      simp only [valOp, Option.some.injEq] at hv
      subst hv
      rw [run x hx]
      exact ⟨.int .i64 n, by simp [Builtin.len_, run_underlying hu, goInt], rel_int (w := w) (M := M)⟩
    · cases hc
  · rename_i hcal
    simp only at hcal
    subst hcal
    simp only [Option.map_eq_some_iff] at hc
    obtain ⟨l, hl, rfl⟩ := hc
    obtain ⟨v, g1, g2⟩ := val_minmax h hl hv argTypes ty
    simp only [Bool.false_eq_true, if_false] at g1
    exact ⟨v, by simp [resolve, invoke, builtin, g1], g2⟩
  · rename_i hcal
    simp only at hcal
    subst hcal
    simp only [Option.map_eq_some_iff] at hc
    obtain ⟨l, hl, rfl⟩ := hc
    obtain ⟨v, g1, g2⟩ := val_minmax h hl hv argTypes ty
    simp only [if_true] at g1
    exact ⟨v, by simp [resolve, invoke, builtin, g1], g2⟩
  · split at hc <;> try (cases hc; done)
    split at hc <;> try (cases hc; done)
    simp only [Option.bind_eq_some_iff, Option.ite_none_right_eq_some, Option.some.injEq] at hc
    obtain ⟨i, _, zv, _, sa, _, sb, _, _, rfl⟩ := hc
    cases hcls
  · split at hc <;> try (cases hc; done)
    simp only [Option.map_eq_some_iff] at hc
    obtain ⟨l, hl, rfl⟩ := hc
    cases hcls
  · simp only [Option.map_eq_some_iff] at hc
    obtain ⟨l, hl, rfl⟩ := hc
    cases hcls

theorem val_sound (h : Ctx P G w M B z ob fr a) (hrd : ∀ id, rd id = .none ∨ rd id = ob id) {o : Oper} {sop : SOp} (hc : compOp P o = some sop) (hcls : sop.cls = .val) {sv : SV} (hv : valOp rd (so G fr) sop = some sv) :
    Yes P w M z ob a o sv := by
  unfold compOp at hc
  split at hc <;> rename_i ho <;> try (cases hc; done)
  · -- move
    simp only [Option.map_eq_some_iff] at hc
    obtain ⟨sx, hx, rfl⟩ := hc
    simp only [valOp, Option.some.injEq] at hv
    subst hv
    exact ⟨_, by simp [execOp, ho], h.opd hx⟩
  · -- assign
    simp only [Option.map_eq_some_iff] at hc
    obtain ⟨sx, hx, rfl⟩ := hc
    simp only [valOp, Option.some.injEq] at hv
    subst hv
    exact ⟨_, by simp [execOp, ho], h.opd hx⟩
  · -- pick
    rename_i c x y
    simp only [Option.bind_eq_some_iff, Option.map_eq_some_iff] at hc
    obtain ⟨sc, hsc, sx, hsx, sy, hsy, rfl⟩ := hc
    have hr := h.opd hsc
    have hr1 := h.opd hsx
    have hr2 := h.opd hsy
    simp only [valOp] at hv
    generalize so G fr sc = q at hr hv
    split at hv
    · rename_i t
      simp only [Option.some.injEq] at hv
      subst hv
      have e := of_bool (w := w) (M := M) hr
      refine ⟨if t then a.eval x else a.eval y, by simp [execOp, ho, e, asBool], ?_⟩
      cases t
      · exact hr2
      · exact hr1
    · cases hv
  · simp only [Option.bind_eq_some_iff, Option.map_eq_some_iff] at hc; obtain ⟨_, _, _, _, _, _, rfl⟩ := hc; cases hcls   -- alloc
  · simp only [Option.map_eq_some_iff] at hc; obtain ⟨_, _, rfl⟩ := hc; cases hcls   -- box
  · -- build
    simp only [Option.bind_eq_some_iff, Option.map_eq_some_iff] at hc
    obtain ⟨i, hi, vz, hz, zc, hzc, ps, hps, rfl⟩ := hc
    exact yes_of (by simp only [execOp, ho]) (val_build h hi hz hzc hps hv)
  · -- buildSlice
    split at hc <;> try (cases hc; done)
    simp only [Option.bind_eq_some_iff, Option.ite_none_right_eq_some, Option.some.injEq] at hc
    obtain ⟨_, _, _, _, _, _, _, _, _, rfl⟩ := hc
    cases hcls
  · -- load
    simp only [Option.bind_eq_some_iff, Option.map_eq_some_iff] at hc
    obtain ⟨s, hs, sx, hx, rfl⟩ := hc
    exact yes_of (by simp only [execOp, ho]) (val_load h hrd hs hx hv)
  · simp only [Option.bind_eq_some_iff, Option.map_eq_some_iff] at hc; obtain ⟨_, _, _, _, _, _, rfl⟩ := hc; cases hcls   -- store
  · exact yes_of (by simp only [execOp, ho]) (bin_sound h hc hv)
  · simp only [Option.map_eq_some_iff] at hc
    obtain ⟨sx, hx, rfl⟩ := hc
    exact yes_of (by simp only [execOp, ho]) (val_un h hx hv)
  · exact yes_of (by simp only [execOp, ho]) (val_conv h hc hcls hv)
  · -- makeFunc
    rename_i f first captured
    split at hc
    · rename_i hb
      simp only [Bool.and_eq_true, Array.isEmpty_iff] at hb
      simp only [Option.map_eq_some_iff] at hc
      obtain ⟨l, hl, rfl⟩ := hc
      exact ⟨_, by simp [execOp, ho, Instr.makeFunc, hb.1], val_fnv h hl hv⟩
    · cases hc
  · simp only [Option.map_eq_some_iff] at hc; obtain ⟨_, _, rfl⟩ := hc; cases hcls   -- makeMap
  · -- makeSlice
    split at hc <;> try (cases hc; done)
    simp only [Option.bind_eq_some_iff, Option.ite_none_right_eq_some, Option.some.injEq] at hc
    obtain ⟨_, _, _, _, _, _, _, _, _, _, _, rfl⟩ := hc
    cases hcls
  · -- slice
    split at hc <;> try (cases hc; done)
    · rename_i hu
      simp only [Option.bind_eq_some_iff, Option.map_eq_some_iff] at hc
      obtain ⟨sx, hx, sl, hl, sh, hh, rfl⟩ := hc
      exact yes_of (by simp only [execOp, ho, Option.map_none]) (val_sslice h hu hx hl hh hv)
    · rename_i e hu
      simp only [Option.bind_eq_some_iff, Option.map_eq_some_iff] at hc
      obtain ⟨i, hi, sx, hx, sl, hl, sh, hh, rfl⟩ := hc
      exact yes_of (by simp only [execOp, ho, Option.map_none]) (val_slice h hu hi hx hl hh hv)
  · -- fieldAddr
    split at hc <;> try (cases hc; done)
    rename_i fs hu
    simp only [Option.bind_eq_some_iff, Option.ite_none_left_eq_some, Option.map_eq_some_iff] at hc
    obtain ⟨fd, hf, i, hi, h0, sx, hx, rfl⟩ := hc
    exact yes_of (by simp only [execOp, ho]) (val_faddr h hu hf hi h0 hx hv)
  · -- field
    split at hc <;> try (cases hc; done)
    rename_i fs hu
    simp only [Option.bind_eq_some_iff, Option.map_eq_some_iff] at hc
    obtain ⟨fd, hf, s, hs, sx, hx, rfl⟩ := hc
    exact yes_of (by simp only [execOp, ho]) (val_field h hu hf hs hx hv)
  · -- indexAddr
    split at hc <;> try (cases hc; done)
    · rename_i e hu
      simp only [Option.bind_eq_some_iff, Option.ite_none_left_eq_some, Option.map_eq_some_iff] at hc
      obtain ⟨i, hi, h0, sx, hx, si, hix, rfl⟩ := hc
      exact yes_of (by simp only [execOp, ho]) (val_iaddr h hrd hu hi hx hix hv)
    · rename_i n e hu
      simp only [Option.bind_eq_some_iff, Option.ite_none_left_eq_some, Option.map_eq_some_iff] at hc
      obtain ⟨i, hi, h0, sx, hx, si, hix, rfl⟩ := hc
      exact yes_of (by simp only [execOp, ho]) (val_aaddr h hu hi hx hix hv)
  · -- index
    split at hc <;> try (cases hc; done)
    · rename_i hu
      simp only [Option.bind_eq_some_iff, Option.map_eq_some_iff] at hc
      obtain ⟨sx, hx, si, hix, rfl⟩ := hc
      exact yes_of (by simp only [execOp, ho]) (val_sidx h hu hx hix hv)
    · rename_i n e hu
      simp only [Option.bind_eq_some_iff, Option.map_eq_some_iff] at hc
      obtain ⟨i, hi, s, hs, sx, hx, si, hix, rfl⟩ := hc
      exact yes_of (by simp only [execOp, ho]) (val_aidx h hu hi hs hx hix hv)
  · -- lookup
    simp only [Option.bind_eq_some_iff, Option.map_eq_some_iff, Prod.exists] at hc
    obtain ⟨kt, zc, hmt, sx, hx, sk, hk, rfl⟩ := hc
    simp only [valOp, Option.map_eq_some_iff] at hv
    obtain ⟨c, hc', rfl⟩ := hv
    obtain ⟨v, g1, g2⟩ := val_lookup h hrd hmt hx hk _ hc'
    exact yes_of (by simp only [execOp, ho]) ⟨v, g1, g2⟩
  · split at hc <;> try (cases hc; done)
    simp only [Option.bind_eq_some_iff, Option.map_eq_some_iff] at hc; obtain ⟨_, _, _, _, _, _, rfl⟩ := hc; cases hcls   -- mapUpdate
  · split at hc <;> try (cases hc; done)
    simp only [Option.bind_eq_some_iff, Option.map_eq_some_iff] at hc; obtain ⟨_, _, _, _, rfl⟩ := hc; cases hcls   -- mapEntry
  · simp only [Option.bind_eq_some_iff, Option.map_eq_some_iff] at hc; obtain ⟨_, _, _, _, _, _, rfl⟩ := hc; cases hcls   -- entryStore
  · split at hc <;> try (cases hc; done)
    simp only [Option.map_eq_some_iff] at hc; obtain ⟨_, _, rfl⟩ := hc; cases hcls   -- range
  · simp only [Option.map_eq_some_iff] at hc; obtain ⟨_, _, rfl⟩ := hc; cases hcls   -- next
  · simp only [Option.map_eq_some_iff] at hc
    obtain ⟨sx, hx, rfl⟩ := hc
    exact yes_of (by simp only [execOp, ho]) (val_ext h hx hv)
  · obtain ⟨v, g1, g2⟩ := val_call (ty := o.type) h hrd hc hcls hv
    exact ⟨v, by simp only [execOp, ho]; exact g1, g2⟩
end
end WB
