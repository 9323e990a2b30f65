/-
  THE OWN LAYER, I: addresses, lengths, cuts, look-ups, composites.
-/
import Derived.Test.YtpkoilfecgmogaaCoreH
namespace WB
open Go Go.RowKit

section
variable {G : Nat → List CV} {P : Program} {w : World} {M : Nat → Prop} {B : Nat} {z : Cz} {ob rd : Nat → Ob} {fr : Nat → SV} {a : Act} {o : Oper}

theorem val_iaddr (h : Ctx P G w M B z ob fr a) (hrd : ∀ id, rd id = .none ∨ rd id = ob id) {t e : TypeId} {i : TypeInfo} (ht : P.underlying t = some (.slice e)) (hi : P.info? e = some i)
    {x ix : Operand} {sx si : SO} (hx : compO x = some sx) (hix : compO ix = some si) {sv : SV} (hv : iaddrV rd i.size (so G fr sx) (so G fr si) = some sv) :
    ∃ v, (Instr.indexAt t (a.eval x) (a.eval ix)).run P w = .ok v w ∧ RelS w M z ob sv v := by
  have hr := h.opd hx
  have hr2 := h.opd hix
  generalize so G fr sx = q at hr hv
  generalize so G fr si = q2 at hr2 hv
  cases q <;> try (simp only [iaddrV, reduceCtorEq] at hv; done)
  case c cv =>
    cases cv <;> try (simp only [iaddrV, reduceCtorEq] at hv; done)
    rename_i nl es
    cases q2 <;> try (simp only [iaddrV, reduceCtorEq] at hv; done)
    rename_i c2
    cases c2 <;> try (simp only [iaddrV, reduceCtorEq] at hv; done)
    rename_i k n
    have en := of_int (w := w) (M := M) hr2
    simp only [iaddrV, Option.bind_eq_some_iff, Option.ite_none_right_eq_some, Option.some.injEq] at hv
    obtain ⟨j, hj, el, hel, hsz, rfl⟩ := hv
    obtain ⟨h0, h1, rfl⟩ := idxOf_some hj
    unfold RelS RelC at hr
    obtain ⟨ad, len, c, e1, e2, _, _, _, _, hE⟩ := hr
    have hne : es ≠ [] := by intro hh; subst hh; simp at hel
    obtain ⟨ad', size, e3, hlt, hm, hE⟩ := hE hne
    obtain ⟨v, hv1, hv2, hv3⟩ := RelE.get hE hel
    have hss : size = i.size := by rw [← hv2, hv1.cells_size, hsz]
    subst hss
    subst e3
    refine ⟨.pointer (some (ad'.add (n.toNat * i.size))), ?_, ?_⟩
    · subst e2
      simp [Instr.indexAt, e1, en, asIntOf, run_underlying ht, h0, h1, run_sizeOf_some hi]
    · show RelC _ _ _ _
      unfold RelC
      refine ⟨_, v.cells.toList, rfl, by rw [add_block]; exact hlt, by rw [add_block]; exact hm, RelC.cells hv1, fun j u hu => ?_⟩
      rw [add_add]
      have := hv3 j u (by simpa using hu)
      rw [Nat.zero_add] at this
      exact this
  case osl id =>
    cases q2 <;> try (simp only [iaddrV, reduceCtorEq] at hv; done)
    rename_i c2
    cases c2 <;> try (simp only [iaddrV, reduceCtorEq] at hv; done)
    rename_i k n
    have en := of_int (w := w) (M := M) hr2
    obtain ⟨hlive, e1⟩ := hr
    have ho := h.ob id
    rcases hrd id with e' | e'
    · simp only [iaddrV, e', reduceCtorEq] at hv
    · simp only [iaddrV, e'] at hv
      cases hob : ob id <;> rw [hob] at hv <;> try (simp only [reduceCtorEq] at hv; done)
      rename_i et sz es
      rw [hob] at ho
      obtain ⟨xs, hown, hf⟩ := ho
      simp only [Option.ite_none_right_eq_some, Option.map_eq_some_iff] at hv
      obtain ⟨rfl, j, hj, rfl⟩ := hv
      obtain ⟨h0, h1, rfl⟩ := idxOf_some hj
      obtain ⟨g, cap, cur, e3, _, _⟩ := own_form hown (by omega)
      refine ⟨.pointer (some ((⟨g, 0, none⟩ : Addr).add (n.toNat * i.size))), ?_, hlive, g, es.length, cap, e3, by rw [addr_add]; simp⟩
      simp [Instr.indexAt, e1, e3, en, asIntOf, run_underlying ht, h0, h1, run_sizeOf_some hi]

theorem val_aaddr (h : Ctx P G w M B z ob fr a) {t e : TypeId} {i : TypeInfo} {len : Nat} (ht : P.underlying t = some (.array len e)) (hi : P.info? e = some i)
    {x ix : Operand} {sx si : SO} (hx : compO x = some sx) (hix : compO ix = some si) {sv : SV} (hv : aaddrV len i.size (so G fr sx) (so G fr si) = some sv) :
    ∃ v, (Instr.indexAt t (a.eval x) (a.eval ix)).run P w = .ok v w ∧ RelS w M z ob sv v := by
  have hr := h.opd hx
  have hr2 := h.opd hix
  generalize so G fr sx = q at hr hv
  generalize so G fr si = q2 at hr2 hv
  cases q <;> try (simp only [aaddrV, reduceCtorEq] at hv; done)
  case c cv =>
    cases cv <;> try (simp only [aaddrV, reduceCtorEq] at hv; done)
    rename_i cs
    cases q2 <;> try (simp only [aaddrV, reduceCtorEq] at hv; done)
    rename_i c2
    cases c2 <;> try (simp only [aaddrV, reduceCtorEq] at hv; done)
    rename_i k n
    have en := of_int (w := w) (M := M) hr2
    simp only [aaddrV, Option.ite_none_right_eq_some, Option.map_eq_some_iff] at hv
    obtain ⟨hl, j, hj, rfl⟩ := hv
    obtain ⟨h0, h1, rfl⟩ := idxOf_some hj
    unfold RelS RelC at hr
    obtain ⟨ad, vs, e1, hlt, hm, hrl, hc⟩ := hr
    refine ⟨.pointer (some (ad.add (n.toNat * i.size))), ?_, ?_⟩
    · simp [Instr.indexAt, Instr.sureAddr, e1, en, asIntOf, run_underlying ht, h0, h1, run_sizeOf_some hi]
    · show RelC _ _ _ _
      unfold RelC
      refine ⟨_, vs.drop (n.toNat * i.size), rfl, by rw [add_block]; exact hlt, by rw [add_block]; exact hm, hrl.drop _, fun j u hu => ?_⟩
      rw [add_add]
      rw [List.getElem?_drop] at hu
      exact hc _ u hu
  case ptr id o =>
    cases q2 <;> try (simp only [aaddrV, reduceCtorEq] at hv; done)
    rename_i c2
    cases c2 <;> try (simp only [aaddrV, reduceCtorEq] at hv; done)
    rename_i k n
    have en := of_int (w := w) (M := M) hr2
    obtain ⟨hlive, g, e1, e2⟩ := hr
    simp only [aaddrV, Option.map_eq_some_iff] at hv
    obtain ⟨j, hj, rfl⟩ := hv
    obtain ⟨h0, h1, rfl⟩ := idxOf_some hj
    refine ⟨.pointer (some ((⟨g, o, none⟩ : Addr).add (n.toNat * i.size))), ?_, hlive, g, e1, by rw [addr_add]⟩
    simp [Instr.indexAt, Instr.sureAddr, e2, en, asIntOf, run_underlying ht, h0, h1, run_sizeOf_some hi]

theorem val_faddr (h : Ctx P G w M B z ob fr a) {t : TypeId} {fs : Array Field} {f : Nat} {fd : Field} {i : TypeInfo} (ht : P.underlying t = some (.struct fs)) (hf : fs[f]? = some fd) (hi : P.info? fd.type = some i) (h0 : i.size ≠ 0)
    {x : Operand} {sx : SO} (hx : compO x = some sx) {sv : SV} (hv : valOp rd (so G fr) (.faddr fd.offset sx) = some sv) :
    ∃ v, (Instr.fieldAt t (a.eval x) f).run P w = .ok v w ∧ RelS w M z ob sv v := by
  have hr := h.opd hx
  simp only [valOp] at hv
  generalize so G fr sx = q at hr hv
  have run : ∀ ad, a.eval x = .pointer (some ad) → (Instr.fieldAt t (a.eval x) f).run P w = .ok (.pointer (some (ad.add fd.offset))) w := fun ad e => by
    simp [Instr.fieldAt, Instr.sureAddr, run_underlying ht, hf, e, fieldPlace, run_sizeOf_some hi, h0]
  cases q <;> try (simp only [reduceCtorEq] at hv; done)
  case c cv =>
    cases cv <;> try (simp only [reduceCtorEq] at hv; done)
    rename_i cs
    simp only [Option.ite_none_right_eq_some, Option.some.injEq] at hv
    obtain ⟨_, rfl⟩ := hv
    unfold RelS RelC at hr
    obtain ⟨ad, vs, e1, hlt, hm, hrl, hc⟩ := hr
    refine ⟨_, run ad e1, ?_⟩
    show RelC _ _ _ _
    unfold RelC
    refine ⟨_, vs.drop fd.offset, rfl, by rw [add_block]; exact hlt, by rw [add_block]; exact hm, hrl.drop _, fun j u hu => ?_⟩
    rw [add_add]
    rw [List.getElem?_drop] at hu
    exact hc _ u hu
  case ptr id o =>
    simp only [Option.some.injEq] at hv
    subst hv
    obtain ⟨hlive, g, e1, e2⟩ := hr
    exact ⟨_, run _ e2, hlive, g, e1, by rw [addr_add]⟩
  case eptr id k s o =>
    simp only [Option.some.injEq] at hv
    subst hv
    obtain ⟨hlive, g, n, c, e1, e2⟩ := hr
    exact ⟨_, run _ e2, hlive, g, n, c, e1, by rw [addr_add]; simp [Nat.add_assoc]⟩

theorem val_len (h : Ctx P G w M B z ob fr a) (hrd : ∀ id, rd id = .none ∨ rd id = ob id) {t ty : TypeId} {d : TypeDesc} {kd : Nat} (ht : P.underlying t = some d)
    (hd : (kd = 0 ∧ d = .string) ∨ (kd = 1 ∧ ∃ e, d = .slice e) ∨ (kd = 2 ∧ ∃ k e, d = .map k e))
    {x : Operand} {sx : SO} (hx : compO x = some sx) {n : Int} (hv : lenV rd kd (so G fr sx) = some n) : (Builtin.len_ #[t] ty #[a.eval x]).run P w = .ok (.int .i64 n) w := by
  have hr := h.opd hx
  generalize so G fr sx = q at hr hv
  rcases hd with ⟨rfl, rfl⟩ | ⟨rfl, e, rfl⟩ | ⟨rfl, k, e, rfl⟩
  · cases q <;> try (simp only [lenV, reduceCtorEq] at hv; done)
    rename_i cv
    cases cv <;> try (simp only [lenV, reduceCtorEq] at hv; done)
    simp only [lenV, Option.some.injEq] at hv
    subst hv
    have := of_str (w := w) (M := M) hr
    rw [this]
    simp [Builtin.len_, run_underlying ht, goInt]
    rfl
  · cases q <;> try (simp only [lenV, reduceCtorEq] at hv; done)
    · rename_i cv
      cases cv <;> try (simp only [lenV, reduceCtorEq] at hv; done)
      simp only [lenV, Option.some.injEq] at hv
      subst hv
      unfold RelS RelC at hr
      obtain ⟨ad, len, c, e1, e2, _⟩ := hr
      rw [e1, e2]
      simp [Builtin.len_, run_underlying ht, goInt]
    · rename_i id
      obtain ⟨hlive, e1⟩ := hr
      have ho := h.ob id
      rcases hrd id with e' | e'
      · simp only [lenV, e', reduceCtorEq] at hv
      · simp only [lenV, e'] at hv
        cases hob : ob id <;> rw [hob] at hv <;> try (simp only [reduceCtorEq] at hv; done)
        rename_i et sz es
        rw [hob] at ho
        obtain ⟨xs, hown, _⟩ := ho
        simp only [Option.some.injEq] at hv
        subst hv
        rcases hown.2 with ⟨e2, e3⟩ | ⟨g, cap, cur, e2, _⟩
        · rw [e1, e2, e3]
          simp [Builtin.len_, run_underlying ht, goInt]
        · rw [e1, e2]
          simp [Builtin.len_, run_underlying ht, goInt]
  · cases q <;> try (simp only [lenV, reduceCtorEq] at hv; done)
    · rename_i cv
      cases cv <;> try (simp only [lenV, reduceCtorEq] at hv; done)
      rename_i nl ks vs
      simp only [lenV, Option.some.injEq] at hv
      subst hv
      unfold RelS RelC at hr
      obtain ⟨r, e1, _, _, e4, e5⟩ := hr
      rw [e1]
      cases r with
      | none =>
        have := (e4 rfl).1
        subst this
        simp [Builtin.len_, run_underlying ht, goInt]
      | some b =>
        obtain ⟨_, ens, clk, hh, hk, _⟩ := e5 b rfl
        have hl := hk.length
        rw [List.length_map] at hl
        simp [Builtin.len_, run_underlying ht, goInt, getObj, Sem.run, hh, hl]
    · rename_i id
      obtain ⟨hlive, e1⟩ := hr
      have ho := h.ob id
      rcases hrd id with e' | e'
      · simp only [lenV, e', reduceCtorEq] at hv
      · simp only [lenV, e'] at hv
        cases hob : ob id <;> rw [hob] at hv <;> try (simp only [reduceCtorEq] at hv; done)
        rw [hob] at ho
        obtain ⟨_, r, ens, clk, e2, hh, hk, _⟩ := ho
        simp only [Option.some.injEq] at hv
        subst hv
        have hl := hk.length
        rw [List.length_map] at hl
        rw [e1, e2]
        simp [Builtin.len_, run_underlying ht, goInt, getObj, Sem.run, hh, hl]

theorem bound_run {dflt : Nat} {x : Option Operand} {sx : Option SO} (h : Ctx P G w M B z ob fr a) (hx : optO x = some sx) {b : Nat} (hb : bound dflt (sx.map (so G fr)) = some b) :
    (x = none ∧ b = dflt) ∨ ∃ y k, x = some y ∧ a.eval y = .int k (b : Int) := by
  cases x with
  | none =>
    simp only [optO, Option.some.injEq] at hx
    subst hx
    simp only [Option.map_none, bound, Option.some.injEq] at hb
    exact .inl ⟨rfl, hb.symm⟩
  | some y =>
    simp only [optO, Option.map_eq_some_iff] at hx
    obtain ⟨s, hs, rfl⟩ := hx
    have hr := h.opd hs
    simp only [Option.map_some] at hb
    generalize so G fr s = q at hr hb
    cases q <;> try (simp only [bound, reduceCtorEq] at hb; done)
    rename_i cv
    cases cv <;> try (simp only [bound, reduceCtorEq] at hb; done)
    rename_i k n
    simp only [bound, Option.ite_none_right_eq_some, Option.some.injEq] at hb
    obtain ⟨h0, rfl⟩ := hb
    refine .inr ⟨y, k, rfl, ?_⟩
    rw [of_int (w := w) (M := M) hr, Int.toNat_of_nonneg h0]

theorem run_sliceBounds (isS : Bool) {len cap : Nat} {lo hi : Option Operand} {b c : Nat} (hh : (hi = none ∧ c = len) ∨ ∃ y k, hi = some y ∧ a.eval y = .int k (c : Int)) (hl : (lo = none ∧ b = 0) ∨ ∃ y k, lo = some y ∧ a.eval y = .int k (b : Int))
    (h1 : b ≤ c) (h2 : c ≤ cap) : (Instr.sliceBounds isS len cap (lo.map a.eval) (hi.map a.eval) none).run P w = .ok (b, c, cap) w := by
  rcases hh with ⟨rfl, rfl⟩ | ⟨y, k, rfl, e⟩ <;> rcases hl with ⟨rfl, rfl⟩ | ⟨y', k', rfl, e'⟩
  · simp [Instr.sliceBounds]
  · simp [Instr.sliceBounds, Instr.sliceBound, e', asIntOf, h1]
  · simp [Instr.sliceBounds, Instr.sliceBound, e, asIntOf, h2]
  · simp [Instr.sliceBounds, Instr.sliceBound, e, e', asIntOf, h1, h2]

theorem val_sslice (h : Ctx P G w M B z ob fr a) {t : TypeId} (ht : P.underlying t = some .string) {x : Operand} {lo hi : Option Operand} {sx : SO} {sl sh : Option SO} (hx : compO x = some sx) (hlo : optO lo = some sl) (hhi : optO hi = some sh)
    {sv : SV} (hv : valOp rd (so G fr) (.sslice sx sl sh) = some sv) : ∃ v, (Instr.sliceAt t (a.eval x) (lo.map a.eval) (hi.map a.eval) none).run P w = .ok v w ∧ RelS w M z ob sv v := by
  have hr := h.opd hx
  simp only [valOp] at hv
  generalize so G fr sx = q at hr hv
  cases q <;> try (simp only [reduceCtorEq] at hv; done)
  rename_i cv
  cases cv <;> try (simp only [reduceCtorEq] at hv; done)
  rename_i s
  simp only [Option.bind_eq_some_iff, Option.ite_none_right_eq_some, Option.some.injEq] at hv
  obtain ⟨c, hc, b, hb, ⟨h1, h2⟩, rfl⟩ := hv
  have e := of_str (w := w) (M := M) hr
  have r := run_sliceBounds (P := P) (w := w) (a := a) false (len := s.length) (cap := s.length) (bound_run h hhi hc) (bound_run h hlo hb) h1 h2
  refine ⟨.string ((⟨⟨s⟩⟩ : ByteArray).extract b c), ?_, ?_⟩
  · have hsz : (⟨⟨s⟩⟩ : ByteArray).size = s.length := rfl
    simp [Instr.sliceAt, Instr.slice, run_underlying ht, e, hsz, r]
  · show RelC _ _ _ _
    unfold RelC
    rw [ByteArray.extract_mk]
    have : (s.take c).drop b = (s.drop b).take (c - b) := by rw [List.drop_take]
    rw [this]

theorem val_slice (h : Ctx P G w M B z ob fr a) {t e : TypeId} {i : TypeInfo} (ht : P.underlying t = some (.slice e)) (hi : P.info? e = some i) {x : Operand} {lo hi' : Option Operand} {sx : SO} {sl sh : Option SO} (hx : compO x = some sx) (hlo : optO lo = some sl) (hhi : optO hi' = some sh)
    {sv : SV} (hv : valOp rd (so G fr) (.slice i.size sx sl sh) = some sv) : ∃ v, (Instr.sliceAt t (a.eval x) (lo.map a.eval) (hi'.map a.eval) none).run P w = .ok v w ∧ RelS w M z ob sv v := by
  have hr := h.opd hx
  simp only [valOp] at hv
  generalize so G fr sx = q at hr hv
  cases q <;> try (simp only [reduceCtorEq] at hv; done)
  rename_i cv
  cases cv <;> try (simp only [reduceCtorEq] at hv; done)
  rename_i nl es
  simp only [Option.bind_eq_some_iff, Option.ite_none_right_eq_some, Option.some.injEq] at hv
  obtain ⟨c, hc, b, hb, ⟨⟨h1, h2⟩, h3⟩, rfl⟩ := hv
  unfold RelS RelC at hr
  obtain ⟨ad, n, cap, e1, e2, e3, e4, e5, e6, e7⟩ := hr
  subst e2
  have r := run_sliceBounds (P := P) (w := w) (a := a) true (len := es.length) (cap := cap) (bound_run h hhi hc) (bound_run h hlo hb) h1 (Nat.le_trans h2 e3)
  refine ⟨.slice (if cap = b then ad else ad.map (·.add (b * i.size))) (c - b) (cap - b), ?_, ?_⟩
  · simp [Instr.sliceAt, Instr.slice, run_underlying ht, e1, r, run_sizeOf_some hi]
  · show RelC _ _ _ _
    unfold RelC
    refine ⟨_, _, _, rfl, by simp; omega, by omega, fun hh => ?_, fun hh => ?_, fun hh => ?_, fun hne => ?_⟩
    · have := e4 hh
      subst this
      split <;> rfl
    · have := e5 hh
      split
      · exact this
      · intro hn; exact this (by simpa using hn)
    · split at hh
      · rename_i hcb; omega
      · have : ad = none := by simpa using hh
        have := e6 this
        omega
    · have hes : es ≠ [] := by
        intro hh; subst hh; simp at hne
      obtain ⟨ad', size, rfl, hlt, hm, hE⟩ := e7 hes
      have hlen : b < c := by
        rcases Nat.lt_or_ge b c with hlt | hge
        · exact hlt
        · exfalso; apply hne; rw [List.drop_eq_nil_iff]; simp; omega
      have hsz : size = i.size := by
        obtain ⟨el, hel⟩ : ∃ el, es[0]? = some el := by
          cases es with
          | nil => exact absurd rfl hes
          | cons el es => exact ⟨el, rfl⟩
        obtain ⟨v, hv1, hv2, _⟩ := RelE.get hE hel
        have : cellsN el = i.size := by
          have := List.all_eq_true.1 h3 el (List.mem_of_getElem? hel)
          simpa using this
        rw [← hv2, hv1.cells_size, this]
      subst hsz
      rw [if_neg (by omega)]
      exact ⟨ad'.add (b * i.size), i.size, rfl, by rw [add_block]; exact hlt, by rw [add_block]; exact hm, RelE_cut hE⟩

/-! ### Look-ups -/

theorem kIdx_lt {kt : KT} {k : CV} : ∀ {ks : List CV} {i : Nat}, kIdx kt k ks = some i → i < ks.length
  | [], i, h => by simp [kIdx] at h
  | c :: cs, i, h => by
    simp only [kIdx] at h
    split at h
    · simp only [Option.some.injEq] at h; subst h; simp
    · simp only [Option.map_eq_some_iff] at h
      obtain ⟨j, hj, rfl⟩ := h
      have := kIdx_lt hj
      simp; omega

theorem look_rel {kt : KT} {zc : CV} {ks vs : List CV} {ens : List MapEntry} (hk : RelL w M ks (ens.map (·.key))) (hv : RelL w M vs (ens.map (·.val))) (k : CV) :
    (kIdx kt k ks = none ∧ foundAt ens (kIdx kt k ks) = none ∧ look kt zc ks vs k = (zc, false)) ∨
    ∃ i e c, kIdx kt k ks = some i ∧ ens[i]? = some e ∧ foundAt ens (kIdx kt k ks) = some (i, e.val) ∧ look kt zc ks vs k = (c, true) ∧ RelC w M c e.val ∧ vs[i]? = some c := by
  have l1 := hk.length
  have l2 := hv.length
  rw [List.length_map] at l1 l2
  cases hi : kIdx kt k ks with
  | none => exact .inl ⟨rfl, rfl, by simp [look, hi]⟩
  | some i =>
    have hlt := kIdx_lt hi
    have hE : ens[i]? = some (ens[i]'(by omega)) := List.getElem?_eq_getElem _
    have hV : vs[i]? = some (vs[i]'(by omega)) := List.getElem?_eq_getElem _
    obtain ⟨v, h1, h2⟩ := RelL.get hv hV
    rw [List.getElem?_map, hE] at h1
    simp only [Option.map_some, Option.some.injEq] at h1
    subst h1
    exact .inr ⟨i, _, _, rfl, hE, by simp [foundAt, hE], by simp [look, hi, hV], h2, hV⟩

theorem run_zero {t : TypeId} {i : TypeInfo} {v : Value} (hi : P.info? t = some i) (hz : i.zero = some v) (w : World) : (zeroValue t).run P w = .ok v w := by
  simp [zeroValue, typeInfo, hi, hz]

theorem mapTy_some {t : TypeId} {kt : KT} {zc : CV} (h : mapTy P t = some (kt, zc)) : ∃ kty e i vz, P.underlying t = some (.map kty e) ∧ ktOf P kty = some kt ∧ P.info? e = some i ∧ i.zero = some vz ∧ cvOf vz = some zc := by
  unfold mapTy at h
  split at h
  · rename_i k e hu
    simp only [Option.bind_eq_some_iff, Option.map_eq_some_iff, Prod.mk.injEq] at h
    obtain ⟨a, h1, i, h2, z, h3, c, h4, rfl, rfl⟩ := h
    exact ⟨k, e, i, z, hu, h1, h2, h3, h4⟩
  · cases h

theorem val_lookup (h : Ctx P G w M B z ob fr a) (hrd : ∀ id, rd id = .none ∨ rd id = ob id) {t : TypeId} {kt : KT} {zc : CV} (hmt : mapTy P t = some (kt, zc)) {x k : Operand} {sx sk : SO} (hx : compO x = some sx) (hkx : compO k = some sk) (ok : Bool)
    {c : CV} (hv : lookV rd t kt zc ok (so G fr sx) (so G fr sk) = some c) :
    ∃ v, (Instr.lookup t (a.eval x) (a.eval k) ok).run P w = .ok v w ∧ RelC w M c v := by
  have hr := h.opd hx
  have hr2 := h.opd hkx
  generalize so G fr sx = q at hr hv
  generalize so G fr sk = q2 at hr2 hv
  obtain ⟨kty, e, i, vz, ht, hk, hi, hz, hzc⟩ := mapTy_some hmt
  have zr : RelC w M zc vz := cvOf_rel w M vz zc hzc
  have fin : ∀ (ks vs : List CV) (ens : List MapEntry) (kc : CV), RelC w M kc (a.eval k) → conf kt kc = true → RelL w M ks (ens.map (·.key)) → RelL w M vs (ens.map (·.val)) → (∀ c ∈ ks, conf kt c = true) →
      (a.eval x = .map none ∧ ens = [] ∨ ∃ r clk, a.eval x = .map (some r) ∧ w.heap[r]? = some (.map ⟨ens⟩ clk)) →
      (if ok then CV.tup [(look kt zc ks vs kc).1, .bool (look kt zc ks vs kc).2] else (look kt zc ks vs kc).1) = c →
      ∃ v, (Instr.lookup t (a.eval x) (a.eval k) ok).run P w = .ok v w ∧ RelC w M c v := by
    intro ks vs ens kc hkc hcf h1 h2 h3 h4 h5
    have rc := fun em => run_checkKey (P := P) hk em hkc hcf
    have rf := run_findKey (P := P) hk hkc hcf h1 h3
    have rz := run_zero (P := P) hi hz w
    have base : ∀ r0, r0 = foundAt ens (kIdx kt kc ks) → ∃ v b, (match r0 with | some (_, v) => (v, true) | none => (vz, false)) = (v, b) ∧ RelC w M (look kt zc ks vs kc).1 v ∧ b = (look kt zc ks vs kc).2 := by
      rintro r0 rfl
      rcases look_rel (kt := kt) (zc := zc) h1 h2 kc with ⟨_, e2, e3⟩ | ⟨i, en, c', _, _, e2, e3, e4, _⟩
      · rw [e2, e3]; exact ⟨vz, false, rfl, zr, rfl⟩
      · rw [e2, e3]; exact ⟨en.val, true, rfl, e4, rfl⟩
    obtain ⟨v, b, e1, e2, e3⟩ := base _ rfl
    have run : (Instr.lookup t (a.eval x) (a.eval k) ok).run P w = .ok (if ok then .tuple #[v, .bool b] else v) w := by
      rcases h4 with ⟨ex, rfl⟩ | ⟨r, clk, ex, hh⟩
      · rw [ex]
        simp only [Instr.lookup, Sem.run_bind, run_underlying ht, Result.andThen_ok, Sem.run_pure, rc, rf]
        cases hf : foundAt [] (kIdx kt kc ks) with
        | none => rw [hf] at e1; simp only [Prod.mk.injEq] at e1; simp [rz, e1]
        | some p => rw [hf] at e1; simp only [Prod.mk.injEq] at e1; simp [e1]
      · rw [ex]
        simp only [Instr.lookup, Sem.run_bind, run_underlying ht, Result.andThen_ok, Sem.run_pure, getObj, Sem.run, hh, rc, rf]
        cases hf : foundAt ens (kIdx kt kc ks) with
        | none => rw [hf] at e1; simp only [Prod.mk.injEq] at e1; simp [rz, e1]
        | some p => rw [hf] at e1; simp only [Prod.mk.injEq] at e1; simp [e1]
    refine ⟨_, run, ?_⟩
    rw [← h5]
    cases ok
    · exact e2
    · show RelC _ _ (.tup _) _
      unfold RelC
      exact ⟨_, rfl, RelL.cons e2 (RelL.cons (by rw [e3]; exact rel_bool) RelL.nil)⟩
  cases q <;> try (simp only [lookV, reduceCtorEq] at hv; done)
  case c cv =>
    cases cv <;> try (simp only [lookV, reduceCtorEq] at hv; done)
    rename_i nl ks vs
    cases q2 <;> try (simp only [lookV, reduceCtorEq] at hv; done)
    rename_i kc
    simp only [lookV, Option.ite_none_right_eq_some, Option.some.injEq, Bool.and_eq_true] at hv
    obtain ⟨⟨hc1, hc2⟩, hv⟩ := hv
    unfold RelS RelC at hr
    obtain ⟨r, e1, _, _, e4, e5⟩ := hr
    have hall : ∀ c ∈ ks, conf kt c = true := List.all_eq_true.1 hc2
    cases r with
    | none =>
      obtain ⟨rfl, rfl⟩ := e4 rfl
      exact fin [] [] [] kc hr2 hc1 RelL.nil RelL.nil (fun _ h => by cases h) (.inl ⟨e1, rfl⟩) hv
    | some b =>
      obtain ⟨_, ens, clk, hh, hk1, hv1⟩ := e5 b rfl
      exact fin ks vs ens kc hr2 hc1 hk1 hv1 hall (.inr ⟨b, clk, e1, hh⟩) hv
  case omap id =>
    cases q2 <;> try (simp only [lookV, reduceCtorEq] at hv; done)
    rename_i kc
    obtain ⟨hlive, e1⟩ := hr
    have ho := h.ob id
    rcases hrd id with e' | e'
    · simp only [lookV, e', reduceCtorEq] at hv
    · simp only [lookV, e'] at hv
      cases hob : ob id <;> rw [hob] at hv <;> try (simp only [reduceCtorEq] at hv; done)
      rename_i mt' kt' z' ks vs
      rw [hob] at ho
      obtain ⟨hm2, r, ens, clk, e2, hh, hk1, hv1, hcf, _⟩ := ho
      simp only [Option.ite_none_right_eq_some, Option.some.injEq] at hv
      obtain ⟨⟨rfl, hc1⟩, hv⟩ := hv
      rw [hmt] at hm2
      simp only [Option.some.injEq, Prod.mk.injEq] at hm2
      obtain ⟨rfl, rfl⟩ := hm2
      exact fin ks vs ens kc hr2 hc1 hk1 hv1 hcf (.inr ⟨r, clk, e1.trans e2, hh⟩) hv
end
end WB
