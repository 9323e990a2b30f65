/-
  THE OWN LAYER, J: composites; least and greatest; and the sum of all operations that yield a value.
-/
import Derived.Test.YtpkoilfecgmogaaCoreI
namespace WB
open Go Go.RowKit

section
variable {G : Nat → List CV} {P : Program} {w : World} {M : Nat → Prop} {B : Nat} {z : Cz} {ob rd : Nat → Ob} {fr : Nat → SV} {a : Act} {o : Oper}

theorem fold_set : ∀ (vs : List Value) (cs : Array Value) (off k : Nat), off + k + vs.length ≤ cs.size →
    ((vs.zipIdx k).foldl (fun (cs : Array Value) (p : Value × Nat) => cs.setIfInBounds (off + p.2) p.1) cs).toList = cs.toList.take (off + k) ++ vs ++ cs.toList.drop (off + k + vs.length)
  | [], cs, off, k, _ => by simp
  | v :: vs, cs, off, k, h => by
    simp only [List.zipIdx_cons, List.foldl_cons]
    rw [fold_set vs _ off (k + 1) (by simpa using by simp at h; omega)]
    simp only [Array.toList_setIfInBounds, List.length_cons] at h ⊢
    have hk : off + k < cs.toList.length := by simp; omega
    have e1 : (cs.toList.set (off + k) v).take (off + (k + 1)) = cs.toList.take (off + k) ++ [v] := by
      rw [show off + (k + 1) = off + k + 1 by omega, List.take_succ_eq_append_getElem (by simpa using hk)]
      simp only [List.getElem_set_self, List.take_set]
      rw [List.set_eq_of_length_le (by simp; omega)]
    have e2 : (cs.toList.set (off + k) v).drop (off + (k + 1) + vs.length) = cs.toList.drop (off + k + (vs.length + 1)) := by
      rw [List.drop_set_of_lt (by omega)]
      congr 1
      omega
    rw [e1, e2]
    simp

theorem run_fill (place : Nat → Option (Nat × Nat)) : ∀ (ps : List (Nat × Nat × CV)) (is : List Nat) (vs : List Value) (cs : List CV) (us : List Value) (r : List CV),
    is.length = ps.length → vs.length = ps.length → (∀ (j : Nat) i p v, is[j]? = some i → ps[j]? = some p → vs[j]? = some v → place i = some (p.1, p.2.1) ∧ RelC w M p.2.2 v) →
    RelL w M cs us → fillC cs ps = some r → ∃ rs : List Value, Instr.fill place ⟨us⟩ (is.zip vs) = some ⟨rs⟩ ∧ RelL w M r rs
  | [], is, vs, cs, us, r, h1, h2, _, hl, hr => by
    simp only [fillC, Option.some.injEq] at hr
    subst hr
    have : is = [] := List.eq_nil_of_length_eq_zero h1
    subst this
    exact ⟨us, rfl, hl⟩
  | p :: ps, [], vs, cs, us, r, h1, _, _, _, _ => by simp at h1
  | p :: ps, i :: is, [], cs, us, r, _, h2, _, _, _ => by simp at h2
  | (off, size, c) :: ps, i :: is, v :: vs, cs, us, r, h1, h2, hp, hl, hr => by
    obtain ⟨hpl, hrel⟩ := hp 0 i (off, size, c) v rfl rfl rfl
    simp only [fillC, Option.ite_none_right_eq_some] at hr
    obtain ⟨⟨hs, hle⟩, hr⟩ := hr
    have hsz : v.cells.size = size := by rw [hrel.cells_size, hs]
    have hlen := hl.length
    have hfold : (v.cells.zipIdx.foldl (fun (cs : Array Value) (p : Value × Nat) => cs.setIfInBounds (off + p.2) p.1) (⟨us⟩ : Array Value)) = ⟨us.take off ++ v.cells.toList ++ us.drop (off + size)⟩ := by
      apply Array.toList_inj.1
      rw [← Array.foldl_toList, Array.toList_zipIdx]
      have := fold_set v.cells.toList ⟨us⟩ off 0 (by simp [hsz]; omega)
      rw [this]
      simp [hsz]
    have hl' : RelL w M (cs.take off ++ c.cells ++ cs.drop (off + size)) (us.take off ++ v.cells.toList ++ us.drop (off + size)) :=
      ((hl.take off).append hrel.cells).append (hl.drop _)
    obtain ⟨rs, h3, h4⟩ := run_fill place ps is vs _ _ r (by simpa using h1) (by simpa using h2) (fun j i p v hi hps hv => hp (j + 1) i p v (by simpa using hi) (by simpa using hps) (by simpa using hv)) hl' hr
    refine ⟨rs, ?_, h4⟩
    simp only [List.zip_cons_cons, Instr.fill, hpl]
    rw [if_neg (by simp [hsz, hlen]; omega)]
    rw [← h3]
    congr 1

theorem mapM_pure_list {α β : Type} (f : α → Sem β) (g : α → β) (hf : ∀ x, (f x).run P w = .ok (g x) w) : ∀ (l : List α), (l.mapM f).run P w = .ok (l.map g) w
  | [] => rfl
  | x :: l => by
    rw [List.mapM_cons]
    simp [hf x, mapM_pure_list f g hf l]

theorem parts_run (h : Ctx P G w M B z ob fr a) {pick : Nat → Option (Nat × Nat)} : ∀ {parts : List (Nat × Operand)} {sps : List (Nat × Nat × SO)} {ps : List (Nat × Nat × CV)},
    allM (fun p : Nat × Operand => (pick p.1).bind fun os => (compO p.2).map fun x => (os.1, os.2, x)) parts = some sps →
    allM (fun p : Nat × Nat × SO => (closed (so G fr p.2.2)).map fun v => (p.1, p.2.1, v)) sps = some ps →
    ∃ (is : List Nat) (vs : List Value), (parts.map fun p => (p.1, a.eval p.2)) = is.zip vs ∧ is.length = ps.length ∧ vs.length = ps.length ∧
      (∀ (j : Nat) i p v, is[j]? = some i → ps[j]? = some p → vs[j]? = some v → pick i = some (p.1, p.2.1) ∧ RelC w M p.2.2 v)
  | [], sps, ps, h1, h2 => by
    simp only [allM, Option.some.injEq] at h1; subst h1
    simp only [allM, Option.some.injEq] at h2; subst h2
    exact ⟨[], [], rfl, rfl, rfl, fun j i p v hi => by simp at hi⟩
  | (i, x) :: parts, sps, ps, h1, h2 => by
    simp only [allM, Option.bind_eq_some_iff, Option.map_eq_some_iff] at h1
    obtain ⟨q, ⟨os, ho, sx, hsx, rfl⟩, qs, hqs, rfl⟩ := h1
    simp only [allM, Option.bind_eq_some_iff, Option.map_eq_some_iff] at h2
    obtain ⟨p, ⟨c, hc, rfl⟩, ps', hps', rfl⟩ := h2
    obtain ⟨is, vs, e1, e2, e3, e4⟩ := parts_run h hqs hps'
    have hcl : so G fr sx = .c c := by
      cases hh : so G fr sx <;> rw [hh] at hc <;> simp [closed] at hc
      rw [hc]
    refine ⟨i :: is, a.eval x :: vs, by simp [e1], by simp [e2], by simp [e3], fun j i' p v hi hp hv => ?_⟩
    cases j with
    | zero =>
      simp at hi hp hv
      subst hi; subst hp; subst hv
      exact ⟨ho, h.c hsx hcl⟩
    | succ j => exact e4 j i' p v (by simpa using hi) (by simpa using hp) (by simpa using hv)

theorem val_build (h : Ctx P G w M B z ob fr a) {t : TypeId} {i : TypeInfo} {vz : Value} {zc : CV} {parts : Array (Nat × Operand)} {sps : List (Nat × Nat × SO)} (hi : P.info? t = some i) (hz : i.zero = some vz) (hzc : cvOf vz = some zc)
    (hp : partsOf P t parts.toList = some sps) {sv : SV} (hv : valOp rd (so G fr) (.build zc.cells sps) = some sv) :
    ∃ v, (Instr.build t (parts.map fun (i, x) => (i, a.eval x))).run P w = .ok v w ∧ RelS w M z ob sv v := by
  simp only [valOp, Option.bind_eq_some_iff, Option.map_eq_some_iff] at hv
  obtain ⟨ps, hps, r, hr, rfl⟩ := hv
  have zr : RelL w M zc.cells vz.cells.toList := RelC.cells (cvOf_rel w M vz zc hzc)
  have rz := run_zero (P := P) hi hz w
  have pick : ∀ (pk : Nat → Option (Nat × Nat)), allM (fun p : Nat × Operand => (pk p.1).bind fun os => (compO p.2).map fun x => (os.1, os.2, x)) parts.toList = some sps →
      ∃ rs : List Value, Instr.fill pk vz.cells (parts.toList.map fun p => (p.1, a.eval p.2)) = some ⟨rs⟩ ∧ RelL w M r rs := by
    intro pk hpk
    obtain ⟨is, vs, e1, e2, e3, e4⟩ := parts_run h hpk hps
    obtain ⟨rs, h1, h2⟩ := run_fill pk ps is vs zc.cells vz.cells.toList r e2 e3 e4 zr hr
    refine ⟨rs, ?_, h2⟩
    rw [e1]
    exact h1
  unfold partsOf at hp
  split at hp
  · rename_i fs hu
    split at hp
    · cases hp
    · rename_i hall
      have hall' : ∀ f ∈ fs.toList, (P.info? f.type).isSome = true := by
        cases hb : (fs.toList.all fun f => (P.info? f.type).isSome) with
        | true => exact List.all_eq_true.1 hb
        | false => rw [hb] at hall; exact absurd rfl hall
      have hp' : allM (fun p : Nat × Operand => (((fs[p.1]?).bind fun f => (P.info? f.type).map fun i => (f.offset, i.size))).bind fun os => (compO p.2).map fun x => (os.1, os.2, x)) parts.toList = some sps := by
        rw [← hp]
        congr 1
        funext p
        cases fs[p.1]? with
        | none => rfl
        | some f => simp only [Option.bind_some]; cases P.info? f.type <;> rfl
      obtain ⟨rs, h1, h2⟩ := pick (fun i => ((fs[i]?).bind fun f => (P.info? f.type).map fun i => (f.offset, i.size))) hp'
      have hm : ∀ l : List Field, (∀ f ∈ l, (P.info? f.type).isSome = true) → (l.mapM (fun (f : Field) => Prod.mk f.offset <$> Go.sizeOf f.type)).run P w = .ok (l.map fun f => (f.offset, P.cellsOf f.type)) w := by
        intro l
        induction l with
        | nil => intro _; rfl
        | cons f l ih =>
          intro hl
          obtain ⟨i', hi'⟩ := Option.isSome_iff_exists.1 (hl f (by simp))
          rw [List.mapM_cons]
          simp [run_sizeOf_some hi', Program.cellsOf, hi', ih (fun f hf => hl f (by simp [hf]))]
      have hpl : (fs.mapM (fun (f : Field) => Prod.mk f.offset <$> Go.sizeOf f.type)).run P w = .ok (fs.map fun f => (f.offset, P.cellsOf f.type)) w := by
        rw [Array.mapM_eq_mapM_toList]
        simp [hm fs.toList hall']
        apply Array.toList_inj.1
        simp
      have hpk : (fun (i : Nat) => ((fs[i]?).bind fun (f : Field) => (P.info? f.type).map fun i => (f.offset, i.size))) = fun i => (fs[i]?).map fun (f : Field) => (f.offset, P.cellsOf f.type) := by
        funext i
        cases hf : fs[i]? with
        | none => rfl
        | some f =>
          obtain ⟨i', hi'⟩ := Option.isSome_iff_exists.1 (hall' f (by simpa using Array.mem_of_getElem? hf))
          simp [hi', Program.cellsOf]
      rw [hpk] at h1
      refine ⟨.agg ⟨rs⟩, ?_, by show RelC _ _ _ _; unfold RelC; exact ⟨rs, rfl, h2⟩⟩
      simp [Instr.build, rz, run_underlying hu, hpl, h1]
  · rename_i n e hu
    cases hie : P.info? e with
    | none => rw [hie] at hp; cases hp
    | some ie =>
      rw [hie] at hp
      have hp' : allM (fun p : Nat × Operand => ((fun i => some (i * ie.size, ie.size)) p.1).bind fun os => (compO p.2).map fun x => (os.1, os.2, x)) parts.toList = some sps := hp
      obtain ⟨rs, h1, h2⟩ := pick (fun i => some (i * ie.size, ie.size)) hp'
      refine ⟨.agg ⟨rs⟩, ?_, by show RelC _ _ _ _; unfold RelC; exact ⟨rs, rfl, h2⟩⟩
      simp [Instr.build, rz, run_underlying hu, run_sizeOf_some hie, h1]
  · cases hp
end
end WB
