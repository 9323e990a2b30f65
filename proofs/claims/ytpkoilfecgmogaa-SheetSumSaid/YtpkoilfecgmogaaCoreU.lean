/-
  THE OWN LAYER, U: one operation, and a list of operations.
-/
import Derived.Test.YtpkoilfecgmogaaCoreT
namespace WB
open Go Go.RowKit

section
variable {P : Program} {E : Env} {w0 : World} {M0 : Nat → Prop} {n : Nat} {st : St} {a : Act} {w w' : World} {z : Cz}

theorem freeze_below {w w1 : World} {g : Nat} (h : Below w.heap.size w w1) (hg : w.heap.size ≤ g) (o k : Nat) : Below w.heap.size w (w1.freeze ⟨g, o, none⟩ k) := by
  unfold World.freeze
  split
  · exact h
  · refine ⟨h.os, h.tape, h.output, by simpa using h.size, fun j hj => ?_⟩
    simp only [Array.getElem?_modify]
    rw [if_neg (by omega)]
    exact h.block j hj

theorem grow_op {o : Oper} {sop : SOp} (hc : compOp P o = some sop) (hcls : sop.cls = .grow) : ∃ src dst x, o.op = .convert src dst x ∧ compConv P src dst x = some sop := by
  unfold compOp at hc
  split at hc <;> rename_i ho <;> first
    | (cases hc; done)
    | exact ⟨_, _, _, ho, hc⟩
    | (exfalso; have := compBin_cls hc; rw [hcls] at this; cases this; done)
    | (exfalso
       unfold compCall at hc
       (repeat' split at hc) <;> simp only [Option.bind_eq_some_iff, Option.map_eq_some_iff, Option.ite_none_right_eq_some, Option.some.injEq, reduceCtorEq] at hc
       all_goals (repeat (first | (subst hc; cases hcls; done) | (obtain ⟨_, hc⟩ := hc)))
       done)
    | (exfalso
       (repeat' split at hc) <;> simp only [Option.bind_eq_some_iff, Option.map_eq_some_iff, Option.ite_none_left_eq_some, Option.ite_none_right_eq_some, Option.some.injEq, Prod.exists, reduceCtorEq] at hc
       all_goals (repeat (first | (subst hc; cases hcls; done) | (obtain ⟨_, hc⟩ := hc)))
       done)

theorem grow_sound {G : Nat → List CV} (h : SR P G w0 M0 n st a w z) {rd : Nat → Ob} {o : Oper} {sop : SOp} (hc : compOp P o = some sop) (hcls : sop.cls = .grow) {sv : SV} (hv : valOp rd (so G st.fr) sop = some sv) :
    ∃ v w', (execOp a.eval o).run P w = .ok (.value v) w' ∧ Below w.heap.size w w' ∧ RelS w' (mutb M0 z st.ob) z st.ob sv v := by
  obtain ⟨src, dst, x, ho, hc⟩ := grow_op hc hcls
  unfold compConv at hc
  split at hc <;> try (cases hc; done)
  · simp only [Option.map_eq_some_iff] at hc; obtain ⟨_, _, rfl⟩ := hc; cases hcls
  · simp only [Option.map_eq_some_iff] at hc; obtain ⟨_, _, rfl⟩ := hc; cases hcls
  · simp only [Option.map_eq_some_iff] at hc; obtain ⟨_, _, rfl⟩ := hc; cases hcls
  · rename_i e hu1 hu2
    split at hc <;> try (cases hc; done)
    rename_i hu3
    simp only [Option.map_eq_some_iff] at hc
    obtain ⟨sx, hx, rfl⟩ := hc
    have hr := h.ctx.opd hx
    simp only [valOp] at hv
    generalize so G st.fr sx = q at hr hv
    split at hv <;> try (cases hv; done)
    rename_i s
    simp only [Option.ite_none_right_eq_some, Option.some.injEq] at hv
    obtain ⟨hle, rfl⟩ := hv
    have e1 := of_str (w := w) (M := mutb M0 z st.ob) hr
    let elems : Array Value := (⟨s⟩ : Array UInt8).map fun b => .int .u8 b.toNat
    have hres : ∃ cap : Nat, s.length ≤ cap ∧ (convert src dst (a.eval x)).run P w = .ok (.slice (some ⟨w.heap.size, 0, none⟩) s.length cap)
        (((w.drew).alloc (.cells (elems ++ Array.replicate (cap - s.length) (.int .u8 0)) e)).freeze ⟨w.heap.size, cap, none⟩ 1) := by
      refine ⟨Question.cut (.appendCap s.length 0 e) (w.tape w.drawn (.appendCap s.length 0 e)), by simp [Question.cut], ?_⟩
      have hsz : (⟨⟨s⟩⟩ : ByteArray).size = s.length := rfl
      have hcap : s.length ≤ Question.cut (.appendCap s.length 0 e) (w.tape w.drawn (.appendCap s.length 0 e)) := by simp [Question.cut]
      generalize hq : Question.cut (.appendCap s.length 0 e) (w.tape w.drawn (.appendCap s.length 0 e)) = cap at hcap ⊢
      have hshape : (((w.drew).alloc (.cells (elems ++ Array.replicate (cap - s.length) (.int .u8 0)) e)).shape? w.heap.size) = some (e, cap) := by
        have := alloc_new w.drew (.cells (elems ++ Array.replicate (cap - s.length) (.int .u8 0)) e)
        have hw : w.drew.heap.size = w.heap.size := rfl
        rw [hw] at this
        simp only [World.shape?, this]
        simp [elems]
        omega
      rw [e1]
      simp only [convert, Sem.run_bind, run_underlying hu1, run_underlying hu2, Result.andThen_ok, run_underlying hu3, Conv.stringToBytes, run_choose, hsz, Question.forced, Bool.false_eq_true, if_false, hq, run_newRow, markStringish, run_shape]
      have hw : ({ w with drawn := w.drawn + 1 } : World) = w.drew := rfl
      rw [hw]
      simp only [elems] at hshape
      rw [hshape]
      simp only [run_freeze, Result.andThen_ok, Sem.run_pure]
      rfl
    obtain ⟨cap, hcap, run⟩ := hres
    have hb0 : Below w.heap.size w ((w.drew).alloc (.cells (elems ++ Array.replicate (cap - s.length) (.int .u8 0)) e)) := ((Below.refl _ w).drew).alloc (Nat.le_refl _) _
    have hb := freeze_below hb0 (Nat.le_refl w.heap.size) cap 1
    refine ⟨.slice (some ⟨w.heap.size, 0, none⟩) s.length cap, _, by simp only [execOp, ho, Sem.run_bind, run, Result.andThen_ok, Sem.run_pure], hb, ?_⟩
    show RelC _ _ _ _
    unfold RelC
    refine ⟨some ⟨w.heap.size, 0, none⟩, s.length, cap, rfl, by simp, hcap, (fun hh => by cases hh), (fun _ hh => by cases hh), (fun hh => by cases hh), fun _ => ⟨⟨w.heap.size, 0, none⟩, 1, rfl, ?_, fun hm => ?_, RelE_of_get fun k el hel => ?_⟩⟩
    · have : w.drew.heap.size = w.heap.size := rfl
      simp [World.freeze, this]
    · have := h.mutW _ hm; simp at this
    · rw [List.getElem?_map, Option.map_eq_some_iff] at hel
      obtain ⟨b, hb', rfl⟩ := hel
      refine ⟨.int .u8 b.toNat, rel_int, rfl, fun j u hu => ?_⟩
      have hk := (List.getElem?_eq_some_iff.1 hb').1
      have hj : j = 0 := by
        have := (Array.getElem?_eq_some_iff.1 hu).1
        simp [Value.cells] at this
        exact this
      subst hj
      simp only [Value.cells] at hu
      have hu' : Value.int .u8 b.toNat = u := by simpa using hu
      subst hu'
      rw [addr_add]
      have hheap : ∃ fz, (((w.drew).alloc (.cells (elems ++ Array.replicate (cap - s.length) (.int .u8 0)) e)).freeze ⟨w.heap.size, cap, none⟩ 1).heap[w.heap.size]? = some (.cells (elems ++ Array.replicate (cap - s.length) (.int .u8 0)) e fz) := by
        have := alloc_new w.drew (.cells (elems ++ Array.replicate (cap - s.length) (.int .u8 0)) e)
        have hw : w.drew.heap.size = w.heap.size := rfl
        rw [hw] at this
        refine ⟨(cap, cap + 1), ?_⟩
        unfold World.freeze
        rw [if_neg (by omega)]
        simp only [Array.getElem?_modify, this, if_true, Option.map_some]
        rfl
      obtain ⟨fz, hheap⟩ := hheap
      rw [cell_of_row _ _ _ _ _ _ hheap]
      have : 0 + ((0 + k) * 1 + 0) = k := by omega
      rw [this, Array.getElem?_append_left (by simp [elems]; exact hk)]
      simp [elems, hb']
  · split at hc <;> try (cases hc; done)
    simp only [Option.map_eq_some_iff] at hc; obtain ⟨_, _, rfl⟩ := hc; cases hcls
end
end WB
