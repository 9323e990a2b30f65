/-
 OWN TEXTS, MERGED (wip/merge.py): CoreN, CoreO, CoreP, CoreQ, CoreR, CoreS, CoreT, CoreU, CoreV, CoreW, CoreWb, CoreWd, CoreWe, CoreWc. No condition of their own.
-/
import Derived.Test.YtlglbkbfmhelcaaGreatDoorK1
import Derived.Maps.AppendAt
import Derived.Orders
set_option linter.unusedVariables false
set_option linter.unusedSimpArgs false
namespace WB
open Go Go.RowKit
section
variable {P : Program} {G : Nat → List CV} {w0 : World} {M0 : Nat → Prop} {n : Nat} {st : St} {a : Act} {w : World} {z : Cz}
theorem RelF_of_list {M : Nat → Prop} {size : Nat} : ∀ {cs : List CV} {vs : List Value}, RelL w M cs vs → (cs.all fun v => cellsN v == size) = true → RelF w M size cs (vs.flatMap fun v => v.cells.toList)
 | [], vs, h, _ => by unfold RelL at h; subst h; rfl
 | c :: cs, vs, h, hs => by
  unfold RelL at h
  obtain ⟨v, vs', rfl, h1, h2⟩ := h
  simp only [List.all_cons, Bool.and_eq_true, beq_iff_eq] at hs
  exact ⟨v, _, by simp, by rw [h1.cells_size, hs.1], h1, RelF_of_list h2 hs.2⟩
theorem madeCells_cons (zc : Array Value) (n : Nat) : (madeCells zc ((n + 1) * zc.size)).toList = zc.toList ++ (madeCells zc (n * zc.size)).toList := by
 have e : (n + 1) * zc.size = zc.size + n * zc.size := by rw [Nat.add_mul]; omega
 rw [e]
 simp only [madeCells, Array.toList_map, Array.toList_range, List.range_add, List.map_append, List.map_map]
 congr 1
 ·apply List.ext_getElem
  ·simp
  ·intro i h1 h2
   simp at h1
   simp [Nat.mod_eq_of_lt h1, h1]
 ·apply List.map_congr_left
  intro i _
  simp
theorem RelF_made {M : Nat → Prop} {c : CV} {v : Value} (h : RelC w M c v) {size : Nat} (hs : v.cells.size = size) : ∀ n, RelF w M size (List.replicate n c) (madeCells v.cells (n * size)).toList
 | 0 => by simp [RelF, madeCells]
 | n + 1 => by
  subst hs
  rw [List.replicate_succ, madeCells_cons]
  exact ⟨v, _, rfl, rfl, h, RelF_made h rfl n⟩
theorem take_made (zc : Array Value) {a b : Nat} (h : a ≤ b) : (madeCells zc b).toList.take a = (madeCells zc a).toList := by
 simp only [madeCells, Array.toList_map, Array.toList_range, ← List.map_take, List.take_range, Nat.min_eq_left h]
theorem seqParts_run (h : SR P G w0 M0 n st a w z) : ∀ {parts : List (Nat × Operand)} {i : Nat} {xs : List SO} {l : List CV}, seqParts i parts = some xs → allM (fun x => closed (so G st.fr x)) xs = some l →
  ∃ vs : List Value, (parts.map fun p => (p.1, a.eval p.2)) = (List.range' i vs.length).zip vs ∧ RelL w (mutb M0 z st.ob) l vs
 | [], i, xs, l, h1, h2 => by
  simp only [seqParts, Option.some.injEq] at h1; subst h1
  simp only [allM, Option.some.injEq] at h2; subst h2
  exact ⟨[], rfl, RelL.nil⟩
 | (j, x) :: parts, i, xs, l, h1, h2 => by
  simp only [seqParts, Option.ite_none_right_eq_some, Option.bind_eq_some_iff, Option.map_eq_some_iff] at h1
  obtain ⟨rfl, sx, hsx, ss, hss, rfl⟩ := h1
  simp only [allM, Option.bind_eq_some_iff, Option.map_eq_some_iff] at h2
  obtain ⟨c, hc, cs, hcs, rfl⟩ := h2
  obtain ⟨vs, e1, e2⟩ := seqParts_run h hss hcs
  have hcl : so G st.fr sx = .c c := by
   cases hh : so G st.fr sx <;> rw [hh] at hc <;> simp [closed] at hc
   rw [hc]
  exact ⟨a.eval x :: vs, by simp [e1, List.range'_succ], RelL.cons (h.ctx.c hsx hcl) e2⟩
theorem fill_seq {size : Nat} : ∀ (vs : List Value) (k : Nat) (pre rest : List Value), pre.length = k * size → rest.length = vs.length * size → (∀ v ∈ vs, v.cells.size = size) →
  Instr.fill (fun i => some (i * size, size)) ⟨pre ++ rest⟩ ((List.range' k vs.length).zip vs) = some ⟨pre ++ vs.flatMap fun v => v.cells.toList⟩
 | [], k, pre, rest, _, h2, _ => by
  have : rest = [] := List.eq_nil_of_length_eq_zero (by simpa using h2)
  subst this
  rfl
 | v :: vs, k, pre, rest, h1, h2, h3 => by
  have hv := h3 v (by simp)
  simp only [List.length_cons, List.range'_succ, List.zip_cons_cons, Instr.fill]
  rw [if_neg (by simp [hv, h1, h2, Nat.add_mul])]
  have hfold : (v.cells.zipIdx.foldl (fun (cs : Array Value) (p : Value × Nat) => cs.setIfInBounds (k * size + p.2) p.1) (⟨pre ++ rest⟩ : Array Value)) = ⟨(pre ++ v.cells.toList) ++ rest.drop size⟩ := by
   apply Array.toList_inj.1
   rw [← Array.foldl_toList, Array.toList_zipIdx]
   have := fold_set v.cells.toList ⟨pre ++ rest⟩ (k * size) 0 (by simp [hv, h1, h2, Nat.add_mul])
   rw [this]
   simp [hv, ← h1, List.drop_append]
  have ih := fill_seq vs (k + 1) (pre ++ v.cells.toList) (rest.drop size) (by simp [h1, hv, Nat.add_mul]) (by simp [h2, Nat.add_mul]) (fun u hu => h3 u (by simp [hu]))
  have e : (v.cells.zipIdx.foldl (fun (cs : Array Value) (x : Value × Nat) => match x with | (c, j) => cs.setIfInBounds (k * size + j) c) (⟨pre ++ rest⟩ : Array Value)) = ⟨(pre ++ v.cells.toList) ++ rest.drop size⟩ := hfold
  rw [e, ih]
  simp
def Makes (P : Program) (G : Nat → List CV) (w0 : World) (M0 : Nat → Prop) (n : Nat) (st : St) (a : Act) (w : World) (o : Oper) (d : Nat) (sv : SV) (ob : Ob) : Prop :=
 ∃ v w' z', (execOp a.eval o).run P w = .ok (.value v) w' ∧ SR P G w0 M0 n { fr := upd st.fr d sv, ob := upd st.ob d ob } (a.put (some d) v) w' z'
theorem makes_of (h : SR P G w0 M0 n st a w z) {o : Oper} {d : Nat} (hd : d < n) (hn : st.ob d = .none) {sv : SV} {ob : Ob} {s : Sem Value} {v : Value} {w' : World} (he : execOp a.eval o = (do pure (.value (← s)) : Sem Next)) (hr : s.run P w = .ok v w')
  (hb : Below w.heap.size w w') (hv : ∀ g, blk v = some g → w.heap.size ≤ g ∧ g < w'.heap.size)
  (hk : Keeps w (mutb M0 z st.ob) w' (mutb M0 (z.new d v) (upd st.ob d ob)) → (∀ s, KeepsZ st.ob z (upd st.ob d ob) (z.new d v) s) → RelO P w' (mutb M0 (z.new d v) (upd st.ob d ob)) w0.heap.size (z.new d v) (upd st.ob d ob) d v ob ∧ RelS w' (mutb M0 (z.new d v) (upd st.ob d ob)) (z.new d v) (upd st.ob d ob) sv v) :
  Makes P G w0 M0 n st a w o d sv ob := by
 have k1 := keeps_new (M0 := M0) (z := z) (o := ob) hn hb (fun g hg => (hv g hg).1)
 obtain ⟨h1, h2⟩ := hk k1 (keepsZ_new hn)
 exact ⟨v, w', z.new d v, by rw [he]; simp [hr], h.new hd hn hb hv h1 h2⟩
theorem live_upd {d : Nat} {ob : Ob} (h : ob ≠ .none) : upd st.ob d ob d ≠ .none := by rw [upd_same]; exact h
theorem new_σ {d : Nat} {v : Value} : (z.new d v).σ d = v := by simp [Cz.new, upd]
theorem makes_box (h : SR P G w0 M0 n st a w z) {o : Oper} {d : Nat} (hd : d < n) (hn : st.ob d = .none) {cs : List SV} {t : TypeId} {vs : List Value} {s : Sem Value} (he : execOp a.eval o = (do pure (.value (← s)) : Sem Next))
  (hr : s.run P w = .ok (.pointer (some ⟨w.heap.size, 0, none⟩)) (w.alloc (.cells ⟨vs⟩ t))) (hs : RelSs w (mutb M0 z st.ob) z st.ob cs vs) : Makes P G w0 M0 n st a w o d (.ptr d 0) (.box cs) := by
 refine makes_of h hd hn he hr (below_alloc _ _) (fun g hg => ?_) fun hk hz => ⟨⟨w.heap.size, t, vs, rfl, alloc_new _ _, RelSs.keep hk (fun s _ => hz s) hs⟩, live_upd (by simp), w.heap.size, new_σ, rfl⟩
 simp only [blk, Option.some.injEq] at hg
 subst hg
 exact ⟨Nat.le_refl _, by simp⟩
theorem cells_live (h : SR P G w0 M0 n st a w z) {s : SV} {v : Value} (hs : RelS w (mutb M0 z st.ob) z st.ob s v) (hc : ∀ cs, s ≠ .c (.agg cs)) (hu : s ≠ .undef) : v.cells = #[v] := by
 have live : ∀ id, st.ob id ≠ .none → (z.σ id).cells = #[z.σ id] := by
  intro id hl
  have ho := h.ob id
  cases hob : st.ob id with
  | none => exact absurd hob hl
  | box cs => rw [hob] at ho; obtain ⟨g, ty, vs, e, _⟩ := ho; rw [e]; rfl
  | arr e size es =>
   rw [hob] at ho
   obtain ⟨xs, hown, _⟩ := ho
   rcases hown.2 with ⟨e, _⟩ | ⟨g, cap, cur, e, _⟩ <;> rw [e] <;> rfl
  | map mt kt zc ks vs => rw [hob] at ho; obtain ⟨_, _, _, r, ens, clk, _, e, _⟩ := ho; rw [e]; rfl
  | siter s pos => rw [hob] at ho; obtain ⟨r, e, _⟩ := ho; rw [e]; rfl
 cases s with
 | c cv => exact oneCell_of_RelC hs (fun cs e => hc cs (by rw [e]))
 | ptr id o => obtain ⟨_, g, _, e⟩ := hs; rw [e]; rfl
 | eptr id i sz o => obtain ⟨_, g, n, c, _, e⟩ := hs; rw [e]; rfl
 | osl id => obtain ⟨hl, e⟩ := hs; rw [e]; exact live id hl
 | omap id => obtain ⟨hl, e⟩ := hs; rw [e]; exact live id hl
 | iter id => obtain ⟨hl, e⟩ := hs; rw [e]; exact live id hl
 | stamp id k => obtain ⟨_, b, _, e⟩ := hs; rw [e]; rfl
 | ent id k cv => obtain ⟨_, b, u, _, e, _⟩ := hs; rw [e]; rfl
 | undef => exact absurd rfl hu
theorem compBin_cls {op : BinOp} {t : TypeId} {x y : Operand} {sop : SOp} (hc : compBin P op t x y = some sop) : sop.cls = .val := by
 unfold compBin at hc
 split at hc
 all_goals
  split at hc <;> first
   | (cases hc; done)
   | (simp only [Option.bind_eq_some_iff, Option.map_eq_some_iff] at hc; obtain ⟨_, _, _, _, rfl⟩ := hc; rfl)
   | (split at hc <;> first
    | (cases hc; done)
    | (simp only [Option.bind_eq_some_iff, Option.map_eq_some_iff] at hc; obtain ⟨_, _, _, _, _, _, rfl⟩ := hc; rfl))
theorem compConv_cls {src dst : TypeId} {x : Operand} {sop : SOp} (hc : compConv P src dst x = some sop) : sop.cls = .val ∨ sop.cls = .grow := by
 unfold compConv at hc
 split at hc <;> first
  | (cases hc; done)
  | (simp only [Option.map_eq_some_iff] at hc; obtain ⟨_, _, rfl⟩ := hc; exact .inl rfl)
  | (split at hc <;> first
   | (cases hc; done)
   | (simp only [Option.map_eq_some_iff] at hc; obtain ⟨_, _, rfl⟩ := hc; first | exact .inl rfl | exact .inr rfl))
theorem compCall_cls {c : Call} {sop : SOp} (hc : compCall P c = some sop) : sop.cls ≠ .new := by
 unfold compCall at hc
 split at hc <;> try (cases hc; done)
 ·split at hc <;> first
   | (cases hc; done)
   | (simp only [Option.map_eq_some_iff] at hc; obtain ⟨_, _, rfl⟩ := hc; intro hh; cases hh)
   | (simp only [Option.some.injEq] at hc; subst hc; intro hh; cases hh)
 ·simp only [Option.map_eq_some_iff] at hc; obtain ⟨_, _, rfl⟩ := hc; intro hh; cases hh
 ·simp only [Option.map_eq_some_iff] at hc; obtain ⟨_, _, rfl⟩ := hc; intro hh; cases hh
 ·split at hc <;> try (cases hc; done)
  split at hc <;> try (cases hc; done)
  simp only [Option.bind_eq_some_iff, Option.ite_none_right_eq_some, Option.some.injEq] at hc
  obtain ⟨i, _, zv, _, sa, _, sb, _, _, rfl⟩ := hc
  intro hh; cases hh
 ·split at hc <;> try (cases hc; done)
  rcases callC_some hc with ⟨l, hl, rfl⟩ | ⟨_, _, _, _, _, _, _, rfl⟩ <;> (intro hh; cases hh)
 ·simp only [Option.map_eq_some_iff] at hc; obtain ⟨_, _, rfl⟩ := hc; intro hh; cases hh
theorem new_sound (h : SR P G w0 M0 n st a w z) {o : Oper} {sop : SOp} (hc : compOp P o = some sop) (hcls : sop.cls = .new) {d : Nat} {sv : SV} {ob : Ob} (hv : newOp (so G st.fr) d sop = some (sv, ob)) (hd : d < n) (hn : st.ob d = .none) :
  Makes P G w0 M0 n st a w o d sv ob := by
 unfold compOp at hc
 split at hc <;> rename_i ho <;> try (cases hc; done)
 ·simp only [Option.map_eq_some_iff] at hc; obtain ⟨_, _, rfl⟩ := hc; cases hcls
 ·simp only [Option.map_eq_some_iff] at hc; obtain ⟨_, _, rfl⟩ := hc; cases hcls
 ·simp only [Option.bind_eq_some_iff, Option.map_eq_some_iff] at hc; obtain ⟨_, _, _, _, _, _, rfl⟩ := hc; cases hcls
 ·
  rename_i t
  simp only [Option.bind_eq_some_iff, Option.map_eq_some_iff] at hc
  obtain ⟨i, hi, vz, hz, zc, hzc, rfl⟩ := hc
  simp only [newOp, Option.some.injEq, Prod.mk.injEq] at hv
  obtain ⟨rfl, rfl⟩ := hv
  refine makes_box h hd hn (t := t) (vs := vz.cells.toList) (s := Instr.alloc t true (.tuple #[])) (by simp only [execOp, ho]) ?_ (RelSs.of_c (RelC.cells (cvOf_rel _ _ vz zc hzc)))
  simp [Instr.alloc, run_zero hi hz, run_newVar]
 ·
  rename_i t x
  simp only [Option.map_eq_some_iff] at hc
  obtain ⟨sx, hx, rfl⟩ := hc
  have hr := h.ctx.opd hx
  simp only [newOp] at hv
  have run : (Instr.box t (a.eval x)).run P w = .ok (.pointer (some ⟨w.heap.size, 0, none⟩)) (w.alloc (.cells ⟨(a.eval x).cells.toList⟩ t)) := by
   simp [Instr.box, run_newVar]
  generalize so G st.fr sx = q at hr hv
  split at hv
  ·rename_i cs
   simp only [Option.some.injEq, Prod.mk.injEq] at hv
   obtain ⟨rfl, rfl⟩ := hv
   exact makes_box h hd hn (by simp only [execOp, ho]) run (RelSs.of_c (RelC.cells hr))
  ·cases hv
  ·rename_i hne hnu
   simp only [Option.some.injEq, Prod.mk.injEq] at hv
   obtain ⟨rfl, rfl⟩ := hv
   have hcell := cells_live h hr hne hnu
   rw [hcell] at run
   exact makes_box h hd hn (by simp only [execOp, ho]) run ⟨a.eval x, [], rfl, hr, rfl⟩
 ·simp only [Option.bind_eq_some_iff, Option.map_eq_some_iff] at hc; obtain ⟨_, _, _, _, _, _, _, _, rfl⟩ := hc; cases hcls
 ·
  rename_i t len parts
  split at hc <;> try (cases hc; done)
  rename_i e hu
  simp only [Option.bind_eq_some_iff, Option.ite_none_right_eq_some, Option.some.injEq] at hc
  obtain ⟨i, hi, vz, hz, zc, hzc, xs, hxs, ⟨hlen, h0, hsz, hle⟩, rfl⟩ := hc
  simp only [newOp, Option.bind_eq_some_iff, Option.ite_none_right_eq_some, Option.some.injEq, Prod.mk.injEq] at hv
  obtain ⟨l, hl, hall, rfl, rfl⟩ := hv
  obtain ⟨vs, e1, hrl⟩ := seqParts_run h hxs hl
  have hvz : vz.cells.size = i.size := by rw [(cvOf_rel w (fun _ => False) vz zc hzc).cells_size, hsz]
  have hvl : vs.length = len := by rw [hrl.length, allM_length hl, hlen]
  have hvs : ∀ v ∈ vs, v.cells.size = i.size := by
   intro v hvm
   obtain ⟨j, hj, hjv⟩ := List.getElem_of_mem hvm
   have hjc : l[j]? = some (l[j]'(by rw [← hrl.length]; exact hj)) := List.getElem?_eq_getElem _
   obtain ⟨v', g1, g2⟩ := hrl.get hjc
   have : v' = v := by rw [List.getElem?_eq_getElem hj] at g1; simpa [hjv] using g1.symm
   subst this
   rw [g2.cells_size]
   have := List.all_eq_true.1 hall _ (List.mem_of_getElem? hjc)
   simpa using this
  have hfill := fill_seq (size := i.size) vs 0 [] (madeCells vz.cells (len * i.size)).toList (by simp) (by simp [size_madeCells, hvl]) hvs
  have run : (Instr.buildSlice t len (parts.map fun (i, x) => (i, a.eval x))).run P w = .ok (.slice (some ⟨w.heap.size, 0, none⟩) len len) (w.alloc (.cells ⟨vs.flatMap fun v => v.cells.toList⟩ e)) := by
   have hp : (parts.map fun (p : Nat × Operand) => (p.1, a.eval p.2)).toList = (List.range' 0 vs.length).zip vs := by rw [Array.toList_map]; exact e1
   have hz0 : (madeCells vz.cells (len * i.size)) = (Array.range (len * i.size)).map (vz.cells[· % vz.cells.size]!) := rfl
   have hn24 : ¬ (16777216 < len * i.size) := by omega
   by_cases hnil : len * i.size = 0
   ·have hl0 : len = 0 := by
     rcases Nat.eq_zero_or_pos len with h' | h'
     ·exact h'
     ·have := Nat.mul_pos h' h0; omega
    have hvn : vs = [] := List.eq_nil_of_length_eq_zero (by omega)
    subst hvn
    subst hl0
    have hpn : parts = #[] := by
     have : parts.toList = [] := by simpa using e1
     exact Array.toList_inj.1 (by simpa using this)
    subst hpn
    simp [Instr.buildSlice, run_underlying hu, run_sizeOf_some hi, Instr.fill, run_newRow]
    congr 2
    apply Array.toList_inj.1
    simp
   ·have hf : Instr.fill (fun i_1 => some (i_1 * i.size, i.size)) ((Array.range (len * i.size)).map (vz.cells[· % vz.cells.size]!)) (parts.map fun (p : Nat × Operand) => (p.1, a.eval p.2)).toList = some ⟨vs.flatMap fun v => v.cells.toList⟩ := by
     rw [hp, ← hz0]
     simpa using hfill
    simp only [Instr.buildSlice, Sem.run_bind, run_underlying hu, Result.andThen_ok, run_sizeOf_some hi]
    rw [show (2 : Nat) ^ 24 = 16777216 from rfl, if_neg (by omega)]
    simp only [Sem.run_bind, Sem.run_pure, Result.andThen_ok, if_neg hnil, run_zero hi hz, hf, run_newRow]
  have hxl : (vs.flatMap fun v => v.cells.toList).length = len * i.size := by
   have := RelF_length (RelF_of_list hrl hall)
   rw [this, ← hvl, hrl.length]
  refine makes_of h hd hn (by simp only [execOp, ho]) run (below_alloc _ _) (fun g hg => ?_) fun hk hz' => ⟨⟨vs.flatMap fun v => v.cells.toList, ⟨?_, .inr ⟨w.heap.size, len, ⟨vs.flatMap fun v => v.cells.toList⟩, ?_, h.below.size, alloc_new _ _, ?_, ?_, by simp [hxl], ?_⟩⟩, RelF.keep hk (RelF_of_list hrl hall)⟩, live_upd (by simp), new_σ.symm⟩
  ·simp only [blk, Option.some.injEq] at hg
   subst hg
   exact ⟨Nat.le_refl _, by simp⟩
  ·rw [hxl, ← hvl, hrl.length]
  ·rw [← hvl, hrl.length]
  ·rw [← hvl, hrl.length]; exact Nat.le_refl _
  ·have hm : len ≤ len * i.size := Nat.le_mul_of_pos_right _ h0
   unfold maxLen
   omega
  ·rw [← hrl.length, hvl]
   rw [List.take_of_length_le (by simp [hxl])]
 ·simp only [Option.bind_eq_some_iff, Option.map_eq_some_iff] at hc; obtain ⟨_, _, _, _, rfl⟩ := hc; cases hcls
 ·simp only [Option.bind_eq_some_iff, Option.map_eq_some_iff] at hc; obtain ⟨_, _, _, _, _, _, rfl⟩ := hc; cases hcls
 ·have := compBin_cls hc; rw [hcls] at this; cases this
 ·simp only [Option.map_eq_some_iff] at hc; obtain ⟨_, _, rfl⟩ := hc; cases hcls
 ·have := compConv_cls hc; rw [hcls] at this; rcases this with h' | h' <;> cases h'
 ·split at hc
  ·simp only [Option.map_eq_some_iff] at hc; obtain ⟨_, _, rfl⟩ := hc; cases hcls
  ·cases hc
 ·
  rename_i t
  simp only [Option.map_eq_some_iff, Prod.exists] at hc
  obtain ⟨kt, zc, hmt, rfl⟩ := hc
  simp only [newOp, Option.some.injEq, Prod.mk.injEq] at hv
  obtain ⟨rfl, rfl⟩ := hv
  refine makes_of h hd hn (s := Instr.makeMap t none) (v := .map (some w.heap.size)) (w' := w.alloc (.map #[] 0)) (by simp only [execOp, ho, Option.map_none]) (by simp [Instr.makeMap]) (below_alloc _ _) (fun g hg => ?_)
   fun hk hz => ⟨⟨hmt, [], [], w.heap.size, [], 0, MP.refl rfl, rfl, alloc_new _ _, RelL.nil, RelL.nil, (fun _ hh => by cases hh), List.nodup_nil, (fun _ hh => by cases hh), List.nodup_nil, fun k b hh => by simp [Cz.new] at hh⟩, live_upd (by simp), new_σ.symm⟩
  simp only [blk, Option.some.injEq] at hg
  subst hg
  exact ⟨Nat.le_refl _, by simp⟩
 ·
  rename_i t x y
  split at hc <;> try (cases hc; done)
  rename_i e hu
  simp only [Option.bind_eq_some_iff, Option.ite_none_right_eq_some, Option.some.injEq] at hc
  obtain ⟨i, hi, vz, hz, zc, hzc, sx, hx, sy, hy, ⟨h0, hsz⟩, rfl⟩ := hc
  have hr := h.ctx.opd hx
  have hr2 := h.ctx.opd hy
  simp only [newOp] at hv
  generalize so G st.fr sx = q at hr hv
  generalize so G st.fr sy = q2 at hr2 hv
  split at hv <;> try (cases hv; done)
  rename_i k1 l k2 m
  simp only [Option.ite_none_right_eq_some, Option.some.injEq, Prod.mk.injEq] at hv
  obtain ⟨⟨g1, g2, g3, g4⟩, rfl, rfl⟩ := hv
  have e1 := of_int (w := w) (M := mutb M0 z st.ob) hr
  have e2 := of_int (w := w) (M := mutb M0 z st.ob) hr2
  have hvz : vz.cells.size = i.size := by rw [(cvOf_rel w (fun _ => False) vz zc hzc).cells_size, hsz]
  have hbytes : (i.bytes : Int) * m ≤ 281474976710656 := by rw [Int.mul_comm]; omega
  have run := run_make (P := P) w t e i vz hu hi hz k1 k2 l m g1 g2 hbytes (by omega)
  refine makes_of h hd hn (s := Instr.makeSlice t (a.eval x) (a.eval y)) (by simp only [execOp, ho]) (by rw [e1, e2]; exact run) (below_alloc _ _) (fun g hg => ?_)
   fun hk hz' => ⟨⟨(madeCells vz.cells (l.toNat * i.size)).toList, ⟨?_, .inr ⟨w.heap.size, m.toNat, madeCells vz.cells (m.toNat * i.size), ?_, h.below.size, alloc_new _ _, ?_, ?_, size_madeCells _ _, ?_⟩⟩, RelF_made (cvOf_rel _ _ vz zc hzc) hvz _⟩, live_upd (by simp), new_σ.symm⟩
  ·simp only [blk, Option.some.injEq] at hg
   subst hg
   exact ⟨Nat.le_refl _, by simp⟩
  ·simp [size_madeCells]
  ·simp
  ·simp; omega
  ·unfold maxLen; omega
  ·rw [List.length_replicate]
   exact take_made _ (Nat.mul_le_mul_right _ (by omega))
 ·split at hc <;> try (cases hc; done)
  ·simp only [Option.bind_eq_some_iff, Option.map_eq_some_iff] at hc; obtain ⟨_, _, _, _, _, _, rfl⟩ := hc; cases hcls
  ·simp only [Option.bind_eq_some_iff, Option.map_eq_some_iff] at hc; obtain ⟨_, _, _, _, _, _, _, _, rfl⟩ := hc; cases hcls
  ·split at hc <;> try (cases hc; done)
   simp only [Option.bind_eq_some_iff, Option.ite_none_right_eq_some, Option.map_eq_some_iff] at hc; obtain ⟨_, _, _, _, _, rfl⟩ := hc; cases hcls
 ·split at hc <;> try (cases hc; done)
  simp only [Option.bind_eq_some_iff, Option.ite_none_left_eq_some, Option.map_eq_some_iff] at hc; obtain ⟨_, _, _, _, _, _, _, rfl⟩ := hc; cases hcls
 ·split at hc <;> try (cases hc; done)
  simp only [Option.bind_eq_some_iff, Option.map_eq_some_iff] at hc; obtain ⟨_, _, _, _, _, _, rfl⟩ := hc; cases hcls
 ·split at hc <;> try (cases hc; done)
  ·simp only [Option.bind_eq_some_iff, Option.ite_none_left_eq_some, Option.map_eq_some_iff] at hc; obtain ⟨_, _, _, _, _, _, _, rfl⟩ := hc; cases hcls
  ·simp only [Option.bind_eq_some_iff, Option.ite_none_left_eq_some, Option.map_eq_some_iff] at hc; obtain ⟨_, _, _, _, _, _, _, rfl⟩ := hc; cases hcls
 ·split at hc <;> try (cases hc; done)
  ·simp only [Option.bind_eq_some_iff, Option.map_eq_some_iff] at hc; obtain ⟨_, _, _, _, rfl⟩ := hc; cases hcls
  ·simp only [Option.bind_eq_some_iff, Option.map_eq_some_iff] at hc; obtain ⟨_, _, _, _, _, _, _, _, rfl⟩ := hc; cases hcls
 ·simp only [Option.bind_eq_some_iff, Option.map_eq_some_iff] at hc; obtain ⟨_, _, _, _, _, _, rfl⟩ := hc; cases hcls
 ·split at hc <;> try (cases hc; done)
  simp only [Option.bind_eq_some_iff, Option.map_eq_some_iff] at hc; obtain ⟨_, _, _, _, _, _, rfl⟩ := hc; cases hcls
 ·split at hc <;> try (cases hc; done)
  simp only [Option.bind_eq_some_iff, Option.map_eq_some_iff] at hc; obtain ⟨_, _, _, _, rfl⟩ := hc; cases hcls
 ·simp only [Option.bind_eq_some_iff, Option.map_eq_some_iff] at hc; obtain ⟨_, _, _, _, _, _, rfl⟩ := hc; cases hcls
 ·
  rename_i t x
  split at hc <;> try (cases hc; done)
  rename_i hu
  simp only [Option.map_eq_some_iff] at hc
  obtain ⟨sx, hx, rfl⟩ := hc
  have hr := h.ctx.opd hx
  simp only [newOp] at hv
  generalize so G st.fr sx = q at hr hv
  split at hv <;> try (cases hv; done)
  rename_i s
  simp only [Option.some.injEq, Prod.mk.injEq] at hv
  obtain ⟨rfl, rfl⟩ := hv
  have e1 := of_str (w := w) (M := mutb M0 z st.ob) hr
  refine makes_of h hd hn (s := Instr.range t (a.eval x)) (v := .pointer (some ⟨w.heap.size, 0, none⟩)) (w' := w.alloc (.stringIter ⟨⟨s⟩⟩ 0)) (by simp only [execOp, ho]) (by rw [e1]; simp [Instr.range, run_underlying hu]) (below_alloc _ _) (fun g hg => ?_)
   fun hk hz => ⟨⟨w.heap.size, rfl, alloc_new _ _⟩, live_upd (by simp), new_σ.symm⟩
  simp only [blk, Option.some.injEq] at hg
  subst hg
  exact ⟨Nat.le_refl _, by simp⟩
 ·simp only [Option.map_eq_some_iff] at hc; obtain ⟨_, _, rfl⟩ := hc; cases hcls
 ·simp only [Option.map_eq_some_iff] at hc; obtain ⟨_, _, rfl⟩ := hc; cases hcls
 ·have := compCall_cls hc; rw [hcls] at this; exact absurd rfl this
end
end WB
namespace WB
open Go Go.RowKit
section
variable {P : Program} {G : Nat → List CV} {w0 : World} {M0 : Nat → Prop} {n : Nat} {st : St} {a : Act} {w w' : World} {z : Cz}
theorem live_mut {id g : Nat} (hl : st.ob id ≠ .none) (hb : blk (z.σ id) = some g) : mutb M0 z st.ob g := .inr ⟨id, hl, hb⟩
theorem SR.turnK {id : Nat} (hl : st.ob id ≠ .none) {o' : Ob} (hl' : o' ≠ .none) (hg : w.grownBy w' (blk (z.σ id))) {β' : CV → Nat → Prop} :
  Keeps w (mutb M0 z st.ob) w' (mutb M0 { z with β := upd z.β id β' } (upd st.ob id o')) := by
 have live : ∀ i, upd st.ob id o' i ≠ .none ↔ st.ob i ≠ .none := by
  intro i
  by_cases hi : i = id
  ·subst hi; rw [upd_same]; exact ⟨fun _ => hl, fun _ => hl'⟩
  ·rw [upd_ne _ _ hi]
 exact ⟨hg.size, fun g hlt hm => hg.block g hlt (fun e => hm (live_mut hl e.symm)), fun g _ hm => by
  rcases hm with hm | ⟨i, h1, h2⟩
  ·exact .inl hm
  ·exact .inr ⟨i, (live i).1 h1, h2⟩⟩
theorem SR.turn (h : SR P G w0 M0 n st a w z) {id : Nat} (hl : st.ob id ≠ .none) {o' : Ob} (hl' : o' ≠ .none) (hg : w.grownBy w' (blk (z.σ id))) {β' : CV → Nat → Prop} (hβ : ∀ k b, z.β id k b → β' k b)
  (ho : Keeps w (mutb M0 z st.ob) w' (mutb M0 { z with β := upd z.β id β' } (upd st.ob id o')) → (∀ s, KeepsZ st.ob z (upd st.ob id o') { z with β := upd z.β id β' } s) →
   RelO P w' (mutb M0 { z with β := upd z.β id β' } (upd st.ob id o')) w0.heap.size { z with β := upd z.β id β' } (upd st.ob id o') id (z.σ id) o') :
  SR P G w0 M0 n { st with ob := upd st.ob id o' } a w' { z with β := upd z.β id β' } := by
 have live : ∀ i, upd st.ob id o' i ≠ .none ↔ st.ob i ≠ .none := by
  intro i
  by_cases hi : i = id
  ·subst hi; rw [upd_same]; exact ⟨fun _ => hl, fun _ => hl'⟩
  ·rw [upd_ne _ _ hi]
 have hk : Keeps w (mutb M0 z st.ob) w' (mutb M0 { z with β := upd z.β id β' } (upd st.ob id o')) := ⟨hg.size, fun g hlt hm => hg.block g hlt (fun e => hm (live_mut hl e.symm)), fun g _ hm => by
  rcases hm with hm | ⟨i, h1, h2⟩
  ·exact .inl hm
  ·exact .inr ⟨i, (live i).1 h1, h2⟩⟩
 have hz : ∀ s, KeepsZ st.ob z (upd st.ob id o') { z with β := upd z.β id β' } s := fun s => ⟨fun i _ h1 => (live i).2 h1, fun _ _ _ => rfl, fun i _ _ k b hb => by
  by_cases hi : i = id
  ·subst hi; simp only [upd_same]; exact hβ k b hb
  ·simp only [upd_ne _ _ hi]; exact hb⟩
 refine ⟨h.size, h.defers, h.below.trans ⟨hg.os, hg.tape, hg.output, hg.size, fun k hk' => hg.block k (Nat.lt_of_lt_of_le hk' h.below.size) (fun e => by have := (h.lo id k hl e.symm).1; omega)⟩, h.outer, h.glob, fun i => RelS.keep hk (hz _) (h.fr i), fun i => ?_, fun i g h1 h2 => ?_, fun i j g hij h1 h2 => h.apart i j g hij ((live i).1 h1) ((live j).1 h2)⟩
 ·by_cases hi : i = id
  ·subst hi
   simp only [upd_same]
   exact ho hk hz
  ·simp only [upd_ne _ _ hi]
   by_cases hli : st.ob i = .none
   ·rw [hli]; trivial
   ·exact RelO.keep hk (fun g hg' => hg.block g (h.lo i g hli hg').2 (fun e => h.apart i id g hi hli hl hg' e.symm)) (fun _ _ s _ => hz s) (fun k b hh => by simpa [upd_ne _ _ hi] using hh) (h.ob i)
 ·have := h.lo i g ((live i).1 h1) h2
  exact ⟨this.1, Nat.lt_of_lt_of_le this.2 hg.size⟩
theorem SR.renew (h : SR P G w0 M0 n st a w z) {id : Nat} (hl : st.ob id ≠ .none) {o' : Ob} {v' : Value} (hg : w.grownBy w' (blk (z.σ id))) (hv : ∀ g, blk v' = some g → blk (z.σ id) = some g ∨ (w.heap.size ≤ g ∧ g < w'.heap.size))
  (ho : Keeps w (mutb M0 z st.ob) w' (mutb M0 (z.new id v') (upd (kill [id] st).ob id o')) → RelO P w' (mutb M0 (z.new id v') (upd (kill [id] st).ob id o')) w0.heap.size (z.new id v') (upd (kill [id] st).ob id o') id v' o') :
  SR P G w0 M0 n { fr := (kill [id] st).fr, ob := upd (kill [id] st).ob id o' } a w' (z.new id v') := by
 have live : ∀ i, i ≠ id → (upd (kill [id] st).ob id o' i ≠ .none ↔ st.ob i ≠ .none) := by
  intro i hi
  rw [upd_ne _ _ hi, kill_ob_live]
  simp [hi]
 have σne : ∀ i, i ≠ id → (z.new id v').σ i = z.σ i := fun i hi => by simp [Cz.new, upd, hi]
 have hk : Keeps w (mutb M0 z st.ob) w' (mutb M0 (z.new id v') (upd (kill [id] st).ob id o')) := ⟨hg.size, fun g hlt hm => hg.block g hlt (fun e => hm (live_mut hl e.symm)), fun g hlt hm => by
  rcases hm with hm | ⟨i, h1, h2⟩
  ·exact .inl hm
  ·by_cases hi : i = id
   ·subst hi
    rw [new_σ] at h2
    rcases hv g h2 with h3 | h3
    ·exact live_mut hl h3
    ·omega
   ·rw [σne i hi] at h2
    exact live_mut ((live i hi).1 h1) h2⟩
 have hz : ∀ s : SV, ∀ v, RelS w (mutb M0 z st.ob) z st.ob s v → RelS w' (mutb M0 (z.new id v') (upd (kill [id] st).ob id o')) (z.new id v') (upd (kill [id] st).ob id o') (killSV [id] s) v := by
  intro s v hs
  cases hr : s.ref with
  | none =>
   cases s <;> simp [SV.ref] at hr
   ·exact RelC.keep hk _ _ hs
   ·trivial
  | some i =>
   by_cases hi : i = id
   ·subst hi
    have : killSV [i] s = .undef := by cases s <;> simp_all [SV.ref, killSV]
    rw [this]; trivial
   ·have e : killSV [id] s = s := by cases s <;> simp_all [SV.ref, killSV]
    rw [e]
    refine RelS.keep hk ⟨fun j hj h1 => ?_, fun j hj h1 => ?_, fun j hj h1 k b hb => ?_⟩ hs
    all_goals (rw [hr] at hj; cases hj)
    ·exact (live i hi).2 h1
    ·exact σne i hi
    ·simpa [Cz.new, hi] using hb
 have hzs : ∀ (cs : List SV) vs, RelSs w (mutb M0 z st.ob) z st.ob cs vs → RelSs w' (mutb M0 (z.new id v') (upd (kill [id] st).ob id o')) (z.new id v') (upd (kill [id] st).ob id o') (cs.map (killSV [id])) vs := by
  intro cs
  induction cs with
  | nil => intro vs hh; exact hh
  | cons c cs ih =>
   intro vs hh
   obtain ⟨v, vs', e, h1, h2⟩ := hh
   exact ⟨v, vs', e, hz c v h1, ih vs' h2⟩
 refine ⟨h.size, h.defers, h.below.trans ⟨hg.os, hg.tape, hg.output, hg.size, fun k hk' => hg.block k (Nat.lt_of_lt_of_le hk' h.below.size) (fun e => by have := (h.lo id k hl e.symm).1; omega)⟩, h.outer, h.glob, fun i => hz _ _ (h.fr i), fun i => ?_, fun i g h1 h2 => ?_, fun i j g hij h1 h2 h3 h4 => ?_⟩
 ·by_cases hi : i = id
  ·subst hi
   simp only [upd_same, new_σ]
   exact ho hk
  ·simp only [upd_ne _ _ hi, σne i hi]
   have e : (kill [id] st).ob i = killOb [id] (st.ob i) := by simp [kill, hi]
   rw [e]
   have hoi := h.ob i
   cases hob : st.ob i with
   | none => trivial
   | box cs =>
    rw [hob] at hoi
    obtain ⟨g, ty, vs, e1, e2, e3⟩ := hoi
    have hli : st.ob i ≠ .none := by rw [hob]; simp
    exact ⟨g, ty, vs, e1, (hg.block g (h.lo i g hli (by rw [e1]; rfl)).2 (fun e' => h.apart i id g hi hli hl (by rw [e1]; rfl) e'.symm)).trans e2, hzs cs vs e3⟩
   | _ =>
    rw [hob] at hoi
    have hli : st.ob i ≠ .none := by rw [hob]; simp
    exact RelO.keep hk (fun g hg' => hg.block g (h.lo i g hli hg').2 (fun e => h.apart i id g hi hli hl hg' e.symm)) (fun cs hc => by cases hc) (fun k b hh => by simpa [Cz.new, hi] using hh) hoi
 ·by_cases hi : i = id
  ·subst hi
   simp only [new_σ] at h2
   rcases hv g h2 with h3 | h3
   ·have := h.lo i g hl h3
    exact ⟨this.1, Nat.lt_of_lt_of_le this.2 hg.size⟩
   ·exact ⟨Nat.le_trans h.below.size h3.1, h3.2⟩
  ·rw [σne i hi] at h2
   have := h.lo i g ((live i hi).1 h1) h2
   exact ⟨this.1, Nat.lt_of_lt_of_le this.2 hg.size⟩
 ·by_cases hi : i = id
  ·subst hi
   have hj : j ≠ i := fun e => hij e.symm
   rw [new_σ] at h3
   rw [σne j hj] at h4
   rcases hv g h3 with h5 | h5
   ·exact h.apart i j g hij hl ((live j hj).1 h2) h5 h4
   ·have := (h.lo j g ((live j hj).1 h2) h4).2; omega
  ·by_cases hj : j = id
   ·subst hj
    rw [new_σ] at h4
    rw [σne i hi] at h3
    rcases hv g h4 with h5 | h5
    ·exact h.apart i j g hij ((live i hi).1 h1) hl h3 h5
    ·have := (h.lo i g ((live i hi).1 h1) h3).2; omega
   ·rw [σne i hi] at h3
    rw [σne j hj] at h4
    exact h.apart i j g hij ((live i hi).1 h1) ((live j hj).1 h2) h3 h4
theorem oneC_cell {M : Nat → Prop} {c : CV} {v : Value} (h : RelC w M c v) (hc : oneC c = true) : v.oneCell' = true := by
 cases c <;> simp [oneC] at hc <;> unfold RelC at h <;> first
  | (subst h; rfl)
  | (obtain ⟨_, _, rfl⟩ := h; rfl)
  | (obtain ⟨_, _, _, rfl, _⟩ := h; rfl)
  | (obtain ⟨_, rfl, _⟩ := h; rfl)
  | (obtain ⟨_, _, rfl, _⟩ := h; rfl)
theorem oneC_cells {M : Nat → Prop} : ∀ {cs : List CV} {vs : List Value}, RelL w M cs vs → cs.all oneC = true → ∀ v ∈ vs, v.oneCell' = true
 | [], vs, h, _, v, hv => by unfold RelL at h; subst h; cases hv
 | c :: cs, vs, h, hc, v, hv => by
  unfold RelL at h
  obtain ⟨u, us, rfl, h1, h2⟩ := h
  simp only [List.all_cons, Bool.and_eq_true] at hc
  rcases List.mem_cons.1 hv with rfl | hv
  ·exact oneC_cell h1 hc.1
  ·exact oneC_cells h2 hc.2 v hv
theorem grown_setRow (w : World) (g : Nat) (cs : Array Value) : w.grownBy (w.setRow g cs) (some g) := by
 refine ⟨rfl, rfl, rfl, by simp [World.setRow], fun k _ hk => ?_⟩
 simp only [World.setRow, Array.getElem?_modify]
 rw [if_neg (fun e => hk (by rw [e]))]
end
end WB
namespace WB
open Go Go.RowKit
section
variable {P : Program} {G : Nat → List CV} {w0 : World} {M0 : Nat → Prop} {n : Nat} {st : St} {a : Act} {w w' : World} {z : Cz}
theorem RelSs.append {M : Nat → Prop} {ob : Nat → Ob} : ∀ {cs ds : List SV} {vs us : List Value}, RelSs w M z ob cs vs → RelSs w M z ob ds us → RelSs w M z ob (cs ++ ds) (vs ++ us)
 | [], _, _, _, h, k => by unfold RelSs at h; subst h; exact k
 | _ :: _, _, _, _, h, k => by
  obtain ⟨v, vs', rfl, h1, h2⟩ := h
  exact ⟨v, vs' ++ _, rfl, h1, RelSs.append h2 k⟩
theorem one_live (h : SR P G w0 M0 n st a w z) {s : SV} {v : Value} (hs : RelS w (mutb M0 z st.ob) z st.ob s v) (h1 : oneS s = true) : v.oneCell' = true := by
 have live : ∀ id, st.ob id ≠ .none → (z.σ id).oneCell' = true := by
  intro id hl
  have ho := h.ob id
  cases hob : st.ob id with
  | none => exact absurd hob hl
  | box cs => rw [hob] at ho; obtain ⟨g, ty, vs, e, _⟩ := ho; rw [e]; rfl
  | arr e size es =>
   rw [hob] at ho
   obtain ⟨xs, hown, _⟩ := ho
   rcases hown.2 with ⟨e, _⟩ | ⟨g, cap, cur, e, _⟩ <;> rw [e] <;> rfl
  | map mt kt zc ks vs => rw [hob] at ho; obtain ⟨_, _, _, r, ens, clk, _, e, _⟩ := ho; rw [e]; rfl
  | siter s pos => rw [hob] at ho; obtain ⟨r, e, _⟩ := ho; rw [e]; rfl
 cases s with
 | c cv => exact oneC_cell hs h1
 | ptr id o => obtain ⟨_, g, _, e⟩ := hs; rw [e]; rfl
 | eptr id i sz o => obtain ⟨_, g, n, c, _, e⟩ := hs; rw [e]; rfl
 | osl id => obtain ⟨hl, e⟩ := hs; rw [e]; exact live id hl
 | omap id => obtain ⟨hl, e⟩ := hs; rw [e]; exact live id hl
 | iter id => obtain ⟨hl, e⟩ := hs; rw [e]; exact live id hl
 | stamp id k => obtain ⟨_, b, _, e⟩ := hs; rw [e]; rfl
 | ent id k cv => simp [oneS] at h1
 | undef => simp [oneS] at h1
def Turns (P : Program) (G : Nat → List CV) (w0 : World) (M0 : Nat → Prop) (n : Nat) (st' : St) (a : Act) (w : World) (o : Oper) : Prop :=
 (∃ v w' z', (execOp a.eval o).run P w = .ok (.value v) w' ∧ SR P G w0 M0 n st' (a.put o.dst v) w' z') ∨
 (∃ w' z', (execOp a.eval o).run P w = .ok .skip w' ∧ SR P G w0 M0 n st' (a.put o.dst undef) w' z')
theorem setRow_same {w : World} {g : Nat} {cs : Array Value} {t : TypeId} {fr : Nat × Nat} (h : w.heap[g]? = some (.cells cs t fr)) : w.setRow g cs = w := by
 have e : (w.setRow g cs).heap = w.heap := by
  apply Array.ext_getElem?
  intro k
  by_cases hk : k = g
  ·subst hk
   rw [setRow_heap w k _ _ _ _ h, h]
  ·exact setRow_other w g k cs hk
 cases w
 simp only [World.setRow] at e ⊢
 rw [e]
theorem run_storeVar {t : TypeId} {i : TypeInfo} (hi : P.info? t = some i) {g o : Nat} {vs us : List Value} {v : Value} {ty : TypeId} (hv : v.cells = ⟨us⟩) (hs : us.length = i.size) (hh : w.heap[g]? = some (.cells ⟨vs⟩ ty (0, 0))) (hle : o + us.length ≤ vs.length)
  (h1 : ∀ u ∈ us, u.oneCell' = true) : (storeVar t ⟨g, o, none⟩ v).run P w = .ok () (w.setRow g ⟨vs.take o ++ us ++ vs.drop (o + us.length)⟩) := by
 have := run_storeCells_at (P := P) g o ty us 0 ⟨vs⟩ w hh (by simpa using hle) h1
 simp only [Nat.add_zero] at this
 simp [storeVar, run_sizeOf_some hi, hv, hs, this]
theorem RelF_set {M : Nat → Prop} {size : Nat} : ∀ {es : List CV} {xs : List Value} {i : Nat} {el' : CV} {u' : Value}, RelF w M size es xs → i < es.length → RelC w M el' u' → u'.cells.size = size →
  RelF w M size (es.set i el') (xs.take (i * size) ++ u'.cells.toList ++ xs.drop (i * size + size))
 | [], xs, i, el', u', _, hi, _, _ => by simp at hi
 | e :: es, xs, 0, el', u', h, _, hr, hs => by
  obtain ⟨v, xs', rfl, h1, h2, h3⟩ := h
  refine ⟨u', xs', ?_, hs, hr, h3⟩
  have : v.cells.toList.length = size := by simpa using h1
  simp [this]
 | e :: es, xs, i + 1, el', u', h, hi, hr, hs => by
  obtain ⟨v, xs', rfl, h1, h2, h3⟩ := h
  have hl : v.cells.toList.length = size := by simpa using h1
  have ih := RelF_set h3 (by simpa using hi) hr hs
  refine ⟨v, xs'.take (i * size) ++ u'.cells.toList ++ xs'.drop (i * size + size), ?_, h1, h2, ih⟩
  rw [Nat.add_mul, Nat.one_mul]
  rw [List.take_append, List.drop_append, hl]
  rw [List.take_of_length_le (by omega), List.drop_eq_nil_of_le (by omega)]
  rw [show i * size + size - size = i * size by omega, show i * size + size + size - size = i * size + size by omega]
  simp
theorem eff_store (h : SR P G w0 M0 n st a w z) {o : Oper} {t : TypeId} {ad x : Operand} (ho : o.op = .store t ad x) (hdst : o.dst = none) {i : TypeInfo} (hi : P.info? t = some i) {sa sx : SO} (hsa : compO ad = some sa) (hsx : compO x = some sx) {st' : St}
  (hv : effOp none (so G st.fr) st (.store i.size sa sx) = some st') : Turns P G w0 M0 n st' a w o := by
 have hr := h.ctx.opd hsa
 have hr2 := h.ctx.opd hsx
 simp only [effOp] at hv
 generalize so G st.fr sa = q at hr hv
 generalize so G st.fr sx = q2 at hr2 hv
 have fin : ∀ {w' z'}, (Instr.storeAt t (a.eval ad) (a.eval x)).run P w = .ok () w' → SR P G w0 M0 n st' a w' z' → Turns P G w0 M0 n st' a w o := by
  intro w' z' hr hS
  refine .inr ⟨w', z', by simp [execOp, ho, hr], ?_⟩
  rw [hdst]; exact hS
 cases q <;> try (simp only [reduceCtorEq] at hv; done)
 ·
  rename_i cv
  cases cv <;> try (simp only [reduceCtorEq] at hv; done)
  rename_i cs
  cases cs with
  | nil => cases hv
  | cons c0 cs =>
   cases cs with
   | cons _ _ => cases c0 <;> cases hv
   | nil =>
    cases c0 <;> try (cases hv; done)
    rename_i b
    cases q2 <;> try (cases hv; done)
    rename_i c2
    cases c2 <;> try (cases hv; done)
    rename_i b'
    simp only [Option.ite_none_right_eq_some, Option.some.injEq] at hv
    obtain ⟨⟨h1, rfl⟩, rfl⟩ := hv
    unfold RelS RelC at hr hr2
    obtain ⟨g, ty, vs, e1, e2, e3, e4⟩ := hr
    unfold RelL RelC at e4
    obtain ⟨v, vs', rfl, rfl, e4⟩ := e4
    unfold RelL at e4
    subst e4
    refine fin (w' := w) (z' := z) ?_ h
    have hrun := run_storeVar (P := P) (t := t) (w := w) hi (g := g) (o := 0) (vs := [.bool b]) (us := [.bool b]) (v := .bool b) (ty := ty) rfl (by simp [h1]) e2 (by simp) (by simp [Value.oneCell'])
    have hsame : w.setRow g ⟨[Value.bool b]⟩ = w := setRow_same e2
    simp only [List.take_zero, List.nil_append, List.length_cons, List.length_nil, Nat.zero_add, List.drop_succ_cons, List.drop_zero, List.append_nil, List.cons_append, List.drop_nil] at hrun
    rw [hsame] at hrun
    simp [Instr.storeAt, Instr.sureAddr, e1, hr2, hrun]
 ·
  rename_i id off
  obtain ⟨hlive, g, e1, e2⟩ := hr
  have ho' := h.ob id
  cases hob : st.ob id <;> simp only [hob, reduceCtorEq] at hv
  rename_i cs
  rw [hob] at ho'
  obtain ⟨g', ty, vs, e3, e4, e5⟩ := ho'
  rw [e1] at e3
  simp only [Value.pointer.injEq, Option.some.injEq, Addr.mk.injEq, and_true] at e3
  subst e3
  have hlen := RelSs.length e5
  have go : ∀ (us : List Value) (ss : List SV), (a.eval x).cells = ⟨us⟩ → us.length = i.size → off + us.length ≤ vs.length → (∀ u ∈ us, u.oneCell' = true) → RelSs w (mutb M0 z st.ob) z st.ob ss us →
    st' = { st with ob := upd st.ob id (.box (cs.take off ++ ss ++ cs.drop (off + us.length))) } → Turns P G w0 M0 n st' a w o := by
   intro us ss hus hsz hle h1 hss hst
   subst hst
   refine fin (w' := w.setRow g ⟨vs.take off ++ us ++ vs.drop (off + us.length)⟩) ?_ (SR.turn h hlive (by simp) (by rw [e1]; exact grown_setRow w g _) (fun _ _ hh => hh) fun hk hz => ⟨g, ty, _, e1, setRow_heap w g _ _ _ _ e4, ?_⟩)
   ·simp [Instr.storeAt, Instr.sureAddr, e2, run_storeVar hi hus hsz e4 hle h1]
   ·exact RelSs.keep hk (fun s _ => hz s) (((e5.take off).append hss).append (e5.drop _))
  have one : ∀ (v : SV), RelS w (mutb M0 z st.ob) z st.ob v (a.eval x) → (∀ l, v ≠ .c (.agg l)) → (if i.size = 1 ∧ off < cs.length ∧ oneS v = true then some { st with ob := upd st.ob id (.box (cs.set off v)) } else none) = some st' → Turns P G w0 M0 n st' a w o := by
   intro v hrv hna hv
   simp only [Option.ite_none_right_eq_some, Option.some.injEq] at hv
   obtain ⟨⟨h1, h2, h3⟩, rfl⟩ := hv
   have hcell := cells_live h hrv hna (by rintro rfl; simp [oneS] at h3)
   have hone : (a.eval x).oneCell' = true := one_live h hrv h3
   refine go [a.eval x] [v] hcell (by simp [h1]) (by simp [hlen]; omega) (by simpa using hone) ⟨a.eval x, [], rfl, hrv, rfl⟩ ?_
   congr 3
   simp only [List.length_cons, List.length_nil, Nat.zero_add]
   rw [List.set_eq_take_append_cons_drop, if_pos h2]
   simp
  cases q2 with
  | c cv =>
   cases cv with
   | agg l =>
    simp only [Option.ite_none_right_eq_some, Option.some.injEq] at hv
    obtain ⟨⟨h1, h2, h3⟩, rfl⟩ := hv
    unfold RelS RelC at hr2
    obtain ⟨us, e6, hl⟩ := hr2
    have hul := hl.length
    refine go us (l.map .c) (by rw [e6]; rfl) (by rw [hul, h1]) (by omega) (oneC_cells hl h3) (RelSs.of_c hl) ?_
    simp [setCells, hul]
   | _ => exact one _ hr2 (fun l hh => by cases hh) hv
  | _ => exact one _ hr2 (fun l hh => by cases hh) hv
 ·
  rename_i id j size off
  obtain ⟨hlive, g, n', c', e1, e2⟩ := hr
  have ho' := h.ob id
  cases hob : st.ob id <;> simp only [hob, reduceCtorEq] at hv
  rename_i et sz es
  rw [hob] at ho'
  obtain ⟨xs, hown, hf⟩ := ho'
  cases q2 <;> try (simp only [reduceCtorEq] at hv; done)
  rename_i cv
  simp only [Option.ite_none_right_eq_some, Option.bind_eq_some_iff, Option.some.injEq] at hv
  obtain ⟨⟨rfl, hn0, hn, hone⟩, el, hel, hle, rfl⟩ := hv
  have hjl : j < es.length := (List.getElem?_eq_some_iff.1 hel).1
  have hxl := RelF_length hf
  obtain ⟨u, hu1, hu2, hu3⟩ := RelF_get hf hel
  have hus := RelC.cells hr2
  have hul : (a.eval x).cells.toList.length = i.size := by
   have := hr2.cells_size
   simpa [hn] using this
  have hel_size : cellsN el = size := by rw [← hu1.cells_size, hu2]
  rcases hown.2 with ⟨e3, e4⟩ | ⟨g', cap, cur, e3, e4, e5, e6, e7, e8, e9⟩
  ·omega
  ·rw [e1] at e3
   simp only [Value.slice.injEq, Option.some.injEq, Addr.mk.injEq, and_true] at e3
   obtain ⟨rfl, rfl, rfl⟩ := e3
   have hcl : cur.toList.length = c' * size := by simpa using e8
   have hbound : j * size + size ≤ es.length * size := by
    have := Nat.mul_le_mul_right size (show j + 1 ≤ es.length by omega)
    rw [Nat.add_mul, Nat.one_mul] at this
    exact this
   have hcap : es.length * size ≤ c' * size := Nat.mul_le_mul_right _ e6
   have run := run_storeVar (P := P) (w := w) hi (g := g) (o := j * size + off) (vs := cur.toList) (us := (a.eval x).cells.toList) (v := a.eval x) (ty := et) rfl hul (by simpa using e5) (by omega) (oneC_cells hus hone)
   obtain ⟨u', hu1', hu2'⟩ : ∃ u', RelC w (mutb M0 z st.ob) (putC el off i.size cv) u' ∧ u'.cells.toList = u.cells.toList.take off ++ (a.eval x).cells.toList ++ u.cells.toList.drop (off + i.size) := by
    have hother : (∀ l, el ≠ .agg l) → putC el off i.size cv = cv → ∃ u', RelC w (mutb M0 z st.ob) (putC el off i.size cv) u' ∧ u'.cells.toList = u.cells.toList.take off ++ (a.eval x).cells.toList ++ u.cells.toList.drop (off + i.size) := by
     intro hna hp
     have h1 : cellsN el = 1 := by cases el <;> first | rfl | exact absurd rfl (hna _)
     have h2 : u.cells.toList.length = 1 := by simpa [hu2, ← hel_size] using h1
     have h3 : off = 0 := by omega
     have h4 : i.size = 1 := by omega
     refine ⟨a.eval x, by rw [hp]; exact hr2, ?_⟩
     rw [h3, h4, List.drop_eq_nil_of_le (by omega)]
     simp
    cases el with
    | agg l =>
     have hu1c := RelC.cells hu1
     refine ⟨.agg ⟨u.cells.toList.take off ++ (a.eval x).cells.toList ++ u.cells.toList.drop (off + i.size)⟩, ?_, rfl⟩
     show RelC _ _ (.agg _) _
     unfold RelC
     exact ⟨_, rfl, ((hu1c.take off).append hus).append (hu1c.drop _)⟩
    | _ => exact hother (fun l hh => by cases hh) rfl
   have hulen : u.cells.toList.length = size := by simpa using hu2
   have hu's : u'.cells.size = size := by
    have : u'.cells.toList.length = size := by
     rw [hu2']
     simp only [List.length_append, List.length_take, List.length_drop, hul, hulen]
     omega
    simpa using this
   have hchunk : u.cells.toList = (cur.toList.drop (j * size)).take size := by
    apply List.ext_getElem?
    intro k
    by_cases hk : k < size
    ·have hku : u.cells.toList[k]? = some (u.cells.toList[k]'(by omega)) := List.getElem?_eq_getElem _
     have h1 := hu3 k (u.cells.toList[k]'(by omega)) (by rw [← Array.getElem?_toList]; exact hku)
     rw [← e9, List.getElem?_take] at h1
     split at h1
     ·rw [hku, List.getElem?_take, if_pos hk, List.getElem?_drop]; exact h1.symm
     ·cases h1
    ·rw [List.getElem?_eq_none (by omega), List.getElem?_eq_none (by simp; omega)]
   have hrow : cur.toList.take (j * size + off) ++ (a.eval x).cells.toList ++ cur.toList.drop (j * size + off + (a.eval x).cells.toList.length) = cur.toList.take (j * size) ++ u'.cells.toList ++ cur.toList.drop (j * size + size) := by
    rw [hu2', hchunk, hul]
    rw [List.take_take, Nat.min_eq_left (by omega), List.drop_take]
    have t1 : cur.toList.take (j * size + off) = cur.toList.take (j * size) ++ (cur.toList.drop (j * size)).take off := by rw [List.take_add]
    have t2 : cur.toList.drop (j * size + off + i.size) = ((cur.toList.drop (j * size)).drop (off + i.size)).take (size - (off + i.size)) ++ cur.toList.drop (j * size + size) := by
     have : cur.toList.drop (j * size + size) = ((cur.toList.drop (j * size)).drop (off + i.size)).drop (size - (off + i.size)) := by
      rw [List.drop_drop, List.drop_drop]; congr 1; omega
     rw [this, List.take_append_drop, List.drop_drop]; congr 1; omega
    rw [t1, t2]
    simp only [List.append_assoc]
   rw [hrow] at run
   have hcurl : (cur.toList.take (j * size) ++ u'.cells.toList ++ cur.toList.drop (j * size + size)).length = c' * size := by
    have hu'l : u'.cells.toList.length = size := by simpa using hu's
    simp only [List.length_append, List.length_take, List.length_drop, hu'l, hcl]
    omega
   have hx' : (cur.toList.take (j * size) ++ u'.cells.toList ++ cur.toList.drop (j * size + size)).take (es.length * size) = xs.take (j * size) ++ u'.cells.toList ++ xs.drop (j * size + size) := by
    have hu'l : u'.cells.toList.length = size := by simpa using hu's
    have hp : (cur.toList.take (j * size) ++ u'.cells.toList).length = j * size + size := by
     simp only [List.length_append, List.length_take, hu'l, hcl]; omega
    rw [List.take_append, List.take_of_length_le (by omega), hp]
    rw [← e9, List.take_take, Nat.min_eq_left (by omega), List.drop_take]
   refine fin (w' := w.setRow g ⟨cur.toList.take (j * size) ++ u'.cells.toList ++ cur.toList.drop (j * size + size)⟩) ?_ (SR.turn h hlive (by simp) (by rw [e1]; exact grown_setRow w g _) (fun _ _ hh => hh) fun hk hz => ⟨xs.take (j * size) ++ u'.cells.toList ++ xs.drop (j * size + size), ⟨?_, .inr ⟨g, c', ⟨cur.toList.take (j * size) ++ u'.cells.toList ++ cur.toList.drop (j * size + size)⟩, ?_, e4, setRow_heap w g _ _ _ _ e5, ?_, e7, by simpa using hcurl, ?_⟩⟩, RelF.keep hk (RelF_set hf hjl hu1' hu's)⟩)
   ·simp [Instr.storeAt, Instr.sureAddr, e2, run]
   ·rw [← hx', List.length_take, List.length_set, hcurl]; omega
   ·rw [e1, List.length_set]
   ·rw [List.length_set]; exact e6
   ·rw [List.length_set]; exact hx'
end
end WB
namespace WB
open Go Go.RowKit
section
variable {P : Program} {G : Nat → List CV} {w0 : World} {M0 : Nat → Prop} {n : Nat} {st : St} {a : Act} {w w' : World} {z : Cz}
theorem RelE_flat {M : Nat → Prop} {ad : Addr} {size : Nat} : ∀ {i : Nat} {es : List CV}, RelE w M ad size i es → ∃ xs, RelF w M size es xs ∧ ∀ (j : Nat) u, xs[j]? = some u → w.cell? (ad.add (i * size + j)) = some u
 | i, [], _ => ⟨[], rfl, fun j u hu => by simp at hu⟩
 | i, e :: es, h => by
  unfold RelE at h
  obtain ⟨⟨v, h1, h2, h3⟩, h4⟩ := h
  obtain ⟨xs, g1, g2⟩ := RelE_flat h4
  refine ⟨v.cells.toList ++ xs, ⟨v, xs, rfl, h2, h1, g1⟩, fun j u hu => ?_⟩
  have hl : v.cells.toList.length = size := by simpa using h2
  by_cases hj : j < size
  ·rw [List.getElem?_append_left (by omega)] at hu
   exact h3 j u (by simpa using hu)
  ·rw [List.getElem?_append_right (by omega), hl] at hu
   have := g2 _ u hu
   rw [show (i + 1) * size + (j - size) = i * size + j by rw [Nat.add_mul]; omega] at this
   exact this
theorem RelF_one {M : Nat → Prop} {size : Nat} : ∀ {es : List CV} {xs : List Value}, RelF w M size es xs → (es.all fun v => v.cells.all oneC) = true → ∀ u ∈ xs, u.oneCell' = true
 | [], xs, h, _, u, hu => by unfold RelF at h; subst h; cases hu
 | e :: es, xs, h, h1, u, hu => by
  obtain ⟨v, xs', rfl, g1, g2, g3⟩ := h
  simp only [List.all_cons, Bool.and_eq_true] at h1
  rcases List.mem_append.1 hu with hu | hu
  ·exact oneC_cells (RelC.cells g2) h1.1 u hu
  ·exact RelF_one g3 h1.2 u hu
theorem news_run (h : SR P G w0 M0 n st a w z) {s : SV} {v : Value} (hs : RelS w (mutb M0 z st.ob) z st.ob s v) {news : List CV} (hn : newsOf st s = some news) {size : Nat} (hsz : (news.all fun v => cellsN v == size) = true) :
  ∃ A c xs, v = .slice A news.length c ∧ RelF w (mutb M0 z st.ob) size news xs ∧ (A = none → news = []) ∧ ∀ ad, A = some ad → ∀ (j : Nat) u, xs[j]? = some u → w.cell? (ad.add j) = some u := by
 cases s <;> try (simp only [newsOf, reduceCtorEq] at hn; done)
 ·rename_i cv
  cases cv <;> try (simp only [newsOf, reduceCtorEq] at hn; done)
  rename_i nl es
  simp only [newsOf, Option.some.injEq] at hn
  subst hn
  unfold RelS RelC at hs
  obtain ⟨A, len, c, e1, e2, _, _, _, e3, e4⟩ := hs
  subst e2
  by_cases hes : es = []
  ·subst hes
   exact ⟨A, c, [], e1, rfl, fun _ => rfl, fun ad _ j u hu => by simp at hu⟩
  ·obtain ⟨ad, size', e5, _, _, hE⟩ := e4 hes
   subst e5
   obtain ⟨xs, g1, g2⟩ := RelE_flat hE
   have hss : size' = size := by
    cases es with
    | nil => exact absurd rfl hes
    | cons e es =>
     obtain ⟨v, xs', _, k1, k2, _⟩ := g1
     simp only [List.all_cons, Bool.and_eq_true, beq_iff_eq] at hsz
     rw [← k1, k2.cells_size, hsz.1]
   subst hss
   refine ⟨some ad, c, xs, e1, g1, (fun hh => by cases hh), fun ad' hh j u hu => ?_⟩
   cases hh
   have := g2 j u hu
   simpa using this
 ·rename_i id
  obtain ⟨hlive, e1⟩ := hs
  have ho := h.ob id
  simp only [newsOf] at hn
  cases hob : st.ob id <;> simp only [hob, reduceCtorEq, Option.some.injEq] at hn
  rename_i et sz es
  subst hn
  rw [hob] at ho
  obtain ⟨xs, hown, hf⟩ := ho
  have hss : es = [] ∨ sz = size := by
   cases es with
   | nil => exact .inl rfl
   | cons e es =>
    obtain ⟨v, xs', _, k1, k2, _⟩ := hf
    simp only [List.all_cons, Bool.and_eq_true, beq_iff_eq] at hsz
    exact .inr (by rw [← k1, k2.cells_size, hsz.1])
  rcases hss with rfl | rfl
  ·have : xs = [] := by unfold RelF at hf; exact hf
   subst this
   rcases hown.2 with ⟨e2, _⟩ | ⟨g, cap, cur, e2, _⟩
   ·exact ⟨none, 0, [], by rw [e1, e2]; rfl, rfl, fun _ => rfl, fun ad _ j u hu => by simp at hu⟩
   ·exact ⟨_, cap, [], by rw [e1, e2], rfl, fun _ => rfl, fun ad _ j u hu => by simp at hu⟩
  ·rcases Nat.eq_zero_or_pos es.length with h0 | h0
   ·have : es = [] := List.eq_nil_of_length_eq_zero h0
    subst this
    have : xs = [] := by unfold RelF at hf; exact hf
    subst this
    rcases hown.2 with ⟨e2, _⟩ | ⟨g, cap, cur, e2, _⟩
    ·exact ⟨none, 0, [], by rw [e1, e2]; rfl, rfl, fun _ => rfl, fun ad _ j u hu => by simp at hu⟩
    ·exact ⟨_, cap, [], by rw [e1, e2], rfl, fun _ => rfl, fun ad _ j u hu => by simp at hu⟩
   ·obtain ⟨g, cap, cur, e2, _, hc⟩ := own_form hown h0
    refine ⟨some ⟨g, 0, none⟩, cap, xs, by rw [e1, e2], hf, (fun hh => by cases hh), fun ad hh j u hu => ?_⟩
    cases hh
    rw [addr_add]
    simpa using hc j u hu
theorem run_append_of_nil (base : Nat) (t ty e : TypeId) (i : TypeInfo) (size : Nat) (ht : P.underlying t = some (.slice e)) (hi : P.info? e = some i)
  (v : Value) (n : Nat) (xs : List Value) (hown : w.ownsRow base e size v n xs) (c : Nat) : (Builtin.append_ #[t, t] ty #[v, .slice none 0 c]).run P w = .ok v w := by
 rcases hown.2 with ⟨rfl, rfl⟩ | ⟨g, cap, cur, rfl, _, _, hnc, _⟩
 ·simp [Builtin.append_, run_underlying ht, Go.sizeOf, typeInfo, hi, Builtin.lenOf, Builtin.firstCells]
 ·simp [Builtin.append_, run_underlying ht, Go.sizeOf, typeInfo, hi, Builtin.lenOf, Builtin.firstCells, hnc, storeCells]
theorem own_blk {v : Value} {B e size n : Nat} {xs : List Value} (h : w.ownsRow B e size v n xs) : v.ownBlock = blk v := by
 rcases h.2 with ⟨rfl, _⟩ | ⟨g, cap, cur, rfl, _⟩ <;> rfl
theorem run_append_any (base : Nat) (t ty e : TypeId) (i : TypeInfo) (zv : Value) (ht : P.underlying t = some (.slice e)) (hi : P.info? e = some i) (hz : i.zero = some zv)
  (hzs : zv.cells.size = i.size) (hsz : 0 < i.size) (v : Value) (n : Nat) (xs : List Value) (hown : w.ownsRow base e i.size v n xs)
  (A : Option Addr) (m c : Nat) (news : List Value) (hnl : news.length = m * i.size) (hA : A = none → m = 0) (hc : ∀ ad, A = some ad → ∀ (j : Nat) u, news[j]? = some u → w.cell? (ad.add j) = some u) (h1 : ∀ u ∈ news, u.oneCell' = true)
  (h63 : n + m ≤ maxLen) (hbytes : (n + m) * i.bytes ≤ 140737488355328) (hbase : base ≤ w.heap.size) :
  ∃ v' w', (Builtin.append_ #[t, t] ty #[v, .slice A m c]).run P w = .ok v' w' ∧ w'.ownsRow base e i.size v' (n + m) (xs ++ news) ∧ w.grownBy w' (blk v) ∧
   (blk v' = blk v ∨ blk v' = some w.heap.size) := by
 cases A with
 | none =>
  have hm := hA rfl
  subst hm
  have hn : news = [] := List.eq_nil_of_length_eq_zero (by simpa using hnl)
  subst hn
  exact ⟨v, w, run_append_of_nil base t ty e i i.size ht hi v n xs hown c, by simpa using hown, World.grownBy.refl w _, .inl rfl⟩
 | some ad =>
  obtain ⟨v', w', hrun, h2, h3, _, h5⟩ := run_append_own_at (P := P) w base t ty e i zv i.size i.bytes ht hi hz rfl rfl hzs hsz v n xs hown ad m c news hnl (hc ad rfl) h1 h63 hbytes hbase
  rw [own_blk hown] at h3 h5
  rw [own_blk h2] at h5
  exact ⟨v', w', hrun, h2, h3, h5⟩
theorem eff_append (h : SR P G w0 M0 n st a w z) {o : Oper} {t e : TypeId} {i : TypeInfo} {zv : Value} {x y : Operand} {args : Array Operand} {argTypes : Array TypeId} (ho : o.op = .call { callee := .builtin .append, args := args, argTypes := argTypes })
  (hargs : args.toList = [x, y]) (hat : argTypes.toList = [t, t]) (ht : P.underlying t = some (.slice e)) (hi : P.info? e = some i) (hz : i.zero = some zv) (hzs : zv.cells.size = i.size) (hsz : 0 < i.size)
  (hd : ∀ j, o.dst = some j → j < n) {sx sy : SO} (hx : compO x = some sx) (hy : compO y = some sy) {st' : St} (hv : effOp o.dst (so G st.fr) st (.append e i.size i.bytes sx sy) = some st') : Turns P G w0 M0 n st' a w o := by
 have hr := h.ctx.opd hx
 have hr2 := h.ctx.opd hy
 simp only [effOp] at hv
 generalize so G st.fr sx = q at hr hv
 generalize so G st.fr sy = q2 at hr2 hv
 cases hnews : newsOf st q2 with
 | none => rw [hnews] at hv; cases hv
 | some news =>
  rw [hnews] at hv
  simp only [Option.ite_none_right_eq_some, Bool.and_eq_true] at hv
  obtain ⟨⟨hall, hone⟩, hv⟩ := hv
  obtain ⟨A, c, xs2, e1, hf2, hA, hcells⟩ := news_run h hr2 hnews hall
  have hx2l := RelF_length hf2
  have hone' := RelF_one hf2 hone
  have fin : ∀ {v' w' z'}, (Builtin.append_ #[t, t] o.type #[a.eval x, a.eval y]).run P w = .ok v' w' → SR P G w0 M0 n st' (a.put o.dst v') w' z' → Turns P G w0 M0 n st' a w o := by
   intro v' w' z' hrun hS
   refine .inl ⟨v', w', z', ?_, hS⟩
   obtain ⟨al⟩ := args
   obtain ⟨tl⟩ := argTypes
   simp only at hargs hat
   subst hargs; subst hat
   simp [execOp, ho, resolve, invoke, builtin, hrun]
  cases q <;> try (simp only [reduceCtorEq] at hv; done)
  ·
   rename_i cv
   cases cv <;> try (simp only [reduceCtorEq] at hv; done)
   rename_i nl es
   cases nl <;> try (simp only [reduceCtorEq] at hv; done)
   rename_i b
   cases b <;> try (simp only [reduceCtorEq] at hv; done)
   simp only [Option.ite_none_right_eq_some] at hv
   obtain ⟨⟨hb1, hb2⟩, hv⟩ := hv
   cases hod : o.dst with
   | none => rw [hod] at hv; cases hv
   | some d =>
    rw [hod] at hv
    simp only [Option.some.injEq] at hv
    subst hv
    unfold RelS RelC at hr
    obtain ⟨A', len, c', e2, e3, _, e4, _, e5, e6⟩ := hr
    have hA' := e4 rfl
    subst hA'
    have hes : es = [] := by
     cases es with
     | nil => rfl
     | cons e es => obtain ⟨ad, size, hh, _⟩ := e6 (by simp); cases hh
    subst hes
    have hc0 := e5 rfl
    subst hc0
    subst e3
    have hk := h.killed [d]
    have hown0 : w.ownsRow w0.heap.size e i.size (.slice none 0 0) 0 [] := ⟨by simp, .inl ⟨rfl, rfl⟩⟩
    obtain ⟨v', w', hrun, h2, h3, h4⟩ := run_append_any (P := P) w0.heap.size t o.type e i zv ht hi hz hzs hsz (.slice none 0 0) 0 [] hown0 A news.length c xs2 hx2l (fun hh => by simp [hA hh]) hcells hone' (by unfold maxLen; omega) (by simpa using hb1) h.below.size
    rw [e2, e1] at fin
    refine fin (z' := z.new d v') hrun ?_
    rw [hod]
    have hgb : Below w.heap.size w w' := ⟨h3.os, h3.tape, h3.output, h3.size, fun k hk => h3.block k hk (by simp [blk])⟩
    have hnone : (kill [d] st).ob d = .none := by simp [kill]
    have hlt : ∀ g, blk v' = some g → w.heap.size ≤ g ∧ g < w'.heap.size := by
     intro g hg
     rcases h4 with h4 | h4
     ·rw [h4] at hg; simp [blk] at hg
     ·rw [hg] at h4
      simp only [Option.some.injEq] at h4
      subst h4
      rcases h2.2 with ⟨e7, _⟩ | ⟨g', cap, cur, e7, _, e8, _⟩
      ·rw [e7] at hg; simp [blk] at hg
      ·rw [e7] at hg
       simp only [blk, Option.some.injEq] at hg
       exact ⟨Nat.le_refl _, by rw [← hg]; exact heap_lt e8⟩
    have kn := keeps_new (M0 := M0) (z := z) (o := .arr e i.size news) hnone hgb (fun g hg => (hlt g hg).1)
    have hkk : Keeps w (mutb M0 z st.ob) w (mutb M0 z (kill [d] st).ob) := ⟨Nat.le_refl _, fun _ _ _ => rfl, fun g _ hg => hg.imp id own_kill⟩
    exact hk.new (hd d hod) hnone hgb hlt ⟨xs2, by simpa using h2, RelF.keep kn (RelF.keep hkk hf2)⟩ ⟨live_upd (by simp), new_σ.symm⟩
  ·
   rename_i id
   obtain ⟨hlive, e2⟩ := hr
   have ho' := h.ob id
   cases hob : st.ob id <;> simp only [hob, reduceCtorEq] at hv
   rename_i et sz es
   simp only [Option.ite_none_right_eq_some, Option.some.injEq] at hv
   obtain ⟨⟨rfl, rfl, hb1, hb2⟩, rfl⟩ := hv
   rw [hob] at ho'
   obtain ⟨xs, hown, hf⟩ := ho'
   obtain ⟨v', w', hrun, h2, h3, h4⟩ := run_append_any (P := P) w0.heap.size t o.type et i zv ht hi hz hzs hsz (z.σ id) es.length xs hown A news.length c xs2 hx2l (fun hh => by simp [hA hh]) hcells hone' (by unfold maxLen; omega) hb1 h.below.size
   rw [e2, e1] at fin
   refine fin (z' := z.new id v') hrun ?_
   have hlt : ∀ g, blk v' = some g → blk (z.σ id) = some g ∨ (w.heap.size ≤ g ∧ g < w'.heap.size) := by
    intro g hg
    rcases h4 with h4 | h4
    ·exact .inl (h4 ▸ hg)
    ·rw [hg] at h4
     simp only [Option.some.injEq] at h4
     subst h4
     rcases h2.2 with ⟨e7, _⟩ | ⟨g', cap, cur, e7, _, e8, _⟩
     ·rw [e7] at hg; simp [blk] at hg
     ·rw [e7] at hg
      simp only [blk, Option.some.injEq] at hg
      exact .inr ⟨Nat.le_refl _, by rw [← hg]; exact heap_lt e8⟩
   have hS := h.renew (o' := .arr et i.size (es ++ news)) hlive h3 hlt fun hk => ⟨xs ++ xs2, by simpa using h2, RelF.keep hk (RelF_append hf hf2)⟩
   exact hS.put hd ⟨by simp [upd_same], new_σ.symm⟩
end
end WB
namespace WB
open Go Go.RowKit
section
variable {P : Program} {G : Nat → List CV} {w0 : World} {M0 : Nat → Prop} {n : Nat} {st : St} {a : Act} {w w' : World} {z : Cz}
def setObjW (w : World) (r : Nat) (o : Obj) : World := { w with heap := w.heap.setIfInBounds r o }
theorem setObj_run {r : Nat} {o o' : Obj} (h : w.heap[r]? = some o) (hm : ∀ c t f, o ≠ .cells c t f) : (setObj r o').run P w = .ok () (setObjW w r o') := by
 simp only [setObj, Sem.run, h]
 cases o <;> first | exact absurd rfl (hm _ _ _) | rfl
theorem setObj_at {r : Nat} {o o' : Obj} (h : w.heap[r]? = some o) : (setObjW w r o').heap[r]? = some o' := by
 have := heap_lt h
 simp [setObjW, this]
theorem setObj_grown (w : World) (r : Nat) (o : Obj) : w.grownBy (setObjW w r o) (some r) := by
 refine ⟨rfl, rfl, rfl, by simp [setObjW], fun k _ hk => ?_⟩
 simp only [setObjW, Array.getElem?_setIfInBounds]
 rw [if_neg (fun e => hk (by rw [e]))]
theorem map_form (h : SR P G w0 M0 n st a w z) {id : Nat} {mt : TypeId} {kt : KT} {zc : CV} {ks vs : List CV} (hob : st.ob id = .map mt kt zc ks vs) :
  mapTy P mt = some (kt, zc) ∧ ∃ (ks' vs' : List CV) (r : Nat) (ens : List MapEntry) (clk : Nat), MP ks vs ks' vs' ∧ z.σ id = .map (some r) ∧ w.heap[r]? = some (.map ⟨ens⟩ clk) ∧ MapB w (mutb M0 z st.ob) (z.β id) kt ks' vs' ens clk := by
 have := h.ob id
 rw [hob] at this
 exact this
theorem live_of_map {id : Nat} {mt : TypeId} {kt : KT} {zc : CV} {ks vs : List CV} (hob : st.ob id = .map mt kt zc ks vs) : st.ob id ≠ .none := by rw [hob]; simp
theorem map_set (h : SR P G w0 M0 n st a w z) {id : Nat} {mt : TypeId} {kt : KT} {zc : CV} {ks vs : List CV} {r : Nat} {ens : List MapEntry} {clk : Nat} (hσ : z.σ id = .map (some r)) (hh : w.heap[r]? = some (.map ⟨ens⟩ clk))
  {ks0 vs0 ks1 vs1 : List CV} (hob : st.ob id = .map mt kt zc ks0 vs0) (hmt : mapTy P mt = some (kt, zc)) (hB : MapB w (mutb M0 z st.ob) (z.β id) kt ks vs ens clk)
  {i : Nat} {k v : CV} (hmp : MP ks1 vs1 ks (vs.set i v)) {vk vv : Value} (hk : ks[i]? = some k) (hvk : RelC w (mutb M0 z st.ob) k vk) (hvv : RelC w (mutb M0 z st.ob) v vv) (β' : CV → Nat → Prop) (hβ : ∀ k b, z.β id k b → β' k b)
  (hβ' : ∀ k b, β' k b → z.β id k b ∨ ∃ en, ens[i]? = some en ∧ ks[i]? = some k ∧ en.born = b) :
  SR P G w0 M0 n { st with ob := upd st.ob id (.map mt kt zc ks1 vs1) } a (setObjW w r (.map ((⟨ens⟩ : Array MapEntry).modify i (fun e => { e with key := vk, val := vv })) clk)) { z with β := upd z.β id β' } := by
 obtain ⟨h1, h2, h3, h4, h5, h6, h7⟩ := hB
 have hi : i < ks.length := (List.getElem?_eq_some_iff.1 hk).1
 have hil : i < ens.length := by have := h1.length; rw [List.length_map] at this; omega
 have hE : ens[i]? = some (ens[i]'hil) := List.getElem?_eq_getElem _
 obtain ⟨v0, g1, g2⟩ := h1.get hk
 rw [List.getElem?_map, hE] at g1
 simp only [Option.map_some, Option.some.injEq] at g1
 have hkey : ens[i].key = vk := by
  rw [g1]
  exact (conf_val (h3 k (List.mem_of_getElem? hk)) g2 hvk).1
 have hl : ((⟨ens⟩ : Array MapEntry).modify i (fun e => { e with key := vk, val := vv })).toList = ens.set i { ens[i] with key := vk, val := vv } := by
  apply List.ext_getElem?
  intro j
  rw [Array.getElem?_toList, Array.getElem?_modify, List.getElem?_set]
  by_cases hj : i = j
  ·subst hj; simp [hil]
  ·simp [hj]
 have hkeys : ((ens.set i { ens[i] with key := vk, val := vv }).map (·.key)) = ens.map (·.key) := by
  rw [List.map_set]
  apply List.ext_getElem?
  intro j
  rw [List.getElem?_set]
  by_cases hj : i = j
  ·subst hj; simp [hil, hkey]
  ·simp [hj]
 have hborns : ((ens.set i { ens[i] with key := vk, val := vv }).map (·.born)) = ens.map (·.born) := by
  rw [List.map_set]
  apply List.ext_getElem?
  intro j
  rw [List.getElem?_set]
  by_cases hj : i = j
  ·subst hj; simp [hil]
  ·simp [hj]
 have hob' : ((⟨ens⟩ : Array MapEntry).modify i (fun e => { e with key := vk, val := vv })) = ⟨ens.set i { ens[i] with key := vk, val := vv }⟩ := Array.toList_inj.1 hl
 rw [hob']
 refine SR.turn h (live_of_map hob) (by simp) (by rw [hσ]; exact setObj_grown w r _) hβ fun hkp hz => ⟨hmt, _, _, r, _, clk, hmp, hσ, setObj_at hh, ?_, ?_, h3, h4, ?_, ?_, ?_⟩
 ·rw [hkeys]; exact RelL.keep hkp _ _ h1
 ·rw [List.map_set]; exact RelL.set i (RelL.keep hkp _ _ h2) (RelC.keep hkp _ _ hvv)
 ·intro en hen
  rcases List.mem_or_eq_of_mem_set hen with hen | hen
  ·exact h5 en hen
  ·rw [hen]; exact h5 ens[i] (List.mem_of_getElem? hE)
 ·rw [hborns]; exact h6
 ·intro k' b hb
  simp only [upd_same] at hb
  have put : ∀ (j : Nat) (en : MapEntry), ens[j]? = some en → en.born = b → ∃ en', (ens.set i { ens[i] with key := vk, val := vv })[j]? = some en' ∧ en'.born = b := by
   intro j en hj hb'
   rw [List.getElem?_set]
   by_cases hij : i = j
   ·subst hij
    rw [hE] at hj
    simp only [Option.some.injEq] at hj
    subst hj
    exact ⟨{ ens[i] with key := vk, val := vv }, by simp [hil], hb'⟩
   ·exact ⟨en, by simp [hij, hj], hb'⟩
  rcases hβ' k' b hb with hb | ⟨en, h8, h9, h10⟩
  ·obtain ⟨j, en, g3, g4, g5⟩ := h7 k' b hb
   obtain ⟨en', g6, g7⟩ := put j en g4 g5
   exact ⟨j, en', g3, g6, g7⟩
  ·obtain ⟨en', g6, g7⟩ := put i en h8 h10
   exact ⟨i, en', h9, g6, g7⟩
theorem map_push (h : SR P G w0 M0 n st a w z) {id : Nat} {mt : TypeId} {kt : KT} {zc : CV} {ks vs : List CV} {r : Nat} {ens : List MapEntry} {clk : Nat} (hσ : z.σ id = .map (some r)) (hh : w.heap[r]? = some (.map ⟨ens⟩ clk))
  {ks0 vs0 ks1 vs1 : List CV} (hob : st.ob id = .map mt kt zc ks0 vs0) (hmt : mapTy P mt = some (kt, zc)) (hB : MapB w (mutb M0 z st.ob) (z.β id) kt ks vs ens clk)
  {k v : CV} (hmp : MP ks1 vs1 (ks ++ [k]) (vs ++ [v])) {vk vv : Value} (hc : conf kt k = true) (hk : k ∉ ks) (hvk : RelC w (mutb M0 z st.ob) k vk) (hvv : RelC w (mutb M0 z st.ob) v vv) (β' : CV → Nat → Prop) (hβ : ∀ k b, z.β id k b → β' k b)
  (hβ' : ∀ k' b, β' k' b → z.β id k' b ∨ (k' = k ∧ b = clk)) :
  SR P G w0 M0 n { st with ob := upd st.ob id (.map mt kt zc ks1 vs1) } a (setObjW w r (.map ((⟨ens⟩ : Array MapEntry).push { key := vk, val := vv, born := clk }) (clk + 1))) { z with β := upd z.β id β' } := by
 obtain ⟨h1, h2, h3, h4, h5, h6, h7⟩ := hB
 have hp : (⟨ens⟩ : Array MapEntry).push { key := vk, val := vv, born := clk } = ⟨ens ++ [{ key := vk, val := vv, born := clk }]⟩ := Array.toList_inj.1 (by simp)
 rw [hp]
 have hkl : ks.length = ens.length := by have := h1.length; rw [List.length_map] at this; omega
 refine SR.turn h (live_of_map hob) (by simp) (by rw [hσ]; exact setObj_grown w r _) hβ fun hkp hz => ⟨hmt, _, _, r, _, clk + 1, hmp, hσ, setObj_at hh, ?_, ?_, ?_, ?_, ?_, ?_, ?_⟩
 ·rw [List.map_append]; exact (RelL.keep hkp _ _ h1).append (RelL.cons (RelC.keep hkp _ _ hvk) RelL.nil)
 ·rw [List.map_append]; exact (RelL.keep hkp _ _ h2).append (RelL.cons (RelC.keep hkp _ _ hvv) RelL.nil)
 ·intro c hcm
  rcases List.mem_append.1 hcm with hcm | hcm
  ·exact h3 c hcm
  ·rw [List.mem_singleton.1 hcm]; exact hc
 ·rw [List.nodup_append]
  refine ⟨h4, by simp, fun x hx y hy => ?_⟩
  rw [List.mem_singleton.1 hy]
  intro e
  exact hk (e ▸ hx)
 ·intro en hen
  rcases List.mem_append.1 hen with hen | hen
  ·have := h5 en hen; omega
  ·rw [List.mem_singleton.1 hen]; simp
 ·rw [List.map_append, List.nodup_append]
  refine ⟨h6, by simp, fun x hx y hy => ?_⟩
  simp only [List.map_cons, List.map_nil, List.mem_singleton] at hy
  subst hy
  obtain ⟨en, hen, rfl⟩ := List.mem_map.1 hx
  have := h5 en hen
  omega
 ·intro k' b hb
  simp only [upd_same] at hb
  rcases hβ' k' b hb with hb | ⟨rfl, rfl⟩
  ·obtain ⟨j, en, g3, g4, g5⟩ := h7 k' b hb
   have hj1 := (List.getElem?_eq_some_iff.1 g3).1
   have hj2 := (List.getElem?_eq_some_iff.1 g4).1
   exact ⟨j, en, by rw [List.getElem?_append_left hj1]; exact g3, by rw [List.getElem?_append_left hj2]; exact g4, g5⟩
  ·exact ⟨ks.length, { key := vk, val := vv, born := b }, by simp, by rw [hkl]; simp, rfl⟩
end
end WB
namespace WB
open Go Go.RowKit
section
variable {P : Program} {G : Nat → List CV} {w0 : World} {M0 : Nat → Prop} {n : Nat} {st : St} {a : Act} {w w' : World} {z : Cz}
theorem eff_mapupd (h : SR P G w0 M0 n st a w z) {o : Oper} {t : TypeId} {m k x : Operand} (ho : o.op = .mapUpdate t m k x) (hdst : o.dst = none) {sm sk sx : SO} (hm : compO m = some sm) (hk : compO k = some sk) (hx : compO x = some sx) {st' : St}
  (hv : effOp none (so G st.fr) st (.mapupd t sm sk sx) = some st') : Turns P G w0 M0 n st' a w o := by
 have hr := h.ctx.opd hm
 have hr2 := h.ctx.opd hk
 have hr3 := h.ctx.opd hx
 simp only [effOp] at hv
 generalize so G st.fr sm = q at hr hv
 generalize so G st.fr sk = q2 at hr2 hv
 generalize so G st.fr sx = q3 at hr3 hv
 split at hv <;> try (cases hv; done)
 rename_i id kc vc
 obtain ⟨hlive, e1⟩ := hr
 cases hob : st.ob id <;> simp only [hob, reduceCtorEq] at hv
 rename_i mt kt zc ks vs
 simp only [Option.ite_none_right_eq_some, Option.some.injEq] at hv
 obtain ⟨⟨rfl, hc⟩, rfl⟩ := hv
 obtain ⟨hmt, ks', vs', r, ens, clk, hmp, e2, hh, hB⟩ := map_form h hob
 have hB0 := hB
 obtain ⟨h1, h2, h3, h4, h5, h6, h7⟩ := hB0
 obtain ⟨kty, ety, i, vz, hu, hkt, hi, hz, hzc⟩ := mapTy_some hmt
 have hIP := insert_MP hmp h4 hc vc
 have rc := run_checkKey (P := P) hkt false hr2 hc
 have rf := run_findKey (P := P) hkt hr2 hc h1 h3
 have fin : ∀ {w' z' st'}, (Instr.mapUpdate mt (a.eval m) (a.eval k) (a.eval x)).run P w = .ok () w' → SR P G w0 M0 n st' a w' z' → Turns P G w0 M0 n st' a w o := by
  intro w' z' st' hrun hS
  refine .inr ⟨w', z', by simp [execOp, ho, hrun], ?_⟩
  rw [hdst]; exact hS
 have base : (Instr.mapUpdate mt (a.eval m) (a.eval k) (a.eval x)).run P w = (match foundAt ens (kIdx kt kc ks') with
   | some (i, _) => (do
    let key ← Instr.keyThatStays ((((⟨ens⟩ : Array MapEntry)[i]?).map MapEntry.key).getD (a.eval k)) (a.eval k)
    setObj r (.map ((⟨ens⟩ : Array MapEntry).modify i fun e => { e with key, val := a.eval x }) clk) : Sem Unit)
   | none => setObj r (.map ((⟨ens⟩ : Array MapEntry).push { key := a.eval k, val := a.eval x, born := clk }) (clk + 1))).run P w := by
  rw [e1, e2]
  simp only [Instr.mapUpdate, Sem.run_bind, run_underlying hu, Result.andThen_ok, getObj, Sem.run, hh, rc, rf]
  cases foundAt ens (kIdx kt kc ks') <;> rfl
 cases hf : kIdx kt kc ks' with
 | none =>
  have hfa : foundAt ens (kIdx kt kc ks') = none := by rw [hf]; rfl
  rw [hfa] at base
  have e3 : insertK kt ks' kc = ks' ++ [kc] := by simp [insertK, hf]
  have e4 : insertV kt ks' vs' kc vc = vs' ++ [vc] := by simp [insertV, hf]
  rw [e3, e4] at hIP
  have hS := map_push h e2 hh hob hmt hB hIP hc (kIdx_none hc hf) hr2 hr3 (z.β id) (fun _ _ hh => hh) (fun _ _ hh => .inl hh)
  refine fin ?_ hS
  rw [base]
  exact setObj_run hh (fun _ _ _ hh => by cases hh)
 | some i =>
  have hki := kIdx_some hf
  have hil : i < ens.length := by have := h1.length; rw [List.length_map] at this; have := (List.getElem?_eq_some_iff.1 hki).1; omega
  have hE : ens[i]? = some (ens[i]'hil) := List.getElem?_eq_getElem _
  have hfa : foundAt ens (kIdx kt kc ks') = some (i, ens[i].val) := by rw [hf]; simp [foundAt, hE]
  rw [hfa] at base
  obtain ⟨v0, g1, g2⟩ := h1.get hki
  rw [List.getElem?_map, hE] at g1
  simp only [Option.map_some, Option.some.injEq] at g1
  have e3 : insertK kt ks' kc = ks' := by simp [insertK, hf]
  have e4 : insertV kt ks' vs' kc vc = vs'.set i vc := by simp [insertV, hf]
  rw [e3, e4] at hIP
  have hS := map_set h e2 hh hob hmt hB hIP hki hr2 hr3 (z.β id) (fun _ _ hh => hh) (fun _ _ hh => .inl hh)
  refine fin ?_ hS
  rw [base]
  have hEa : (⟨ens⟩ : Array MapEntry)[i]? = some ens[i] := by rw [← Array.getElem?_toList]; exact hE
  have hst := stays (P := P) hc (M := mutb M0 z st.ob) (M' := mutb M0 z st.ob) (u := ens[i].key) (v := a.eval k) (by rw [g1]; exact g2) hr2 w
  simp only [hEa, Option.map_some, Option.getD_some, Sem.run_bind, hst, Result.andThen_ok]
  exact setObj_run hh (fun _ _ _ hh => by cases hh)
theorem eff_mapent (h : SR P G w0 M0 n st a w z) {o : Oper} {t : TypeId} {m k : Operand} (ho : o.op = .mapEntry t m k) (hd : ∀ j, o.dst = some j → j < n) {sm sk : SO} (hm : compO m = some sm) (hk : compO k = some sk) {st' : St}
  (hv : effOp o.dst (so G st.fr) st (.mapent t sm sk) = some st') : Turns P G w0 M0 n st' a w o := by
 have hr := h.ctx.opd hm
 have hr2 := h.ctx.opd hk
 simp only [effOp] at hv
 generalize so G st.fr sm = q at hr hv
 generalize so G st.fr sk = q2 at hr2 hv
 split at hv <;> try (cases hv; done)
 rename_i id kc
 obtain ⟨hlive, e1⟩ := hr
 cases hob : st.ob id <;> simp only [hob, reduceCtorEq] at hv
 rename_i mt kt zc ks vs
 simp only [Option.ite_none_right_eq_some, Option.some.injEq] at hv
 obtain ⟨⟨rfl, hc, -⟩, rfl⟩ := hv
 obtain ⟨hmt, ks', vs', r, ens, clk, hmp, e2, hh, hB⟩ := map_form h hob
 have hB0 := hB
 obtain ⟨h1, h2, h3, h4, h5, h6, h7⟩ := hB0
 obtain ⟨kty, ety, i, vz, hu, hkt, hi, hz, hzc⟩ := mapTy_some hmt
 have hIP := fun v => insert_MP hmp h4 hc v
 rw [look_MP (zc := zc) hmp h4 hc]
 have rc := run_checkKey (P := P) hkt false hr2 hc
 have rf := run_findKey (P := P) hkt hr2 hc h1 h3
 have fin : ∀ {w' z' v st1}, (Instr.mapEntry mt (a.eval m) (a.eval k)).run P w = .ok v w' → SR P G w0 M0 n st1 a w' z' → RelS w' (mutb M0 z' st1.ob) z' st1.ob (.ent id kc (look kt zc ks' vs' kc).1) v →
   Turns P G w0 M0 n (St.set st1 o.dst (.ent id kc (look kt zc ks' vs' kc).1)) a w o := by
  intro w' z' v st1 hrun hS hs
  exact .inl ⟨v, w', z', by simp [execOp, ho, hrun], hS.put hd hs⟩
 have base : (Instr.mapEntry mt (a.eval m) (a.eval k)).run P w = (match foundAt ens (kIdx kt kc ks') with
   | some (i, v) => (do
    let key ← Instr.keyThatStays ((((⟨ens⟩ : Array MapEntry)[i]?).map MapEntry.key).getD (a.eval k)) (a.eval k)
    setObj r (.map ((⟨ens⟩ : Array MapEntry).modify i fun e => { e with key }) clk)
    pure (.tuple #[v, goInt ((((⟨ens⟩ : Array MapEntry)[i]?).map (fun (x : MapEntry) => (x.born : Int))).getD 0)]) : Sem Value)
   | none => (do
    let zero ← zeroValue ety
    setObj r (.map ((⟨ens⟩ : Array MapEntry).push { key := a.eval k, val := zero, born := clk }) (clk + 1))
    pure (.tuple #[zero, goInt clk]) : Sem Value)).run P w := by
  rw [e1, e2]
  simp only [Instr.mapEntry, Sem.run_bind, run_underlying hu, Result.andThen_ok, getObj, Sem.run, hh, rc, rf]
  cases foundAt ens (kIdx kt kc ks') <;> rfl
 cases hf : kIdx kt kc ks' with
 | none =>
  have hfa : foundAt ens (kIdx kt kc ks') = none := by rw [hf]; rfl
  rw [hfa] at base
  have hzr : RelC w (mutb M0 z st.ob) zc vz := cvOf_rel _ _ _ _ hzc
  have hlook : look kt zc ks' vs' kc = (zc, false) := by simp [look, hf]
  have e3 : insertK kt ks' kc = ks' ++ [kc] := by simp [insertK, hf]
  have e4 : insertV kt ks' vs' kc zc = vs' ++ [zc] := by simp [insertV, hf]
  have hIP := hIP zc
  rw [e3, e4] at hIP
  have hS := map_push h e2 hh hob hmt hB hIP hc (kIdx_none hc hf) hr2 hzr (fun k' b => z.β id k' b ∨ (k' = kc ∧ b = clk)) (fun _ _ hh => .inl hh) (fun _ _ hh => hh)
  rw [hlook] at fin ⊢
  refine fin (v := .tuple #[vz, goInt clk]) ?_ hS ⟨by simp [upd_same], clk, vz, by simp [upd_same], rfl, cvOf_rel _ _ _ _ hzc⟩
  rw [base]
  simp only [Sem.run_bind, run_zero hi hz, Result.andThen_ok, setObj_run hh (fun _ _ _ hh => by cases hh), Sem.run_pure]
 | some i =>
  have hki := kIdx_some hf
  have hil : i < ens.length := by have := h1.length; rw [List.length_map] at this; have := (List.getElem?_eq_some_iff.1 hki).1; omega
  have hE : ens[i]? = some (ens[i]'hil) := List.getElem?_eq_getElem _
  have hfa : foundAt ens (kIdx kt kc ks') = some (i, ens[i].val) := by rw [hf]; simp [foundAt, hE]
  rw [hfa] at base
  obtain ⟨v0, g1, g2⟩ := h1.get hki
  rw [List.getElem?_map, hE] at g1
  simp only [Option.map_some, Option.some.injEq] at g1
  have hvl : i < vs'.length := by have := h2.length; rw [List.length_map] at this; omega
  have hV : vs'[i]? = some (vs'[i]'hvl) := List.getElem?_eq_getElem _
  obtain ⟨v1, g3, g4⟩ := h2.get hV
  rw [List.getElem?_map, hE] at g3
  simp only [Option.map_some, Option.some.injEq] at g3
  have hlook : look kt zc ks' vs' kc = (vs'[i], true) := by simp [look, hf, hV]
  have e3 : insertK kt ks' kc = ks' := by simp [insertK, hf]
  have e4 : insertV kt ks' vs' kc vs'[i] = vs'.set i vs'[i] := by simp [insertV, hf]
  have hIP := hIP vs'[i]
  rw [e3, e4] at hIP
  have hS := map_set h e2 hh hob hmt hB hIP hki hr2 (v := vs'[i]) (vv := ens[i].val) (by rw [g3]; exact g4) (fun k' b => z.β id k' b ∨ (k' = kc ∧ b = ens[i].born)) (fun _ _ hh => .inl hh) (fun k' b hb => by
   rcases hb with hb | ⟨rfl, rfl⟩
   ·exact .inl hb
   ·exact .inr ⟨_, hE, hki, rfl⟩)
  rw [hlook] at fin ⊢
  have hEa : (⟨ens⟩ : Array MapEntry)[i]? = some ens[i] := by rw [← Array.getElem?_toList]; exact hE
  have hmod : ((⟨ens⟩ : Array MapEntry).modify i fun e => { e with key := a.eval k }) = ((⟨ens⟩ : Array MapEntry).modify i fun e => { e with key := a.eval k, val := ens[i].val }) := by
   apply Array.ext_getElem?
   intro j
   rw [Array.getElem?_modify, Array.getElem?_modify]
   by_cases hj : i = j
   ·subst hj; simp [hil]
   ·simp [hj]
  refine fin (v := .tuple #[ens[i].val, goInt ens[i].born]) ?_ hS ⟨by simp [upd_same], ens[i].born, ens[i].val, by simp [upd_same], rfl, ?_⟩
  ·rw [base]
   have hst := stays (P := P) hc (M := mutb M0 z st.ob) (M' := mutb M0 z st.ob) (u := ens[i].key) (v := a.eval k) (by rw [g1]; exact g2) hr2 w
   simp only [hEa, Option.map_some, Option.getD_some, Sem.run_bind, hst, Result.andThen_ok, hmod, setObj_run hh (fun _ _ _ hh => by cases hh), Sem.run_pure]
  ·rw [g3]
   exact RelC.keep (SR.turnK (live_of_map hob) (by simp) (by rw [e2]; exact setObj_grown w r _)) _ _ g4
theorem turns_skip {o : Oper} {st' : St} {z' : Cz} (hdst : o.dst = none) (hS : SR P G w0 M0 n st' a w' z') (run : (execOp a.eval o).run P w = .ok .skip w') : Turns P G w0 M0 n st' a w o :=
 .inr ⟨w', z', run, by rw [hdst]; exact hS⟩
theorem eff_entst (h : SR P G w0 M0 n st a w z) {o : Oper} {t : TypeId} {m s x : Operand} (ho : o.op = .entryStore t m s x) (hdst : o.dst = none) {sm ss sx : SO} (hm : compO m = some sm) (hs : compO s = some ss) (hx : compO x = some sx) {st' : St}
  (hv : effOp none (so G st.fr) st (.entst sm ss sx) = some st') : Turns P G w0 M0 n st' a w o := by
 have hr := h.ctx.opd hm
 have hr2 := h.ctx.opd hs
 have hr3 := h.ctx.opd hx
 simp only [effOp] at hv
 generalize so G st.fr sm = q at hr hv
 generalize so G st.fr ss = q2 at hr2 hv
 generalize so G st.fr sx = q3 at hr3 hv
 split at hv <;> try (cases hv; done)
 rename_i id id' kc vc
 obtain ⟨hlive, e1⟩ := hr
 obtain ⟨_, b, hb, e5⟩ := hr2
 cases hob : st.ob id <;> simp only [hob, reduceCtorEq] at hv
 rename_i mt kt zc ks vs
 simp only [Option.ite_none_right_eq_some, Option.some.injEq] at hv
 obtain ⟨rfl, rfl⟩ := hv
 obtain ⟨hmt, ks', vs', r, ens, clk, hmp, e2, hh, hB⟩ := map_form h hob
 have hB0 := hB
 obtain ⟨h1, h2, h3, h4, h5, h6, h7⟩ := hB0
 obtain ⟨i, en, hki, hE, hen⟩ := h7 kc b hb
 have hc := h3 kc (List.mem_of_getElem? hki)
 have hf := kIdx_of hc h4 hki
 have hIP := insert_MP hmp h4 hc vc
 have hil := (List.getElem?_eq_some_iff.1 hE).1
 have hE' : ens[i] = en := by rw [List.getElem?_eq_getElem hil] at hE; simpa using hE
 obtain ⟨v0, g1, g2⟩ := h1.get hki
 rw [List.getElem?_map, hE] at g1
 simp only [Option.map_some, Option.some.injEq] at g1
 have hfind : (⟨ens⟩ : Array MapEntry).findIdx? (fun e => (e.born : Int) == (b : Int)) = some i := by
  rw [Array.findIdx?_eq_some_iff_getElem]
  refine ⟨by simpa using hil, by simp [hE', hen], fun j hj => ?_⟩
  have hjl : j < ens.length := by omega
  simp only [beq_iff_eq, Int.natCast_inj]
  intro hbj
  have e6 : (ens.map (·.born))[j]? = some b := by simp [List.getElem?_eq_getElem hjl]; simpa using hbj
  have e7 : (ens.map (·.born))[i]? = some b := by simp [List.getElem?_eq_getElem hil, hE', hen]
  have := (List.getElem?_inj (by simpa using hjl) h6).1 (e6.trans e7.symm)
  omega
 have e3 : insertK kt ks' kc = ks' := by simp [insertK, hf]
 have e4 : insertV kt ks' vs' kc vc = vs'.set i vc := by simp [insertV, hf]
 rw [e3, e4] at hIP
 have e3' : insertK kt ks kc = ks := by
  obtain ⟨j, v, k1, k2, k3⟩ := hmp.symm.at_ hki
  have hnn : ks.Nodup := (hmp.ks.nodup_iff).1 h4
  simp [insertK, kIdx_of hc hnn k2]
 rw [e3'] at hIP
 have hS := map_set h e2 hh hob hmt hB hIP hki (vk := ens[i].key) (by rw [hE', g1]; exact g2) hr3 (z.β id) (fun _ _ hh => hh) (fun _ _ hh => .inl hh)
 have hmod : ((⟨ens⟩ : Array MapEntry).modify i fun e => { e with val := a.eval x }) = ((⟨ens⟩ : Array MapEntry).modify i fun e => { e with key := ens[i].key, val := a.eval x }) := by
  apply Array.ext_getElem?
  intro j
  rw [Array.getElem?_modify, Array.getElem?_modify]
  by_cases hj : i = j
  ·subst hj; simp [hil]
  ·simp [hj]
 have run : (Instr.entryStore t (a.eval m) (a.eval s) (a.eval x)).run P w = .ok () (setObjW w r (.map ((⟨ens⟩ : Array MapEntry).modify i fun e => { e with key := ens[i].key, val := a.eval x }) clk)) := by
  rw [e1, e2, e5]
  simp only [Instr.entryStore, Sem.run_bind, getObj, Sem.run, hh, asInt, asIntOf, Sem.run_pure, Result.andThen_ok, hfind, hmod, setObj_run hh (fun _ _ _ hh => by cases hh)]
 refine turns_skip hdst hS ?_
 simp only [execOp, ho, Sem.run_bind, run, Result.andThen_ok, Sem.run_pure]
def mute : SOp → Bool
 | .store .. | .entst .. | .mapupd .. => true
 | _ => false
theorem eff_sound (h : SR P G w0 M0 n st a w z) {o : Oper} {sop : SOp} (hc : compOp P o = some sop) (hcls : sop.cls = .eff) (hd : ∀ j, o.dst = some j → j < n) (hm : mute sop = true → o.dst = none) {st' : St}
  (hv : effOp o.dst (so G st.fr) st sop = some st') : Turns P G w0 M0 n st' a w o := by
 unfold compOp at hc
 split at hc <;> rename_i ho <;> try (cases hc; done)
 ·simp only [Option.map_eq_some_iff] at hc; obtain ⟨_, _, rfl⟩ := hc; cases hcls
 ·simp only [Option.map_eq_some_iff] at hc; obtain ⟨_, _, rfl⟩ := hc; cases hcls
 ·simp only [Option.bind_eq_some_iff, Option.map_eq_some_iff] at hc; obtain ⟨_, _, _, _, _, _, rfl⟩ := hc; cases hcls
 ·simp only [Option.bind_eq_some_iff, Option.map_eq_some_iff] at hc; obtain ⟨_, _, _, _, _, _, rfl⟩ := hc; cases hcls
 ·simp only [Option.map_eq_some_iff] at hc; obtain ⟨_, _, rfl⟩ := hc; cases hcls
 ·simp only [Option.bind_eq_some_iff, Option.map_eq_some_iff] at hc; obtain ⟨_, _, _, _, _, _, _, _, rfl⟩ := hc; cases hcls
 ·split at hc <;> try (cases hc; done)
  simp only [Option.bind_eq_some_iff, Option.ite_none_right_eq_some, Option.some.injEq] at hc
  obtain ⟨_, _, _, _, _, _, _, _, _, rfl⟩ := hc
  cases hcls
 ·simp only [Option.bind_eq_some_iff, Option.map_eq_some_iff] at hc; obtain ⟨_, _, _, _, rfl⟩ := hc; cases hcls
 ·
  simp only [Option.bind_eq_some_iff, Option.map_eq_some_iff] at hc
  obtain ⟨i, hi, sa, hsa, sx, hsx, rfl⟩ := hc
  have hdn := hm rfl
  rw [hdn] at hv
  exact eff_store h ho hdn hi hsa hsx hv
 ·have := compBin_cls hc; rw [hcls] at this; cases this
 ·simp only [Option.map_eq_some_iff] at hc; obtain ⟨_, _, rfl⟩ := hc; cases hcls
 ·have := compConv_cls hc; rw [hcls] at this; rcases this with h' | h' <;> cases h'
 ·split at hc
  ·simp only [Option.map_eq_some_iff] at hc; obtain ⟨_, _, rfl⟩ := hc; cases hcls
  ·cases hc
 ·simp only [Option.map_eq_some_iff, Prod.exists] at hc; obtain ⟨_, _, _, rfl⟩ := hc; cases hcls
 ·split at hc <;> try (cases hc; done)
  simp only [Option.bind_eq_some_iff, Option.ite_none_right_eq_some, Option.some.injEq] at hc
  obtain ⟨_, _, _, _, _, _, _, _, _, _, _, rfl⟩ := hc
  cases hcls
 ·split at hc <;> try (cases hc; done)
  ·simp only [Option.bind_eq_some_iff, Option.map_eq_some_iff] at hc; obtain ⟨_, _, _, _, _, _, rfl⟩ := hc; cases hcls
  ·simp only [Option.bind_eq_some_iff, Option.map_eq_some_iff] at hc; obtain ⟨_, _, _, _, _, _, _, _, rfl⟩ := hc; cases hcls
  ·split at hc <;> try (cases hc; done)
   simp only [Option.bind_eq_some_iff, Option.ite_none_right_eq_some, Option.map_eq_some_iff] at hc; obtain ⟨_, _, _, _, _, rfl⟩ := hc; cases hcls
 ·split at hc <;> try (cases hc; done)
  simp only [Option.bind_eq_some_iff, Option.ite_none_left_eq_some, Option.map_eq_some_iff] at hc; obtain ⟨_, _, _, _, _, _, _, rfl⟩ := hc; cases hcls
 ·split at hc <;> try (cases hc; done)
  simp only [Option.bind_eq_some_iff, Option.map_eq_some_iff] at hc; obtain ⟨_, _, _, _, _, _, rfl⟩ := hc; cases hcls
 ·split at hc <;> try (cases hc; done)
  ·simp only [Option.bind_eq_some_iff, Option.ite_none_left_eq_some, Option.map_eq_some_iff] at hc; obtain ⟨_, _, _, _, _, _, _, rfl⟩ := hc; cases hcls
  ·simp only [Option.bind_eq_some_iff, Option.ite_none_left_eq_some, Option.map_eq_some_iff] at hc; obtain ⟨_, _, _, _, _, _, _, rfl⟩ := hc; cases hcls
 ·split at hc <;> try (cases hc; done)
  ·simp only [Option.bind_eq_some_iff, Option.map_eq_some_iff] at hc; obtain ⟨_, _, _, _, rfl⟩ := hc; cases hcls
  ·simp only [Option.bind_eq_some_iff, Option.map_eq_some_iff] at hc; obtain ⟨_, _, _, _, _, _, _, _, rfl⟩ := hc; cases hcls
 ·simp only [Option.bind_eq_some_iff, Option.map_eq_some_iff] at hc; obtain ⟨_, _, _, _, _, _, rfl⟩ := hc; cases hcls
 ·split at hc <;> try (cases hc; done)
  simp only [Option.bind_eq_some_iff, Option.map_eq_some_iff] at hc
  obtain ⟨sm, hsm, sk, hsk, sx, hsx, rfl⟩ := hc
  have hdn := hm rfl
  rw [hdn] at hv
  exact eff_mapupd h ho hdn hsm hsk hsx hv
 ·split at hc <;> try (cases hc; done)
  simp only [Option.bind_eq_some_iff, Option.map_eq_some_iff] at hc
  obtain ⟨sm, hsm, sk, hsk, rfl⟩ := hc
  exact eff_mapent h ho hd hsm hsk hv
 ·simp only [Option.bind_eq_some_iff, Option.map_eq_some_iff] at hc
  obtain ⟨sm, hsm, ss, hss, sx, hsx, rfl⟩ := hc
  have hdn := hm rfl
  rw [hdn] at hv
  exact eff_entst h ho hdn hsm hss hsx hv
 ·split at hc <;> try (cases hc; done)
  simp only [Option.map_eq_some_iff] at hc; obtain ⟨_, _, rfl⟩ := hc; cases hcls
 ·simp only [Option.map_eq_some_iff] at hc; obtain ⟨_, _, rfl⟩ := hc; cases hv
 ·simp only [Option.map_eq_some_iff] at hc; obtain ⟨_, _, rfl⟩ := hc; cases hcls
 ·
  rename_i c
  obtain ⟨callee, args, argTypes⟩ := c
  unfold compCall at hc
  split at hc <;> try (cases hc; done)
  ·split at hc <;> first
    | (cases hc; done)
    | (simp only [Option.map_eq_some_iff] at hc; obtain ⟨_, _, rfl⟩ := hc; cases hcls)
    | (simp only [Option.some.injEq] at hc; subst hc; cases hcls)
  ·simp only [Option.map_eq_some_iff] at hc; obtain ⟨_, _, rfl⟩ := hc; cases hcls
  ·simp only [Option.map_eq_some_iff] at hc; obtain ⟨_, _, rfl⟩ := hc; cases hcls
  ·rename_i hcal
   simp only at hcal
   subst hcal
   split at hc <;> try (cases hc; done)
   rename_i x y t u hargs hat
   split at hc <;> try (cases hc; done)
   rename_i e _ hu _
   simp only [Option.bind_eq_some_iff, Option.ite_none_right_eq_some, Option.some.injEq] at hc
   obtain ⟨i, hi, zv, hz, sx, hsx, sy, hsy, ⟨rfl, h0, hzs⟩, rfl⟩ := hc
   exact eff_append h ho hargs hat hu hi hz hzs h0 hd hsx hsy hv
  ·split at hc <;> try (cases hc; done)
   rcases callC_some hc with ⟨l, hl, rfl⟩ | ⟨_, _, _, _, _, _, _, rfl⟩ <;> cases hcls
  ·simp only [Option.map_eq_some_iff] at hc; obtain ⟨_, _, rfl⟩ := hc; cases hcls
end
end WB
namespace WB
open Go Go.RowKit
def z0 (v : Value) : Cz := { σ := fun _ => v, β := fun _ _ _ => False }
def ob0 : Nat → Ob := fun _ => .none
def handy : Ob → Bool
 | .arr .. | .map .. => true
 | _ => false
def RelR (P : Program) (w : World) (M : Nat → Prop) (B : Nat) (v : Value) : Res → Prop
 | .val c => RelC w M c v
 | .new o => handy o = true ∧ (∀ g, blk v = some g → B ≤ g ∧ g < w.heap.size) ∧ RelO P w (fun g => M g ∨ blk v = some g) B (z0 v) ob0 0 v o
def CallsTo (P : Program) (G : Nat → List CV) (f : FuncId) (args : List CV) (r : Res) : Prop :=
 ∀ (w : World) (M : Nat → Prop) (vs : List Value), (∀ g, M g → g < w.heap.size) → GOk G w M → RelL w M args vs →
  Calls P f ⟨vs⟩ w fun e w' => ∃ v, e = .returned v ∧ Below w.heap.size w w' ∧ RelR P w' M w.heap.size v r
def CopyC (P : Program) (f : FuncId) : Prop := ∀ (w : World) (bd clk : Nat) (ps : Option Nat) (ens : List MapEntry), w.heap[bd]? = some (.map ⟨[]⟩ clk) →
 ((ps = none ∧ ens = []) ∨ ∃ bs clk', ps = some bs ∧ bs ≠ bd ∧ w.heap[bs]? = some (.map ⟨ens⟩ clk') ∧ Ens ens clk') →
 (∀ en : MapEntry, en ∈ ens → ∃ s : List UInt8, en.key = .string ⟨⟨s⟩⟩ ∧ s.length ≤ 9223372036854775807) → ens.length ≤ 9223372036854775807 →
 Calls P f ⟨[.map (some bd), .map ps]⟩ w fun e w' => e = .returned (.tuple ⟨[]⟩) ∧ w.grownBy w' (some bd) ∧ ∃ (ens' : List MapEntry) (clk' : Nat), w'.heap[bd]? = some (.map ⟨ens'⟩ clk') ∧ Ens ens' clk' ∧
  (ens'.map fun e => (e.key, e.val)).Perm (ens.map fun e => (e.key, e.val))
def CpOk (P : Program) (cp : FuncId → Bool) : Prop := ∀ f, cp f = true → hasBody P f = true ∧ CopyC P f
def FnOk (P : Program) (E : Env) : Prop := ∀ f args r, E.fn f args = some r → hasBody P f = true ∧ CallsTo P E.G f args r
def EOk (P : Program) (E : Env) : Prop := FnOk P E ∧ CpOk P E.cp
section
variable {P : Program} {w w' : World} {M M' : Nat → Prop}
mutual
theorem memless_any : ∀ (c : CV) (v : Value), memless c = true → RelC w M c v → RelC w' M' c v
 | .int _ _, _, _, h => by unfold RelC at *; exact h
 | .bool _, _, _, h => by unfold RelC at *; exact h
 | .str _, _, _, h => by unfold RelC at *; exact h
 | .nilif, _, _, h => by unfold RelC at *; exact h
 | .nilfn, _, _, h => by unfold RelC at *; exact h
 | .adr _, _, _, h => by unfold RelC at *; exact h
 | .agg cs, v, hm, h => by
  unfold RelC at *
  obtain ⟨vs, e, hl⟩ := h
  exact ⟨vs, e, memlessL_any cs vs (by simpa [memless] using hm) hl⟩
 | .tup cs, v, hm, h => by
  unfold RelC at *
  obtain ⟨vs, e, hl⟩ := h
  exact ⟨vs, e, memlessL_any cs vs (by simpa [memless] using hm) hl⟩
 | .sl _ _, _, hm, _ => by simp [memless] at hm
 | .map _ _ _, _, hm, _ => by simp [memless] at hm
 | .rp _, _, hm, _ => by simp [memless] at hm
 | .wp _, _, hm, _ => by simp [memless] at hm
 | .fn _ _, _, hm, _ => by simp [memless] at hm
 | .ifc, _, hm, _ => by simp [memless] at hm
theorem memlessL_any : ∀ (cs : List CV) (vs : List Value), memlessL cs = true → RelL w M cs vs → RelL w' M' cs vs
 | [], _, _, h => by unfold RelL at *; exact h
 | c :: cs, vs, hm, h => by
  unfold RelL at *
  obtain ⟨v, vs', e, h1, h2⟩ := h
  simp only [memlessL, Bool.and_eq_true] at hm
  exact ⟨v, vs', e, memless_any c v hm.1 h1, memlessL_any cs vs' hm.2 h2⟩
end
theorem memlessF_any {size : Nat} : ∀ (cs : List CV) (xs : List Value), memlessL cs = true → RelF w M size cs xs → RelF w' M' size cs xs
 | [], _, _, h => h
 | c :: cs, xs, hm, h => by
  obtain ⟨v, xs', e, h1, h2, h3⟩ := h
  simp only [memlessL, Bool.and_eq_true] at hm
  exact ⟨v, xs', e, h1, memless_any c v hm.1 h2, memlessF_any cs xs' hm.2 h3⟩
theorem ownsRow_mono {B B' e size n : Nat} {v : Value} {xs : List Value} (h : w.ownsRow B e size v n xs) (hB : B' ≤ B) : w.ownsRow B' e size v n xs := by
 refine ⟨h.1, ?_⟩
 rcases h.2 with h2 | ⟨g, cap, cur, e1, e2, r⟩
 ·exact .inl h2
 ·exact .inr ⟨g, cap, cur, e1, Nat.le_trans hB e2, r⟩
theorem memlessL_all : ∀ (l : List CV), memlessL l = true ↔ ∀ c ∈ l, memless c = true
 | [] => by simp [memlessL]
 | c :: l => by simp [memlessL, memlessL_all l]
theorem memlessL_perm {l l' : List CV} (h : l'.Perm l) (hm : memlessL l = true) : memlessL l' = true :=
 (memlessL_all l').2 fun c hc => (memlessL_all l).1 hm c (h.mem_iff.1 hc)
theorem RelO_marks {B B' id id' : Nat} {v : Value} {z z' : Cz} {ob ob' : Nat → Ob} {o : Ob} (hB : B' ≤ B) (hh : handy o = true) (hM : ∀ g, g < w.heap.size → M' g → M g) (hβ : ∀ k b, ¬ z'.β id k b) (h : RelO P w M B z ob id' v o) : RelO P w M' B' z' ob' id v o := by
 have hk : Keeps w M w M' := ⟨Nat.le_refl _, fun _ _ _ => rfl, hM⟩
 cases o <;> simp [handy] at hh
 ·obtain ⟨xs, h1, h2⟩ := h
  exact ⟨xs, ownsRow_mono h1 hB, RelF.keep hk h2⟩
 ·obtain ⟨hmt, ks', vs', r, ens, clk, hmp, e, g1, g2, g3, g4, g5, g6, g7, _⟩ := h
  exact ⟨hmt, ks', vs', r, ens, clk, hmp, e, g1, RelL.keep hk _ _ g2, RelL.keep hk _ _ g3, g4, g5, g6, g7, fun k b hb => absurd hb (hβ k b)⟩
theorem RelO_memless {B B' id id' : Nat} {v : Value} {z z' : Cz} {ob ob' : Nat → Ob} {o : Ob} (hB : B' ≤ B) (hm : (Res.new o).memless = true) (hβ : ∀ k b, ¬ z'.β id k b) (h : RelO P w M B z ob id' v o) : RelO P w M' B' z' ob' id v o := by
 cases o <;> simp [Res.memless] at hm
 ·obtain ⟨xs, h1, h2⟩ := h
  exact ⟨xs, ownsRow_mono h1 hB, memlessF_any _ _ hm h2⟩
 ·obtain ⟨hmt, ks', vs', r, ens, clk, hmp, e, g1, g2, g3, g4, g5, g6, g7, _⟩ := h
  exact ⟨hmt, ks', vs', r, ens, clk, hmp, e, g1, memlessL_any _ _ (memlessL_perm hmp.ks hm.1) g2, memlessL_any _ _ (memlessL_perm hmp.vs hm.2) g3, g4, g5, g6, g7, fun k b hb => absurd hb (hβ k b)⟩
end
section
variable {P : Program} {E : Env} {w0 : World} {M0 : Nat → Prop} {n : Nat} {st : St} {a : Act} {w w' : World} {z : Cz}
theorem SR.outerW {G : Nat → List CV} (h : SR P G w0 M0 n st a w z) : ∀ g, M0 g → g < w.heap.size := fun g hg => Nat.lt_of_lt_of_le (h.outer g hg) h.below.size
theorem SR.mutW {G : Nat → List CV} (h : SR P G w0 M0 n st a w z) : ∀ g, mutb M0 z st.ob g → g < w.heap.size := fun g hg => by
 rcases hg with hg | ⟨id, hl, hb⟩
 ·exact h.outerW g hg
 ·exact (h.lo id g hl hb).2
theorem close_rel {G : Nat → List CV} (h : SR P G w0 M0 n st a w z) {rd : Nat → Ob} (hrd : ∀ id, rd id = .none ∨ rd id = st.ob id) {s : SV} {v : Value} {c : CV} (hs : RelS w (mutb M0 z st.ob) z st.ob s v) (hc : close rd s = some c) : RelC w M0 c v := by
 have hk : Keeps w (mutb M0 z st.ob) w M0 := ⟨Nat.le_refl _, fun _ _ _ => rfl, fun g _ hg => .inl hg⟩
 have hout : ∀ id g, st.ob id ≠ .none → blk (z.σ id) = some g → ¬ M0 g := fun id g hl hb hm => by
  have := h.outer g hm
  have := (h.lo id g hl hb).1
  omega
 cases s <;> try (simp only [close, reduceCtorEq] at hc; done)
 ·simp only [close, Option.some.injEq] at hc
  subst hc
  exact RelC.keep hk _ _ hs
 ·rename_i id
  obtain ⟨hlive, e⟩ := hs
  simp only [close] at hc
  rcases hrd id with e' | e'
  ·rw [e'] at hc; cases hc
  ·rw [e'] at hc
   cases hob : st.ob id <;> rw [hob] at hc <;> try (simp only [reduceCtorEq] at hc; done)
   rename_i et sz es
   simp only [Option.some.injEq] at hc
   subst hc
   have ho := h.ob id
   rw [hob] at ho
   obtain ⟨xs, hown, hf⟩ := ho
   unfold RelC
   rcases hown.2 with ⟨e1, e2⟩ | ⟨g, cap, cur, e1, e2, e3, e4, e5, e6, e7⟩
   ·refine ⟨none, 0, 0, by rw [e, e1], e2.symm, Nat.le_refl _, (fun hh => by cases hh), (fun hh => by cases hh), fun _ => rfl, fun hne => ?_⟩
    exact absurd (List.eq_nil_of_length_eq_zero e2) hne
   ·refine ⟨some ⟨g, 0, none⟩, es.length, cap, by rw [e, e1], rfl, e4, (fun hh => by cases hh), (fun hh => by cases hh), (fun hh => by cases hh), fun _ => ⟨⟨g, 0, none⟩, sz, rfl, heap_lt e3, hout id g hlive (by rw [e1]; rfl), ?_⟩⟩
    refine RelE_of_get fun k el hel => ?_
    obtain ⟨u, g1, g2, g3⟩ := RelF_get hf hel
    refine ⟨u, RelC.keep hk _ _ g1, g2, fun j u' hu => ?_⟩
    rw [addr_add, cell_of_row w g _ cur et (0, 0) e3]
    have h8 := g3 j u' hu
    rw [← e7, List.getElem?_take] at h8
    split at h8
    ·simpa using h8
    ·cases h8
 ·rename_i id
  obtain ⟨hlive, e⟩ := hs
  simp only [close] at hc
  rcases hrd id with e' | e'
  ·rw [e'] at hc; cases hc
  ·rw [e'] at hc
   cases hob : st.ob id <;> rw [hob] at hc <;> try (simp only [reduceCtorEq] at hc; done)
   simp only [Option.some.injEq] at hc
   subst hc
   obtain ⟨hmt, ks', vs', r, ens, clk, hmp, e1, hh, h1, h2, h3, h4, h5, h6, _⟩ := map_form h hob
   obtain ⟨ens', hp, h1', h2'⟩ := rel_turn hmp h1 h2
   unfold RelC
   refine ⟨some r, by rw [e, e1], (fun hh => by cases hh), (fun hh => by cases hh), (fun hh => by cases hh), fun b hb => ?_⟩
   cases hb
   exact ⟨hout id r hlive (by rw [e1]; rfl), ens, ens', clk, hh, ⟨nodup_val h3 h1 h4, h5, h6⟩, hp, RelL.keep hk _ _ h1', RelL.keep hk _ _ h2'⟩
theorem closes_rel {G : Nat → List CV} (h : SR P G w0 M0 n st a w z) {rd : Nat → Ob} (hrd : ∀ id, rd id = .none ∨ rd id = st.ob id) : ∀ {xs : List Operand} {sxs : List SO} {l : List CV}, allM compO xs = some sxs → allM (fun x => close rd (so G st.fr x)) sxs = some l →
  RelL w M0 l (xs.map a.eval) ∧ ((sxs.all fun x => isC (so G st.fr x)) = true → RelL w (mutb M0 z st.ob) l (xs.map a.eval))
 | [], sxs, l, h1, h2 => by
  simp only [allM, Option.some.injEq] at h1; subst h1
  simp only [allM, Option.some.injEq] at h2; subst h2
  exact ⟨RelL.nil, fun _ => RelL.nil⟩
 | x :: xs, sxs, l, h1, h2 => by
  simp only [allM, Option.bind_eq_some_iff, Option.map_eq_some_iff] at h1
  obtain ⟨s, hs, ss, hss, rfl⟩ := h1
  simp only [allM, Option.bind_eq_some_iff, Option.map_eq_some_iff] at h2
  obtain ⟨c, hc, cs, hcs, rfl⟩ := h2
  obtain ⟨g1, g2⟩ := closes_rel h hrd hss hcs
  refine ⟨RelL.cons (close_rel h hrd (h.ctx.opd hs) hc) g1, fun hall => ?_⟩
  simp only [List.all_cons, Bool.and_eq_true] at hall
  refine RelL.cons ?_ (g2 hall.2)
  have hr := h.ctx.opd hs
  generalize so G st.fr s = q at hr hc hall
  cases q <;> simp [isC] at hall
  simp only [close, Option.some.injEq] at hc
  subst hc
  exact hr
theorem glob_M0 {G : Nat → List CV} (h : SR P G w0 M0 n st a w z) : GOk G w M0 :=
 h.glob.keep ⟨h.below.size, fun g hg _ => h.below.block g hg, fun _ _ hm => hm⟩ h.below
theorem glob_mut {G : Nat → List CV} (h : SR P G w0 M0 n st a w z) : GOk G w (mutb M0 z st.ob) := fun i hi =>
 ⟨h.ctx.glob i hi, (glob_M0 h i hi).2⟩
theorem call_sound (hE : EOk P E) (h : SR P E.G w0 M0 n st a w z) {d : Option Nat} (hd : ∀ j, d = some j → j < n) {f : FuncId} {l : List CV} {vs : List Value} {r : Res} {open_ : Bool} (hf : E.fn f l = some r)
  (h1 : RelL w M0 l vs) (h2 : open_ = false → RelL w (mutb M0 z st.ob) l vs) (hmem : open_ = true → r.memless = true) {st' : St} (hs : setRes st d r = some st') :
  Calls P f ⟨vs⟩ w fun e w' => ∃ v, e = .returned v ∧ ∃ z', SR P E.G w0 M0 n st' (a.put d v) w' z' := by
 obtain ⟨_, hc⟩ := hE.1 f l r hf
 cases open_ with
 | true =>
  have hm := hmem rfl
  refine (hc w M0 vs h.outerW (glob_M0 h) h1).mono fun e w' ⟨v, he, hb, hr⟩ => ⟨v, he, ?_⟩
  have hg := h.grow hb
  cases r with
  | val c =>
   simp only [setRes, Option.some.injEq] at hs
   subst hs
   exact ⟨z, hg.put hd (memless_any c v hm hr)⟩
  | new o =>
   obtain ⟨hh, hv, ho⟩ := hr
   simp only [setRes, addNew] at hs
   cases d with
   | none => cases hs
   | some d =>
    simp only at hs
    split at hs <;> try (cases hs; done)
    rename_i hn
    simp only [Option.some.injEq, Option.getD_some] at hs
    subst hs
    refine ⟨z.new d v, h.new (hd d rfl) hn hb hv (RelO_memless h.below.size hm (fun k b hh => by simp [Cz.new] at hh) ho) ?_⟩
    cases o <;> simp [handy] at hh <;> exact ⟨live_upd (by simp), new_σ.symm⟩
 | false =>
  refine (hc w (mutb M0 z st.ob) vs h.mutW (glob_mut h) (h2 rfl)).mono fun e w' ⟨v, he, hb, hr⟩ => ⟨v, he, ?_⟩
  have hg := h.grow hb
  cases r with
  | val c =>
   simp only [setRes, Option.some.injEq] at hs
   subst hs
   exact ⟨z, hg.put hd hr⟩
  | new o =>
   obtain ⟨hh, hv, ho⟩ := hr
   simp only [setRes, addNew] at hs
   cases d with
   | none => cases hs
   | some d =>
    simp only at hs
    split at hs <;> try (cases hs; done)
    rename_i hn
    simp only [Option.some.injEq, Option.getD_some] at hs
    subst hs
    refine ⟨z.new d v, h.new (hd d rfl) hn hb hv (RelO_marks h.below.size hh (fun g _ hg => ?_) (fun k b hh => by simp [Cz.new] at hh) ho) ?_⟩
    ·rcases hg with hg | ⟨id, hl, hb'⟩
     ·exact .inl (.inl hg)
     ·by_cases hid : id = d
      ·subst hid
       rw [new_σ] at hb'
       exact .inr hb'
      ·rw [upd_ne _ _ hid] at hl
       exact .inl (.inr ⟨id, hl, by simpa [Cz.new, upd, hid] using hb'⟩)
    ·cases o <;> simp [handy] at hh <;> exact ⟨live_upd (by simp), new_σ.symm⟩
end
end WB
namespace WB
open Go Go.RowKit
section
variable {P : Program} {E : Env} {w0 : World} {M0 : Nat → Prop} {n : Nat} {st : St} {a : Act} {w w' : World} {z : Cz}
theorem freeze_below {w w1 : World} {g : Nat} (h : Below w.heap.size w w1) (hg : w.heap.size ≤ g) (o k : Nat) : Below w.heap.size w (w1.freeze ⟨g, o, none⟩ k) := by
 unfold World.freeze
 split
 ·exact h
 ·refine ⟨h.os, h.tape, h.output, by simpa using h.size, fun j hj => ?_⟩
  simp only [Array.getElem?_modify]
  rw [if_neg (by omega)]
  exact h.block j hj
theorem grow_op {o : Oper} {sop : SOp} (hc : compOp P o = some sop) (hcls : sop.cls = .grow) : ∃ src dst x, o.op = .convert src dst x ∧ compConv P src dst x = some sop := by
 unfold compOp at hc
 split at hc <;> rename_i ho <;> first
  | (cases hc; done)
  | exact ⟨_, _, _, ho, hc⟩
  | (exfalso; have := compBin_cls hc; rw [hcls] at this; cases this; done)
  | (exfalso
     unfold compCall at hc
     (repeat' split at hc) <;> try (rcases callC_some hc with ⟨_, _, rfl⟩ | ⟨_, _, _, _, _, _, _, rfl⟩ <;> (cases hcls; done))
     all_goals simp only [Option.bind_eq_some_iff, Option.map_eq_some_iff, Option.ite_none_right_eq_some, Option.some.injEq, reduceCtorEq] at hc
     all_goals (repeat (first | (subst hc; cases hcls; done) | (obtain ⟨_, hc⟩ := hc)))
     done)
  | (exfalso
     (repeat' split at hc) <;> simp only [Option.bind_eq_some_iff, Option.map_eq_some_iff, Option.ite_none_left_eq_some, Option.ite_none_right_eq_some, Option.some.injEq, Prod.exists, reduceCtorEq] at hc
     all_goals (repeat (first | (subst hc; cases hcls; done) | (obtain ⟨_, hc⟩ := hc)))
     done)
theorem grow_sound {G : Nat → List CV} (h : SR P G w0 M0 n st a w z) {rd : Nat → Ob} {o : Oper} {sop : SOp} (hc : compOp P o = some sop) (hcls : sop.cls = .grow) {sv : SV} (hv : valOp rd (so G st.fr) sop = some sv) :
  ∃ v w', (execOp a.eval o).run P w = .ok (.value v) w' ∧ Below w.heap.size w w' ∧ RelS w' (mutb M0 z st.ob) z st.ob sv v := by
 obtain ⟨src, dst, x, ho, hc⟩ := grow_op hc hcls
 unfold compConv at hc
 split at hc <;> try (cases hc; done)
 ·simp only [Option.map_eq_some_iff] at hc; obtain ⟨_, _, rfl⟩ := hc; cases hcls
 ·simp only [Option.map_eq_some_iff] at hc; obtain ⟨_, _, rfl⟩ := hc; cases hcls
 ·simp only [Option.map_eq_some_iff] at hc; obtain ⟨_, _, rfl⟩ := hc; cases hcls
 ·rename_i e hu1 hu2
  split at hc <;> try (cases hc; done)
  rename_i hu3
  simp only [Option.map_eq_some_iff] at hc
  obtain ⟨sx, hx, rfl⟩ := hc
  have hr := h.ctx.opd hx
  simp only [valOp] at hv
  generalize so G st.fr sx = q at hr hv
  split at hv <;> try (cases hv; done)
  rename_i s
  simp only [Option.ite_none_right_eq_some, Option.some.injEq] at hv
  obtain ⟨hle, rfl⟩ := hv
  have e1 := of_str (w := w) (M := mutb M0 z st.ob) hr
  let elems : Array Value := (⟨s⟩ : Array UInt8).map fun b => .int .u8 b.toNat
  have hres : ∃ cap : Nat, s.length ≤ cap ∧ (convert src dst (a.eval x)).run P w = .ok (.slice (some ⟨w.heap.size, 0, none⟩) s.length cap)
    (((w.drew).alloc (.cells (elems ++ Array.replicate (cap - s.length) (.int .u8 0)) e)).freeze ⟨w.heap.size, cap, none⟩ 1) := by
   refine ⟨Question.cut (.appendCap s.length 0 e) (w.tape w.drawn (.appendCap s.length 0 e)), by simp [Question.cut], ?_⟩
   have hsz : (⟨⟨s⟩⟩ : ByteArray).size = s.length := rfl
   have hcap : s.length ≤ Question.cut (.appendCap s.length 0 e) (w.tape w.drawn (.appendCap s.length 0 e)) := by simp [Question.cut]
   generalize hq : Question.cut (.appendCap s.length 0 e) (w.tape w.drawn (.appendCap s.length 0 e)) = cap at hcap ⊢
   have hshape : (((w.drew).alloc (.cells (elems ++ Array.replicate (cap - s.length) (.int .u8 0)) e)).shape? w.heap.size) = some (e, cap) := by
    have := alloc_new w.drew (.cells (elems ++ Array.replicate (cap - s.length) (.int .u8 0)) e)
    have hw : w.drew.heap.size = w.heap.size := rfl
    rw [hw] at this
    simp only [World.shape?, this]
    simp [elems]
    omega
   rw [e1]
   simp only [convert, Sem.run_bind, run_underlying hu1, run_underlying hu2, Result.andThen_ok, run_underlying hu3, Conv.stringToBytes, run_choose, hsz, Question.forced, Bool.false_eq_true, if_false, hq, run_newRow, markStringish, run_shape]
   have hw : ({ w with drawn := w.drawn + 1 } : World) = w.drew := rfl
   rw [hw]
   simp only [elems] at hshape
   rw [hshape]
   simp only [run_freeze, Result.andThen_ok, Sem.run_pure]
   rfl
  obtain ⟨cap, hcap, run⟩ := hres
  have hb0 : Below w.heap.size w ((w.drew).alloc (.cells (elems ++ Array.replicate (cap - s.length) (.int .u8 0)) e)) := ((Below.refl _ w).drew).alloc (Nat.le_refl _) _
  have hb := freeze_below hb0 (Nat.le_refl w.heap.size) cap 1
  refine ⟨.slice (some ⟨w.heap.size, 0, none⟩) s.length cap, _, by simp only [execOp, ho, Sem.run_bind, run, Result.andThen_ok, Sem.run_pure], hb, ?_⟩
  show RelC _ _ _ _
  unfold RelC
  refine ⟨some ⟨w.heap.size, 0, none⟩, s.length, cap, rfl, by simp, hcap, (fun hh => by cases hh), (fun _ hh => by cases hh), (fun hh => by cases hh), fun _ => ⟨⟨w.heap.size, 0, none⟩, 1, rfl, ?_, fun hm => ?_, RelE_of_get fun k el hel => ?_⟩⟩
  ·have : w.drew.heap.size = w.heap.size := rfl
   simp [World.freeze, this]
  ·have := h.mutW _ hm; simp at this
  ·rw [List.getElem?_map, Option.map_eq_some_iff] at hel
   obtain ⟨b, hb', rfl⟩ := hel
   refine ⟨.int .u8 b.toNat, rel_int, rfl, fun j u hu => ?_⟩
   have hk := (List.getElem?_eq_some_iff.1 hb').1
   have hj : j = 0 := by
    have := (Array.getElem?_eq_some_iff.1 hu).1
    simp [Value.cells] at this
    exact this
   subst hj
   simp only [Value.cells] at hu
   have hu' : Value.int .u8 b.toNat = u := by simpa using hu
   subst hu'
   rw [addr_add]
   have hheap : ∃ fz, (((w.drew).alloc (.cells (elems ++ Array.replicate (cap - s.length) (.int .u8 0)) e)).freeze ⟨w.heap.size, cap, none⟩ 1).heap[w.heap.size]? = some (.cells (elems ++ Array.replicate (cap - s.length) (.int .u8 0)) e fz) := by
    have := alloc_new w.drew (.cells (elems ++ Array.replicate (cap - s.length) (.int .u8 0)) e)
    have hw : w.drew.heap.size = w.heap.size := rfl
    rw [hw] at this
    refine ⟨(cap, cap + 1), ?_⟩
    unfold World.freeze
    rw [if_neg (by omega)]
    simp only [Array.getElem?_modify, this, if_true, Option.map_some]
    rfl
   obtain ⟨fz, hheap⟩ := hheap
   rw [cell_of_row _ _ _ _ _ _ hheap]
   have : 0 + ((0 + k) * 1 + 0) = k := by omega
   rw [this, Array.getElem?_append_left (by simp [elems]; exact hk)]
   simp [elems, hb']
 ·split at hc <;> try (cases hc; done)
  simp only [Option.map_eq_some_iff] at hc; obtain ⟨_, _, rfl⟩ := hc; cases hcls
end
end WB
namespace WB
open Go Go.RowKit
section
variable {P : Program} {E : Env} {w0 : World} {M0 : Nat → Prop} {n : Nat} {st : St} {a : Act} {w w' : World} {z : Cz}
theorem call_op {o : Oper} {sop : SOp} (hc : compOp P o = some sop) (hcls : sop.cls = .call) : ∃ c, o.op = .call c ∧
  ((∃ f l, c.callee = .value (.func f) ∧ hasBody P f = true ∧ allM compO c.args.toList = some l ∧ sop = .call f l) ∨
   (∃ t l, c.callee = .value (.tmp t) ∧ allM compO c.args.toList = some l ∧ sop = .callv (.t t) l)) := by
 unfold compOp at hc
 split at hc <;> rename_i ho <;> first
  | (cases hc; done)
  | (exfalso; have := compBin_cls hc; rw [hcls] at this; cases this; done)
  | (exfalso; have := compConv_cls hc; rw [hcls] at this; rcases this with h' | h' <;> cases h')
  | (unfold compCall at hc
     refine ⟨_, ho, ?_⟩
     split at hc <;> first
      | (cases hc; done)
      | (rename_i f hcal
         split at hc
         ·rename_i hb
          rcases callC_some hc with ⟨l, hl, rfl⟩ | ⟨_, _, _, _, _, _, _, rfl⟩
          ·exact .inl ⟨f, l, hcal, hb, hl, rfl⟩
          ·cases hcls
         ·cases hc)
      | (rename_i t hcal
         simp only [Option.map_eq_some_iff] at hc
         obtain ⟨l, hl, rfl⟩ := hc
         exact .inr ⟨t, l, hcal, hl, rfl⟩)
      | (exfalso
         (repeat' split at hc) <;> try (rcases callC_some hc with ⟨_, _, rfl⟩ | ⟨_, _, _, _, _, _, _, rfl⟩ <;> (cases hcls; done))
         all_goals simp only [Option.bind_eq_some_iff, Option.map_eq_some_iff, Option.ite_none_right_eq_some, Option.some.injEq, reduceCtorEq] at hc
         all_goals (repeat (first | (subst hc; cases hcls; done) | (obtain ⟨_, hc⟩ := hc)))
         done))
  | (exfalso
     (repeat' split at hc) <;> simp only [Option.bind_eq_some_iff, Option.map_eq_some_iff, Option.ite_none_left_eq_some, Option.ite_none_right_eq_some, Option.some.injEq, Prod.exists, reduceCtorEq] at hc
     all_goals (repeat (first | (subst hc; cases hcls; done) | (obtain ⟨_, hc⟩ := hc)))
     done)
theorem copy_op {o : Oper} {sop : SOp} (hc : compOp P o = some sop) (hcls : sop.cls = .copy) : ∃ c f x y sx sy, o.op = .call c ∧ c.callee = .value (.func f) ∧ hasBody P f = true ∧ c.args.toList = [x, y] ∧ compO x = some sx ∧ compO y = some sy ∧ sop = .mcopy f sx sy := by
 unfold compOp at hc
 split at hc <;> rename_i ho <;> first
  | (cases hc; done)
  | (exfalso; have := compBin_cls hc; rw [hcls] at this; cases this; done)
  | (exfalso; have := compConv_cls hc; rw [hcls] at this; rcases this with h' | h' <;> cases h')
  | (unfold compCall at hc
     split at hc <;> first
      | (cases hc; done)
      | (rename_i f hcal
         split at hc
         ·rename_i hb
          rcases callC_some hc with ⟨l, hl, rfl⟩ | ⟨x, y, a, b, h1, h2, h3, rfl⟩
          ·cases hcls
          ·exact ⟨_, f, x, y, a, b, ho, hcal, hb, h1, h2, h3, rfl⟩
         ·cases hc)
      | (exfalso
         (repeat' split at hc) <;> try (rcases callC_some hc with ⟨_, _, rfl⟩ | ⟨_, _, _, _, _, _, _, rfl⟩ <;> (cases hcls; done))
         all_goals simp only [Option.bind_eq_some_iff, Option.map_eq_some_iff, Option.ite_none_right_eq_some, Option.some.injEq, reduceCtorEq] at hc
         all_goals (repeat (first | (subst hc; cases hcls; done) | (obtain ⟨_, hc⟩ := hc)))
         done))
  | (exfalso
     (repeat' split at hc) <;> simp only [Option.bind_eq_some_iff, Option.map_eq_some_iff, Option.ite_none_left_eq_some, Option.ite_none_right_eq_some, Option.some.injEq, Prod.exists, reduceCtorEq] at hc
     all_goals (repeat (first | (subst hc; cases hcls; done) | (obtain ⟨_, hc⟩ := hc)))
     done)
theorem strK_val {M : Nat → Prop} {c : CV} {v : Value} (h : strK c = true) (hr : RelC w M c v) : ∃ s : List UInt8, v = .string ⟨⟨s⟩⟩ ∧ s.length ≤ 9223372036854775807 := by
 cases c <;> simp [strK] at h
 unfold RelC at hr
 exact ⟨_, hr, h⟩
theorem strK_conf {c : CV} (h : strK c = true) : conf .str c = true := by
 cases c <;> simp [strK] at h
 rfl
theorem run_callFunc {f : FuncId} (hb : hasBody P f = true) (args : Array Value) : (callFunc f args).run P w = .ok (.enter f args) w := by
 unfold hasBody at hb
 cases hf : P.funcs[f]? with
 | none => rw [hf] at hb; cases hb
 | some fn =>
  rw [hf] at hb
  simp only [Bool.and_eq_true, Bool.not_eq_true', Option.isSome_iff_exists] at hb
  obtain ⟨⟨b, hb⟩, hn⟩ := hb
  have hn' : ¬ fn.name = "runtime.NumGoroutine" := by simpa using hn
  simp [callFunc, hf, hn', hb]
theorem callOp_some {rd : Nat → Ob} {ρ : SO → SV} {d : Option Nat} {f : FuncId} {args : List SO} {caps : List CV} {st' : St} (h : callOp E rd ρ st d f args caps = some st') :
  ∃ l r, allM (fun x => close rd (ρ x)) args = some l ∧ E.fn f (l ++ caps) = some r ∧ ((args.all fun x => isC (ρ x)) = true ∨ r.memless = true) ∧ setRes st d r = some st' := by
 simp only [callOp, Option.bind_eq_some_iff, Option.ite_none_right_eq_some, Bool.or_eq_true] at h
 obtain ⟨l, hl, r, hr, hc, hs⟩ := h
 exact ⟨l, r, hl, hr, hc, hs⟩
theorem evalOp_sound (hE : EOk P E) (h : SR P E.G w0 M0 n st a w z) {rd : Nat → Ob} (hrd : ∀ id, rd id = .none ∨ rd id = st.ob id) {o : Oper} {sop : SOp} (hc : compOp P o = some sop) (hd : ∀ j, o.dst = some j → j < n) (hm : mute sop = true → o.dst = none) {st' : St}
  (hv : evalOp E rd st o.dst sop = some st') {K : Act → World → Prop} {Q : Exit → Act → World → Prop} (hK : ∀ a' w' z', SR P E.G w0 M0 n st' a' w' z' → K a' w') : o.wp P a w K Q := by
 unfold Oper.wp
 unfold evalOp at hv
 cases hcls : sop.cls with
 | val =>
  simp only [hcls, Option.map_eq_some_iff] at hv
  obtain ⟨sv, hv, rfl⟩ := hv
  obtain ⟨v, h1, h2⟩ := val_sound h.ctx hrd hc hcls hv
  rw [h1]
  exact hK _ _ _ (h.put hd h2)
 | grow =>
  simp only [hcls, Option.map_eq_some_iff] at hv
  obtain ⟨sv, hv, rfl⟩ := hv
  obtain ⟨v, w', h1, h2, h3⟩ := grow_sound h hc hcls hv
  rw [h1]
  exact hK _ _ _ ((h.grow h2).put hd h3)
 | new =>
  simp only [hcls, Option.bind_eq_some_iff, Prod.exists] at hv
  obtain ⟨sv, ob, hv, ha⟩ := hv
  unfold addNew at ha
  cases hod : o.dst with
  | none => rw [hod] at ha; cases ha
  | some d =>
   rw [hod] at ha hv
   simp only [Option.getD_some] at ha hv
   split at ha <;> try (cases ha; done)
   rename_i hn
   simp only [Option.some.injEq] at ha
   subst ha
   obtain ⟨v, w', z', h1, h2⟩ := new_sound h hc hcls hv (hd d hod) hn
   rw [h1]
   refine hK _ _ z' ?_
   rw [hod]
   exact h2
 | eff =>
  simp only [hcls] at hv
  rcases eff_sound h hc hcls hd hm hv with ⟨v, w', z', h1, h2⟩ | ⟨w', z', h1, h2⟩
  ·rw [h1]; exact hK _ _ _ h2
  ·rw [h1]; exact hK _ _ _ h2
 | copy =>
  simp only [hcls] at hv
  obtain ⟨c, f, x, y, sx, sy, ho, hcal, hb, hargs, hx, hy, rfl⟩ := copy_op hc hcls
  replace hv : copyOp E (so E.G st.fr) st o.dst f sx sy = some st' := hv
  unfold copyOp at hv
  split at hv <;> try (cases hv; done)
  rename_i hcp
  have hr := h.ctx.opd hx
  have hr2 := h.ctx.opd hy
  generalize so E.G st.fr sx = q at hr hv
  generalize so E.G st.fr sy = q2 at hr2 hv
  cases q <;> try (cases hv; done)
  cases q2 <;> try (cases hv; done)
  rename_i id cv
  cases cv <;> try (cases hv; done)
  rename_i nl ks vs
  dsimp only at hv
  split at hv <;> try (cases hv; done)
  rename_i mt zc hob
  split at hv <;> try (cases hv; done)
  rename_i hg
  obtain ⟨hsk, hlen⟩ := hg
  cases hv
  obtain ⟨hlive, e1⟩ := hr
  obtain ⟨hmt, ks', vs', r, ens, clk, hmp, e2, hh, hB⟩ := map_form h hob
  have hks' : ks' = [] := List.eq_nil_of_length_eq_zero hmp.ks.length_eq
  subst hks'
  have hens : ens = [] := by
   have := hB.1
   unfold RelL at this
   simpa using this
  subst hens
  have hrm : mutb M0 z st.ob r := .inr ⟨id, hlive, by rw [e2]; rfl⟩
  have hskA : ∀ k ∈ ks, strK k = true := List.all_eq_true.1 hsk
  have src : ∃ (ps : Option Nat) (es es' : List MapEntry), a.eval y = .map ps ∧ ((ps = none ∧ es = []) ∨ ∃ bs clk', ps = some bs ∧ bs ≠ r ∧ w.heap[bs]? = some (.map ⟨es⟩ clk') ∧ Ens es clk') ∧ es'.Perm es ∧
    RelL w (mutb M0 z st.ob) ks (es'.map (·.key)) ∧ RelL w (mutb M0 z st.ob) vs (es'.map (·.val)) := by
   unfold RelS RelC at hr2
   obtain ⟨rr, g1, _, _, g4, g5⟩ := hr2
   cases rr with
   | none =>
    obtain ⟨rfl, rfl⟩ := g4 rfl
    exact ⟨none, [], [], g1, .inl ⟨rfl, rfl⟩, .refl _, RelL.nil, RelL.nil⟩
   | some bs =>
    obtain ⟨g6, es, es', clk', g7, g8, g9, g10, g11⟩ := g5 bs rfl
    exact ⟨some bs, es, es', g1, .inr ⟨bs, clk', rfl, fun e => g6 (e ▸ hrm), g7, g8⟩, g9, g10, g11⟩
  obtain ⟨ps, es, es', g1, g2, g3, g4, g5⟩ := src
  have hkey : ∀ en : MapEntry, en ∈ es → ∃ s : List UInt8, en.key = .string ⟨⟨s⟩⟩ ∧ s.length ≤ 9223372036854775807 := by
   intro en hen
   obtain ⟨i, hi⟩ := List.mem_iff_getElem?.1 (g3.mem_iff.2 hen)
   obtain ⟨k, k1, k2⟩ := g4.getR (i := i) (v := en.key) (by rw [List.getElem?_map, hi]; rfl)
   exact strK_val (hskA k (List.mem_of_getElem? k1)) k2
  have hlen' : es.length ≤ 9223372036854775807 := by
   have := g4.length
   rw [List.length_map, g3.length_eq] at this
   omega
  have hrun : (execOp a.eval o).run P w = (callFunc f ⟨[.map (some r), .map ps]⟩).run P w := by
   have e : (⟨c.args.toList.map a.eval⟩ : Array Value) = c.args.map a.eval := Array.toList_inj.1 (by simp)
   have e' : (⟨[.map (some r), .map ps]⟩ : Array Value) = c.args.map a.eval := by
    rw [← e, hargs]
    simp only [List.map_cons, List.map_nil, g1, e1, e2]
   rw [e']
   simp [execOp, ho, resolve, hcal, Act.eval, Deferred.ofValue, invoke]
  rw [hrun, run_callFunc hb]
  refine ((hE.2 f hcp).2 w r clk ps es hh g2 hkey hlen').mono fun e w' ⟨he, hgr, ens2, clk2, k1, k2, k3⟩ => ?_
  subst he
  have k4 : ((ens2.map fun e => ({ key := e.key, val := e.val, born := 0 } : MapEntry))).Perm (es'.map fun e => ({ key := e.key, val := e.val, born := 0 } : MapEntry)) := by
   have q1 := k3.map (fun p : Value × Value => ({ key := p.1, val := p.2, born := 0 } : MapEntry))
   simp only [List.map_map] at q1
   exact q1.trans (g3.symm.map _)
  refine hK _ _ _ (SR.put (SR.turn h hlive (o' := .map mt .str zc ks vs) (by simp) (by rw [e2]; exact hgr) (β' := z.β id) (fun _ _ hh => hh) fun hkp hz => ?_) hd ?_)
  ·have r1 := RelL.keep hkp _ _ g4
   have r2 := RelL.keep hkp _ _ g5
   obtain ⟨ks2, vs2, m1, m2, m3⟩ := rel_heap (ens' := es'.map fun e => ({ key := e.key, val := e.val, born := 0 } : MapEntry)) k4.symm (by simpa [List.map_map, Function.comp_def] using r1) (by simpa [List.map_map, Function.comp_def] using r2)
   simp only [List.map_map, Function.comp_def] at m2 m3
   have hcf : ∀ k ∈ ks2, conf .str k = true := fun k hk => strK_conf (hskA k (m1.ks.mem_iff.1 hk))
   refine ⟨hmt, ks2, vs2, r, ens2, clk2, m1, e2, k1, m2, m3, hcf, nodup_cv hcf m2 k2.1, k2.2.1, k2.2.2, fun k b hb => ?_⟩
   simp only [upd_same] at hb
   obtain ⟨i, en, q1, _⟩ := hB.2.2.2.2.2.2 k b hb
   simp at q1
  ·show RelC _ _ (.tup []) _
   unfold RelC
   exact ⟨[], rfl, RelL.nil⟩
 | call =>
  obtain ⟨c, ho, hcase⟩ := call_op hc hcls
  have fin : ∀ {f : FuncId} {vs : List Value} {l : List CV} {r : Res} {b : Bool}, hasBody P f = true → (execOp a.eval o).run P w = (callFunc f ⟨vs⟩).run P w → E.fn f l = some r → RelL w M0 l vs → (b = false → RelL w (mutb M0 z st.ob) l vs) → (b = true → r.memless = true) → setRes st o.dst r = some st' →
    o.upon P a K Q ((execOp a.eval o).run P w) := by
   intro f vs l r b hb hrun hf h1 h2 h3 h4
   rw [hrun, run_callFunc hb]
   refine (call_sound hE h hd hf h1 h2 h3 h4).mono fun e w' ⟨v, he, z', hS⟩ => ?_
   subst he
   exact hK _ _ _ hS
  rcases hcase with ⟨f, args, hcal, hb, hargs, rfl⟩ | ⟨t, args, hcal, hargs, rfl⟩
  ·simp only [hcls] at hv
   obtain ⟨l, r, hl, hf, hor, hs⟩ := callOp_some hv
   obtain ⟨g1, g2⟩ := closes_rel h hrd hargs hl
   rw [List.append_nil] at hf
   have hrun : (execOp a.eval o).run P w = (callFunc f ⟨c.args.toList.map a.eval⟩).run P w := by
    have e : (⟨c.args.toList.map a.eval⟩ : Array Value) = c.args.map a.eval := Array.toList_inj.1 (by simp)
    rw [e]
    simp [execOp, ho, resolve, hcal, Act.eval, Deferred.ofValue, invoke]
   cases hall : args.all (fun x => isC (so E.G st.fr x)) with
   | true => exact fin (b := false) hb hrun hf g1 (fun _ => g2 hall) (fun hh => by cases hh) hs
   | false =>
    rw [hall] at hor
    exact fin (b := true) hb hrun hf g1 (fun hh => by cases hh) (fun _ => by simpa using hor) hs
  ·simp only [hcls] at hv
   have hr := h.fr t
   have hso : so E.G st.fr (.t t) = st.fr t := rfl
   rw [hso] at hv
   split at hv <;> try (cases hv; done)
   rename_i f caps hfr
   rw [hfr] at hr
   unfold RelS RelC at hr
   obtain ⟨cvs, e1, hcaps⟩ := hr
   obtain ⟨l, r, hl, hf, hor, hs⟩ := callOp_some hv
   obtain ⟨g1, g2⟩ := closes_rel h hrd hargs hl
   have hb := (hE.1 f _ r hf).1
   have hrun : (execOp a.eval o).run P w = (callFunc f ⟨c.args.toList.map a.eval ++ cvs⟩).run P w := by
    have e : (⟨c.args.toList.map a.eval ++ cvs⟩ : Array Value) = c.args.map a.eval ++ ⟨cvs⟩ := Array.toList_inj.1 (by simp)
    rw [e]
    simp [execOp, ho, resolve, hcal, Act.eval, e1, Deferred.ofValue, invoke]
   have hk : Keeps w (mutb M0 z st.ob) w M0 := ⟨Nat.le_refl _, fun _ _ _ => rfl, fun g _ hg => .inl hg⟩
   cases hall : args.all (fun x => isC (so E.G st.fr x)) with
   | true => exact fin (b := false) hb hrun hf (g1.append (RelL.keep hk _ _ hcaps)) (fun _ => (g2 hall).append hcaps) (fun hh => by cases hh) hs
   | false =>
    rw [hall] at hor
    exact fin (b := true) hb hrun hf (g1.append (RelL.keep hk _ _ hcaps)) (fun hh => by cases hh) (fun _ => by simpa using hor) hs
def compL (P : Program) (n : Nat) (ops : Array Oper) (o : Oper) : Option SL :=
 (compOp P o).bind fun sop =>
  if (o.dst.all fun d => decide (d < n)) && (!(mute sop) || o.dst.isNone) then
   match o.guard with
   | none => some ⟨o.dst, sop, none⟩
   | some (j, want) => ((ops[j]?).bind (·.dst)).map fun t => ⟨o.dst, sop, some (t, want)⟩
  else none
theorem compL_some {ops : Array Oper} {o : Oper} {l : SL} (h : compL P n ops o = some l) : compOp P o = some l.op ∧ l.dst = o.dst ∧ (∀ j, o.dst = some j → j < n) ∧ (mute l.op = true → o.dst = none) ∧
  ((o.guard = none ∧ l.guard = none) ∨ ∃ j t want, o.guard = some (j, want) ∧ (ops[j]?).bind (·.dst) = some t ∧ l.guard = some (t, want)) := by
 simp only [compL, Option.bind_eq_some_iff, Option.ite_none_right_eq_some, Bool.and_eq_true, Bool.or_eq_true, Bool.not_eq_true'] at h
 obtain ⟨sop, hs, ⟨h1, h2⟩, h3⟩ := h
 have hd : ∀ j, o.dst = some j → j < n := fun j hj => by rw [hj] at h1; simpa using h1
 have hm : mute sop = true → o.dst = none := fun hm => by
  rcases h2 with h2 | h2
  ·rw [hm] at h2; cases h2
  ·simpa using h2
 split at h3
 ·rename_i hg
  simp only [Option.some.injEq] at h3
  subst h3
  exact ⟨hs, rfl, hd, hm, .inl ⟨hg, rfl⟩⟩
 ·rename_i j want hg
  simp only [Option.map_eq_some_iff] at h3
  obtain ⟨t, ht, rfl⟩ := h3
  exact ⟨hs, rfl, hd, hm, .inr ⟨j, t, want, hg, ht, rfl⟩⟩
theorem skipped_rel {G : Nat → List CV} (h : SR P G w0 M0 n st a w z) {d : Option Nat} (hd : ∀ j, d = some j → j < n) : SR P G w0 M0 n (st.set d skipped) (a.put d undef) w z := by
 refine h.put hd ?_
 show RelC _ _ (.tup []) undef
 unfold RelC
 exact ⟨[], rfl, RelL.nil⟩
theorem evalL_sound (hE : EOk P E) (h : SR P E.G w0 M0 n st a w z) {D : Option (List Nat)} {ops : Array Oper} {i : Nat} {o : Oper} (ho : ops[i]? = some o) {l : SL} (hc : compL P n ops o = some l) {st' : St} (hv : evalL E D l st = some st')
  {rest : List Nat} {Q : Exit → Act → World → Prop} (hK : ∀ a' w' z', SR P E.G w0 M0 n st' a' w' z' → wpOps P ops Q rest a' w') : wpOps P ops Q (i :: rest) a w := by
 obtain ⟨h1, h2, h3, h4, h5⟩ := compL_some hc
 have hrd : ∀ id, mask (D.map (hid l.op)) st.ob id = .none ∨ mask (D.map (hid l.op)) st.ob id = st.ob id := by
  intro id
  generalize D.map (hid l.op) = D
  cases D with
  | none => exact .inr rfl
  | some D => unfold mask; simp only; split <;> first | exact .inl rfl | exact .inr rfl
 simp only [wpOps, ho]
 unfold evalL at hv
 rcases h5 with ⟨hg, hlg⟩ | ⟨j, t, want, hg, ht, hlg⟩
 ·rw [hlg] at hv
  simp only at hv
  rw [if_pos (by simp [Region.wanted, hg])]
  rw [h2] at hv
  exact .inl (evalOp_sound hE h hrd h1 h3 h4 hv hK)
 ·rw [hlg] at hv
  simp only at hv
  have hr := h.fr t
  have hy : ∀ b, st.fr t = .c (.bool b) → yielded ops a.tmps j = some b := by
   intro b hb
   rw [hb] at hr
   have e := of_bool (w := w) (M := mutb M0 z st.ob) hr
   have hlt : t < a.tmps.size := by
    rcases Nat.lt_or_ge t a.tmps.size with hh | hh
    ·exact hh
    ·simp [Array.getD, Nat.not_lt.2 hh, undef] at e
   have e' : a.tmps[t]? = some (.bool b) := by
    rw [Array.getElem?_eq_getElem hlt]
    simpa [Array.getD, hlt] using e
   simp only [yielded, ht, Option.bind_some, e']
  have hskip : st.fr t = .c (.tup []) → yielded ops a.tmps j = none := by
   intro hb
   rw [hb] at hr
   unfold RelS RelC at hr
   obtain ⟨vs, e, _⟩ := hr
   simp only [yielded, ht, Option.bind_some]
   cases ht' : a.tmps[t]? with
   | none => rfl
   | some v =>
    have : a.tmps.getD t undef = v := by rw [Array.getD_eq_getD_getElem?, ht']; rfl
    rw [this] at e
    rw [e]
  split at hv
  ·rename_i b hb
   have hyb := hy b hb
   split at hv
   ·rename_i hbw
    rw [if_pos (by simp [Region.wanted, hg, hyb, hbw])]
    rw [h2] at hv
    exact .inl (evalOp_sound hE h hrd h1 h3 h4 hv hK)
   ·rename_i hbw
    rw [if_neg (by simp [Region.wanted, hg, hyb, hbw])]
    simp only [Option.some.injEq] at hv
    subst hv
    rw [h2] at hK
    exact hK _ _ _ (skipped_rel h h3)
  ·rename_i hb
   rw [if_neg (by simp [Region.wanted, hg, hskip hb])]
   simp only [Option.some.injEq] at hv
   subst hv
   rw [h2] at hK
   exact hK _ _ _ (skipped_rel h h3)
  ·cases hv
def evalSeq (E : Env) (D : Option (List Nat)) (ls : List SL) : List Nat → St → Option St
 | [], st => some st
 | i :: is, st => match ls[i]? with
  | some l => (evalL E D l st).bind (evalSeq E D ls is)
  | none => none
theorem evalSeq_sound (hE : EOk P E) {D : Option (List Nat)} {ops : Array Oper} {ls : List SL} (hc : allM (compL P n ops) ops.toList = some ls) {Q : Exit → Act → World → Prop} : ∀ {is : List Nat} {st st' : St} {a : Act} {w : World} {z : Cz}, SR P E.G w0 M0 n st a w z →
  evalSeq E D ls is st = some st' → (∀ a' w' z', SR P E.G w0 M0 n st' a' w' z' → Q .normal a' w') → wpOps P ops Q is a w
 | [], st, st', a, w, z, h, hv, hK => by
  simp only [evalSeq, Option.some.injEq] at hv
  subst hv
  exact hK _ _ _ h
 | i :: is, st, st', a, w, z, h, hv, hK => by
  simp only [evalSeq] at hv
  split at hv <;> try (cases hv; done)
  rename_i l hl
  simp only [Option.bind_eq_some_iff] at hv
  obtain ⟨st1, h1, h2⟩ := hv
  have hlen := allM_length hc
  have hi : i < ops.toList.length := by rw [← hlen]; exact (List.getElem?_eq_some_iff.1 hl).1
  have ho : ops.toList[i]? = some (ops.toList[i]) := List.getElem?_eq_getElem hi
  obtain ⟨l', g1, g2⟩ := allM_get hc ho
  rw [hl] at g1
  simp only [Option.some.injEq] at g1
  subst g1
  have ho' : ops[i]? = some (ops.toList[i]) := by rw [← Array.getElem?_toList]; exact ho
  exact evalL_sound hE h ho' g2 h1 fun a' w' z' hS => evalSeq_sound hE hc hS h2 hK
end
end WB
namespace WB
open Go Go.RowKit
def SO.slot : SO → List Nat
 | .t i => [i]
 | _ => []
def optSlots : Option SO → List Nat
 | some x => x.slot
 | none => []
def SOp.slots : SOp → List Nat
 | .mov x | .un _ x | .cvi _ x | .cvrune x | .cvbs x | .cvid x | .isnil _ _ x | .field _ _ x | .ext x _ | .faddr _ x | .load _ x | .len _ x | .box x | .bytes _ x | .siter x | .snext x | .asl _ x => x.slot
 | .pick c a b => c.slot ++ a.slot ++ b.slot
 | .bin _ x y | .eqs _ _ x y | .beq _ x y | .iaddr _ x y | .aaddr _ _ x y | .sidx x y | .aidx _ _ _ x y | .lookup _ _ _ _ x y | .make _ _ _ _ x y | .store _ x y | .append _ _ _ x y | .mapent _ x y => x.slot ++ y.slot
 | .build _ ps => ps.flatMap fun p => p.2.2.slot
 | .minmax _ xs | .fnv _ xs | .mksl _ _ xs | .call _ xs => xs.flatMap SO.slot
 | .callv f xs => f.slot ++ xs.flatMap SO.slot
 | .mcopy _ x y => x.slot ++ y.slot
 | .sslice x l h | .slice _ x l h => x.slot ++ optSlots l ++ optSlots h
 | .alloc _ | .mkmap .. => []
 | .entst x y z | .mapupd _ x y z => x.slot ++ y.slot ++ z.slot
def SL.looks (l : SL) : List Nat := l.op.slots ++ (match l.guard with | some (g, _) => [g] | none => [])
def SOp.hard : SOp → Bool
 | .store .. | .append .. | .mapent .. | .entst .. | .mapupd .. | .snext .. | .mcopy .. => true
 | _ => false
def SOp.calm : SOp → Bool
 | .bin .. | .eqs .. | .beq .. | .un .. | .cvi .. | .mov .. | .ext .. | .minmax .. | .lookup _ _ _ false _ _ => true
 | _ => false
def SOp.entry : SOp → Bool
 | .mapent .. => true
 | _ => false
def SOp.makes : SOp → Bool
 | .alloc .. | .box .. | .mksl .. | .mkmap .. | .make .. | .siter .. | .call .. | .callv .. => true
 | _ => false
def SOp.still : SOp → Bool
 | .bin .. | .eqs .. | .beq .. | .un .. | .cvi .. | .mov .. | .ext .. | .minmax .. | .isnil .. | .pick .. => true
 | _ => false
def SOp.stores : SOp → Bool
 | .store .. => true
 | _ => false
def SOp.grows : SOp → Bool
 | .append .. => true
 | _ => false
def SOp.tame : SOp → Bool
 | .load .. | .alloc .. | .mksl .. => true
 | _ => false
def free (D : List Nat) (x y : SL) : Bool :=
 (x.dst.all fun d => !y.looks.contains d && y.dst != some d) && (y.dst.all fun d => !x.looks.contains d) &&
 ((!x.op.hard && ((!y.op.hard && (!x.op.makes || x.dst.all fun d => (hid y.op D).contains d) && (!y.op.makes || y.dst.all fun d => (hid x.op D).contains d)) || (y.op.entry && x.op.calm) || (y.op.stores && x.op.still))) || (x.op.grows && x.guard.isNone && y.op.tame && y.guard.isNone))
def ancB (ops : Array Oper) : Nat → Nat → Nat → Bool
 | 0, _, _ => false
 | k + 1, i, j => match ops[j]? with
  | some o => o.after.any fun e => Region.binds .any e && (e.on == i || (e.on < j && ancB ops k i e.on))
  | none => false
def maskB (ops : Array Oper) (ms : List Nat) (j : Nat) : Nat :=
 match ops[j]? with
 | some o => o.after.foldl (fun m e => if Region.binds .any e && decide (e.on < j) then m ||| (1 <<< e.on) ||| ms.getD e.on 0 else m) 0
 | none => 0
def masksB (ops : Array Oper) : Nat → List Nat
 | 0 => []
 | n + 1 => masksB ops n ++ [maskB ops (masksB ops n) n]
theorem masksB_length (ops : Array Oper) : ∀ n, (masksB ops n).length = n
 | 0 => rfl
 | n + 1 => by simp [masksB, masksB_length ops n]
theorem masksB_at (ops : Array Oper) : ∀ {n j : Nat}, j < n → (masksB ops n).getD j 0 = maskB ops (masksB ops j) j
 | 0, _, h => by omega
 | n + 1, j, h => by
  show (masksB ops n ++ [maskB ops (masksB ops n) n]).getD j 0 = _
  by_cases hj : j < n
  ·have := masksB_at ops hj
   rw [List.getD_eq_getElem?_getD, List.getElem?_append_left (by rw [masksB_length]; exact hj), ← List.getD_eq_getElem?_getD]
   exact this
  ·have e : j = n := by omega
   subst e
   rw [List.getD_eq_getElem?_getD, List.getElem?_append_right (by rw [masksB_length]; exact Nat.le_refl _)]
   simp [masksB_length]
theorem maskB_ok (ops : Array Oper) : ∀ {j k i : Nat}, j < k → (maskB ops (masksB ops j) j).testBit i = true → ancB ops k i j = true := by
 intro j
 induction j using Nat.strongRecOn with
 | _ j ih =>
  intro k i hk h
  obtain ⟨k, rfl⟩ : ∃ k', k = k' + 1 := ⟨k - 1, by omega⟩
  unfold maskB at h
  unfold ancB
  split at h
  ·rename_i o ho
   try simp only [ho]
   rw [← Array.foldl_toList] at h
   have key : ∀ (l : List Edge) (m : Nat), (l.foldl (fun m e => if Region.binds .any e && decide (e.on < j) then m ||| (1 <<< e.on) ||| (masksB ops j).getD e.on 0 else m) m).testBit i = true →
     m.testBit i = true ∨ ∃ e ∈ l, Region.binds .any e = true ∧ e.on < j ∧ (e.on = i ∨ ((masksB ops j).getD e.on 0).testBit i = true) := by
    intro l
    induction l with
    | nil => intro m h; exact .inl h
    | cons e l ihl =>
     intro m h
     simp only [List.foldl_cons] at h
     rcases ihl _ h with h | ⟨e', h1, h2⟩
     ·split at h
      ·rename_i hb
       simp only [Bool.and_eq_true, decide_eq_true_eq] at hb
       rw [Nat.testBit_or, Nat.testBit_or, Bool.or_eq_true, Bool.or_eq_true] at h
       rcases h with (h | h) | h
       ·exact .inl h
       ·refine .inr ⟨e, by simp, hb.1, hb.2, .inl ?_⟩
        rw [Nat.shiftLeft_eq, Nat.one_mul, Nat.testBit_two_pow] at h
        simpa using h
       ·exact .inr ⟨e, by simp, hb.1, hb.2, .inr h⟩
      ·exact .inl h
     ·exact .inr ⟨e', by simp [h1], h2⟩
   rcases key _ _ h with h | ⟨e, h1, h2, h3, h4⟩
   ·simp at h
   ·rw [Array.any_eq_true']
    refine ⟨e, by simpa using h1, ?_⟩
    simp only [Bool.and_eq_true, Bool.or_eq_true, beq_iff_eq, decide_eq_true_eq]
    refine ⟨h2, ?_⟩
    rcases h4 with h4 | h4
    ·exact .inl h4
    ·right
     rw [masksB_at ops h3] at h4
     exact ⟨h3, ih e.on h3 (by omega) h4⟩
  ·simp at h
def softCall (E : Env) (rd : Nat → Ob) (ρ : SO → SV) (d : Option Nat) (f : FuncId) (args : List SO) (caps : List CV) : Option (SV × Option Ob) :=
 (allM (fun x => close rd (ρ x)) args).bind fun l => (E.fn f (l ++ caps)).bind fun r =>
  if (args.all fun x => isC (ρ x)) || r.memless then some (match r with | .val v => (.c v, none) | .new o => (refOf (d.getD 0) o, some o)) else none
def softOp (E : Env) (rd : Nat → Ob) (ρ : SO → SV) (d : Option Nat) (op : SOp) : Option (SV × Option Ob) :=
 match op.cls with
 | .val | .grow => (valOp rd ρ op).map fun v => (v, none)
 | .new => (newOp ρ (d.getD 0) op).map fun (v, o) => (v, some o)
 | .eff | .copy => none
 | .call => match op with
  | .call f args => softCall E rd ρ d f args []
  | .callv f args => match ρ f with
   | .c (.fn f caps) => softCall E rd ρ d f args caps
   | _ => none
  | _ => none
def softL (E : Env) (l : SL) (fr : Nat → SV) (rd : Nat → Ob) : Option (SV × Option Ob) :=
 match l.guard with
 | none => softOp E rd (so E.G fr) l.dst l.op
 | some (g, want) => match fr g with
  | .c (.bool b) => if b = want then softOp E rd (so E.G fr) l.dst l.op else some (skipped, none)
  | .c (.tup []) => some (skipped, none)
  | _ => none
def put (st : St) (d : Option Nat) : SV × Option Ob → Option St
 | (v, none) => some (st.set d v)
 | (v, some o) => addNew st d v o
section
variable {E : Env}
theorem softCall_put {rd : Nat → Ob} {ρ : SO → SV} {st : St} {d : Option Nat} {f : FuncId} {args : List SO} {caps : List CV} : callOp E rd ρ st d f args caps = (softCall E rd ρ d f args caps).bind (put st d) := by
 unfold callOp softCall
 cases allM (fun x => close rd (ρ x)) args with
 | none => rfl
 | some l =>
  simp only [Option.bind_some]
  cases E.fn f (l ++ caps) with
  | none => rfl
  | some r =>
   simp only [Option.bind_some]
   split
   ·cases r <;> rfl
   ·rfl
theorem softOp_put {rd : Nat → Ob} {st : St} {d : Option Nat} {op : SOp} (hs : op.hard = false) : evalOp E rd st d op = (softOp E rd (so E.G st.fr) d op).bind (put st d) := by
 cases op <;> simp only [SOp.hard, Bool.true_eq_false] at hs <;> simp only [evalOp, softOp, SOp.cls] <;> first
  | rfl
  | (cases valOp rd (so E.G st.fr) _ <;> rfl)
  | (generalize newOp (so E.G st.fr) (d.getD 0) _ = q; cases q <;> rfl)
  | exact softCall_put
  | skip
 generalize so E.G st.fr _ = q
 cases q <;> first
  | rfl
  | (rename_i v; cases v <;> first | rfl | exact softCall_put)
theorem softL_put {D : List Nat} {st : St} {l : SL} (hs : l.op.hard = false) : evalL E (some D) l st = (softL E l st.fr (mask (some (hid l.op D)) st.ob)).bind (put st l.dst) := by
 unfold evalL softL
 simp only [Option.map_some]
 cases l.guard with
 | none => exact softOp_put hs
 | some p =>
  obtain ⟨g, want⟩ := p
  simp only
  generalize st.fr g = q
  cases q with
  | c v =>
   cases v with
   | bool b =>
    simp only
    split
    ·exact softOp_put hs
    ·rfl
   | tup l => cases l <;> rfl
   | _ => rfl
  | _ => rfl
theorem so_congr {G : Nat → List CV} {fr fr' : Nat → SV} (x : SO) (h : ∀ i ∈ x.slot, fr i = fr' i) : so G fr x = so G fr' x := by
 cases x with
 | t i => exact h i (by simp [SO.slot])
 | _ => rfl
theorem allM_congr {α β : Type} {f g : α → Option β} : ∀ (l : List α), (∀ x ∈ l, f x = g x) → allM f l = allM g l
 | [], _ => rfl
 | x :: l, h => by
  simp only [allM, h x (by simp), allM_congr l (fun y hy => h y (by simp [hy]))]
theorem all_congr' {α : Type} {f g : α → Bool} : ∀ (l : List α), (∀ x ∈ l, f x = g x) → l.all f = l.all g
 | [], _ => rfl
 | x :: l, h => by
  simp only [List.all_cons, h x (by simp), all_congr' l (fun y hy => h y (by simp [hy]))]
theorem opt_congr {ρ ρ' : SO → SV} (o : Option SO) (h : ∀ x, (∀ i ∈ x.slot, i ∈ optSlots o) → ρ x = ρ' x) : o.map ρ = o.map ρ' := by
 cases o with
 | none => rfl
 | some x => simp [h x (fun i hi => by simpa [optSlots] using hi)]
theorem softOp_congr {rd : Nat → Ob} {fr fr' : Nat → SV} {d : Option Nat} (op : SOp) (h : ∀ i ∈ op.slots, fr i = fr' i) : softOp E rd (so E.G fr) d op = softOp E rd (so E.G fr') d op := by
 have key : ∀ x : SO, (∀ i ∈ x.slot, i ∈ op.slots) → so E.G fr x = so E.G fr' x := fun x hx => so_congr x fun i hi => h i (hx i hi)
 generalize so E.G fr = ρ at key ⊢
 generalize so E.G fr' = ρ' at key ⊢
 cases op with
 | mov x => simp only [softOp, SOp.cls, valOp, key x (fun i hi => by simp [SOp.slots, hi])]
 | pick c x y => simp only [softOp, SOp.cls, valOp, key c (fun i hi => by simp [SOp.slots, hi]), key x (fun i hi => by simp [SOp.slots, hi]), key y (fun i hi => by simp [SOp.slots, hi])]
 | bin op x y => simp only [softOp, SOp.cls, valOp, key x (fun i hi => by simp [SOp.slots, hi]), key y (fun i hi => by simp [SOp.slots, hi])]
 | eqs n ts x y => simp only [softOp, SOp.cls, valOp, key x (fun i hi => by simp [SOp.slots, hi]), key y (fun i hi => by simp [SOp.slots, hi])]
 | beq n x y => simp only [softOp, SOp.cls, valOp, key x (fun i hi => by simp [SOp.slots, hi]), key y (fun i hi => by simp [SOp.slots, hi])]
 | isnil k n x => simp only [softOp, SOp.cls, valOp, key x (fun i hi => by simp [SOp.slots, hi])]
 | un op x => simp only [softOp, SOp.cls, valOp, key x (fun i hi => by simp [SOp.slots, hi])]
 | cvi k x => simp only [softOp, SOp.cls, valOp, key x (fun i hi => by simp [SOp.slots, hi])]
 | cvrune x => simp only [softOp, SOp.cls, valOp, key x (fun i hi => by simp [SOp.slots, hi])]
 | cvbs x => simp only [softOp, SOp.cls, valOp, key x (fun i hi => by simp [SOp.slots, hi])]
 | cvid x => simp only [softOp, SOp.cls, valOp, key x (fun i hi => by simp [SOp.slots, hi])]
 | field o s x => simp only [softOp, SOp.cls, valOp, key x (fun i hi => by simp [SOp.slots, hi])]
 | ext x j => simp only [softOp, SOp.cls, valOp, key x (fun i hi => by simp [SOp.slots, hi])]
 | faddr o x => simp only [softOp, SOp.cls, valOp, key x (fun i hi => by simp [SOp.slots, hi])]
 | iaddr s x y => simp only [softOp, SOp.cls, valOp, key x (fun i hi => by simp [SOp.slots, hi]), key y (fun i hi => by simp [SOp.slots, hi])]
 | aaddr l s x y => simp only [softOp, SOp.cls, valOp, key x (fun i hi => by simp [SOp.slots, hi]), key y (fun i hi => by simp [SOp.slots, hi])]
 | sidx x y => simp only [softOp, SOp.cls, valOp, key x (fun i hi => by simp [SOp.slots, hi]), key y (fun i hi => by simp [SOp.slots, hi])]
 | aidx l s z x y => simp only [softOp, SOp.cls, valOp, key x (fun i hi => by simp [SOp.slots, hi]), key y (fun i hi => by simp [SOp.slots, hi])]
 | load s x => simp only [softOp, SOp.cls, valOp, key x (fun i hi => by simp [SOp.slots, hi])]
 | len k x => simp only [softOp, SOp.cls, valOp, key x (fun i hi => by simp [SOp.slots, hi])]
 | lookup mt kt z ok x y => simp only [softOp, SOp.cls, valOp, key x (fun i hi => by simp [SOp.slots, hi]), key y (fun i hi => by simp [SOp.slots, hi])]
 | alloc z => rfl
 | box x => simp only [softOp, SOp.cls, newOp, key x (fun i hi => by simp [SOp.slots, hi])]
 | mkmap mt kt z => rfl
 | make e s b z x y => simp only [softOp, SOp.cls, newOp, key x (fun i hi => by simp [SOp.slots, hi]), key y (fun i hi => by simp [SOp.slots, hi])]
 | bytes e x => simp only [softOp, SOp.cls, valOp, key x (fun i hi => by simp [SOp.slots, hi])]
 | siter x => simp only [softOp, SOp.cls, newOp, key x (fun i hi => by simp [SOp.slots, hi])]
 | store n x y => rfl
 | append e s b x y => rfl
 | mapent mt x y => rfl
 | entst x y z => rfl
 | mapupd mt x y z => rfl
 | mcopy f x y => rfl
 | snext x => rfl
 | asl n x => simp only [softOp, SOp.cls, valOp, key x (fun i hi => by simp [SOp.slots, hi])]
 | sslice x lo hi =>
  have e1 := opt_congr lo (fun y hy => key y (fun i hi => by simp [SOp.slots, hy i hi]))
  have e2 := opt_congr hi (fun y hy => key y (fun i hi => by simp [SOp.slots, hy i hi]))
  simp only [softOp, SOp.cls, valOp, key x (fun i hi => by simp [SOp.slots, hi]), e1, e2]
 | slice s x lo hi =>
  have e1 := opt_congr lo (fun y hy => key y (fun i hi => by simp [SOp.slots, hy i hi]))
  have e2 := opt_congr hi (fun y hy => key y (fun i hi => by simp [SOp.slots, hy i hi]))
  simp only [softOp, SOp.cls, valOp, key x (fun i hi => by simp [SOp.slots, hi]), e1, e2]
 | build z ps =>
  simp only [softOp, SOp.cls, valOp]
  rw [allM_congr ps (fun p hp => by rw [key p.2.2 (fun i hi => by simp only [SOp.slots, List.mem_flatMap]; exact ⟨p, hp, hi⟩)])]
 | minmax m xs =>
  simp only [softOp, SOp.cls, valOp]
  rw [allM_congr xs (fun p hp => by rw [key p (fun i hi => by simp only [SOp.slots, List.mem_flatMap]; exact ⟨p, hp, hi⟩)])]
 | fnv f xs =>
  simp only [softOp, SOp.cls, valOp]
  rw [allM_congr xs (fun p hp => by rw [key p (fun i hi => by simp only [SOp.slots, List.mem_flatMap]; exact ⟨p, hp, hi⟩)])]
 | mksl e s xs =>
  simp only [softOp, SOp.cls, newOp]
  rw [allM_congr xs (fun p hp => by rw [key p (fun i hi => by simp only [SOp.slots, List.mem_flatMap]; exact ⟨p, hp, hi⟩)])]
 | call f xs =>
  simp only [softOp, SOp.cls, softCall]
  rw [allM_congr xs (fun p hp => by rw [key p (fun i hi => by simp only [SOp.slots, List.mem_flatMap]; exact ⟨p, hp, hi⟩)]),
   all_congr' xs (fun p hp => by rw [key p (fun i hi => by simp only [SOp.slots, List.mem_flatMap]; exact ⟨p, hp, hi⟩)])]
 | callv f xs =>
  simp only [softOp, SOp.cls, softCall]
  rw [allM_congr xs (fun p hp => by rw [key p (fun i hi => by simp only [SOp.slots, List.mem_append, List.mem_flatMap]; exact .inr ⟨p, hp, hi⟩)]),
   all_congr' xs (fun p hp => by rw [key p (fun i hi => by simp only [SOp.slots, List.mem_append, List.mem_flatMap]; exact .inr ⟨p, hp, hi⟩)]),
   key f (fun i hi => by simp [SOp.slots, hi])]
theorem softL_congr {rd : Nat → Ob} {fr fr' : Nat → SV} {l : SL} (h : ∀ i ∈ l.looks, fr i = fr' i) : softL E l fr rd = softL E l fr' rd := by
 have h1 : ∀ i ∈ l.op.slots, fr i = fr' i := fun i hi => h i (by simp [SL.looks, hi])
 unfold softL
 cases hg : l.guard with
 | none => exact softOp_congr _ h1
 | some p =>
  obtain ⟨g, want⟩ := p
  simp only
  rw [h g (by simp [SL.looks, hg]), softOp_congr _ h1]
theorem put_mask {D : List Nat} {st st' : St} {d : Option Nat} {p : SV × Option Ob} (h : put st d p = some st') (hD : p.2.isSome = true → ∀ j, d = some j → D.contains j = true) : mask (some D) st'.ob = mask (some D) st.ob := by
 obtain ⟨v, o⟩ := p
 cases o with
 | none =>
  simp only [put, Option.some.injEq] at h
  subst h
  cases d <;> rfl
 | some o =>
  simp only [put, addNew] at h
  cases d with
  | none => cases h
  | some d =>
   simp only at h
   split at h <;> try (cases h; done)
   cases h
   have := hD rfl d rfl
   funext i
   simp only [mask, upd_apply]
   split
   ·rfl
   ·rename_i hi
    split
    ·rename_i e; subst e; exact (hi this).elim
    ·rfl
theorem put_fr {st st' : St} {d : Option Nat} {p : SV × Option Ob} (h : put st d p = some st') {i : Nat} (hi : d ≠ some i) : st'.fr i = st.fr i := by
 obtain ⟨v, o⟩ := p
 cases o with
 | none =>
  simp only [put, Option.some.injEq] at h
  subst h
  cases d with
  | none => rfl
  | some d => exact upd_ne _ _ (fun e => hi (by rw [e]))
 | some o =>
  simp only [put, addNew] at h
  cases d with
  | none => cases h
  | some d =>
   simp only at h
   split at h <;> try (cases h; done)
   cases h
   exact upd_ne _ _ (fun e => hi (by rw [e]))
theorem upd_comm {α : Type} (f : Nat → α) {i j : Nat} (u v : α) (h : i ≠ j) : upd (upd f i u) j v = upd (upd f j v) i u := by
 funext k
 simp only [upd_apply]
 by_cases h1 : k = i <;> by_cases h2 : k = j <;> simp_all
theorem put_comm {st s1 s2 : St} {d1 d2 : Option Nat} {p1 p2 : SV × Option Ob} (h1 : put st d1 p1 = some s1) (h2 : put s1 d2 p2 = some s2) (hd : ∀ i j, d1 = some i → d2 = some j → i ≠ j) : ∃ s, put st d2 p2 = some s ∧ put s d1 p1 = some s2 := by
 obtain ⟨v1, o1⟩ := p1
 obtain ⟨v2, o2⟩ := p2
 cases d1 with
 | none =>
  cases o1 with
  | none =>
   simp only [put, Option.some.injEq] at h1
   cases h1
   exact ⟨s2, h2, rfl⟩
  | some o => cases h1
 | some i =>
  cases d2 with
  | none =>
   cases o2 with
   | none =>
    simp only [put, Option.some.injEq] at h2
    cases h2
    exact ⟨st, rfl, h1⟩
   | some o => cases h2
  | some j =>
   have hij := hd i j rfl rfl
   cases o1 with
   | none =>
    simp only [put, Option.some.injEq] at h1
    cases h1
    cases o2 with
    | none =>
     simp only [put, Option.some.injEq] at h2
     cases h2
     exact ⟨_, rfl, by simp [put, St.set, upd_comm _ _ _ hij]⟩
    | some o2 =>
     simp only [put, addNew, St.set] at h2
     split at h2 <;> try (cases h2; done)
     rename_i hn
     cases h2
     exact ⟨{ fr := upd st.fr j v2, ob := upd st.ob j o2 }, by simp [put, addNew, hn], by simp [put, St.set, upd_comm _ _ _ hij]⟩
   | some o1 =>
    simp only [put, addNew] at h1
    split at h1 <;> try (cases h1; done)
    rename_i hn
    cases h1
    cases o2 with
    | none =>
     simp only [put, Option.some.injEq] at h2
     cases h2
     exact ⟨_, rfl, by simp [put, addNew, St.set, hn, upd_comm _ _ _ hij]⟩
    | some o2 =>
     simp only [put, addNew, upd_ne _ _ (Ne.symm hij)] at h2
     split at h2 <;> try (cases h2; done)
     rename_i hn2
     cases h2
     exact ⟨{ fr := upd st.fr j v2, ob := upd st.ob j o2 }, by simp [put, addNew, hn2], by simp [put, addNew, upd_ne _ _ hij, hn, upd_comm _ _ _ hij]⟩
theorem softOp_makes {rd : Nat → Ob} {ρ : SO → SV} {d : Option Nat} {op : SOp} {p : SV × Option Ob} (h : softOp E rd ρ d op = some p) (hp : p.2.isSome = true) : op.makes = true := by
 cases op <;> simp only [softOp, SOp.cls, Option.map_eq_some_iff, reduceCtorEq] at h <;> first
  | rfl
  | (obtain ⟨v, _, rfl⟩ := h; cases hp)
theorem softL_makes {l : SL} {fr : Nat → SV} {rd : Nat → Ob} {p : SV × Option Ob} (h : softL E l fr rd = some p) (hp : p.2.isSome = true) : l.op.makes = true := by
 unfold softL at h
 split at h
 ·exact softOp_makes h hp
 ·split at h
  ·split at h
   ·exact softOp_makes h hp
   ·cases h; cases hp
  ·cases h; cases hp
  ·cases h
theorem swap_soft {D : List Nat} {a b : SL} {st s1 s2 : St} (ha : a.op.hard = false) (hb : b.op.hard = false) (hDa : a.op.makes = true → ∀ j, a.dst = some j → (hid b.op D).contains j = true) (hDb : b.op.makes = true → ∀ j, b.dst = some j → (hid a.op D).contains j = true)
  (hab : ∀ i, a.dst = some i → i ∉ b.looks ∧ b.dst ≠ some i) (hba : ∀ i, b.dst = some i → i ∉ a.looks) (h1 : evalL E (some D) a st = some s1) (h2 : evalL E (some D) b s1 = some s2) :
  ∃ s, evalL E (some D) b st = some s ∧ evalL E (some D) a s = some s2 := by
 rw [softL_put ha, Option.bind_eq_some_iff] at h1
 rw [softL_put hb, Option.bind_eq_some_iff] at h2
 obtain ⟨p1, e1, h1⟩ := h1
 obtain ⟨p2, e2, h2⟩ := h2
 have m1 := put_mask (D := hid b.op D) h1 (fun hs j hj => hDa (softL_makes e1 hs) j hj)
 rw [m1, softL_congr (fr' := st.fr) (fun i hi => put_fr h1 (fun e => (hab i e).1 hi))] at e2
 obtain ⟨s, g1, g2⟩ := put_comm h1 h2 (fun i j hi hj e => (hab i hi).2 (by rw [hj, e]))
 have m2 := put_mask (D := hid a.op D) g1 (fun hs j hj => hDb (softL_makes e2 hs) j hj)
 refine ⟨s, ?_, ?_⟩
 ·rw [softL_put hb, e2]; exact g1
 ·rw [softL_put ha, m2, softL_congr (fr' := st.fr) (fun i hi => put_fr g1 (fun e => hba i e hi)), e1]; exact g2
end
end WB
namespace WB
open Go Go.RowKit
def gd (l : SL) (fr : Nat → SV) : Option Bool :=
 match l.guard with
 | none => some true
 | some (g, want) => match fr g with
  | .c (.bool b) => some (decide (b = want))
  | .c (.tup []) => some false
  | _ => none
section
variable {E : Env}
theorem evalL_gd {D : Option (List Nat)} {l : SL} {st : St} : evalL E D l st = (gd l st.fr).bind fun t => if t = true then evalOp E (mask (D.map (hid l.op)) st.ob) st l.dst l.op else some (st.set l.dst skipped) := by
 unfold evalL gd
 cases l.guard with
 | none => rfl
 | some p =>
  obtain ⟨g, want⟩ := p
  simp only
  generalize st.fr g = q
  cases q with
  | c v =>
   cases v with
   | bool b => by_cases hb : b = want <;> simp [hb]
   | tup l => cases l <;> rfl
   | _ => rfl
  | _ => rfl
theorem gd_congr {l : SL} {fr fr' : Nat → SV} (h : ∀ i ∈ l.looks, fr i = fr' i) : gd l fr = gd l fr' := by
 unfold gd
 cases hg : l.guard with
 | none => rfl
 | some p =>
  obtain ⟨g, want⟩ := p
  simp only
  rw [h g (by simp [SL.looks, hg])]
theorem kIdx_snoc {kt : KT} {k c : CV} : ∀ (ks : List CV), kIdx kt k (ks ++ [c]) = match kIdx kt k ks with
  | some i => some i
  | none => if keyEq kt k c then some ks.length else none
 | [] => by simp [kIdx]
 | a :: ks => by
  simp only [List.cons_append, kIdx, kIdx_snoc ks]
  split
  ·rfl
  ·cases kIdx kt k ks with
   | some i => rfl
   | none =>
    simp only [Option.map_none]
    split <;> simp
theorem look_entry {kt : KT} {z : CV} {ks vs : List CV} (k k' : CV) (hl : ks.length = vs.length) : (look kt z (insertK kt ks k) (insertV kt ks vs k (look kt z ks vs k).1) k').1 = (look kt z ks vs k').1 := by
 unfold insertK insertV
 cases hk : kIdx kt k ks with
 | some i =>
  have : (look kt z ks vs k).1 = vs.getD i z := by simp [look, hk]
  rw [this]
  have hi := kIdx_lt hk
  have : vs.set i (vs.getD i z) = vs := by
   rw [List.getD_eq_getElem?_getD, List.getElem?_eq_getElem (by omega : i < vs.length)]
   simp
  simp only [this]
 | none =>
  have : (look kt z ks vs k).1 = z := by simp [look, hk]
  rw [this]
  simp only [look, kIdx_snoc]
  cases hk' : kIdx kt k' ks with
  | some j =>
   have hj := kIdx_lt hk'
   simp [List.getD_eq_getElem?_getD, List.getElem?_append_left (by omega : j < vs.length)]
  | none =>
   simp only
   by_cases he : keyEq kt k' k <;> simp [he, List.getD_eq_getElem?_getD, hl]
theorem calm_entry {rd rd' : Nat → Ob} {mt : TypeId} {kt : KT} {z : CV} {ks vs : List CV} {k : CV} (hl : ks.length = vs.length)
  (h : ∀ i, rd' i = rd i ∨ (rd i = .map mt kt z ks vs ∧ rd' i = .map mt kt z (insertK kt ks k) (insertV kt ks vs k (look kt z ks vs k).1))) {ρ : SO → SV} {d : Option Nat} {op : SOp} (hc : op.calm = true) : softOp E rd' ρ d op = softOp E rd ρ d op := by
 cases op <;> simp only [SOp.calm, Bool.false_eq_true] at hc <;> try rfl
 rename_i mt' kt' z' ok x y
 cases ok <;> simp only [Bool.false_eq_true] at hc
 simp only [softOp, SOp.cls, valOp]
 congr 2
 generalize ρ x = q1
 generalize ρ y = q2
 cases q1 with
 | omap id =>
  cases q2 with
  | c kc =>
   rcases h id with e | ⟨e1, e2⟩
   ·simp only [lookV, e]
   ·simp only [lookV, e1, e2, Bool.false_eq_true, if_false, look_entry k kc hl]
  | _ => rfl
 | c v => cases v <;> cases q2 <;> rfl
 | _ => rfl
theorem swap_entry {D : List Nat} {a b : SL} {st s1 s2 : St} (ha : a.op.calm = true) (hb : b.op.entry = true)
  (hab : ∀ i, a.dst = some i → i ∉ b.looks ∧ b.dst ≠ some i) (hba : ∀ i, b.dst = some i → i ∉ a.looks) (h1 : evalL E (some D) a st = some s1) (h2 : evalL E (some D) b s1 = some s2) :
  ∃ s, evalL E (some D) b st = some s ∧ evalL E (some D) a s = some s2 := by
 have hah : a.op.hard = false := by
  revert ha
  cases a.op <;> simp [SOp.calm, SOp.hard]
 have ham : a.op.makes = false := by
  revert ha
  cases a.op <;> simp [SOp.calm, SOp.makes]
 rw [softL_put hah, Option.bind_eq_some_iff] at h1
 obtain ⟨⟨v, o⟩, e1, h1⟩ := h1
 have ho : o = none := by
  cases o with
  | none => rfl
  | some o => have := softL_makes e1 rfl; rw [ham] at this; cases this
 subst ho
 have hf1 : ∀ i ∈ b.looks, s1.fr i = st.fr i := fun i hi => put_fr h1 (fun e => (hab i e).1 hi)
 simp only [put, Option.some.injEq] at h1
 have hob1 : s1.ob = st.ob := by subst h1; cases a.dst <;> rfl
 rw [evalL_gd, gd_congr hf1, Option.bind_eq_some_iff] at h2
 obtain ⟨t, ht, h2⟩ := h2
 have dcomm : ∀ i j, b.dst = some i → a.dst = some j → i ≠ j := fun i j hi hj e => (hab j hj).2 (by rw [hi, e])
 cases t with
 | false =>
  simp only [Bool.false_eq_true, if_false, Option.some.injEq] at h2
  refine ⟨st.set b.dst skipped, by rw [evalL_gd, ht]; rfl, ?_⟩
  have g1 : put st b.dst (skipped, none) = some (st.set b.dst skipped) := rfl
  have hm : (st.set b.dst skipped).ob = st.ob := by cases b.dst <;> rfl
  rw [softL_put hah, hm, softL_congr (fr' := st.fr) (fun i hi => put_fr g1 (fun e => hba i e hi)), e1]
  have hc : ∀ (x y : Option Nat) (u v : SV), (∀ i j, x = some i → y = some j → i ≠ j) → (st.set x u).set y v = (st.set y v).set x u := by
   intro x y u v hxy
   cases x <;> cases y <;> try rfl
   simp only [St.set, upd_comm _ _ _ (hxy _ _ rfl rfl)]
  simp only [Option.bind_some, put, ← h2, ← h1, hc _ _ _ _ dcomm]
 | true =>
  simp only [if_true] at h2
  cases hop : b.op <;> simp only [hop, SOp.entry, Bool.false_eq_true] at hb
  rename_i mt x k
  have hslots : ∀ y : SO, (y = x ∨ y = k) → so E.G s1.fr y = so E.G st.fr y := fun y hy => so_congr y fun i hi => hf1 i (by
   simp only [SL.looks, hop, SOp.slots, List.mem_append]
   rcases hy with rfl | rfl
   ·exact .inl (.inl hi)
   ·exact .inl (.inr hi))
  simp only [hop, evalOp, SOp.cls, effOp, hslots x (.inl rfl), hslots k (.inr rfl), hob1] at h2
  cases hx : so E.G st.fr x <;> simp only [hx, reduceCtorEq] at h2
  cases hkk : so E.G st.fr k <;> simp only [hkk, reduceCtorEq] at h2
  rename_i id kc
  cases hobi : st.ob id <;> simp only [hobi, reduceCtorEq] at h2
  rename_i mt' kt z ks vs
  simp only [Option.ite_none_right_eq_some, Option.some.injEq] at h2
  obtain ⟨⟨rfl, hcf, hlen⟩, h2⟩ := h2
  refine ⟨St.set { st with ob := upd st.ob id (.map mt' kt z (insertK kt ks kc) (insertV kt ks vs kc (look kt z ks vs kc).1)) } b.dst (.ent id kc (look kt z ks vs kc).1), ?_, ?_⟩
  ·rw [evalL_gd, ht]
   simp [hop, evalOp, SOp.cls, effOp, hx, hkk, hobi, hcf, hlen]
  ·have hfr : ∀ i ∈ a.looks, (St.set { st with ob := upd st.ob id (.map mt' kt z (insertK kt ks kc) (insertV kt ks vs kc (look kt z ks vs kc).1)) } b.dst (.ent id kc (look kt z ks vs kc).1)).fr i = st.fr i := by
    intro i hi
    cases hbd : b.dst with
    | none => rfl
    | some j => exact upd_ne _ _ (fun e => hba j hbd (e ▸ hi))
   have hob : (St.set { st with ob := upd st.ob id (.map mt' kt z (insertK kt ks kc) (insertV kt ks vs kc (look kt z ks vs kc).1)) } b.dst (.ent id kc (look kt z ks vs kc).1)).ob = upd st.ob id (.map mt' kt z (insertK kt ks kc) (insertV kt ks vs kc (look kt z ks vs kc).1)) := by
    cases b.dst <;> rfl
   have hrd : ∀ i, mask (some (hid a.op D)) (upd st.ob id (.map mt' kt z (insertK kt ks kc) (insertV kt ks vs kc (look kt z ks vs kc).1))) i = mask (some (hid a.op D)) st.ob i ∨ (mask (some (hid a.op D)) st.ob i = .map mt' kt z ks vs ∧ mask (some (hid a.op D)) (upd st.ob id (.map mt' kt z (insertK kt ks kc) (insertV kt ks vs kc (look kt z ks vs kc).1))) i = .map mt' kt z (insertK kt ks kc) (insertV kt ks vs kc (look kt z ks vs kc).1)) := by
    intro i
    simp only [mask, upd_apply]
    by_cases hi : (hid a.op D).contains i = true
    ·simp only [hi, if_true]; exact .inl trivial
    ·by_cases e : i = id
     ·subst e
      rw [if_neg hi, if_neg hi, if_pos rfl]
      exact .inr ⟨hobi, rfl⟩
     ·rw [if_neg hi, if_neg hi, if_neg e]
      exact .inl rfl
   have e1' : softL E a st.fr (mask (some (hid a.op D)) (upd st.ob id (.map mt' kt z (insertK kt ks kc) (insertV kt ks vs kc (look kt z ks vs kc).1)))) = some (v, none) := by
    rw [← e1]
    unfold softL
    simp only [calm_entry hlen hrd ha]
   rw [softL_put hah, hob, softL_congr hfr, e1']
   simp only [Option.bind_some, put, ← h2, ← h1]
   congr 1
   cases hbd : b.dst <;> cases had : a.dst <;> try rfl
   simp only [St.set, upd_comm _ _ _ (dcomm _ _ hbd had)]
end
end WB
namespace WB
open Go Go.RowKit
section
variable {E : Env}
theorem St.set_comm (st : St) : ∀ (x y : Option Nat) (u v : SV), (∀ i j, x = some i → y = some j → i ≠ j) → (st.set x u).set y v = (st.set y v).set x u := by
 intro x y u v hxy
 cases x <;> cases y <;> try rfl
 simp only [St.set, upd_comm _ _ _ (hxy _ _ rfl rfl)]
theorem store_eff {d d' : Option Nat} {ρ ρ' : SO → SV} {st st' s : St} {n : Nat} {x y : SO} (hx : ρ x = ρ' x) (hy : ρ y = ρ' y) (hob : st.ob = st'.ob) (h : effOp d ρ st (.store n x y) = some s) :
  s.fr = st.fr ∧ effOp d' ρ' st' (.store n x y) = some { fr := st'.fr, ob := s.ob } := by
 simp only [effOp, hx, hy, hob] at h ⊢
 cases hq : ρ' x <;> simp only [hq, reduceCtorEq] at h ⊢
 ·rename_i cv
  cases cv <;> try (cases h; done)
  rename_i cs
  cases cs with
  | nil => cases h
  | cons c0 cs =>
   cases cs with
   | cons _ _ => cases c0 <;> cases h
   | nil =>
    cases c0 <;> try (cases h; done)
    cases hv : ρ' y <;> simp only [hv] at h ⊢ <;> try (cases h; done)
    rename_i c2
    cases c2 <;> try (cases h; done)
    simp only [Option.ite_none_right_eq_some, Option.some.injEq] at h ⊢
    obtain ⟨hc, rfl⟩ := h
    exact ⟨rfl, hc, by rw [hob]⟩
 ·rename_i id o
  cases hb : st'.ob id <;> simp only [hb, reduceCtorEq] at h ⊢
  cases hv : ρ' y <;> simp only [hv, reduceCtorEq] at h ⊢
  all_goals (repeat' (split at h)) <;> (try cases h) <;> simp_all
 ·rename_i id i size o
  cases hb : st'.ob id <;> simp only [hb, reduceCtorEq] at h ⊢
  cases hv : ρ' y <;> simp only [hv, reduceCtorEq] at h ⊢
  split at h
  ·rename_i hc
   rw [Option.bind_eq_some_iff] at h
   obtain ⟨el, h1, h2⟩ := h
   split at h2
   ·rename_i hc2
    cases h2
    simp [hc, h1, hc2]
   ·cases h2
  ·cases h
theorem still_rd {a : SL} (ha : a.op.still = true) {fr : Nat → SV} {rd rd' : Nat → Ob} : softL E a fr rd = softL E a fr rd' := by
 have key : ∀ ρ d, softOp E rd ρ d a.op = softOp E rd' ρ d a.op := by
  intro ρ d
  revert ha
  cases a.op <;> simp [SOp.still, softOp, SOp.cls, valOp]
 unfold softL
 simp only [key]
theorem swap_store {D : List Nat} {a b : SL} {st s1 s2 : St} (ha : a.op.still = true) (hb : b.op.stores = true)
  (hab : ∀ i, a.dst = some i → i ∉ b.looks ∧ b.dst ≠ some i) (hba : ∀ i, b.dst = some i → i ∉ a.looks) (h1 : evalL E (some D) a st = some s1) (h2 : evalL E (some D) b s1 = some s2) :
  ∃ s, evalL E (some D) b st = some s ∧ evalL E (some D) a s = some s2 := by
 have hah : a.op.hard = false := by
  revert ha
  cases a.op <;> simp [SOp.still, SOp.hard]
 have ham : a.op.makes = false := by
  revert ha
  cases a.op <;> simp [SOp.still, SOp.makes]
 rw [softL_put hah, Option.bind_eq_some_iff] at h1
 obtain ⟨⟨v, o⟩, e1, h1⟩ := h1
 have ho : o = none := by
  cases o with
  | none => rfl
  | some o => have := softL_makes e1 rfl; rw [ham] at this; cases this
 subst ho
 have hf1 : ∀ i ∈ b.looks, s1.fr i = st.fr i := fun i hi => put_fr h1 (fun e => (hab i e).1 hi)
 simp only [put, Option.some.injEq] at h1
 have hob1 : s1.ob = st.ob := by subst h1; cases a.dst <;> rfl
 rw [evalL_gd, gd_congr hf1, Option.bind_eq_some_iff] at h2
 obtain ⟨t, ht, h2⟩ := h2
 have dcomm : ∀ i j, b.dst = some i → a.dst = some j → i ≠ j := fun i j hi hj e => (hab j hj).2 (by rw [hi, e])
 cases t with
 | false =>
  simp only [Bool.false_eq_true, if_false, Option.some.injEq] at h2
  refine ⟨st.set b.dst skipped, by rw [evalL_gd, ht]; rfl, ?_⟩
  have g1 : put st b.dst (skipped, none) = some (st.set b.dst skipped) := rfl
  have hm : (st.set b.dst skipped).ob = st.ob := by cases b.dst <;> rfl
  rw [softL_put hah, hm, softL_congr (fr' := st.fr) (fun i hi => put_fr g1 (fun e => hba i e hi)), e1]
  simp only [Option.bind_some, put, ← h2, ← h1, St.set_comm st _ _ _ _ dcomm]
 | true =>
  simp only [if_true] at h2
  cases hop : b.op <;> simp only [hop, SOp.stores, Bool.false_eq_true] at hb
  rename_i n x y
  have hslots : ∀ z : SO, (z = x ∨ z = y) → so E.G s1.fr z = so E.G st.fr z := fun z hz => so_congr z fun i hi => hf1 i (by
   simp only [SL.looks, hop, SOp.slots, List.mem_append]
   rcases hz with rfl | rfl
   ·exact .inl (.inl hi)
   ·exact .inl (.inr hi))
  simp only [hop, evalOp, SOp.cls] at h2
  obtain ⟨k1, k2⟩ := store_eff (d' := b.dst) (hslots x (.inl rfl)) (hslots y (.inr rfl)) hob1 h2
  refine ⟨{ fr := st.fr, ob := s2.ob }, by rw [evalL_gd, ht]; simp only [Option.bind_some, if_true, hop, evalOp, SOp.cls]; exact k2, ?_⟩
  rw [softL_put hah, still_rd ha (rd' := mask (some (hid a.op D)) st.ob), e1]
  simp only [Option.bind_some, put]
  congr 1
  have : s2 = { fr := s1.fr, ob := s2.ob } := by rw [← k1]
  rw [this, ← h1]
  cases a.dst <;> rfl
def appOf (st : St) (d : Option Nat) (e size bytes : Nat) (vx vy : SV) : Option (Nat × Ob) :=
 match newsOf st vy with
 | none => none
 | some news =>
  if (news.all (fun v => cellsN v == size) && news.all fun v => v.cells.all oneC) = true then
   match vx with
   | .c (.sl (some true) _) =>
      if news.length * bytes ≤ 140737488355328 ∧ news.length ≤ 4611686018427387904 then
       match d with
       | some d => some (d, .arr e size news)
       | none => none
      else none
   | .osl id => match st.ob id with
      | .arr e' size' es =>
       if e' = e ∧ size' = size ∧ (es.length + news.length) * bytes ≤ 140737488355328 ∧ es.length + news.length ≤ 4611686018427387904 then some (id, .arr e size (es ++ news)) else none
      | _ => none
   | _ => none
  else none
def grown (st : St) (d : Option Nat) (p : Nat × Ob) : St := St.set { fr := fun i => killSV [p.1] (st.fr i), ob := upd (kill [p.1] st).ob p.1 p.2 } d (.osl p.1)
theorem app_form {d : Option Nat} {ρ : SO → SV} {st : St} {e size bytes : Nat} {x y : SO} : effOp d ρ st (.append e size bytes x y) = (appOf st d e size bytes (ρ x) (ρ y)).map (grown st d) := by
 simp only [effOp, appOf]
 cases newsOf st (ρ y) with
 | none => rfl
 | some news =>
  simp only
  split
  ·generalize ρ x = q
   split
   ·split
    ·cases d <;> rfl
    ·rfl
   ·rename_i id
    cases hq : st.ob id with
    | arr e' size' es =>
     simp only [hq]
     by_cases hc : e' = e ∧ size' = size ∧ (es.length + news.length) * bytes ≤ 140737488355328 ∧ es.length + news.length ≤ 4611686018427387904
     ·rw [if_pos hc, if_pos hc]; rfl
     ·rw [if_neg hc, if_neg hc]; rfl
    | _ => simp only [hq]; rfl
   ·rename_i h1 h2
    split
    ·exact (h1 _ rfl).elim
    ·exact (h2 _ rfl).elim
    ·rfl
  ·rfl
theorem newsOf_keep {st st' : St} {v : SV} {news : List CV} (hk : ∀ i e s es, st.ob i = .arr e s es → st'.ob i = .arr e s es) (h : newsOf st v = some news) : newsOf st' v = some news := by
 unfold newsOf at h ⊢
 split at h
 ·exact h
 ·split at h
  ·rename_i hq; rw [hk _ _ _ _ hq]; exact h
  ·cases h
 ·cases h
theorem appOf_keep {st st' : St} {d : Option Nat} {e size bytes : Nat} {vx vy : SV} {p : Nat × Ob} (hk : ∀ i e s es, st.ob i = .arr e s es → st'.ob i = .arr e s es) (h : appOf st d e size bytes vx vy = some p) : appOf st' d e size bytes vx vy = some p := by
 unfold appOf at h ⊢
 cases hn : newsOf st vy with
 | none => rw [hn] at h; cases h
 | some news =>
  rw [hn] at h
  rw [newsOf_keep hk hn]
  simp only at h ⊢
  split at h
  ·rename_i hc
   rw [if_pos hc]
   split at h
   ·exact h
   ·rename_i id
    cases hob : st.ob id <;> simp only [hob, reduceCtorEq] at h
    rw [hk _ _ _ _ hob]
    exact h
   ·cases h
  ·cases h
theorem appOf_arr {st : St} {d : Option Nat} {e size bytes : Nat} {vx vy : SV} {p : Nat × Ob} (h : appOf st d e size bytes vx vy = some p) : ∃ es, p.2 = .arr e size es := by
 unfold appOf at h
 split at h
 ·cases h
 ·split at h
  ·split at h
   ·split at h
    ·split at h
     ·cases h; exact ⟨_, rfl⟩
     ·cases h
    ·cases h
   ·split at h
    ·split at h
     ·cases h; exact ⟨_, rfl⟩
     ·cases h
    ·cases h
   ·cases h
  ·cases h
theorem closed_kill {D : List Nat} {v : SV} {c : CV} (h : closed (killSV D v) = some c) : closed v = some c := by
 cases v <;> simp only [killSV] at h <;> first
  | exact h
  | (split at h <;> simp [closed] at h)
theorem allM_imp {α β : Type} {f g : α → Option β} : ∀ {l : List α} {r : List β}, (∀ x c, f x = some c → g x = some c) → allM f l = some r → allM g l = some r
 | [], _, _, h => h
 | x :: l, r, hfg, h => by
  simp only [allM, Option.bind_eq_some_iff, Option.map_eq_some_iff] at h ⊢
  obtain ⟨c, h1, bs, h2, h3⟩ := h
  exact ⟨c, hfg x c h1, bs, allM_imp hfg h2, h3⟩
theorem tame_back {D : List Nat} {b : SOp} (ht : b.tame = true) {d : Option Nat} {st : St} {id : Nat} {e s : Nat} {es : List CV} {v' : SV} {o' : Option Ob} (hd : o'.isSome = true → ∀ j, d = some j → j ≠ id) (hd' : o'.isSome = true → d ≠ none)
  (h : softOp E (mask (some D) (upd (kill [id] st).ob id (.arr e s es))) (so E.G fun i => killSV [id] (st.fr i)) d b = some (v', o')) :
  ∃ v o, softOp E (mask (some D) st.ob) (so E.G st.fr) d b = some (v, o) ∧ v' = killSV [id] v ∧ o' = o.map (killOb [id]) := by
 have hso : ∀ x, so E.G (fun i => killSV [id] (st.fr i)) x = killSV [id] (so E.G st.fr x) := by
  intro x
  cases x with
  | t i => rfl
  | k c => rfl
  | g i => simp only [so]; cases E.G i <;> rfl
 cases b <;> simp only [SOp.tame, Bool.false_eq_true] at ht
 case load sz x =>
  simp only [softOp, SOp.cls, valOp, hso, Option.map_eq_some_iff, Prod.mk.injEq] at h
  obtain ⟨r, h, rfl, rfl⟩ := h
  suffices hs : ∃ v, loadV (mask (some D) st.ob) sz (so E.G st.fr x) = some v ∧ r = killSV [id] v by
   obtain ⟨v, k1, k2⟩ := hs
   exact ⟨v, none, by simp [softOp, SOp.cls, valOp, k1], k2, rfl⟩
  generalize so E.G st.fr x = q at h ⊢
  cases q with
  | c v =>
   have h2 : loadV (mask (some D) st.ob) sz (.c v) = some r := by
    cases v <;> simp only [killSV, loadV, reduceCtorEq] at h ⊢
    all_goals exact h
   refine ⟨r, h2, ?_⟩
   cases v <;> simp only [loadV, reduceCtorEq] at h2
   all_goals (split at h2 <;> (rw [Option.map_eq_some_iff] at h2; obtain ⟨c, _, rfl⟩ := h2; rfl))
  | ptr j o =>
   simp only [killSV] at h
   split at h
   ·cases h
   ·rename_i hj
    have hj' : j ≠ id := fun e => hj (by simp [e])
    simp only [loadV, mask, upd_ne _ _ hj', kill, hj] at h ⊢
    cases hD : D.contains j <;> simp only [hD, if_true, Bool.false_eq_true, if_false, reduceCtorEq] at h ⊢
    cases hb : st.ob j <;> simp only [hb, killOb, reduceCtorEq] at h ⊢
    rename_i cs
    cases sz with
    | none =>
     simp only [List.getElem?_map, Option.map_eq_some_iff] at h
     obtain ⟨v, h1, rfl⟩ := h
     exact ⟨v, h1, rfl⟩
    | some n =>
     simp only [List.length_map] at h ⊢
     split at h
     ·rename_i hl
      rw [if_pos hl]
      rw [Option.map_eq_some_iff] at h
      obtain ⟨l, h1, rfl⟩ := h
      refine ⟨.c (.agg l), ?_, rfl⟩
      have : ∀ (l2 : List SV) r, allM closed (l2.map (killSV [id])) = some r → allM closed l2 = some r := by
       intro l2
       induction l2 with
       | nil => intro r h; exact h
       | cons a l2 ih =>
        intro r h
        simp only [List.map_cons, allM, Option.bind_eq_some_iff, Option.map_eq_some_iff] at h ⊢
        obtain ⟨c, k1, bs, k2, k3⟩ := h
        exact ⟨c, closed_kill k1, bs, ih bs k2, k3⟩
      rw [this _ l (by rw [List.map_take, List.map_drop]; exact h1)]
      rfl
     ·cases h
  | eptr j i size o =>
   simp only [killSV] at h
   split at h
   ·cases h
   ·rename_i hj
    have hj' : j ≠ id := fun e => hj (by simp [e])
    simp only [loadV, mask, upd_ne _ _ hj', kill, hj] at h ⊢
    cases hD : D.contains j <;> simp only [hD, if_true, Bool.false_eq_true, if_false, reduceCtorEq] at h ⊢
    cases hb : st.ob j <;> simp only [hb, killOb, reduceCtorEq] at h ⊢
    refine ⟨r, h, ?_⟩
    split at h
    ·rw [Option.bind_eq_some_iff] at h
     obtain ⟨el, _, h⟩ := h
     rw [Option.map_eq_some_iff] at h
     obtain ⟨c, _, rfl⟩ := h
     rfl
    ·cases h
  | undef => cases h
  | _ => simp only [killSV] at h; split at h <;> cases h
 case alloc z =>
  simp only [softOp, SOp.cls, newOp, Option.map_some, Option.some.injEq, Prod.mk.injEq] at h
  obtain ⟨rfl, rfl⟩ := h
  refine ⟨_, _, rfl, ?_, ?_⟩
  ·cases d with
   | none => exact (hd' rfl rfl).elim
   | some j => simp [killSV, hd rfl j rfl]
  ·simp [killOb, killSV, Function.comp_def]
 case mksl e2 s2 parts =>
  simp only [softOp, SOp.cls, newOp, hso, Option.map_eq_some_iff, Option.bind_eq_some_iff, Prod.mk.injEq] at h
  obtain ⟨⟨q1, q2⟩, ⟨l, h1, h2⟩, rfl, rfl⟩ := h
  split at h2
  ·rename_i hc
   cases h2
   have h1' := allM_imp (g := fun x => closed (so E.G st.fr x)) (fun x c => closed_kill) h1
   refine ⟨.osl (d.getD 0), some (.arr e2 s2 l), ?_, ?_, rfl⟩
   ·simp only [softOp, SOp.cls, newOp, h1', Option.bind_some, if_pos hc, Option.map_some]
   ·cases d with
    | none => exact (hd' rfl rfl).elim
    | some j => simp [killSV, hd rfl j rfl]
  ·cases h2
theorem swap_grow {D : List Nat} {a b : SL} {st s1 s2 : St} (ha : a.op.grows = true) (hga : a.guard = none) (hb : b.op.tame = true) (hgb : b.guard = none)
  (hab : ∀ i, a.dst = some i → i ∉ b.looks ∧ b.dst ≠ some i) (hba : ∀ i, b.dst = some i → i ∉ a.looks) (h1 : evalL E (some D) a st = some s1) (h2 : evalL E (some D) b s1 = some s2) :
  ∃ s, evalL E (some D) b st = some s ∧ evalL E (some D) a s = some s2 := by
 have hbh : b.op.hard = false := by
  revert hb
  cases b.op <;> simp [SOp.tame, SOp.hard]
 cases hop : a.op <;> simp only [hop, SOp.grows, Bool.false_eq_true] at ha
 rename_i e size bytes x y
 have eva : ∀ s, evalL E (some D) a s = (appOf s a.dst e size bytes (so E.G s.fr x) (so E.G s.fr y)).map (grown s a.dst) := by
  intro s
  simp only [evalL, hga, hop, evalOp, SOp.cls]
  exact app_form
 rw [eva, Option.map_eq_some_iff] at h1
 obtain ⟨⟨id, oa⟩, p1, rfl⟩ := h1
 obtain ⟨es, he⟩ := appOf_arr p1
 simp only at he
 subst he
 rw [softL_put hbh, Option.bind_eq_some_iff] at h2
 obtain ⟨⟨v', o'⟩, e2, h2⟩ := h2
 have hfr : ∀ i ∈ b.looks, (grown st a.dst (id, .arr e size es)).fr i = killSV [id] (st.fr i) := by
  intro i hi
  unfold grown
  cases hd : a.dst with
  | none => rfl
  | some j => exact upd_ne _ _ (fun h => (hab j hd).1 (h ▸ hi))
 have hob : (grown st a.dst (id, .arr e size es)).ob = upd (kill [id] st).ob id (.arr e size es) := by
  unfold grown
  cases a.dst <;> rfl
 rw [softL_congr hfr, hob] at e2
 have e2' : softOp E (mask (some (hid b.op D)) (upd (kill [id] st).ob id (.arr e size es))) (so E.G fun i => killSV [id] (st.fr i)) b.dst b.op = some (v', o') := by
  simpa only [softL, hgb] using e2
 have hnew : ∀ o, o' = some o → ∃ j, b.dst = some j ∧ j ≠ id ∧ st.ob j = .none := by
  intro o ho
  subst ho
  simp only [put, addNew] at h2
  cases hbd : b.dst with
  | none => rw [hbd] at h2; cases h2
  | some j =>
   rw [hbd] at h2
   simp only [hob] at h2
   split at h2 <;> try (cases h2; done)
   rename_i hn
   have hj : j ≠ id := by
    intro hh
    rw [hh, upd_same] at hn
    cases hn
   refine ⟨j, rfl, hj, ?_⟩
   rw [upd_ne _ _ hj] at hn
   simp only [kill] at hn
   rw [if_neg (by simpa using hj)] at hn
   cases hq : st.ob j <;> simp only [hq, killOb, reduceCtorEq] at hn
   rfl
 obtain ⟨v, o, k1, k2, k3⟩ := tame_back hb (fun hs j hj => by
   obtain ⟨o, ho⟩ := Option.isSome_iff_exists.1 hs
   obtain ⟨j', h3, h4, _⟩ := hnew o ho
   rw [hj] at h3
   cases h3
   exact h4) (fun hs hn => by
   obtain ⟨o, ho⟩ := Option.isSome_iff_exists.1 hs
   obtain ⟨j', h3, _⟩ := hnew o ho
   rw [hn] at h3
   cases h3) e2'
 have evb : evalL E (some D) b st = put st b.dst (v, o) := by
  rw [softL_put hbh]
  simp only [softL, hgb, k1, Option.bind_some]
 have dcomm : ∀ i j, a.dst = some i → b.dst = some j → i ≠ j := fun i j hi hj h => (hab i hi).2 (by rw [hj, h])
 have hslots : ∀ (s : St), put st b.dst (v, o) = some s → ∀ z : SO, (z = x ∨ z = y) → so E.G s.fr z = so E.G st.fr z := fun s hs z hz => so_congr z fun i hi => put_fr hs (fun h => hba i h (by
  simp only [SL.looks, hop, SOp.slots, List.mem_append]
  rcases hz with rfl | rfl
  ·exact .inl (.inl hi)
  ·exact .inl (.inr hi)))
 subst k2
 subst k3
 rw [evb]
 cases o with
 | none =>
  have hs : put st b.dst (v, none) = some (st.set b.dst v) := rfl
  refine ⟨st.set b.dst v, hs, ?_⟩
  have hobs : (st.set b.dst v).ob = st.ob := by cases b.dst <;> rfl
  rw [eva, hslots _ hs x (.inl rfl), hslots _ hs y (.inr rfl), appOf_keep (st := st) (fun i e s es h => by rw [hobs]; exact h) p1]
  simp only [Option.map_some, Option.some.injEq]
  simp only [put, Option.map_none, Option.some.injEq] at h2
  rw [← h2]
  unfold grown
  rw [St.set_comm _ _ _ _ _ dcomm]
  congr 1
  cases hbd : b.dst with
  | none => rfl
  | some j =>
   simp only [St.set, kill]
   congr 1
   funext i
   simp only [upd_apply]
   split <;> rfl
 | some ob =>
  obtain ⟨j, hj1, hj2, hj3⟩ := hnew (killOb [id] ob) rfl
  have hs : put st b.dst (v, some ob) = some { fr := upd st.fr j v, ob := upd st.ob j ob } := by simp [put, addNew, hj1, hj3]
  refine ⟨_, hs, ?_⟩
  rw [eva, hslots _ hs x (.inl rfl), hslots _ hs y (.inr rfl), appOf_keep (st := st) (fun i e s es h => by
   simp only
   rw [upd_ne _ _ (fun hh => by rw [hh, hj3] at h; cases h)]
   exact h) p1]
  simp only [Option.map_some, Option.some.injEq]
  have hn1 : (grown st a.dst (id, .arr e size es)).ob j = .none := by
   rw [hob, upd_ne _ _ hj2]
   simp only [kill]
   rw [if_neg (by simpa using hj2), hj3]
   rfl
  simp only [put, addNew, Option.map_some, hj1, hn1, Option.some.injEq] at h2
  rw [← h2, hob]
  have hobs : upd (kill [id] { fr := upd st.fr j v, ob := upd st.ob j ob : St }).ob id (.arr e size es) = upd (upd (kill [id] st).ob id (.arr e size es)) j (killOb [id] ob) := by
   funext i
   simp only [upd_apply, kill]
   by_cases c1 : i = id
   ·subst c1
    simp [Ne.symm hj2]
   ·by_cases c2 : i = j
    ·subst c2
     simp [c1]
    ·simp [c1, c2]
  have hfrs : (fun i => killSV [id] (upd st.fr j v i)) = upd (fun i => killSV [id] (st.fr i)) j (killSV [id] v) := by
   funext i
   simp only [upd_apply]
   split <;> rfl
  unfold grown
  simp only [hobs, hfrs]
  cases had : a.dst with
  | none => rfl
  | some i =>
   simp only [St.set]
   rw [upd_comm _ _ _ (Ne.symm (dcomm i j had hj1))]
end
end WB
namespace WB
open Go Go.RowKit
def SL.own (A : List Nat) (l : SL) : Option Nat :=
 match l.op, l.guard with
 | .store _ (.t a) _, none => if A.contains a then some a else none
 | _, _ => none
def madeA (ls : List SL) : List Nat :=
 (ls.filterMap fun l => match l.op, l.guard, l.dst with | .alloc _, none, some d => some d | _, _, _ => none).filter fun d => (ls.filter fun l => l.dst == some d).length == 1
def nextA (m : List Nat) (l : SL) : List Nat :=
 match l.op, l.guard, l.dst with
 | .alloc _, none, some d => d :: m
 | _, _, some d => m.filter fun i => i != d
 | _, _, none => m
def ownOk (A : List Nat) : List Nat → List SL → Bool
 | _, [] => true
 | m, l :: ls => (match l.own A with | some a => m.contains a | none => true) && ownOk A (nextA m l) ls
def freeO (A D : List Nat) (x y : SL) : Bool :=
 free D x y || ((x.dst.all fun d => !y.looks.contains d && y.dst != some d) && (y.dst.all fun d => !x.looks.contains d) &&
  match x.own A, y.own A with
  | some a, some b => a != b
  | some a, none => !y.op.hard && (hid y.op D).contains a
  | none, some b => !x.op.hard && (hid x.op D).contains b
  | none, none => false)
def okS (A : List Nat) (l : SL) (st : St) : Bool :=
 match l.own A with
 | some a => match st.fr a with
  | .ptr j _ => j == a
  | _ => false
 | none => true
section
variable {E : Env} {A D : List Nat}
def evT (E : Env) (A D : List Nat) (l : SL) (st : St) : Option St := if okS A l st = true then evalL E (some D) l st else none
theorem evT_of {l : SL} {st s : St} (h : evT E A D l st = some s) : okS A l st = true ∧ evalL E (some D) l st = some s := by
 unfold evT at h
 split at h
 ·rename_i h1; exact ⟨h1, h⟩
 ·cases h
theorem evT_mk {l : SL} {st s : St} (h1 : okS A l st = true) (h2 : evalL E (some D) l st = some s) : evT E A D l st = some s := by
 unfold evT
 rw [if_pos h1, h2]
theorem own_op {l : SL} {a : Nat} (h : l.own A = some a) : ∃ n x, l.op = .store n (.t a) x ∧ l.guard = none := by
 unfold SL.own at h
 split at h
 ·rename_i n a' x h1 h2
  split at h
  ·cases h
   exact ⟨n, x, h1, h2⟩
  ·cases h
 ·cases h
theorem own_looks {l : SL} {a : Nat} (h : l.own A = some a) : a ∈ l.looks := by
 obtain ⟨n, x, h1, h2⟩ := own_op h
 simp [SL.looks, h1, SOp.slots, SO.slot]
theorem own_soft {l : SL} (h : l.op.hard = false) : l.own A = none := by
 cases hl : l.own A with
 | none => rfl
 | some a =>
  obtain ⟨n, x, h1, h2⟩ := own_op hl
  rw [h1] at h
  cases h
theorem okS_of {l : SL} {st st' : St} (h : ∀ a, l.own A = some a → st'.fr a = st.fr a) (ho : okS A l st = true) : okS A l st' = true := by
 unfold okS at ho ⊢
 cases hl : l.own A with
 | none => rfl
 | some a =>
  rw [hl] at ho
  simp only [h a hl] at ho ⊢
  exact ho
theorem soft_fr {l : SL} {st s : St} (hs : l.op.hard = false) (h : evalL E (some D) l st = some s) {i : Nat} (hi : l.dst ≠ some i) : s.fr i = st.fr i := by
 rw [softL_put hs, Option.bind_eq_some_iff] at h
 obtain ⟨p, _, h⟩ := h
 exact put_fr h hi
def stOb (n o : Nat) (ob : Ob) (v : SV) : Option Ob :=
 match ob with
 | .box cs => match v with
  | .c (.agg l) => if l.length = n ∧ o + n ≤ cs.length ∧ l.all oneC = true then some (.box (setCells cs o (l.map .c))) else none
  | v => if n = 1 ∧ o < cs.length ∧ oneS v = true then some (.box (cs.set o v)) else none
 | _ => none
theorem stOb_box {n o : Nat} {ob ob' : Ob} {v : SV} (h : stOb n o ob v = some ob') : ob ≠ .none ∧ ob' ≠ .none := by
 unfold stOb at h
 split at h
 ·refine ⟨by simp, ?_⟩
  split at h <;> split at h <;> first
   | cases h; done
   | (cases h; simp)
 ·cases h
theorem own_eval {l : SL} {a : Nat} (h : l.own A = some a) : ∃ n x, (∀ i ∈ x.slot, i ∈ l.looks) ∧ ∀ (st s : St), evT E A D l st = some s ↔ ∃ o b, st.fr a = .ptr a o ∧ stOb n o (st.ob a) (so E.G st.fr x) = some b ∧ s = { st with ob := upd st.ob a b } := by
 obtain ⟨n, x, h1, h2⟩ := own_op h
 refine ⟨n, x, fun i hi => by simp [SL.looks, h1, SOp.slots, hi], fun st s => ?_⟩
 have hev : ∀ o, st.fr a = .ptr a o → evalL E (some D) l st = (stOb n o (st.ob a) (so E.G st.fr x)).map fun b => { st with ob := upd st.ob a b } := by
  intro o ho
  simp only [evalL, h2, h1, evalOp, SOp.cls, effOp]
  rw [show so E.G st.fr (.t a) = .ptr a o from ho]
  simp only [stOb]
  cases hb : st.ob a <;> simp only [hb] <;> try rfl
  generalize so E.G st.fr x = v
  cases v with
  | c cv => cases cv <;> (simp only; split <;> rfl)
  | _ => simp only; split <;> rfl
 constructor
 ·intro h3
  obtain ⟨h4, h5⟩ := evT_of h3
  unfold okS at h4
  rw [h] at h4
  simp only at h4
  split at h4
  ·rename_i j o hj
   have hja : j = a := by simpa using h4
   subst hja
   rw [hev o hj, Option.map_eq_some_iff] at h5
   obtain ⟨b, h6, h7⟩ := h5
   exact ⟨o, b, hj, h6, h7.symm⟩
  ·cases h4
 ·rintro ⟨o, b, h3, h4, rfl⟩
  refine evT_mk ?_ ?_
  ·unfold okS
   rw [h]
   simp [h3]
  ·rw [hev o h3, h4]
   rfl
theorem mask_upd {L : List Nat} {ob : Nat → Ob} {a : Nat} {b : Ob} (h : L.contains a = true) : mask (some L) (upd ob a b) = mask (some L) ob := by
 funext i
 simp only [mask, upd_apply]
 split
 ·rfl
 ·rename_i hi
  split
  ·rename_i e; subst e; exact (hi h).elim
  ·rfl
theorem put_ob {st s : St} {d : Option Nat} {p : SV × Option Ob} (h : put st d p = some s) {a : Nat} (ha : d ≠ some a) : s.ob a = st.ob a := by
 obtain ⟨v, o⟩ := p
 cases o with
 | none =>
  simp only [put, Option.some.injEq] at h
  subst h
  cases d <;> rfl
 | some o =>
  simp only [put, addNew] at h
  cases d with
  | none => cases h
  | some d =>
   simp only at h
   split at h <;> try (cases h; done)
   cases h
   exact upd_ne _ _ (fun e => ha (by rw [e]))
theorem put_upd {st s : St} {d : Option Nat} {p : SV × Option Ob} {a : Nat} {b : Ob} (hd : d ≠ some a) : put st d p = some s → put { st with ob := upd st.ob a b } d p = some { s with ob := upd s.ob a b } := by
 intro h
 obtain ⟨v, o⟩ := p
 cases o with
 | none =>
  simp only [put, Option.some.injEq] at h ⊢
  subst h
  cases d <;> rfl
 | some o =>
  simp only [put, addNew] at h ⊢
  cases d with
  | none => cases h
  | some j =>
   have hj : j ≠ a := fun e => hd (by rw [e])
   simp only at h
   split at h <;> try (cases h; done)
   rename_i hn
   cases h
   simp only [upd_ne _ _ hj, hn, Option.some.injEq, St.mk.injEq, true_and]
   exact upd_comm _ _ _ (Ne.symm hj)
theorem put_back {st s : St} {d : Option Nat} {p : SV × Option Ob} {a : Nat} {b : Ob} (ha : st.ob a ≠ .none) (h : put { st with ob := upd st.ob a b } d p = some s) (hd : d ≠ some a) : ∃ s', put st d p = some s' := by
 obtain ⟨v, o⟩ := p
 cases o with
 | none => exact ⟨_, rfl⟩
 | some o =>
  simp only [put, addNew] at h ⊢
  cases d with
  | none => cases h
  | some j =>
   have hj : j ≠ a := fun e => hd (by rw [e])
   simp only [upd_ne _ _ hj] at h
   simp only
   split at h <;> try (cases h; done)
   rename_i hn
   exact ⟨{ fr := upd st.fr j v, ob := upd st.ob j o }, by simp [hn]⟩
theorem swap_own {a b : SL} {st s1 s2 : St}
  (hab : ∀ i, a.dst = some i → i ∉ b.looks ∧ b.dst ≠ some i) (hba : ∀ i, b.dst = some i → i ∉ a.looks)
  (ho : (match a.own A, b.own A with
  | some a, some b => a != b
  | some k, none => !b.op.hard && (hid b.op D).contains k
  | none, some k => !a.op.hard && (hid a.op D).contains k
  | none, none => false) = true) (h1 : evT E A D a st = some s1) (h2 : evT E A D b s1 = some s2) : ∃ s, evT E A D b st = some s ∧ evT E A D a s = some s2 := by
 cases hoa : a.own A with
 | some k =>
  cases hob : b.own A with
  | some k' =>
   rw [hoa, hob] at ho
   have hk : k ≠ k' := by simpa using ho
   obtain ⟨n, x, hx, ea⟩ := own_eval (E := E) (D := D) hoa
   obtain ⟨n', x', hx', eb⟩ := own_eval (E := E) (D := D) hob
   rw [ea] at h1
   obtain ⟨o, c, q1, q2, rfl⟩ := h1
   rw [eb] at h2
   obtain ⟨o', c', q3, q4, rfl⟩ := h2
   simp only [upd_ne _ _ (Ne.symm hk)] at q4
   refine ⟨_, (eb _ _).2 ⟨o', c', q3, q4, rfl⟩, (ea _ _).2 ⟨o, c, q1, ?_, ?_⟩⟩
   ·simp only [upd_ne _ _ hk]
    exact q2
   ·simp only [St.mk.injEq, true_and]
    exact upd_comm _ _ _ hk
  | none =>
   rw [hoa, hob] at ho
   simp only [Bool.and_eq_true, Bool.not_eq_true'] at ho
   obtain ⟨hbs, hk⟩ := ho
   obtain ⟨n, x, hx, ea⟩ := own_eval (E := E) (D := D) hoa
   rw [ea] at h1
   obtain ⟨o, c, q1, q2, rfl⟩ := h1
   obtain ⟨_, h2⟩ := evT_of h2
   rw [softL_put hbs, Option.bind_eq_some_iff] at h2
   obtain ⟨p, e2, h2⟩ := h2
   simp only [mask_upd hk] at e2
   have hd : b.dst ≠ some k := fun e => hba k e (own_looks hoa)
   obtain ⟨s', h3⟩ := put_back (stOb_box q2).1 h2 hd
   have h4 := put_upd (b := c) hd h3
   rw [h4] at h2
   cases h2
   refine ⟨s', evT_mk (by unfold okS; rw [own_soft hbs]) (by rw [softL_put hbs, e2]; exact h3), (ea _ _).2 ⟨o, c, ?_, ?_, rfl⟩⟩
   ·rw [put_fr h3 hd]; exact q1
   ·rw [put_ob h3 hd, so_congr x (fr' := st.fr) (fun i hi => put_fr h3 (fun e => hba i e (hx i hi)))]
    exact q2
 | none =>
  cases hob : b.own A with
  | none => rw [hoa, hob] at ho; cases ho
  | some k =>
   rw [hoa, hob] at ho
   simp only [Bool.and_eq_true, Bool.not_eq_true'] at ho
   obtain ⟨has, hk⟩ := ho
   obtain ⟨n, x, hx, eb⟩ := own_eval (E := E) (D := D) hob
   obtain ⟨_, h1⟩ := evT_of h1
   rw [softL_put has, Option.bind_eq_some_iff] at h1
   obtain ⟨p, e1, h1⟩ := h1
   have hd : a.dst ≠ some k := fun e => (hab k e).1 (own_looks hob)
   rw [eb] at h2
   obtain ⟨o, c, q1, q2, rfl⟩ := h2
   rw [put_fr h1 hd] at q1
   rw [put_ob h1 hd, so_congr x (fr' := st.fr) (fun i hi => put_fr h1 (fun e => (hab i e).1 (hx i hi)))] at q2
   refine ⟨_, (eb _ _).2 ⟨o, c, q1, q2, rfl⟩, evT_mk (by unfold okS; rw [own_soft has]) ?_⟩
   rw [softL_put has]
   simp only [mask_upd hk, e1, Option.bind_some]
   exact put_upd hd h1
theorem keep {l : SL} {st s : St} (h : evalL E (some D) l st = some s) {i : Nat} (hi : l.dst ≠ some i) : s.fr i = st.fr i ∨ s.fr i = .undef := by
 cases hh : l.op.hard with
 | false => exact .inl (soft_fr hh h hi)
 | true =>
  have hset : ∀ (st : St) (d : Option Nat) (v : SV), d ≠ some i → (st.set d v).fr i = st.fr i := by
   intro st d v hd
   cases d with
   | none => rfl
   | some d => exact upd_ne _ _ (fun e => hd (by rw [e]))
  have hkill : ∀ (L : List Nat) (v : SV), killSV L v = v ∨ killSV L v = .undef := by
   intro L v
   cases v <;> simp only [killSV] <;> first
    | exact .inl trivial
    | exact .inl rfl
    | (split <;> first | exact .inl rfl | exact .inr rfl)
  rw [evalL_gd, Option.bind_eq_some_iff] at h
  obtain ⟨t, _, h⟩ := h
  split at h
  case isFalse => cases h; exact .inl (hset _ _ _ hi)
  cases hop : l.op <;> simp only [hop, SOp.hard, Bool.false_eq_true] at hh <;> simp only [hop, evalOp, SOp.cls] at h
  case append e size bytes x y =>
   rw [app_form, Option.map_eq_some_iff] at h
   obtain ⟨p, _, rfl⟩ := h
   unfold grown
   rw [hset _ _ _ hi]
   exact hkill _ _
  case mcopy f x y =>
   unfold copyOp at h
   repeat' split at h
   all_goals first
    | (cases h; done)
    | (cases h; exact .inl (hset _ _ _ hi))
  all_goals
   simp only [effOp] at h
   try (cases h; done)
   repeat' split at h
   all_goals first
    | (cases h; done)
    | (cases h; exact .inl rfl)
    | (cases h; exact .inl (hset _ _ _ hi))
    | skip
  all_goals
   rw [Option.bind_eq_some_iff] at h
   obtain ⟨_, _, h⟩ := h
   split at h
   ·cases h; exact .inl rfl
   ·cases h
def lsT (E : Env) (A D : List Nat) : List SL → St → Option St
 | [], st => some st
 | l :: ls, st => (evT E A D l st).bind (lsT E A D ls)
def seqT (E : Env) (A D : List Nat) (ls : List SL) : List Nat → St → Option St
 | [], st => some st
 | i :: is, st => match ls[i]? with
  | some l => (evT E A D l st).bind (seqT E A D ls is)
  | none => none
theorem own_run : ∀ (ls : List SL) (m : List Nat) {st s : St}, (∀ a ∈ m, st.fr a = .ptr a 0 ∨ st.fr a = .undef) → ownOk A m ls = true → evalLs E (some D) ls st = some s → lsT E A D ls st = some s
 | [], _, _, _, _, _, h => h
 | l :: ls, m, st, s, hm, hk, h => by
  simp only [evalLs, Option.bind_eq_some_iff] at h
  obtain ⟨s1, h1, h2⟩ := h
  simp only [ownOk, Bool.and_eq_true] at hk
  obtain ⟨k1, k2⟩ := hk
  have hok : okS A l st = true := by
   unfold okS
   cases hl : l.own A with
   | none => rfl
   | some a =>
    rw [hl] at k1
    simp only [List.contains_iff_mem] at k1
    rcases hm a k1 with e | e
    ·simp [e]
    ·exfalso
     obtain ⟨n, x, g1, g2⟩ := own_op hl
     simp only [evalL, g2, g1, evalOp, SOp.cls, effOp] at h1
     rw [show so E.G st.fr (.t a) = .undef from e] at h1
     cases h1
  simp only [lsT, evT_mk hok h1, Option.bind_some]
  refine own_run ls _ ?_ k2 h2
  have hkeep : ∀ a ∈ m, l.dst ≠ some a → s1.fr a = .ptr a 0 ∨ s1.fr a = .undef := by
   intro a ha hd
   rcases keep h1 hd with e | e
   ·rw [e]; exact hm a ha
   ·exact .inr e
  intro a ha
  unfold nextA at ha
  split at ha
  ·rename_i z d g1 g2 g3
   by_cases had : a = d
   ·subst had
    simp only [evalL, g2, g1, evalOp, SOp.cls, newOp, Option.bind_some, g3, Option.getD_some, addNew] at h1
    split at h1
    ·cases h1
     exact .inl (upd_same _ _ _)
    ·cases h1
   ·rcases List.mem_cons.1 ha with e | e
    ·exact (had e).elim
    ·exact hkeep a e (fun hh => had (by rw [g3] at hh; cases hh; rfl))
  ·rename_i d g2 g1
   rw [List.mem_filter] at ha
   exact hkeep a ha.1 (fun hh => by rw [g2] at hh; cases hh; simp at ha)
  ·rename_i g1
   exact hkeep a ha (fun hh => by rw [g1] at hh; cases hh)
theorem seqT_seq {ls : List SL} : ∀ (is : List Nat) {st s : St}, seqT E A D ls is st = some s → evalSeq E (some D) ls is st = some s
 | [], _, _, h => h
 | i :: is, st, s, h => by
  simp only [seqT, evalSeq] at h ⊢
  split at h
  ·rename_i l hl
   rw [Option.bind_eq_some_iff] at h
   obtain ⟨s1, h1, h2⟩ := h
   simp only [hl, (evT_of h1).2, Option.bind_some]
   exact seqT_seq is h2
  ·cases h
theorem lsT_seq : ∀ (ls : List SL) (pre : List SL) (st : St), seqT E A D (pre ++ ls) (List.range' pre.length ls.length) st = lsT E A D ls st
 | [], _, _ => rfl
 | l :: ls, pre, st => by
  have h := lsT_seq ls (pre ++ [l])
  simp only [List.length_append, List.length_cons, List.length_nil, List.append_assoc, List.cons_append, List.nil_append] at h
  simp only [List.length_cons, List.range'_succ, seqT, lsT]
  rw [show (pre ++ l :: ls)[pre.length]? = some l by simp]
  simp only
  congr 1
  funext s
  exact h s
end
end WB
namespace WB
open Go Go.RowKit
theorem free_swap {E : Env} {D : List Nat} {a b : SL} {st s1 s2 : St} (hf : free D a b = true) (hDa : a.op.makes = true → ∀ j, a.dst = some j → D.contains j = true) (hDb : b.op.makes = true → ∀ j, b.dst = some j → D.contains j = true)
  (h1 : evalL E (some D) a st = some s1) (h2 : evalL E (some D) b s1 = some s2) : ∃ s, evalL E (some D) b st = some s ∧ evalL E (some D) a s = some s2 := by
 simp only [free, Bool.and_eq_true, Bool.or_eq_true, Bool.not_eq_true'] at hf
 obtain ⟨⟨g1, g2⟩, g4⟩ := hf
 have hab : ∀ i, a.dst = some i → i ∉ b.looks ∧ b.dst ≠ some i := by
  intro i hi
  simp only [hi, Option.all_some, Bool.and_eq_true, Bool.not_eq_true', bne_iff_ne] at g1
  exact ⟨fun hm => by have := g1.1; simp [hm] at this, g1.2⟩
 have hba : ∀ i, b.dst = some i → i ∉ a.looks := by
  intro i hi hm
  simp [hi, hm] at g2
 rcases g4 with ⟨g3, (⟨⟨g4, m1⟩, m2⟩ | ⟨g4, g5⟩) | ⟨g4, g5⟩⟩ | ⟨⟨⟨g3, g5⟩, g4⟩, g6⟩
 ·exact swap_soft g3 g4 (fun hm j hj => by simpa [hm, hj] using m1) (fun hm j hj => by simpa [hm, hj] using m2) hab hba h1 h2
 ·exact swap_entry g5 g4 hab hba h1 h2
 ·exact swap_store g5 g4 hab hba h1 h2
 ·exact swap_grow g3 (by simpa using g5) g4 (by simpa using g6) hab hba h1 h2
def drawOkO (P : Program) (ops : Array Oper) (A D : List Nat) (ls : List SL) : Bool :=
 P.follows .mixedOrders && ownOk A [] ls &&
 (ops.toList.zipIdx.all fun p => p.1.after.all fun e => !(Region.binds .any e) || decide (e.on < p.2)) &&
 (ls.all fun l => !l.op.makes || l.dst.all fun d => D.contains d) &&
 ((List.range ls.length).all fun j => (List.range j).all fun i => ((masksB ops ls.length).getD j 0).testBit i || match ls[i]?, ls[j]? with
   | some x, some y => freeO A D x y
   | _, _ => false)
theorem free_swapO {E : Env} {A D : List Nat} {a b : SL} {st s1 s2 : St} (hf : freeO A D a b = true) (hDa : a.op.makes = true → ∀ j, a.dst = some j → D.contains j = true) (hDb : b.op.makes = true → ∀ j, b.dst = some j → D.contains j = true)
  (h1 : evT E A D a st = some s1) (h2 : evT E A D b s1 = some s2) : ∃ s, evT E A D b st = some s ∧ evT E A D a s = some s2 := by
 simp only [freeO, Bool.or_eq_true] at hf
 rcases hf with hf | hf
 ·obtain ⟨k1, e1⟩ := evT_of h1
  obtain ⟨k2, e2⟩ := evT_of h2
  obtain ⟨s, g1, g2⟩ := free_swap hf hDa hDb e1 e2
  simp only [free, Bool.and_eq_true, Bool.or_eq_true, Bool.not_eq_true'] at hf
  obtain ⟨⟨q1, q2⟩, q4⟩ := hf
  have hoa : a.own A = none := by
   rcases q4 with ⟨q3, _⟩ | ⟨⟨⟨q3, _⟩, _⟩, _⟩
   ·exact own_soft q3
   ·cases ha : a.own A with
    | none => rfl
    | some k =>
     obtain ⟨n, x, h, _⟩ := own_op ha
     rw [h] at q3
     cases q3
  refine ⟨s, evT_mk (okS_of (fun k hk => ?_) k2) g1, evT_mk (by unfold okS; rw [hoa]) g2⟩
  obtain ⟨n, x, h, _⟩ := own_op hk
  have hah : a.op.hard = false := by
   rcases q4 with ⟨q3, _⟩ | ⟨⟨⟨_, _⟩, q3⟩, _⟩
   ·exact q3
   ·rw [h] at q3
    cases q3
  refine (soft_fr hah e1 fun hd => ?_).symm
  simp only [hd, Option.all_some, Bool.and_eq_true, Bool.not_eq_true', bne_iff_ne] at q1
  have := q1.1
  simp [own_looks hk] at this
 ·simp only [Bool.and_eq_true] at hf
  obtain ⟨⟨q1, q2⟩, q4⟩ := hf
  have hab : ∀ i, a.dst = some i → i ∉ b.looks ∧ b.dst ≠ some i := by
   intro i hi
   simp only [hi, Option.all_some, Bool.and_eq_true, Bool.not_eq_true', bne_iff_ne] at q1
   exact ⟨fun hm => by have := q1.1; simp [hm] at this, q1.2⟩
  have hba : ∀ i, b.dst = some i → i ∉ a.looks := by
   intro i hi hm
   simp [hi, hm] at q2
  exact swap_own hab hba q4 h1 h2
def left (n : Nat) (L : Array Bool) : List Nat := (List.range n).filter fun i => !L.getD i true
inductive Good (ops : Array Oper) : Array Bool → List Nat → Prop where
 | nil {L : Array Bool} : left ops.size L = [] → Good ops L []
 | cons {L : Array Bool} {i : Nat} {is : List Nat} : i < ops.size → L.getD i true = false → (∀ o, ops[i]? = some o → ∀ e ∈ o.after, Region.binds .any e = true → L.getD e.on false = true) → Good ops (L.setIfInBounds i true) is → Good ops L (i :: is)
theorem getD_set (L : Array Bool) (i j : Nat) (b : Bool) (hi : L.getD i true = false) : (L.setIfInBounds i true).getD j b = if j = i then true else L.getD j b := by
 have hlt : i < L.size := by
  rw [Array.getD_eq_getD_getElem?] at hi
  by_cases h : i < L.size
  ·exact h
  ·simp [Array.getElem?_eq_none (Nat.le_of_not_lt h)] at hi
 simp only [Array.getD_eq_getD_getElem?, Array.getElem?_setIfInBounds]
 by_cases h : j = i
 ·subst h; simp [hlt]
 ·have h' : ¬ i = j := fun e => h e.symm
  simp [h, h']
theorem left_set (n : Nat) (L : Array Bool) (i : Nat) (hin : i < n) (hi : L.getD i true = false) : ∃ p q, left n L = p ++ i :: q ∧ left n (L.setIfInBounds i true) = p ++ q ∧ ∀ j ∈ p, j < i ∧ L.getD j true = false := by
 have hr : List.range n = List.range i ++ i :: List.range' (i + 1) (n - i - 1) := by
  rw [List.range_eq_range', List.range_eq_range', show n = i + ((n - i - 1) + 1) by omega, ← List.range'_append_1, List.range'_succ]
  simp
 refine ⟨(List.range i).filter fun j => !L.getD j true, (List.range' (i + 1) (n - i - 1)).filter fun j => !L.getD j true, ?_, ?_, ?_⟩
 ·simp only [left, hr, List.filter_append, List.filter_cons, hi, Bool.not_false, if_true]
 ·simp only [left, hr, List.filter_append, List.filter_cons, getD_set L i _ _ hi, if_true, Bool.not_true, Bool.false_eq_true, if_false]
  congr 1
  ·apply List.filter_congr
   intro j hj
   rw [if_neg (by have := List.mem_range.1 hj; omega)]
  ·apply List.filter_congr
   intro j hj
   rw [if_neg (by have := (List.mem_range'_1.1 hj).1; omega)]
 ·intro j hj
  rw [List.mem_filter, List.mem_range] at hj
  exact ⟨hj.1, by simpa using hj.2⟩
section
variable {P : Program} {E : Env} {n : Nat} {ops : Array Oper} {A D : List Nat} {ls : List SL}
theorem move_front {i : Nat} {b : SL} (hb : ls[i]? = some b) (hDb : b.op.makes = true → ∀ j, b.dst = some j → D.contains j = true) (q : List Nat) : ∀ (p : List Nat) {st st' : St}, (∀ k ∈ p, ∀ l, ls[k]? = some l → l.op.makes = true → ∀ j, l.dst = some j → D.contains j = true) → (∀ j ∈ p, ∃ a, ls[j]? = some a ∧ freeO A D a b = true) → seqT E A D ls (p ++ i :: q) st = some st' → seqT E A D ls (i :: (p ++ q)) st = some st'
 | [], _, _, _, _, h => h
 | j :: p, st, st', hD, hf, h => by
  obtain ⟨a, ha, hfr⟩ := hf j (by simp)
  simp only [List.cons_append, seqT, ha, Option.bind_eq_some_iff] at h
  obtain ⟨s1, h1, h2⟩ := h
  have h3 := move_front hb hDb q p (fun k hk => hD k (by simp [hk])) (fun j hj => hf j (by simp [hj])) h2
  simp only [seqT, hb, Option.bind_eq_some_iff] at h3
  obtain ⟨s2, h3, h4⟩ := h3
  obtain ⟨s, g1, g2⟩ := free_swapO hfr (hD j (by simp) a ha) hDb h1 h3
  simp only [List.cons_append, seqT, hb, ha, g1, g2, Option.bind_some, h4]
theorem anc_listed {L : Array Bool} (hdown : ∀ i o, L.getD i false = true → ops[i]? = some o → ∀ e ∈ o.after, Region.binds .any e = true → L.getD e.on false = true) : ∀ (k i j : Nat), (∀ o, ops[j]? = some o → ∀ e ∈ o.after, Region.binds .any e = true → L.getD e.on false = true) → ancB ops k i j = true → L.getD i false = true
 | 0, _, _, _, h => by cases h
 | k + 1, i, j, hj, h => by
  simp only [ancB] at h
  split at h <;> try (cases h; done)
  rename_i o ho
  rw [Array.any_eq_true'] at h
  obtain ⟨e, he, h⟩ := h
  simp only [Bool.and_eq_true, Bool.or_eq_true, beq_iff_eq, decide_eq_true_eq] at h
  obtain ⟨hb, h⟩ := h
  have hl := hj o ho e he hb
  rcases h with h | ⟨_, h⟩
  ·rw [← h]; exact hl
  ·exact anc_listed hdown k i e.on (fun o' ho' => hdown e.on o' hl ho') h
theorem good_run (hlen : ls.length = ops.size)
  (hfree : ∀ j < ls.length, ∀ i < j, ancB ops ls.length i j = true ∨ ∃ x y, ls[i]? = some x ∧ ls[j]? = some y ∧ freeO A D x y = true) {L : Array Bool} {is : List Nat} (hg : Good ops L is) :
  (∀ i o, L.getD i false = true → ops[i]? = some o → ∀ e ∈ o.after, Region.binds .any e = true → L.getD e.on false = true) → L.size = ops.size → (∀ k ∈ left ops.size L, ∀ l, ls[k]? = some l → l.op.makes = true → ∀ j, l.dst = some j → D.contains j = true) → ∀ {st st' : St}, seqT E A D ls (left ops.size L) st = some st' → seqT E A D ls is st = some st' := by
 induction hg with
 | nil h =>
  intro _ _ _ st st' hv
  rw [h] at hv; exact hv
 | @cons L i is hi hL he hg ih =>
  intro hdown hsz hD st st' hv
  obtain ⟨p, q, e1, e2, e3⟩ := left_set ops.size L i hi hL
  have hb : ls[i]? = some (ls[i]'(by omega)) := List.getElem?_eq_getElem _
  rw [e1] at hv hD
  have hv' := move_front hb (hD i (by simp) _ hb) q p (fun k hk => hD k (by simp [hk])) (fun j hj => by
   obtain ⟨hji, hjL⟩ := e3 j hj
   rcases hfree i (by omega) j hji with ha | ⟨x, y, hx, hy, hf⟩
   ·have := anc_listed hdown _ j i he ha
    have hjs : j < L.size := by omega
    simp [Array.getD_eq_getD_getElem?, Array.getElem?_eq_getElem hjs] at this hjL
    rw [this] at hjL
    cases hjL
   ·rw [hb] at hy
    cases hy
    exact ⟨x, hx, hf⟩) hv
  simp only [seqT, hb, Option.bind_eq_some_iff] at hv' ⊢
  obtain ⟨s, h1, h2⟩ := hv'
  refine ⟨s, h1, ih ?_ (by simp [hsz]) (by rw [e2]; intro k hk; exact hD k (by rcases List.mem_append.1 hk with hk | hk <;> simp [hk])) (by rw [e2]; exact h2)⟩
  intro k o hk ho e hem heb
  rw [getD_set L i _ _ hL] at hk ⊢
  split
  ·rfl
  ·split at hk
   ·rename_i e'; subst e'; exact he o ho e hem heb
   ·exact hdown k o hk ho e hem heb
theorem ready_some {L : Array Bool} (hback : ∀ i o, ops[i]? = some o → ∀ e ∈ o.after, Region.binds .any e = true → e.on < i) (hsz : L.size = ops.size) (h : left ops.size L ≠ []) : Region.ready .any ops L ≠ [] := by
 cases hl : left ops.size L with
 | nil => exact (h hl).elim
 | cons i q =>
  have hmem : i ∈ left ops.size L := by rw [hl]; simp
  have hmem' := hmem
  simp only [left, List.mem_filter, List.mem_range] at hmem'
  obtain ⟨hi, hiL⟩ := hmem'
  have hiL : L.getD i true = false := by simpa using hiL
  obtain ⟨p, q', e1, _, e3⟩ := left_set ops.size L i hi hiL
  have hp : p = [] := by
   cases p with
   | nil => rfl
   | cons j p =>
    rw [hl] at e1
    simp only [List.cons_append, List.cons.injEq] at e1
    have := (e3 j (by simp)).1
    omega
  subst hp
  have hmin : ∀ j, j < i → L.getD j false = true := by
   intro j hj
   have hjs : j < L.size := by omega
   cases hv : L.getD j false with
   | true => rfl
   | false =>
    exfalso
    have hjm : j ∈ left ops.size L := by
     simp only [left, List.mem_filter, List.mem_range]
     refine ⟨by omega, ?_⟩
     simp [Array.getD_eq_getD_getElem?, Array.getElem?_eq_getElem hjs] at hv ⊢
     exact hv
    rw [e1] at hjm
    have hsorted : (left ops.size L).Pairwise (· < ·) := List.Pairwise.filter _ List.pairwise_lt_range
    rw [e1, List.nil_append, List.pairwise_cons] at hsorted
    simp only [List.nil_append, List.mem_cons] at hjm
    rcases hjm with hjm | hjm
    ·omega
    ·have := hsorted.1 j hjm; omega
  intro hr
  have : i ∈ Region.ready .any ops L := by
   simp only [Region.ready, List.mem_filter, List.mem_range]
   refine ⟨hi, ?_⟩
   have ho : ops[i]? = some (ops[i]'hi) := Array.getElem?_eq_getElem hi
   simp only [hiL, Bool.not_false, ho, Option.map_some, Option.getD_some, Bool.true_and, Array.all_eq_true']
   intro e he
   cases hb : Region.binds .any e with
   | false => rfl
   | true => simp [hmin e.on (hback i _ ho e he hb)]
  rw [hr] at this
  cases this
theorem lin_good (hback : ∀ i o, ops[i]? = some o → ∀ e ∈ o.after, Region.binds .any e = true → e.on < i) : ∀ (fuel t : Nat) (L : Array Bool), L.size = ops.size → (left ops.size L).length ≤ fuel → Good ops L (Region.linearise.go .any ops fuel t L [])
 | 0, t, L, hsz, hf => by
  have : left ops.size L = [] := List.eq_nil_of_length_eq_zero (by omega)
  simpa [Region.linearise.go] using Good.nil this
 | fuel + 1, t, L, hsz, hf => by
  simp only [Region.linearise.go]
  change Good ops L (match (Region.ready .any ops L)[t % (Region.ready .any ops L).length]? with
   | some i => Region.linearise.go .any ops fuel (t / (Region.ready .any ops L).length) (L.setIfInBounds i true) [i]
   | none => [].reverse)
  by_cases hl : left ops.size L = []
  ·have hr : Region.ready .any ops L = [] := by
    cases hr : Region.ready .any ops L with
    | nil => rfl
    | cons j js =>
     exfalso
     have hj : j ∈ Region.ready .any ops L := by rw [hr]; simp
     simp only [Region.ready, List.mem_filter, List.mem_range, Bool.and_eq_true] at hj
     have : j ∈ left ops.size L := by
      simp only [left, List.mem_filter, List.mem_range]
      exact ⟨hj.1, hj.2.1⟩
     rw [hl] at this
     cases this
   simpa [hr] using Good.nil hl
  ·have hr := ready_some hback hsz hl
   have hlt : t % (Region.ready .any ops L).length < (Region.ready .any ops L).length := Nat.mod_lt _ (List.length_pos_iff.2 hr)
   rw [List.getElem?_eq_getElem hlt]
   generalize hi : (Region.ready .any ops L)[t % (Region.ready .any ops L).length] = i
   have him : i ∈ Region.ready .any ops L := by rw [← hi]; exact List.getElem_mem _
   simp only [Region.ready, List.mem_filter, List.mem_range, Bool.and_eq_true, Bool.not_eq_true'] at him
   obtain ⟨h1, h2, h3⟩ := him
   simp only
   rw [linearise_go_acc, List.reverse_singleton, List.singleton_append]
   obtain ⟨p, q, e1, e2, _⟩ := left_set ops.size L i h1 h2
   refine .cons h1 h2 ?_ (lin_good hback fuel _ _ (by simp [hsz]) ?_)
   ·intro o ho e he hb
    rw [ho] at h3
    simp only [Option.map_some, Option.getD_some, Array.all_eq_true'] at h3
    have := h3 e he
    simpa [hb] using this
   ·rw [e1] at hf
    rw [e2]
    simp only [List.length_append, List.length_cons] at hf ⊢
    omega
theorem evalLs_seq (E : Env) (D : Option (List Nat)) : ∀ (ls : List SL) (pre : List SL) (st : St), evalSeq E D (pre ++ ls) (List.range' pre.length ls.length) st = evalLs E D ls st
 | [], _, _ => rfl
 | l :: ls, pre, st => by
  have h := evalLs_seq E D ls (pre ++ [l])
  simp only [List.length_append, List.length_cons, List.length_nil, List.append_assoc, List.cons_append, List.nil_append] at h
  simp only [List.length_cons, List.range'_succ, evalSeq, evalLs]
  rw [show (pre ++ l :: ls)[pre.length]? = some l by simp]
  simp only
  congr 1
  funext s
  exact h s
theorem draw_order (hc : allM (compL P n ops) ops.toList = some ls) (hd : drawOkO P ops A D ls = true) {st st' : St} (hv : evalLs E (some D) ls st = some st') (t : Nat) :
  evalSeq E (some D) ls (Region.schedule (P.follows .mixedOrders) ops t) st = some st' := by
 have hlen : ls.length = ops.size := by rw [allM_length hc]; simp
 simp only [drawOkO, Bool.and_eq_true] at hd
 obtain ⟨⟨⟨⟨hm, hown⟩, hback⟩, hmk⟩, hfr⟩ := hd
 have hv := own_run ls [] (by simp) hown hv
 refine seqT_seq (A := A) _ ?_
 simp only [Region.schedule, hm, Bool.true_or, if_true, Region.linearise]
 have hleft : left ops.size (Array.replicate ops.size false) = List.range ops.size := by
  simp only [left]
  rw [List.filter_eq_self]
  intro i hi
  have := List.mem_range.1 hi
  simp [Array.getD_eq_getD_getElem?, this]
 have hback' : ∀ i o, ops[i]? = some o → ∀ e ∈ o.after, Region.binds .any e = true → e.on < i := by
  intro i o ho e he hb
  rw [List.all_eq_true] at hback
  have hmem : (o, i) ∈ ops.toList.zipIdx := by
   rw [List.mem_zipIdx_iff_getElem?]
   simpa using ho
  have := hback _ hmem
  rw [Array.all_eq_true'] at this
  have := this e he
  simpa [hb] using this
 refine good_run hlen ?_ (lin_good hback' ops.size t _ (by simp) (by rw [hleft]; simp)) ?_ (by simp) ?_ ?_
 ·intro j hj i hij
  rw [List.all_eq_true] at hfr
  have := hfr j (List.mem_range.2 hj)
  rw [List.all_eq_true] at this
  have := this i (List.mem_range.2 hij)
  rw [Bool.or_eq_true] at this
  rcases this with h | h
  ·rw [masksB_at ops hj] at h
   exact .inl (maskB_ok ops hj h)
  ·refine .inr ?_
   split at h
   ·rename_i x y hx hy; exact ⟨x, y, hx, hy, h⟩
   ·cases h
 ·intro i o hi
  exfalso
  rw [Array.getD_eq_getD_getElem?, Array.getElem?_replicate] at hi
  split at hi <;> cases hi
 ·intro k _ l hl hmake j hj
  rw [List.all_eq_true] at hmk
  have := hmk l (List.mem_of_getElem? hl)
  simpa [hmake, hj] using this
 ·rw [hleft, List.range_eq_range', ← hlen]
  have := lsT_seq (E := E) (A := A) (D := D) ls [] st
  simp only [List.nil_append, List.length_nil] at this
  rw [this]; exact hv
end
end WB

