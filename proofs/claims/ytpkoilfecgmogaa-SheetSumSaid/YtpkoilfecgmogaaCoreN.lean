/-
  THE OWN LAYER, N: operations that make an object.
-/
import Derived.Test.YtpkoilfecgmogaaCoreM
namespace WB
open Go Go.RowKit

section
variable {P : Program} {G : Nat → List CV} {w0 : World} {M0 : Nat → Prop} {n : Nat} {st : St} {a : Act} {w : World} {z : Cz}

theorem RelF_of_list {M : Nat → Prop} {size : Nat} : ∀ {cs : List CV} {vs : List Value}, RelL w M cs vs → (cs.all fun v => cellsN v == size) = true → RelF w M size cs (vs.flatMap fun v => v.cells.toList)
  | [], vs, h, _ => by unfold RelL at h; subst h; rfl
  | c :: cs, vs, h, hs => by
    unfold RelL at h
    obtain ⟨v, vs', rfl, h1, h2⟩ := h
    simp only [List.all_cons, Bool.and_eq_true, beq_iff_eq] at hs
    exact ⟨v, _, by simp, by rw [h1.cells_size, hs.1], h1, RelF_of_list h2 hs.2⟩

theorem madeCells_cons (zc : Array Value) (n : Nat) : (madeCells zc ((n + 1) * zc.size)).toList = zc.toList ++ (madeCells zc (n * zc.size)).toList := by
  have e : (n + 1) * zc.size = zc.size + n * zc.size := by rw [Nat.add_mul]; omega
  rw [e]
  simp only [madeCells, Array.toList_map, Array.toList_range, List.range_add, List.map_append, List.map_map]
  congr 1
  · apply List.ext_getElem
    · simp
    · intro i h1 h2
      simp at h1
      simp [Nat.mod_eq_of_lt h1, h1]
  · apply List.map_congr_left
    intro i _
    simp

theorem RelF_made {M : Nat → Prop} {c : CV} {v : Value} (h : RelC w M c v) {size : Nat} (hs : v.cells.size = size) : ∀ n, RelF w M size (List.replicate n c) (madeCells v.cells (n * size)).toList
  | 0 => by simp [RelF, madeCells]
  | n + 1 => by
    subst hs
    rw [List.replicate_succ, madeCells_cons]
    exact ⟨v, _, rfl, rfl, h, RelF_made h rfl n⟩

theorem take_made (zc : Array Value) {a b : Nat} (h : a ≤ b) : (madeCells zc b).toList.take a = (madeCells zc a).toList := by
  simp only [madeCells, Array.toList_map, Array.toList_range, ← List.map_take, List.take_range, Nat.min_eq_left h]

theorem seqParts_run (h : SR P G w0 M0 n st a w z) : ∀ {parts : List (Nat × Operand)} {i : Nat} {xs : List SO} {l : List CV}, seqParts i parts = some xs → allM (fun x => closed (so G st.fr x)) xs = some l →
    ∃ vs : List Value, (parts.map fun p => (p.1, a.eval p.2)) = (List.range' i vs.length).zip vs ∧ RelL w (mutb M0 z st.ob) l vs
  | [], i, xs, l, h1, h2 => by
    simp only [seqParts, Option.some.injEq] at h1; subst h1
    simp only [allM, Option.some.injEq] at h2; subst h2
    exact ⟨[], rfl, RelL.nil⟩
  | (j, x) :: parts, i, xs, l, h1, h2 => by
    simp only [seqParts, Option.ite_none_right_eq_some, Option.bind_eq_some_iff, Option.map_eq_some_iff] at h1
    obtain ⟨rfl, sx, hsx, ss, hss, rfl⟩ := h1
    simp only [allM, Option.bind_eq_some_iff, Option.map_eq_some_iff] at h2
    obtain ⟨c, hc, cs, hcs, rfl⟩ := h2
    obtain ⟨vs, e1, e2⟩ := seqParts_run h hss hcs
    have hcl : so G st.fr sx = .c c := by
      cases hh : so G st.fr sx <;> rw [hh] at hc <;> simp [closed] at hc
      rw [hc]
    exact ⟨a.eval x :: vs, by simp [e1, List.range'_succ], RelL.cons (h.ctx.c hsx hcl) e2⟩

theorem fill_seq {size : Nat} : ∀ (vs : List Value) (k : Nat) (pre rest : List Value), pre.length = k * size → rest.length = vs.length * size → (∀ v ∈ vs, v.cells.size = size) →
    Instr.fill (fun i => some (i * size, size)) ⟨pre ++ rest⟩ ((List.range' k vs.length).zip vs) = some ⟨pre ++ vs.flatMap fun v => v.cells.toList⟩
  | [], k, pre, rest, _, h2, _ => by
    have : rest = [] := List.eq_nil_of_length_eq_zero (by simpa using h2)
    subst this
    rfl
  | v :: vs, k, pre, rest, h1, h2, h3 => by
    have hv := h3 v (by simp)
    simp only [List.length_cons, List.range'_succ, List.zip_cons_cons, Instr.fill]
    rw [if_neg (by simp [hv, h1, h2, Nat.add_mul])]
    have hfold : (v.cells.zipIdx.foldl (fun (cs : Array Value) (p : Value × Nat) => cs.setIfInBounds (k * size + p.2) p.1) (⟨pre ++ rest⟩ : Array Value)) = ⟨(pre ++ v.cells.toList) ++ rest.drop size⟩ := by
      apply Array.toList_inj.1
      rw [← Array.foldl_toList, Array.toList_zipIdx]
      have := fold_set v.cells.toList ⟨pre ++ rest⟩ (k * size) 0 (by simp [hv, h1, h2, Nat.add_mul])
      rw [this]
      simp [hv, ← h1, List.drop_append]
    have ih := fill_seq vs (k + 1) (pre ++ v.cells.toList) (rest.drop size) (by simp [h1, hv, Nat.add_mul]) (by simp [h2, Nat.add_mul]) (fun u hu => h3 u (by simp [hu]))
    have e : (v.cells.zipIdx.foldl (fun (cs : Array Value) (x : Value × Nat) => match x with | (c, j) => cs.setIfInBounds (k * size + j) c) (⟨pre ++ rest⟩ : Array Value)) = ⟨(pre ++ v.cells.toList) ++ rest.drop size⟩ := hfold
    rw [e, ih]
    simp

/-- The operation makes an object. -/
def Makes (P : Program) (G : Nat → List CV) (w0 : World) (M0 : Nat → Prop) (n : Nat) (st : St) (a : Act) (w : World) (o : Oper) (d : Nat) (sv : SV) (ob : Ob) : Prop :=
  ∃ v w' z', (execOp a.eval o).run P w = .ok (.value v) w' ∧ SR P G w0 M0 n { fr := upd st.fr d sv, ob := upd st.ob d ob } (a.put (some d) v) w' z'

theorem makes_of (h : SR P G w0 M0 n st a w z) {o : Oper} {d : Nat} (hd : d < n) (hn : st.ob d = .none) {sv : SV} {ob : Ob} {s : Sem Value} {v : Value} {w' : World} (he : execOp a.eval o = (do pure (.value (← s)) : Sem Next)) (hr : s.run P w = .ok v w')
    (hb : Below w.heap.size w w') (hv : ∀ g, blk v = some g → w.heap.size ≤ g ∧ g < w'.heap.size)
    (hk : Keeps w (mutb M0 z st.ob) w' (mutb M0 (z.new d v) (upd st.ob d ob)) → (∀ s, KeepsZ st.ob z (upd st.ob d ob) (z.new d v) s) → RelO P w' (mutb M0 (z.new d v) (upd st.ob d ob)) w0.heap.size (z.new d v) (upd st.ob d ob) d v ob ∧ RelS w' (mutb M0 (z.new d v) (upd st.ob d ob)) (z.new d v) (upd st.ob d ob) sv v) :
    Makes P G w0 M0 n st a w o d sv ob := by
  have k1 := keeps_new (M0 := M0) (z := z) (o := ob) hn hb (fun g hg => (hv g hg).1)
  obtain ⟨h1, h2⟩ := hk k1 (keepsZ_new hn)
  exact ⟨v, w', z.new d v, by rw [he]; simp [hr], h.new hd hn hb hv h1 h2⟩

theorem live_upd {d : Nat} {ob : Ob} (h : ob ≠ .none) : upd st.ob d ob d ≠ .none := by rw [upd_same]; exact h
theorem new_σ {d : Nat} {v : Value} : (z.new d v).σ d = v := by simp [Cz.new, upd]

/-- A row of plain cells, or a variable. -/
theorem makes_box (h : SR P G w0 M0 n st a w z) {o : Oper} {d : Nat} (hd : d < n) (hn : st.ob d = .none) {cs : List SV} {t : TypeId} {vs : List Value} {s : Sem Value} (he : execOp a.eval o = (do pure (.value (← s)) : Sem Next))
    (hr : s.run P w = .ok (.pointer (some ⟨w.heap.size, 0, none⟩)) (w.alloc (.cells ⟨vs⟩ t))) (hs : RelSs w (mutb M0 z st.ob) z st.ob cs vs) : Makes P G w0 M0 n st a w o d (.ptr d 0) (.box cs) := by
  refine makes_of h hd hn he hr (below_alloc _ _) (fun g hg => ?_) fun hk hz => ⟨⟨w.heap.size, t, vs, rfl, alloc_new _ _, RelSs.keep hk (fun s _ => hz s) hs⟩, live_upd (by simp), w.heap.size, new_σ, rfl⟩
  simp only [blk, Option.some.injEq] at hg
  subst hg
  exact ⟨Nat.le_refl _, by simp⟩

theorem cells_live (h : SR P G w0 M0 n st a w z) {s : SV} {v : Value} (hs : RelS w (mutb M0 z st.ob) z st.ob s v) (hc : ∀ cs, s ≠ .c (.agg cs)) (hu : s ≠ .undef) : v.cells = #[v] := by
  have live : ∀ id, st.ob id ≠ .none → (z.σ id).cells = #[z.σ id] := by
    intro id hl
    have ho := h.ob id
    cases hob : st.ob id with
    | none => exact absurd hob hl
    | box cs => rw [hob] at ho; obtain ⟨g, ty, vs, e, _⟩ := ho; rw [e]; rfl
    | arr e size es =>
      rw [hob] at ho
      obtain ⟨xs, hown, _⟩ := ho
      rcases hown.2 with ⟨e, _⟩ | ⟨g, cap, cur, e, _⟩ <;> rw [e] <;> rfl
    | map mt kt zc ks vs => rw [hob] at ho; obtain ⟨_, r, ens, clk, e, _⟩ := ho; rw [e]; rfl
    | siter s pos => rw [hob] at ho; obtain ⟨r, e, _⟩ := ho; rw [e]; rfl
  cases s with
  | c cv => exact oneCell_of_RelC hs (fun cs e => hc cs (by rw [e]))
  | ptr id o => obtain ⟨_, g, _, e⟩ := hs; rw [e]; rfl
  | eptr id i sz o => obtain ⟨_, g, n, c, _, e⟩ := hs; rw [e]; rfl
  | osl id => obtain ⟨hl, e⟩ := hs; rw [e]; exact live id hl
  | omap id => obtain ⟨hl, e⟩ := hs; rw [e]; exact live id hl
  | iter id => obtain ⟨hl, e⟩ := hs; rw [e]; exact live id hl
  | stamp id k => obtain ⟨_, b, _, e⟩ := hs; rw [e]; rfl
  | ent id k cv => obtain ⟨_, b, u, _, e, _⟩ := hs; rw [e]; rfl
  | undef => exact absurd rfl hu

theorem compBin_cls {op : BinOp} {t : TypeId} {x y : Operand} {sop : SOp} (hc : compBin P op t x y = some sop) : sop.cls = .val := by
  unfold compBin at hc
  split at hc
  all_goals
    split at hc <;> first
      | (cases hc; done)
      | (simp only [Option.bind_eq_some_iff, Option.map_eq_some_iff] at hc; obtain ⟨_, _, _, _, rfl⟩ := hc; rfl)
      | (split at hc <;> first
        | (cases hc; done)
        | (simp only [Option.bind_eq_some_iff, Option.map_eq_some_iff] at hc; obtain ⟨_, _, _, _, _, _, rfl⟩ := hc; rfl))

theorem compConv_cls {src dst : TypeId} {x : Operand} {sop : SOp} (hc : compConv P src dst x = some sop) : sop.cls = .val ∨ sop.cls = .grow := by
  unfold compConv at hc
  split at hc <;> first
    | (cases hc; done)
    | (simp only [Option.map_eq_some_iff] at hc; obtain ⟨_, _, rfl⟩ := hc; exact .inl rfl)
    | (split at hc <;> first
      | (cases hc; done)
      | (simp only [Option.map_eq_some_iff] at hc; obtain ⟨_, _, rfl⟩ := hc; first | exact .inl rfl | exact .inr rfl))

theorem compCall_cls {c : Call} {sop : SOp} (hc : compCall P c = some sop) : sop.cls ≠ .new := by
  unfold compCall at hc
  split at hc <;> try (cases hc; done)
  · split at hc <;> first
      | (cases hc; done)
      | (simp only [Option.map_eq_some_iff] at hc; obtain ⟨_, _, rfl⟩ := hc; intro hh; cases hh)
      | (simp only [Option.some.injEq] at hc; subst hc; intro hh; cases hh)
  · simp only [Option.map_eq_some_iff] at hc; obtain ⟨_, _, rfl⟩ := hc; intro hh; cases hh
  · simp only [Option.map_eq_some_iff] at hc; obtain ⟨_, _, rfl⟩ := hc; intro hh; cases hh
  · split at hc <;> try (cases hc; done)
    split at hc <;> try (cases hc; done)
    simp only [Option.bind_eq_some_iff, Option.ite_none_right_eq_some, Option.some.injEq] at hc
    obtain ⟨i, _, zv, _, sa, _, sb, _, _, rfl⟩ := hc
    intro hh; cases hh
  · split at hc <;> try (cases hc; done)
    simp only [Option.map_eq_some_iff] at hc; obtain ⟨_, _, rfl⟩ := hc; intro hh; cases hh
  · simp only [Option.map_eq_some_iff] at hc; obtain ⟨_, _, rfl⟩ := hc; intro hh; cases hh

theorem new_sound (h : SR P G w0 M0 n st a w z) {o : Oper} {sop : SOp} (hc : compOp P o = some sop) (hcls : sop.cls = .new) {d : Nat} {sv : SV} {ob : Ob} (hv : newOp (so G st.fr) d sop = some (sv, ob)) (hd : d < n) (hn : st.ob d = .none) :
    Makes P G w0 M0 n st a w o d sv ob := by
  unfold compOp at hc
  split at hc <;> rename_i ho <;> try (cases hc; done)
  · simp only [Option.map_eq_some_iff] at hc; obtain ⟨_, _, rfl⟩ := hc; cases hcls
  · simp only [Option.map_eq_some_iff] at hc; obtain ⟨_, _, rfl⟩ := hc; cases hcls
  · simp only [Option.bind_eq_some_iff, Option.map_eq_some_iff] at hc; obtain ⟨_, _, _, _, _, _, rfl⟩ := hc; cases hcls
  · -- alloc
    rename_i t
    simp only [Option.bind_eq_some_iff, Option.map_eq_some_iff] at hc
    obtain ⟨i, hi, vz, hz, zc, hzc, rfl⟩ := hc
    simp only [newOp, Option.some.injEq, Prod.mk.injEq] at hv
    obtain ⟨rfl, rfl⟩ := hv
    refine makes_box h hd hn (t := t) (vs := vz.cells.toList) (s := Instr.alloc t true (.tuple #[])) (by simp only [execOp, ho]) ?_ (RelSs.of_c (RelC.cells (cvOf_rel _ _ vz zc hzc)))
    simp [Instr.alloc, run_zero hi hz, run_newVar]
  · -- box
    rename_i t x
    simp only [Option.map_eq_some_iff] at hc
    obtain ⟨sx, hx, rfl⟩ := hc
    have hr := h.ctx.opd hx
    simp only [newOp] at hv
    have run : (Instr.box t (a.eval x)).run P w = .ok (.pointer (some ⟨w.heap.size, 0, none⟩)) (w.alloc (.cells ⟨(a.eval x).cells.toList⟩ t)) := by
      simp [Instr.box, run_newVar]
    generalize so G st.fr sx = q at hr hv
    split at hv
    · rename_i cs
      simp only [Option.some.injEq, Prod.mk.injEq] at hv
      obtain ⟨rfl, rfl⟩ := hv
      exact makes_box h hd hn (by simp only [execOp, ho]) run (RelSs.of_c (RelC.cells hr))
    · cases hv
    · rename_i hne hnu
      simp only [Option.some.injEq, Prod.mk.injEq] at hv
      obtain ⟨rfl, rfl⟩ := hv
      have hcell := cells_live h hr hne hnu
      rw [hcell] at run
      exact makes_box h hd hn (by simp only [execOp, ho]) run ⟨a.eval x, [], rfl, hr, rfl⟩
  · simp only [Option.bind_eq_some_iff, Option.map_eq_some_iff] at hc; obtain ⟨_, _, _, _, _, _, _, _, rfl⟩ := hc; cases hcls
  · -- buildSlice
    rename_i t len parts
    split at hc <;> try (cases hc; done)
    rename_i e hu
    simp only [Option.bind_eq_some_iff, Option.ite_none_right_eq_some, Option.some.injEq] at hc
    obtain ⟨i, hi, vz, hz, zc, hzc, xs, hxs, ⟨hlen, h0, hsz, hle⟩, rfl⟩ := hc
    simp only [newOp, Option.bind_eq_some_iff, Option.ite_none_right_eq_some, Option.some.injEq, Prod.mk.injEq] at hv
    obtain ⟨l, hl, hall, rfl, rfl⟩ := hv
    obtain ⟨vs, e1, hrl⟩ := seqParts_run h hxs hl
    have hvz : vz.cells.size = i.size := by rw [(cvOf_rel w (fun _ => False) vz zc hzc).cells_size, hsz]
    have hvl : vs.length = len := by rw [hrl.length, allM_length hl, hlen]
    have hvs : ∀ v ∈ vs, v.cells.size = i.size := by
      intro v hvm
      obtain ⟨j, hj, hjv⟩ := List.getElem_of_mem hvm
      have hjc : l[j]? = some (l[j]'(by rw [← hrl.length]; exact hj)) := List.getElem?_eq_getElem _
      obtain ⟨v', g1, g2⟩ := hrl.get hjc
      have : v' = v := by rw [List.getElem?_eq_getElem hj] at g1; simpa [hjv] using g1.symm
      subst this
      rw [g2.cells_size]
      have := List.all_eq_true.1 hall _ (List.mem_of_getElem? hjc)
      simpa using this
    have hfill := fill_seq (size := i.size) vs 0 [] (madeCells vz.cells (len * i.size)).toList (by simp) (by simp [size_madeCells, hvl]) hvs
    have run : (Instr.buildSlice t len (parts.map fun (i, x) => (i, a.eval x))).run P w = .ok (.slice (some ⟨w.heap.size, 0, none⟩) len len) (w.alloc (.cells ⟨vs.flatMap fun v => v.cells.toList⟩ e)) := by
      have hp : (parts.map fun (p : Nat × Operand) => (p.1, a.eval p.2)).toList = (List.range' 0 vs.length).zip vs := by rw [Array.toList_map]; exact e1
      have hz0 : (madeCells vz.cells (len * i.size)) = (Array.range (len * i.size)).map (vz.cells[· % vz.cells.size]!) := rfl
      have hn24 : ¬ (16777216 < len * i.size) := by omega
      by_cases hnil : len * i.size = 0
      · have hl0 : len = 0 := by
          rcases Nat.eq_zero_or_pos len with h' | h'
          · exact h'
          · have := Nat.mul_pos h' h0; omega
        have hvn : vs = [] := List.eq_nil_of_length_eq_zero (by omega)
        subst hvn
        subst hl0
        have hpn : parts = #[] := by
          have : parts.toList = [] := by simpa using e1
          exact Array.toList_inj.1 (by simpa using this)
        subst hpn
        simp [Instr.buildSlice, run_underlying hu, run_sizeOf_some hi, Instr.fill, run_newRow]
        congr 2
        apply Array.toList_inj.1
        simp
      · have hf : Instr.fill (fun i_1 => some (i_1 * i.size, i.size)) ((Array.range (len * i.size)).map (vz.cells[· % vz.cells.size]!)) (parts.map fun (p : Nat × Operand) => (p.1, a.eval p.2)).toList = some ⟨vs.flatMap fun v => v.cells.toList⟩ := by
          rw [hp, ← hz0]
          simpa using hfill
        simp only [Instr.buildSlice, Sem.run_bind, run_underlying hu, Result.andThen_ok, run_sizeOf_some hi]
        rw [show (2 : Nat) ^ 24 = 16777216 from rfl, if_neg (by omega)]
        simp only [Sem.run_bind, Sem.run_pure, Result.andThen_ok, if_neg hnil, run_zero hi hz, hf, run_newRow]
    have hxl : (vs.flatMap fun v => v.cells.toList).length = len * i.size := by
      have := RelF_length (RelF_of_list hrl hall)
      rw [this, ← hvl, hrl.length]
    refine makes_of h hd hn (by simp only [execOp, ho]) run (below_alloc _ _) (fun g hg => ?_) fun hk hz' => ⟨⟨vs.flatMap fun v => v.cells.toList, ⟨?_, .inr ⟨w.heap.size, len, ⟨vs.flatMap fun v => v.cells.toList⟩, ?_, h.below.size, alloc_new _ _, ?_, ?_, by simp [hxl], ?_⟩⟩, RelF.keep hk (RelF_of_list hrl hall)⟩, live_upd (by simp), new_σ.symm⟩
    · simp only [blk, Option.some.injEq] at hg
      subst hg
      exact ⟨Nat.le_refl _, by simp⟩
    · rw [hxl, ← hvl, hrl.length]
    · rw [← hvl, hrl.length]
    · rw [← hvl, hrl.length]; exact Nat.le_refl _
    · have hm : len ≤ len * i.size := Nat.le_mul_of_pos_right _ h0
      unfold maxLen
      omega
    · rw [← hrl.length, hvl]
      rw [List.take_of_length_le (by simp [hxl])]
  · simp only [Option.bind_eq_some_iff, Option.map_eq_some_iff] at hc; obtain ⟨_, _, _, _, rfl⟩ := hc; cases hcls
  · simp only [Option.bind_eq_some_iff, Option.map_eq_some_iff] at hc; obtain ⟨_, _, _, _, _, _, rfl⟩ := hc; cases hcls
  · have := compBin_cls hc; rw [hcls] at this; cases this
  · simp only [Option.map_eq_some_iff] at hc; obtain ⟨_, _, rfl⟩ := hc; cases hcls
  · have := compConv_cls hc; rw [hcls] at this; rcases this with h' | h' <;> cases h'
  · split at hc
    · simp only [Option.map_eq_some_iff] at hc; obtain ⟨_, _, rfl⟩ := hc; cases hcls
    · cases hc
  · -- makeMap
    rename_i t
    simp only [Option.map_eq_some_iff, Prod.exists] at hc
    obtain ⟨kt, zc, hmt, rfl⟩ := hc
    simp only [newOp, Option.some.injEq, Prod.mk.injEq] at hv
    obtain ⟨rfl, rfl⟩ := hv
    refine makes_of h hd hn (s := Instr.makeMap t none) (v := .map (some w.heap.size)) (w' := w.alloc (.map #[] 0)) (by simp only [execOp, ho, Option.map_none]) (by simp [Instr.makeMap]) (below_alloc _ _) (fun g hg => ?_)
      fun hk hz => ⟨⟨hmt, w.heap.size, [], 0, rfl, alloc_new _ _, RelL.nil, RelL.nil, (fun _ hh => by cases hh), List.nodup_nil, (fun _ hh => by cases hh), List.nodup_nil, fun k b hh => by simp [Cz.new] at hh⟩, live_upd (by simp), new_σ.symm⟩
    simp only [blk, Option.some.injEq] at hg
    subst hg
    exact ⟨Nat.le_refl _, by simp⟩
  · -- makeSlice
    rename_i t x y
    split at hc <;> try (cases hc; done)
    rename_i e hu
    simp only [Option.bind_eq_some_iff, Option.ite_none_right_eq_some, Option.some.injEq] at hc
    obtain ⟨i, hi, vz, hz, zc, hzc, sx, hx, sy, hy, ⟨h0, hsz⟩, rfl⟩ := hc
    have hr := h.ctx.opd hx
    have hr2 := h.ctx.opd hy
    simp only [newOp] at hv
    generalize so G st.fr sx = q at hr hv
    generalize so G st.fr sy = q2 at hr2 hv
    split at hv <;> try (cases hv; done)
    rename_i k1 l k2 m
    simp only [Option.ite_none_right_eq_some, Option.some.injEq, Prod.mk.injEq] at hv
    obtain ⟨⟨g1, g2, g3, g4⟩, rfl, rfl⟩ := hv
    have e1 := of_int (w := w) (M := mutb M0 z st.ob) hr
    have e2 := of_int (w := w) (M := mutb M0 z st.ob) hr2
    have hvz : vz.cells.size = i.size := by rw [(cvOf_rel w (fun _ => False) vz zc hzc).cells_size, hsz]
    have hbytes : (i.bytes : Int) * m ≤ 281474976710656 := by rw [Int.mul_comm]; omega
    have run := run_make (P := P) w t e i vz hu hi hz k1 k2 l m g1 g2 hbytes (by omega)
    refine makes_of h hd hn (s := Instr.makeSlice t (a.eval x) (a.eval y)) (by simp only [execOp, ho]) (by rw [e1, e2]; exact run) (below_alloc _ _) (fun g hg => ?_)
      fun hk hz' => ⟨⟨(madeCells vz.cells (l.toNat * i.size)).toList, ⟨?_, .inr ⟨w.heap.size, m.toNat, madeCells vz.cells (m.toNat * i.size), ?_, h.below.size, alloc_new _ _, ?_, ?_, size_madeCells _ _, ?_⟩⟩, RelF_made (cvOf_rel _ _ vz zc hzc) hvz _⟩, live_upd (by simp), new_σ.symm⟩
    · simp only [blk, Option.some.injEq] at hg
      subst hg
      exact ⟨Nat.le_refl _, by simp⟩
    · simp [size_madeCells]
    · simp
    · simp; omega
    · unfold maxLen; omega
    · rw [List.length_replicate]
      exact take_made _ (Nat.mul_le_mul_right _ (by omega))
  · split at hc <;> try (cases hc; done)
    · simp only [Option.bind_eq_some_iff, Option.map_eq_some_iff] at hc; obtain ⟨_, _, _, _, _, _, rfl⟩ := hc; cases hcls
    · simp only [Option.bind_eq_some_iff, Option.map_eq_some_iff] at hc; obtain ⟨_, _, _, _, _, _, _, _, rfl⟩ := hc; cases hcls
  · split at hc <;> try (cases hc; done)
    simp only [Option.bind_eq_some_iff, Option.ite_none_left_eq_some, Option.map_eq_some_iff] at hc; obtain ⟨_, _, _, _, _, _, _, rfl⟩ := hc; cases hcls
  · split at hc <;> try (cases hc; done)
    simp only [Option.bind_eq_some_iff, Option.map_eq_some_iff] at hc; obtain ⟨_, _, _, _, _, _, rfl⟩ := hc; cases hcls
  · split at hc <;> try (cases hc; done)
    · simp only [Option.bind_eq_some_iff, Option.ite_none_left_eq_some, Option.map_eq_some_iff] at hc; obtain ⟨_, _, _, _, _, _, _, rfl⟩ := hc; cases hcls
    · simp only [Option.bind_eq_some_iff, Option.ite_none_left_eq_some, Option.map_eq_some_iff] at hc; obtain ⟨_, _, _, _, _, _, _, rfl⟩ := hc; cases hcls
  · split at hc <;> try (cases hc; done)
    · simp only [Option.bind_eq_some_iff, Option.map_eq_some_iff] at hc; obtain ⟨_, _, _, _, rfl⟩ := hc; cases hcls
    · simp only [Option.bind_eq_some_iff, Option.map_eq_some_iff] at hc; obtain ⟨_, _, _, _, _, _, _, _, rfl⟩ := hc; cases hcls
  · simp only [Option.bind_eq_some_iff, Option.map_eq_some_iff] at hc; obtain ⟨_, _, _, _, _, _, rfl⟩ := hc; cases hcls
  · split at hc <;> try (cases hc; done)
    simp only [Option.bind_eq_some_iff, Option.map_eq_some_iff] at hc; obtain ⟨_, _, _, _, _, _, rfl⟩ := hc; cases hcls
  · split at hc <;> try (cases hc; done)
    simp only [Option.bind_eq_some_iff, Option.map_eq_some_iff] at hc; obtain ⟨_, _, _, _, rfl⟩ := hc; cases hcls
  · simp only [Option.bind_eq_some_iff, Option.map_eq_some_iff] at hc; obtain ⟨_, _, _, _, _, _, rfl⟩ := hc; cases hcls
  · -- range over a text
    rename_i t x
    split at hc <;> try (cases hc; done)
    rename_i hu
    simp only [Option.map_eq_some_iff] at hc
    obtain ⟨sx, hx, rfl⟩ := hc
    have hr := h.ctx.opd hx
    simp only [newOp] at hv
    generalize so G st.fr sx = q at hr hv
    split at hv <;> try (cases hv; done)
    rename_i s
    simp only [Option.some.injEq, Prod.mk.injEq] at hv
    obtain ⟨rfl, rfl⟩ := hv
    have e1 := of_str (w := w) (M := mutb M0 z st.ob) hr
    refine makes_of h hd hn (s := Instr.range t (a.eval x)) (v := .pointer (some ⟨w.heap.size, 0, none⟩)) (w' := w.alloc (.stringIter ⟨⟨s⟩⟩ 0)) (by simp only [execOp, ho]) (by rw [e1]; simp [Instr.range, run_underlying hu]) (below_alloc _ _) (fun g hg => ?_)
      fun hk hz => ⟨⟨w.heap.size, rfl, alloc_new _ _⟩, live_upd (by simp), new_σ.symm⟩
    simp only [blk, Option.some.injEq] at hg
    subst hg
    exact ⟨Nat.le_refl _, by simp⟩
  · simp only [Option.map_eq_some_iff] at hc; obtain ⟨_, _, rfl⟩ := hc; cases hcls
  · simp only [Option.map_eq_some_iff] at hc; obtain ⟨_, _, rfl⟩ := hc; cases hcls
  · have := compCall_cls hc; rw [hcls] at this; exact absurd rfl this
end
end WB
