/-
  THE OWN LAYER, ZR: a row's arguments, read as closed values; a row's end.
-/
import Derived.Test.YtpkoilfecgmogaaCoreYb
import Derived.Deep.Slices
import Derived.Deep.Fields
import Derived.ChangeSame
import Derived.ChangeShapes
import Derived.ProofKit
import Derived.OpenShut
namespace WB
open Go Go.RowKit Go.ChangeShapes Go.WideShapes Go.Deep

section
variable {H : Type} {enc : TypeId × Value → H} {P : Program} {w : World} {base : Nat} {spare : Nat → Bool} {held : Bool}
theorem open_slice_fields {t e : TypeId} {fs : Array Field} {fuel : Nat} {cs : List Value} {x : DataW H × List MemPlace} (ht : P.underlying t = some (.slice e)) (he : P.underlying e = some (.struct fs))
    (hone : oneCellFields P fs = true) (hC : P.cellsOf e = fs.size) (h : DataW.trod enc P w base spare held fuel t cs = some x) :
    cs = [.slice none 0 0] ∨
    ∃ (a : Addr) (len cap : Nat), cs = [.slice (some a) len cap] ∧ len ≤ cap ∧
      ∀ i, i < len → ∀ (j : Nat) (f : Field), fs[j]? = some f → ∃ (v : Value) (n : Nat) (y : DataW H × List MemPlace), w.cell? (a.add (i * fs.size + j)) = some v ∧ DataW.trod enc P w base spare held n f.type [v] = some y := by
  rcases open_slice ht h with h0 | ⟨a, len, cap, m, n, D, Pl, hcs, hb, hl, hm, hmm, hx, hi⟩
  · exact .inl h0.1
  · refine .inr ⟨a, len, cap, hcs, hl, fun i hil j f hj => ?_⟩
    have him : i < m := by rw [hmm]; split <;> omega
    obtain ⟨cs', hc, ht'⟩ := hi i him
    rw [hC] at hc
    obtain ⟨ys, n', hn', hy, hlen, hyl, hf⟩ := DataW.trod_struct he ht'
    obtain ⟨_, hcl, hat⟩ := World.cells?_some hc
    obtain ⟨ho, hk⟩ := hone_of hone j f hj
    have hjl : j < fs.size := (Array.getElem?_eq_some_iff.1 hj).1
    have hcell := hat j hjl
    have hv : cs'[j]? = some (cs'[j]'(by omega)) := List.getElem?_eq_getElem (by omega)
    have h1 := hf j f hj
    rw [ho, hk] at h1
    have hone' : (cs'.drop j).take 1 = [cs'[j]'(by omega)] := by
      rw [List.drop_eq_getElem_cons (by omega)]
      rfl
    rw [hone'] at h1
    refine ⟨_, n', ys[j]'(by omega), ?_, h1.trans (List.getElem?_eq_getElem (by omega))⟩
    rw [← Go.Deep.add_add, hcell, hv]

theorem exists_list {α : Type} {p : Nat → α → Prop} : ∀ (n : Nat), (∀ i, i < n → ∃ x, p i x) → ∃ l : List α, l.length = n ∧ ∀ i x, l[i]? = some x → p i x
  | 0, _ => ⟨[], rfl, fun i x h => by simp at h⟩
  | n + 1, h => by
    obtain ⟨l, hl, hp⟩ := exists_list n (fun i hi => h i (by omega))
    obtain ⟨x, hx⟩ := h n (by omega)
    refine ⟨l ++ [x], by simp [hl], fun i y hy => ?_⟩
    by_cases hi : i < n
    · rw [List.getElem?_append_left (by omega)] at hy
      exact hp i y hy
    · rw [List.getElem?_append_right (by omega)] at hy
      have : i - l.length = 0 := by
        rcases Nat.eq_zero_or_pos (i - l.length) with h0 | h0
        · exact h0
        · rw [List.getElem?_eq_none (by simp; omega)] at hy; cases hy
      rw [this] at hy
      simp only [List.getElem?_cons_zero, Option.some.injEq] at hy
      subst hy
      have : i = n := by omega
      subst this
      exact hx

/-- Whole numbers, as cells. -/
def intC (n : Int) : CV := .int .i64 n
theorem relL_ints {M : Nat → Prop} : ∀ (ns : List Int), RelL w M (ns.map intC) (ns.map (Value.int .i64))
  | [] => RelL.nil
  | n :: ns => RelL.cons (by unfold intC RelC; rfl) (relL_ints ns)

theorem ints_of_cells {size : Nat} {f : Nat → Option Value} (h : ∀ j, j < size → ∃ n : Int, f j = some (.int .i64 n)) : ∃ ns : List Int, ns.length = size ∧ ∀ j u, (ns.map (Value.int .i64))[j]? = some u → f j = some u := by
  obtain ⟨ns, h1, h2⟩ := exists_list (p := fun j (n : Int) => f j = some (.int .i64 n)) size h
  refine ⟨ns, h1, fun j u hu => ?_⟩
  rw [List.getElem?_map, Option.map_eq_some_iff] at hu
  obtain ⟨n, hn, rfl⟩ := hu
  exact h2 j n hn

/-- A slice of structs of whole numbers. -/
theorem open_intss {r : Reach} {b0 : Nat} {t e : TypeId} {fs : Array Field} {v : Value} {d : DataW H} {p : List MemPlace} (hpos : 0 < fs.size) (ht : P.underlying t = some (.slice e)) (he : P.underlying e = some (.struct fs))
    (hone : oneCellFields P fs = true) (hC : P.cellsOf e = fs.size) (hf : ∀ (j : Nat) (f : Field), fs[j]? = some f → P.underlying f.type = some (.int .i64)) (hv : Value.okWide P w r b0 t v) (h : DataW.Trod enc P w base spare held t v d p) :
    ∃ (nl : Option Bool) (ls : List (List Int)), (∀ l ∈ ls, l.length = fs.size) ∧ RelC w (fun _ => False) (.sl nl (ls.map fun l => .agg (l.map intC))) v := by
  obtain ⟨a, len, cap, rfl⟩ := okWide_slice ht hv
  obtain ⟨fuel, hd⟩ := h
  rcases open_slice_fields ht he hone hC hd with h0 | ⟨a', len', cap', hcs, hl, hi⟩
  · simp only [Value.cells, List.cons.injEq, Value.slice.injEq, and_true] at h0
    obtain ⟨rfl, rfl, rfl⟩ := h0
    refine ⟨some true, [], by simp, ?_⟩
    unfold RelC
    exact ⟨none, 0, 0, rfl, rfl, Nat.le_refl _, fun _ => rfl, (fun hh => by cases hh), fun _ => rfl, fun hh => absurd rfl hh⟩
  · simp only [Value.cells, List.cons.injEq, Value.slice.injEq, and_true] at hcs
    obtain ⟨rfl, rfl, rfl⟩ := hcs
    have hrow : ∀ i, i < len → ∃ l : List Int, l.length = fs.size ∧ ∀ j u, (l.map (Value.int .i64))[j]? = some u → w.cell? (a'.add (i * fs.size + j)) = some u := by
      intro i hil
      refine ints_of_cells fun j hj => ?_
      obtain ⟨v, n, y, hc, ht'⟩ := hi i hil j fs[j] (Array.getElem?_eq_getElem hj)
      obtain ⟨m, hm, _⟩ := DataW.trod_int (hf j _ (Array.getElem?_eq_getElem hj)) ht'
      simp only [List.cons.injEq, and_true] at hm
      exact ⟨m, by rw [hc, hm]⟩
    obtain ⟨ls, hls, hg⟩ := exists_list len hrow
    refine ⟨some false, ls, fun l hl' => ?_, ?_⟩
    · obtain ⟨i, hi'⟩ := List.getElem?_of_mem hl'
      exact (hg i l hi').1
    · unfold RelC
      refine ⟨some a', len, cap, rfl, by simp [hls], hl, (fun hh => by cases hh), (fun _ => by simp), (fun hh => by cases hh), fun hne => ?_⟩
      have hsz : ∀ l ∈ ls, l.length = fs.size := fun l hl' => by
        obtain ⟨i, hi'⟩ := List.getElem?_of_mem hl'
        exact (hg i l hi').1
      have hE : RelE w (fun _ => False) a' fs.size 0 (ls.map fun l => .agg (l.map intC)) := by
        refine RelE_of_get fun k el hel => ?_
        rw [List.getElem?_map, Option.map_eq_some_iff] at hel
        obtain ⟨l, hlk, rfl⟩ := hel
        obtain ⟨g1, g2⟩ := hg k l hlk
        refine ⟨.agg ⟨l.map (Value.int .i64)⟩, by unfold RelC; exact ⟨_, rfl, relL_ints l⟩, by simp [Value.cells, g1], fun j u hu => ?_⟩
        have := g2 j u (by simpa [Value.cells] using hu)
        simpa using this
      have hlen : 0 < len := by
        rcases Nat.eq_zero_or_pos len with h0 | h0
        · exfalso
          subst h0
          have : ls = [] := List.eq_nil_of_length_eq_zero hls
          subst this
          exact hne rfl
        · exact h0
      obtain ⟨u, _, _, hc, _⟩ := hi 0 hlen 0 fs[0] (Array.getElem?_eq_getElem hpos)
      have hlt := cell_lt hc
      rw [add_block] at hlt
      exact ⟨a', fs.size, rfl, hlt, fun hh => hh, hE⟩

/-- A struct of whole numbers. -/
theorem open_ints {r : Reach} {b0 : Nat} {t : TypeId} {fs : Array Field} {v : Value} {d : DataW H} {p : List MemPlace} (he : P.underlying t = some (.struct fs))
    (hone : oneCellFields P fs = true) (hC : P.cellsOf t = fs.size) (hf : ∀ (j : Nat) (f : Field), fs[j]? = some f → P.underlying f.type = some (.int .i64)) (hv : Value.okWide P w r b0 t v) (h : DataW.Trod enc P w base spare held t v d p) :
    ∃ l : List Int, l.length = fs.size ∧ RelC w (fun _ => False) (.agg (l.map intC)) v := by
  obtain ⟨cs, rfl, hsz⟩ := okWide_struct he hv
  obtain ⟨fuel, hd⟩ := h
  obtain ⟨ys, n', hn', hy, hlen, hyl, hg⟩ := DataW.trod_struct he hd
  have : ∀ j, j < fs.size → ∃ n : Int, cs[j]? = some (.int .i64 n) := by
    intro j hj
    have hj' := Array.getElem?_eq_getElem hj
    obtain ⟨ho, hk⟩ := hone_of hone j _ hj'
    have h1 := hg j _ hj'
    rw [ho, hk] at h1
    have hjc : j < cs.toList.length := by simp; omega
    have hone' : (cs.toList.drop j).take 1 = [cs.toList[j]'hjc] := by
      rw [List.drop_eq_getElem_cons hjc]; rfl
    simp only [Value.cells] at h1
    rw [hone'] at h1
    obtain ⟨m, hm, _⟩ := DataW.trod_int (hf j _ hj') (h1.trans (List.getElem?_eq_getElem (by omega)))
    simp only [List.cons.injEq, and_true] at hm
    refine ⟨m, ?_⟩
    rw [← hm]
    simp [hsz, hC, hj]
  obtain ⟨ns, h1, h2⟩ := ints_of_cells this
  refine ⟨ns, h1, ?_⟩
  unfold RelC
  refine ⟨cs.toList, rfl, ?_⟩
  have : cs.toList = ns.map (Value.int .i64) := by
    apply List.ext_getElem?
    intro j
    by_cases hj : j < fs.size
    · have hn : (ns.map (Value.int .i64))[j]? = some ((ns.map (Value.int .i64))[j]'(by simp [h1, hj])) := List.getElem?_eq_getElem _
      rw [hn, ← h2 j _ hn]
      simp
    · rw [List.getElem?_eq_none (by simp; omega), List.getElem?_eq_none (by simp; omega)]
  rw [this]
  exact relL_ints ns

theorem toEnt : ∀ {ls : List (List Int)}, (∀ l ∈ ls, l.length = 3) → ∃ es : List Ent, (ls.map fun l => CV.agg (l.map intC)) = es.map encE
  | [], _ => ⟨[], rfl⟩
  | l :: ls, h => by
    obtain ⟨es, he⟩ := toEnt (ls := ls) fun x hx => h x (by simp [hx])
    have hl := h l (by simp)
    match l, hl with
    | [a, b, c], _ => exact ⟨(a, b, c) :: es, by simp [he, encE, intC]⟩

/-- The row's last step where the call leaves all that was there. -/
theorem post_below {f : Func} {s : ChangeSpec} {apart fresh handsOn again : Bool} {W W' : World} {args : Array Value} {v : Value} {ds gs : List (DataW H)} {before pa pv : List MemPlace}
    (hW : DataW.Whole enc P f.params.toList s.vars apart W args.toList ds gs before)
    (hres : ∀ (b : Nat) (sp : Nat → Bool) (hd : Bool), DataW.TrodAll enc P W' b sp hd f.resultTypes.toList (v.resultList f.resultTypes.size) (s.fn H (ds ++ gs)).results [])
    (hargs : ∀ sp : Nat → Bool, (∀ p ∈ before, sp p.block = true) → DataW.TrodAll enc P W' 0 sp true f.params.toList args.toList (s.fn H (ds ++ gs)).args pa)
    (hvars : ∀ sp : Nat → Bool, (∀ p ∈ before, sp p.block = true) → DataW.TrodVars enc P W' sp s.vars (s.fn H (ds ++ gs)).vars pv)
    (hps : before = pa ++ pv) (hb : Below W.heap.size W W')
    (hok : ∀ (j : Nat) (t : TypeId) (r : Value), f.resultTypes[j]? = some t → (v.resultList f.resultTypes.size)[j]? = some r → Value.okWide P W' .any 0 t r) :
    s.post enc P f apart fresh handsOn again W args v W' := by
  have hlt : ∀ p ∈ before, p.block < W.heap.size := fun p hp => hW.lt p hp
  have hold : ∀ p ∈ before, (fun b => decide (b < W.heap.size)) p.block = true := fun p hp => by simpa using hlt p hp
  refine ⟨ds, gs, before, [], pa, pv, hW, hres _ _ _, hargs _ hold, hvars _ hold, World.keptBut_mono (fun p hp => ⟨hp, ?_⟩) (hb.frame (· ∈ before)), fun _ => ?_⟩
  · rw [hps, List.mem_append] at hp
    exact Or.inr hp
  · obtain ⟨_, _, _, _, _, hz, hn⟩ := hW
    refine ⟨hok, _, _, ([] ++ pa) ++ pv, ⟨[] ++ pa, pv, trodAll_append (hargs _ (fun _ _ => rfl)) (hres _ _ _), hvars _ (fun _ _ => rfl), rfl, ?_, ?_⟩, ?_⟩
    · intro b off hp
      have hin : MemPlace.cell b off ∈ before := by rw [hps]; simpa using hp
      rw [hb.frozen (hlt _ hin)]
      exact hz b off hin
    · intro ha
      have := hn ha
      rw [hps] at this
      simpa using this
    · intro p hp _
      rw [hps]
      simpa using hp
end

/-- What is read of arguments is read again behind a call that leaves all that was there. -/
theorem trodAll_below {H : Type} {enc : TypeId × Value → H} {P : Program} (hl : laidOutB P = true) {W W' : World} (hb : Below W.heap.size W W') {sp : Nat → Bool} :
    ∀ {ts : List TypeId} {vs : List Value} {ds : List (DataW H)} {ps : List MemPlace}, (ts.all fun t => P.readableRec t && decide (t < P.types.size)) = true → (∀ p ∈ ps, p.block < W.heap.size) → (∀ p ∈ ps, sp p.block = true) →
    DataW.TrodAll enc P W 0 (fun _ => true) true ts vs ds ps → DataW.TrodAll enc P W' 0 sp true ts vs ds ps
  | [], vs, ds, ps, _, _, _, h => by
    obtain ⟨rfl, rfl, rfl⟩ := trodAll_nil h
    exact trodAll_mk0
  | t :: ts, vs, ds, ps, hr, hlt, hsp, h => by
    obtain ⟨v0, vs0, d0, ds0, p0, q0, rfl, rfl, rfl, h0, r0⟩ := trodAll_cons h
    simp only [List.all_cons, Bool.and_eq_true, decide_eq_true_eq] at hr
    refine trodAll_cons_mk ?_ (trodAll_below hl hb hr.2 (fun p hp => hlt p (by simp [hp])) (fun p hp => hsp p (by simp [hp])) r0)
    exact WideElems.Trod_stays hl hr.1.1 hr.1.2 h0 (fun x hx => hb.same (hlt x (by simp [hx]))) (fun x hx => hsp x (by simp [hx]))
end WB
