/-
  THE OWN LAYER, WC: whatever order a region draws, it comes to the same.
-/
import Derived.Test.YtpkoilfecgmogaaCoreWb
namespace WB
open Go Go.RowKit

theorem free_swap {E : Env} {D : List Nat} {a b : SL} {st s1 s2 : St} (hf : free a b = true) (hDa : a.op.makes = true → ∀ j, a.dst = some j → D.contains j = true) (hDb : b.op.makes = true → ∀ j, b.dst = some j → D.contains j = true)
    (h1 : evalL E (some D) a st = some s1) (h2 : evalL E (some D) b s1 = some s2) : ∃ s, evalL E (some D) b st = some s ∧ evalL E (some D) a s = some s2 := by
  simp only [free, Bool.and_eq_true, Bool.or_eq_true, Bool.not_eq_true'] at hf
  obtain ⟨⟨⟨g1, g2⟩, g3⟩, g4⟩ := hf
  have hab : ∀ i, a.dst = some i → i ∉ b.looks ∧ b.dst ≠ some i := by
    intro i hi
    simp only [hi, Option.all_some, Bool.and_eq_true, Bool.not_eq_true', bne_iff_ne] at g1
    exact ⟨fun hm => by have := g1.1; simp [hm] at this, g1.2⟩
  have hba : ∀ i, b.dst = some i → i ∉ a.looks := by
    intro i hi hm
    simp [hi, hm] at g2
  rcases g4 with g4 | ⟨g4, g5⟩
  · exact swap_soft g3 g4 hDa hDb hab hba h1 h2
  · exact swap_entry g5 g4 hab hba h1 h2

/-- What is left to do, in the text's order. -/
def left (n : Nat) (L : Array Bool) : List Nat := (List.range n).filter fun i => !L.getD i true

inductive Good (ops : Array Oper) : Array Bool → List Nat → Prop where
  | nil {L : Array Bool} : left ops.size L = [] → Good ops L []
  | cons {L : Array Bool} {i : Nat} {is : List Nat} : i < ops.size → L.getD i true = false → (∀ o, ops[i]? = some o → ∀ e ∈ o.after, Region.binds .any e = true → L.getD e.on false = true) → Good ops (L.setIfInBounds i true) is → Good ops L (i :: is)

theorem getD_set (L : Array Bool) (i j : Nat) (b : Bool) (hi : L.getD i true = false) : (L.setIfInBounds i true).getD j b = if j = i then true else L.getD j b := by
  have hlt : i < L.size := by
    rw [Array.getD_eq_getD_getElem?] at hi
    by_cases h : i < L.size
    · exact h
    · simp [Array.getElem?_eq_none (Nat.le_of_not_lt h)] at hi
  simp only [Array.getD_eq_getD_getElem?, Array.getElem?_setIfInBounds]
  by_cases h : j = i
  · subst h; simp [hlt]
  · have h' : ¬ i = j := fun e => h e.symm
    simp [h, h']

theorem left_set (n : Nat) (L : Array Bool) (i : Nat) (hin : i < n) (hi : L.getD i true = false) : ∃ p q, left n L = p ++ i :: q ∧ left n (L.setIfInBounds i true) = p ++ q ∧ ∀ j ∈ p, j < i ∧ L.getD j true = false := by
  have hr : List.range n = List.range i ++ i :: List.range' (i + 1) (n - i - 1) := by
    rw [List.range_eq_range', List.range_eq_range', show n = i + ((n - i - 1) + 1) by omega, ← List.range'_append_1, List.range'_succ]
    simp
  refine ⟨(List.range i).filter fun j => !L.getD j true, (List.range' (i + 1) (n - i - 1)).filter fun j => !L.getD j true, ?_, ?_, ?_⟩
  · simp only [left, hr, List.filter_append, List.filter_cons, hi, Bool.not_false, if_true]
  · simp only [left, hr, List.filter_append, List.filter_cons, getD_set L i _ _ hi, if_true, Bool.not_true, Bool.false_eq_true, if_false]
    congr 1
    · apply List.filter_congr
      intro j hj
      rw [if_neg (by have := List.mem_range.1 hj; omega)]
    · apply List.filter_congr
      intro j hj
      rw [if_neg (by have := (List.mem_range'_1.1 hj).1; omega)]
  · intro j hj
    rw [List.mem_filter, List.mem_range] at hj
    exact ⟨hj.1, by simpa using hj.2⟩

section
variable {P : Program} {E : Env} {n : Nat} {ops : Array Oper} {D : List Nat} {ls : List SL}

theorem move_front {i : Nat} {b : SL} (hb : ls[i]? = some b) (hD : ∀ l ∈ ls, l.op.makes = true → ∀ j, l.dst = some j → D.contains j = true) (q : List Nat) : ∀ (p : List Nat) {st st' : St}, (∀ j ∈ p, ∃ a, ls[j]? = some a ∧ free a b = true) → evalSeq E (some D) ls (p ++ i :: q) st = some st' → evalSeq E (some D) ls (i :: (p ++ q)) st = some st'
  | [], _, _, _, h => h
  | j :: p, st, st', hf, h => by
    obtain ⟨a, ha, hfr⟩ := hf j (by simp)
    simp only [List.cons_append, evalSeq, ha, Option.bind_eq_some_iff] at h
    obtain ⟨s1, h1, h2⟩ := h
    have h3 := move_front hb hD q p (fun j hj => hf j (by simp [hj])) h2
    simp only [evalSeq, hb, Option.bind_eq_some_iff] at h3
    obtain ⟨s2, h3, h4⟩ := h3
    obtain ⟨s, g1, g2⟩ := free_swap hfr (hD a (List.mem_of_getElem? ha)) (hD b (List.mem_of_getElem? hb)) h1 h3
    simp only [List.cons_append, evalSeq, hb, ha, g1, g2, Option.bind_some, h4]

theorem anc_listed {L : Array Bool} (hdown : ∀ i o, L.getD i false = true → ops[i]? = some o → ∀ e ∈ o.after, Region.binds .any e = true → L.getD e.on false = true) : ∀ (k i j : Nat), (∀ o, ops[j]? = some o → ∀ e ∈ o.after, Region.binds .any e = true → L.getD e.on false = true) → ancB ops k i j = true → L.getD i false = true
  | 0, _, _, _, h => by cases h
  | k + 1, i, j, hj, h => by
    simp only [ancB] at h
    split at h <;> try (cases h; done)
    rename_i o ho
    rw [Array.any_eq_true'] at h
    obtain ⟨e, he, h⟩ := h
    simp only [Bool.and_eq_true, Bool.or_eq_true, beq_iff_eq, decide_eq_true_eq] at h
    obtain ⟨hb, h⟩ := h
    have hl := hj o ho e he hb
    rcases h with h | ⟨_, h⟩
    · rw [← h]; exact hl
    · exact anc_listed hdown k i e.on (fun o' ho' => hdown e.on o' hl ho') h

theorem good_run (hlen : ls.length = ops.size) (hD : ∀ l ∈ ls, l.op.makes = true → ∀ j, l.dst = some j → D.contains j = true)
    (hfree : ∀ j < ls.length, ∀ i < j, ancB ops ls.length i j = true ∨ ∃ x y, ls[i]? = some x ∧ ls[j]? = some y ∧ free x y = true) {L : Array Bool} {is : List Nat} (hg : Good ops L is) :
    (∀ i o, L.getD i false = true → ops[i]? = some o → ∀ e ∈ o.after, Region.binds .any e = true → L.getD e.on false = true) → L.size = ops.size → ∀ {st st' : St}, evalSeq E (some D) ls (left ops.size L) st = some st' → evalSeq E (some D) ls is st = some st' := by
  induction hg with
  | nil h =>
    intro _ _ st st' hv
    rw [h] at hv; exact hv
  | @cons L i is hi hL he hg ih =>
    intro hdown hsz st st' hv
    obtain ⟨p, q, e1, e2, e3⟩ := left_set ops.size L i hi hL
    have hb : ls[i]? = some (ls[i]'(by omega)) := List.getElem?_eq_getElem _
    rw [e1] at hv
    have hv' := move_front hb hD q p (fun j hj => by
      obtain ⟨hji, hjL⟩ := e3 j hj
      rcases hfree i (by omega) j hji with ha | ⟨x, y, hx, hy, hf⟩
      · have := anc_listed hdown _ j i he ha
        have hjs : j < L.size := by omega
        simp [Array.getD_eq_getD_getElem?, Array.getElem?_eq_getElem hjs] at this hjL
        rw [this] at hjL
        cases hjL
      · rw [hb] at hy
        cases hy
        exact ⟨x, hx, hf⟩) hv
    simp only [evalSeq, hb, Option.bind_eq_some_iff] at hv' ⊢
    obtain ⟨s, h1, h2⟩ := hv'
    refine ⟨s, h1, ih ?_ (by simp [hsz]) (by rw [e2]; exact h2)⟩
    intro k o hk ho e hem heb
    rw [getD_set L i _ _ hL] at hk ⊢
    split
    · rfl
    · split at hk
      · rename_i e'; subst e'; exact he o ho e hem heb
      · exact hdown k o hk ho e hem heb

theorem ready_some {L : Array Bool} (hback : ∀ i o, ops[i]? = some o → ∀ e ∈ o.after, Region.binds .any e = true → e.on < i) (hsz : L.size = ops.size) (h : left ops.size L ≠ []) : Region.ready .any ops L ≠ [] := by
  cases hl : left ops.size L with
  | nil => exact (h hl).elim
  | cons i q =>
    have hmem : i ∈ left ops.size L := by rw [hl]; simp
    have hmem' := hmem
    simp only [left, List.mem_filter, List.mem_range] at hmem'
    obtain ⟨hi, hiL⟩ := hmem'
    have hiL : L.getD i true = false := by simpa using hiL
    obtain ⟨p, q', e1, _, e3⟩ := left_set ops.size L i hi hiL
    have hp : p = [] := by
      cases p with
      | nil => rfl
      | cons j p =>
        rw [hl] at e1
        simp only [List.cons_append, List.cons.injEq] at e1
        have := (e3 j (by simp)).1
        omega
    subst hp
    have hmin : ∀ j, j < i → L.getD j false = true := by
      intro j hj
      have hjs : j < L.size := by omega
      cases hv : L.getD j false with
      | true => rfl
      | false =>
        exfalso
        have hjm : j ∈ left ops.size L := by
          simp only [left, List.mem_filter, List.mem_range]
          refine ⟨by omega, ?_⟩
          simp [Array.getD_eq_getD_getElem?, Array.getElem?_eq_getElem hjs] at hv ⊢
          exact hv
        rw [e1] at hjm
        have hsorted : (left ops.size L).Pairwise (· < ·) := List.Pairwise.filter _ List.pairwise_lt_range
        rw [e1, List.nil_append, List.pairwise_cons] at hsorted
        simp only [List.nil_append, List.mem_cons] at hjm
        rcases hjm with hjm | hjm
        · omega
        · have := hsorted.1 j hjm; omega
    intro hr
    have : i ∈ Region.ready .any ops L := by
      simp only [Region.ready, List.mem_filter, List.mem_range]
      refine ⟨hi, ?_⟩
      have ho : ops[i]? = some (ops[i]'hi) := Array.getElem?_eq_getElem hi
      simp only [hiL, Bool.not_false, ho, Option.map_some, Option.getD_some, Bool.true_and, Array.all_eq_true']
      intro e he
      cases hb : Region.binds .any e with
      | false => rfl
      | true => simp [hmin e.on (hback i _ ho e he hb)]
    rw [hr] at this
    cases this

theorem lin_good (hback : ∀ i o, ops[i]? = some o → ∀ e ∈ o.after, Region.binds .any e = true → e.on < i) : ∀ (fuel t : Nat) (L : Array Bool), L.size = ops.size → (left ops.size L).length ≤ fuel → Good ops L (Region.linearise.go .any ops fuel t L [])
  | 0, t, L, hsz, hf => by
    have : left ops.size L = [] := List.eq_nil_of_length_eq_zero (by omega)
    simpa [Region.linearise.go] using Good.nil this
  | fuel + 1, t, L, hsz, hf => by
    simp only [Region.linearise.go]
    change Good ops L (match (Region.ready .any ops L)[t % (Region.ready .any ops L).length]? with
      | some i => Region.linearise.go .any ops fuel (t / (Region.ready .any ops L).length) (L.setIfInBounds i true) [i]
      | none => [].reverse)
    by_cases hl : left ops.size L = []
    · have hr : Region.ready .any ops L = [] := by
        cases hr : Region.ready .any ops L with
        | nil => rfl
        | cons j js =>
          exfalso
          have hj : j ∈ Region.ready .any ops L := by rw [hr]; simp
          simp only [Region.ready, List.mem_filter, List.mem_range, Bool.and_eq_true] at hj
          have : j ∈ left ops.size L := by
            simp only [left, List.mem_filter, List.mem_range]
            exact ⟨hj.1, hj.2.1⟩
          rw [hl] at this
          cases this
      simpa [hr] using Good.nil hl
    · have hr := ready_some hback hsz hl
      have hlt : t % (Region.ready .any ops L).length < (Region.ready .any ops L).length := Nat.mod_lt _ (List.length_pos_iff.2 hr)
      rw [List.getElem?_eq_getElem hlt]
      generalize hi : (Region.ready .any ops L)[t % (Region.ready .any ops L).length] = i
      have him : i ∈ Region.ready .any ops L := by rw [← hi]; exact List.getElem_mem _
      simp only [Region.ready, List.mem_filter, List.mem_range, Bool.and_eq_true, Bool.not_eq_true'] at him
      obtain ⟨h1, h2, h3⟩ := him
      simp only
      rw [linearise_go_acc, List.reverse_singleton, List.singleton_append]
      obtain ⟨p, q, e1, e2, _⟩ := left_set ops.size L i h1 h2
      refine .cons h1 h2 ?_ (lin_good hback fuel _ _ (by simp [hsz]) ?_)
      · intro o ho e he hb
        rw [ho] at h3
        simp only [Option.map_some, Option.getD_some, Array.all_eq_true'] at h3
        have := h3 e he
        simpa [hb] using this
      · rw [e1] at hf
        rw [e2]
        simp only [List.length_append, List.length_cons] at hf ⊢
        omega

theorem evalLs_seq (E : Env) (D : Option (List Nat)) : ∀ (ls : List SL) (pre : List SL) (st : St), evalSeq E D (pre ++ ls) (List.range' pre.length ls.length) st = evalLs E D ls st
  | [], _, _ => rfl
  | l :: ls, pre, st => by
    have h := evalLs_seq E D ls (pre ++ [l])
    simp only [List.length_append, List.length_cons, List.length_nil, List.append_assoc, List.cons_append, List.nil_append] at h
    simp only [List.length_cons, List.range'_succ, evalSeq, evalLs]
    rw [show (pre ++ l :: ls)[pre.length]? = some l by simp]
    simp only
    congr 1
    funext s
    exact h s

theorem draw_order (hc : allM (compL P n ops) ops.toList = some ls) (hd : drawOk P ops D ls = true) {st st' : St} (hv : evalLs E (some D) ls st = some st') (t : Nat) :
    evalSeq E (some D) ls (Region.schedule (P.follows .mixedOrders) ops t) st = some st' := by
  have hlen : ls.length = ops.size := by rw [allM_length hc]; simp
  simp only [drawOk, Bool.and_eq_true] at hd
  obtain ⟨⟨⟨hm, hback⟩, hmk⟩, hfr⟩ := hd
  simp only [Region.schedule, hm, Bool.true_or, if_true, Region.linearise]
  have hleft : left ops.size (Array.replicate ops.size false) = List.range ops.size := by
    simp only [left]
    rw [List.filter_eq_self]
    intro i hi
    have := List.mem_range.1 hi
    simp [Array.getD_eq_getD_getElem?, this]
  have hback' : ∀ i o, ops[i]? = some o → ∀ e ∈ o.after, Region.binds .any e = true → e.on < i := by
    intro i o ho e he hb
    rw [List.all_eq_true] at hback
    have hmem : (o, i) ∈ ops.toList.zipIdx := by
      rw [List.mem_zipIdx_iff_getElem?]
      simpa using ho
    have := hback _ hmem
    rw [Array.all_eq_true'] at this
    have := this e he
    simpa [hb] using this
  refine good_run hlen ?_ ?_ (lin_good hback' ops.size t _ (by simp) (by rw [hleft]; simp)) ?_ (by simp) ?_
  · intro l hl hmake j hj
    rw [List.all_eq_true] at hmk
    have := hmk l hl
    simpa [hmake, hj] using this
  · intro j hj i hij
    rw [List.all_eq_true] at hfr
    have := hfr j (List.mem_range.2 hj)
    rw [List.all_eq_true] at this
    have := this i (List.mem_range.2 hij)
    rw [Bool.or_eq_true] at this
    rcases this with h | h
    · exact .inl h
    · refine .inr ?_
      split at h
      · rename_i x y hx hy; exact ⟨x, y, hx, hy, h⟩
      · cases h
  · intro i o hi
    exfalso
    rw [Array.getD_eq_getD_getElem?, Array.getElem?_replicate] at hi
    split at hi <;> cases hi
  · rw [hleft, List.range_eq_range', ← hlen]
    have := evalLs_seq E (some D) ls [] st
    simp only [List.nil_append, List.length_nil] at this
    rw [this]; exact hv
end
end WB
