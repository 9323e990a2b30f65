/-
  THE SHEET: the reference's sums and weeks; the law SheetSum, over plain data.
-/
import Derived.Test.YtpkoilfecgmogaaPsC
namespace WB
open Go Go.RowKit
set_option linter.unusedSimpArgs false
set_option linter.unusedVariables false

theorem ref17_Sum_loop {es : List Ent} {a b : Int} (hw : wrong es a b = 0) (f t : Int) :
    iter ref17_Sum_loop1 (es, a, b, 0, f, t, 0, 0, 0, 0, 0, 0, (), (), (), (), (), (), ()) = some (0, 0, 0, (sumH es a b f t).1, (sumH es a b f t).2.1, (sumH es a b f t).2.2, (), (), (), (), ()) := by
  obtain ⟨hl, hes, ha, hb⟩ := wrong_ok hw
  obtain ⟨X, hX⟩ : ∃ X, eachL a b (fun _ => 0) es = X := ⟨_, rfl⟩
  have hXl : X.length = es.length := by rw [← hX]; exact eachL_len _ _
  have hXok : ∀ x ∈ X, okH x.1 := by rw [← hX]; exact eachL_ok ha.1 es _ hes
  have hS : sumH es a b f t = sumL f t (0, 0, 0) (es.zip X) := by rw [← hX]; rfl
  rw [hS]
  refine iter_inv (fun n s => ∃ (i : Nat) (h : Ent), i + n = es.length ∧ s = (es, a, b, (i : Int), f, t, 0, 0, 0, h.1, h.2.1, h.2.2, (), (), (), (), (), (), ()) ∧ inH i h ∧ sumL f t (0, 0, 0) (es.zip X) = sumL f t h ((es.zip X).drop i)) ?_ es.length _ ⟨0, (0, 0, 0), by simp, rfl, by simp [inH], by simp⟩
  rintro n s ⟨i, h, hi, rfl, hin, hsp⟩
  unfold ref17_Sum_loop1
  simp only
  by_cases hlt : i < es.length
  · obtain ⟨⟨d, mi, n'⟩, he⟩ := get_ex hlt
    have hov := ref17_over_eq hw he
    have hx := eachL_nth (a := a) (b := b) es (fun _ => 0) i _ he
    simp only [Int.zero_add] at hx hov
    rw [hX] at hx
    obtain ⟨P, hP⟩ : ∃ P, min (min mi a) (max (b - smL a (monday d) (es.take i)) 0) = P := ⟨_, rfl⟩
    rw [hP] at hx hov
    have hz : (es.zip X)[i]? = some ((d, mi, n'), ((P, mi - P, n'), monday d)) := by rw [List.getElem?_zip_eq_some]; exact ⟨he, hx⟩
    rw [drop_cons hz] at hsp
    simp only [sumL] at hsp
    have hlt' : ((i : Int) < es.length) := by omega
    have w1 : IntKind.i64.wrap ((i : Int) + 1) = (i : Int) + 1 := w64' (by omega) (by omega)
    have hin' : inH (i + 1) h := by unfold inH at *; omega
    simp only [hlt', decide_true, if_true, lAt_nat he, Option.map_some, Option.bind_some]
    left
    by_cases g1 : d < f
    · rw [if_pos (.inl g1)] at hsp
      have g1' : ¬ f ≤ d := by omega
      exact ⟨(es, a, b, ((i + 1 : Nat) : Int), f, t, 0, 0, 0, h.1, h.2.1, h.2.2, (), (), (), (), (), (), ()), by simp [g1', w1], n - 1, by omega, i + 1, h, by omega, rfl, hin', hsp⟩
    by_cases g2 : t ≤ d
    · rw [if_pos (.inr g2)] at hsp
      have g1' : f ≤ d := by omega
      have g2' : ¬ d < t := by omega
      exact ⟨(es, a, b, ((i + 1 : Nat) : Int), f, t, 0, 0, 0, h.1, h.2.1, h.2.2, (), (), (), (), (), (), ()), by simp [g1', g2', w1, lAt_nat he], n - 1, by omega, i + 1, h, by omega, rfl, hin', hsp⟩
    rw [if_neg (by omega)] at hsp
    have hxo := hXok _ (List.mem_of_getElem? hx)
    have g1' : f ≤ d := by omega
    have g2' : d < t := by omega
    unfold okH at hxo
    unfold inH at hin
    simp only at hxo
    have w2 : IntKind.i64.wrap (h.2.1 + (mi - P)) = h.2.1 + (mi - P) := w64' (by omega) (by omega)
    have w3 : IntKind.i64.wrap (h.1 + mi) = h.1 + mi := w64' (by omega) (by omega)
    have w4 : IntKind.i64.wrap (h.1 + mi - (mi - P)) = h.1 + P := by rw [w64' (by omega) (by omega)]; omega
    have w5 : IntKind.i64.wrap (h.2.2 + n') = h.2.2 + n' := w64' (by omega) (by omega)
    refine ⟨(es, a, b, ((i + 1 : Nat) : Int), f, t, 0, 0, 0, (add3 h (P, mi - P, n')).1, (add3 h (P, mi - P, n')).2.1, (add3 h (P, mi - P, n')).2.2, (), (), (), (), (), (), ()), by simp [g1', g2', hov, lAt_nat he, w1, w2, w3, w4, w5, add3], n - 1, by omega, i + 1, _, by omega, rfl, ?_, hsp⟩
    unfold inH add3
    simp only
    omega
  · have hlt' : ¬ ((i : Int) < es.length) := by omega
    right
    rw [List.drop_eq_nil_of_le (by simp; omega)] at hsp
    simp only [sumL] at hsp
    simp [hlt', hsp]
theorem ref17_Sum_eq {es : List Ent} {a b : Int} (hw : wrong es a b = 0) (f t : Int) : ref17_Sum (es, a, b, (f, t)) = some (sumE es a b f t) := by
  unfold ref17_Sum
  simp only [ref17_Sum_loop hw f t, Option.bind_some]
  simp [sumE, hw]

/-! ### Weeks -/

def totW (v : Int) : List (Ent × Int) → Ent
  | [] => (0, 0, 0)
  | x :: r => if x.2 = v then add3 x.1 (totW v r) else totW v r
def wk : Option Int → List (Ent × Int) → List Ent
  | _, [] => []
  | p, x :: r => if p = some x.2 then wk p r else totW x.2 (x :: r) :: wk (some x.2) r
def upL : List (Ent × Int) → Prop
  | [] => True
  | x :: r => (∀ y ∈ r, x.2 ≤ y.2) ∧ upL r
theorem totW_none {v : Int} : ∀ (l : List (Ent × Int)), (∀ x ∈ l, x.2 ≠ v) → totW v l = (0, 0, 0)
  | [], _ => rfl
  | x :: r, h => by simp only [totW, if_neg (h x (by simp))]; exact totW_none r (fun y hy => h y (by simp [hy]))
theorem totW_append {v : Int} : ∀ (l m : List (Ent × Int)), (∀ x ∈ l, x.2 ≠ v) → totW v (l ++ m) = totW v m
  | [], _, _ => rfl
  | x :: r, m, h => by simp only [List.cons_append, totW, if_neg (h x (by simp))]; exact totW_append r m (fun y hy => h y (by simp [hy]))
theorem merge_wk : ∀ (l : List (Ent × Int)) (A : List Ent) (y : Ent) (v : Int), upL l → (∀ x ∈ l, v ≤ x.2) → merge (A ++ [y]) (some v) l = A ++ [add3 y (totW v l)] ++ wk (some v) l
  | [], A, y, v, _, _ => by simp [merge, totW, wk, add3]
  | x :: r, A, y, v, h, hv => by
    simp only [merge, totW, wk]
    by_cases hx : v = x.2
    · subst hx
      simp only [if_true, List.dropLast_concat, List.getLastD_concat]
      rw [merge_wk r A _ x.2 h.2 h.1, add3_assoc]
    · have e1 : ¬ some v = some x.2 := fun e => hx (Option.some.inj e)
      have e2 : ¬ x.2 = v := fun e => hx e.symm
      simp only [e1, e2, if_false]
      rw [merge_wk r (A ++ [y]) x.1 x.2 h.2 h.1]
      have hlt : v < x.2 := by have := hv x (by simp); omega
      have h0 : totW v r = (0, 0, 0) := totW_none r (fun z hz => by have := h.1 z hz; omega)
      simp only [h0, totW, if_true]
      simp [add3]
theorem merge_wk0 : ∀ (l : List (Ent × Int)), upL l → merge [] none l = wk none l
  | [], _ => rfl
  | x :: r, h => by
    simp only [merge, wk, totW, if_true, reduceCtorEq, if_false]
    have := merge_wk r [] x.1 x.2 h.2 h.1
    simpa using this

theorem sumL_week {v : Int} : ∀ (es : List Ent) (X : List (Ent × Int)), X.length = es.length → (∀ (i : Nat) e x, es[i]? = some e → X[i]? = some x → (e.1 < v ∨ v + 7 ≤ e.1 ↔ x.2 ≠ v)) → sumL v (v + 7) (0, 0, 0) (es.zip X) = totW v X
  | [], [], _, _ => rfl
  | [], _ :: _, h, _ => by simp at h
  | _ :: _, [], h, _ => by simp at h
  | e :: es, x :: X, hl, h => by
    have h0 := h 0 e x rfl rfl
    have ih := sumL_week es X (by simpa using hl) (fun i e' x' he hx => h (i + 1) e' x' (by simpa using he) (by simpa using hx))
    simp only [List.zip_cons_cons, sumL, totW]
    by_cases hv : x.2 = v
    · rw [if_neg (fun hh => h0.1 hh hv), if_pos hv, sumL_add, ih, add3_zero]
    · rw [if_pos (h0.2 hv), if_neg hv, ih]

theorem monday_week {d v d' : Int} (hd : isDay d = true) (hd' : isDay d' = true) (hv : v = monday d') : (d < v ∨ v + 7 ≤ d) ↔ monday d ≠ v := by
  obtain ⟨h1, h2⟩ := isDay_in hd
  obtain ⟨h3, h4⟩ := isDay_in hd'
  subst hv
  have e1 : monday d = d - (d + 25567) % 7 := by simp [monday, weekday, hd]
  have e2 : monday d' = d' - (d' + 25567) % 7 := by simp [monday, weekday, hd']
  rw [e1, e2]
  omega

theorem ref17_Weeks_loop {es : List Ent} {a b : Int} (hw : wrong es a b = 0) : iter ref17_Weeks_loop1 (es, a, b, 0, [], (), ()) = some (weeksF es a b, (), ()) := by
  obtain ⟨hl, hes, ha, hb⟩ := wrong_ok hw
  have hsorted := wrong_sorted hw
  have hS : weeksF es a b = merge [] none (eachL a b (fun _ => 0) es) := by simp [weeksF, hw]
  obtain ⟨X, hX⟩ : ∃ X, eachL a b (fun _ => 0) es = X := ⟨_, rfl⟩
  have hXl : X.length = es.length := by rw [← hX]; exact eachL_len _ _
  have hXm : ∀ (i : Nat) e x, es[i]? = some e → X[i]? = some x → x.2 = monday e.1 := by
    intro i e x he hx
    have := eachL_nth (a := a) (b := b) es (fun _ => 0) i e he
    rw [hX, hx] at this
    rw [Option.some.inj this]
  have hup' : ∀ (i j : Nat) x y, i < j → X[i]? = some x → X[j]? = some y → x.2 ≤ y.2 := by
    intro i j x y hij hx hy
    obtain ⟨g, hg⟩ := get_ex (l := es) (i := i) (by have := (List.getElem?_eq_some_iff.1 hx).1; omega)
    obtain ⟨e, he⟩ := get_ex (l := es) (i := j) (by have := (List.getElem?_eq_some_iff.1 hy).1; omega)
    rw [hXm i g x hg hx, hXm j e y he hy]
    exact monday_mono (hes _ (List.mem_of_getElem? hg)).1 (hes _ (List.mem_of_getElem? he)).1 (Int.le_of_lt (wrongL_idx hsorted hij hg he))
  have hup : upL X := by
    clear hS hX hXl hXm
    induction X with
    | nil => trivial
    | cons x r ih =>
      refine ⟨fun y hy => ?_, ih (fun i j u v hij hu hv => hup' (i + 1) (j + 1) u v (by omega) (by simpa using hu) (by simpa using hv))⟩
      obtain ⟨j, hj⟩ := List.getElem?_of_mem hy
      exact hup' 0 (j + 1) x y (by omega) rfl (by simpa using hj)
  have hwk : ∀ (i : Nat) x, X[i]? = some x → sumE es a b x.2 (x.2 + 7) = totW x.2 X := by
    intro i x hx
    obtain ⟨e, he⟩ := get_ex (l := es) (i := i) (by have := (List.getElem?_eq_some_iff.1 hx).1; omega)
    simp only [sumE, hw, if_true, sumH]
    rw [hX]
    refine sumL_week es X hXl fun j e' x' he' hx' => ?_
    rw [hXm j e' x' he' hx']
    exact monday_week (hes _ (List.mem_of_getElem? he')).1 (hes _ (List.mem_of_getElem? he)).1 (hXm i e x he hx)
  rw [hS, hX, merge_wk0 X hup]
  refine iter_inv (fun n s => ∃ (i : Nat) (acc : List Ent), i + n = es.length ∧ s = (es, a, b, (i : Int), acc, (), ()) ∧ acc.length ≤ i ∧ wk none X = acc ++ wk (if i = 0 then none else (X[i - 1]?).map (·.2)) (X.drop i)) ?_ es.length _ ⟨0, [], by simp, rfl, by simp, by simp⟩
  rintro n s ⟨i, acc, hi, rfl, hal, hsp⟩
  unfold ref17_Weeks_loop1
  simp only
  by_cases hlt : i < es.length
  · obtain ⟨e, he⟩ := get_ex hlt
    obtain ⟨x, hx⟩ := get_ex (l := X) (i := i) (by omega)
    have hm := hXm i e x he hx
    have hd := (hes _ (List.mem_of_getElem? he)).1
    obtain ⟨d1, d2⟩ := isDay_in hd
    obtain ⟨d3, d4, d5⟩ := monday_in hd
    rw [drop_cons hx] at hsp
    simp only [wk] at hsp
    have hlt' : ((i : Int) < es.length) := by omega
    have w1 : IntKind.i64.wrap ((i : Int) + 1) = (i : Int) + 1 := w64' (by omega) (by omega)
    have w7 : IntKind.i64.wrap (monday e.1 + 7) = monday e.1 + 7 := w64' (by omega) (by omega)
    have hsum : ref17_Sum (es, a, b, (monday e.1, monday e.1 + 7)) = some (totW x.2 X) := by rw [ref17_Sum_eq hw, ← hm, hwk i x hx]
    have happ : ∀ (y : Ent), (if ((acc.length : Int) + (([y] : List Ent).length : Int)) * 24 ≤ 140737488355328 ∧ (acc.length : Int) + (([y] : List Ent).length : Int) ≤ 4611686018427387904 then some (acc ++ [y]) else none) = some (acc ++ [y]) := fun y => app1 (by omega) (by simp) (by decide)
    have htot : ∀ p, (p = none ∨ ∃ v, p = some v ∧ v < x.2) → (∀ j y, j < i → X[j]? = some y → y.2 < x.2) → totW x.2 (x :: X.drop (i + 1)) = totW x.2 X := by
      intro p _ hlt2
      have e1 : X = X.take i ++ (x :: X.drop (i + 1)) := by rw [← drop_cons hx]; exact (List.take_append_drop i X).symm
      conv => rhs; rw [e1]
      rw [totW_append]
      intro z hz
      obtain ⟨j, hj⟩ := List.getElem?_of_mem hz
      rw [List.getElem?_take] at hj
      split at hj
      · rename_i hji
        have := hlt2 j z hji hj
        omega
      · cases hj
    simp only [hlt', decide_true, if_true, lAt_nat he, Option.map_some, Option.bind_some, ref17_Monday_eq hd]
    left
    by_cases h0 : i = 0
    · subst h0
      simp only [if_true, reduceCtorEq, if_false] at hsp
      rw [htot none (.inl rfl) (fun j y hj _ => by omega)] at hsp
      have hacc : acc = [] := List.eq_nil_of_length_eq_zero (by omega)
      subst hacc
      refine ⟨(es, a, b, ((0 + 1 : Nat) : Int), [] ++ [totW x.2 X], (), ()), ?_, n - 1, by omega, 0 + 1, _, by omega, rfl, by simp, ?_⟩
      · simp only [Int.natCast_zero, beq_self_eq_true, Bool.true_eq_false, if_false, if_true, Option.bind_some, w7, hsum, happ]
        simp [show IntKind.i64.wrap 1 = 1 from rfl]
      · rw [hsp]; simp [hx]
    · obtain ⟨g, hg⟩ := get_ex (l := es) (i := i - 1) (by omega)
      obtain ⟨y, hy⟩ := get_ex (l := X) (i := i - 1) (by omega)
      have hmy := hXm _ g y hg hy
      have hdg := (hes _ (List.mem_of_getElem? hg)).1
      have hle := hup' (i - 1) i y x (by omega) hy hx
      have h0' : ((i : Int) == 0) = false := by simp; omega
      have e1 : IntKind.i64.wrap ((i : Int) - 1) = ((i - 1 : Nat) : Int) := by rw [w64' (by omega) (by omega)]; omega
      rw [if_neg h0, hy] at hsp
      simp only [Option.map_some] at hsp
      simp only [h0', if_true, Option.map_some, Option.bind_some, e1, lAt_nat hg, ref17_Monday_eq hdg, Bool.false_eq_true, if_false]
      by_cases hv : y.2 = x.2
      · have hmm : (monday g.1 != monday e.1) = false := by rw [← hmy, ← hm, hv]; simp
        rw [if_pos (by rw [hv])] at hsp
        refine ⟨(es, a, b, ((i + 1 : Nat) : Int), acc, (), ()), by simp [hmm, w1, show monday g.1 = monday e.1 by rw [← hmy, ← hm, hv]], n - 1, by omega, i + 1, acc, by omega, rfl, by omega, ?_⟩
        rw [hsp, hv]; simp [hx]
      · have hmm : (monday g.1 != monday e.1) = true := by rw [← hmy, ← hm]; simpa using hv
        rw [if_neg (by simpa using hv)] at hsp
        rw [htot (some y.2) (.inr ⟨_, rfl, by omega⟩) (fun j z hj hz => by
          rcases Nat.lt_or_ge j (i - 1) with hh | hh
          · have := hup' j (i - 1) z y hh hz hy; omega
          · have : j = i - 1 := by omega
            subst this
            rw [hy] at hz; cases hz; omega)] at hsp
        refine ⟨(es, a, b, ((i + 1 : Nat) : Int), acc ++ [totW x.2 X], (), ()), ?_, n - 1, by omega, i + 1, _, by omega, rfl, by simp; omega, ?_⟩
        · simp only [hmm, if_true, w7, hsum, Option.bind_some, happ]
          simp [w1]
        · rw [hsp]; simp [hx]
  · have hlt' : ¬ ((i : Int) < es.length) := by omega
    right
    rw [List.drop_eq_nil_of_le (by omega)] at hsp
    simp only [wk, List.append_nil] at hsp
    simp [hlt', hsp]
theorem ref17_Weeks_eq {es : List Ent} {a b : Int} (hw : wrong es a b = 0) : ref17_Weeks (es, a, b) = some (weeksF es a b) := by
  unfold ref17_Weeks
  simp only [ref17_Weeks_loop hw, Option.bind_some]
end WB
