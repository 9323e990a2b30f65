/-
  THE SHEET: what each of its functions comes to, over plain data.
-/
import Derived.Test.YtpkoilfecgmogaaPsA
import Derived.Test.YtpkoilfecgmogaaPsG
import Derived.Test.YtpkoilfecgmogaaPiter
namespace WB
open Go Go.RowKit
set_option linter.unusedSimpArgs false
set_option linter.unusedVariables false

theorem civil_in_eq (d : Int) : civil_in d = some (isDay d) := by
  unfold civil_in isDay
  by_cases h : -25567 ≤ d <;> by_cases h2 : d < 84006 <;> simp [h, h2] <;> omega
theorem ref04_In_eq (d : Int) : ref04_In d = some (isDay d) := by
  unfold ref04_In isDay
  by_cases h : -25567 ≤ d <;> by_cases h2 : d < 84006 <;> simp [h, h2] <;> omega
theorem civil_Weekday_eq (d : Int) : civil_Weekday d = some (weekday d) := by
  unfold civil_Weekday
  simp only [civil_in_eq, Option.bind_some]
  unfold weekday
  cases hd : isDay d with
  | false => simp
  | true =>
    obtain ⟨h1, h2⟩ := isDay_in hd
    simp only [Bool.not_true, Bool.false_eq_true, if_false, if_true]
    rw [w64' (by omega) (by omega)]
    simp only [Option.bind_some, show ¬ (7 : Int) = 0 by decide, if_false]
    rw [Int.tmod_eq_emod_of_nonneg (by omega)]
    simp [Int.sub_neg]
theorem ref04_Weekday_eq {d : Int} (hd : isDay d = true) : ref04_Weekday d = some (weekday d) := by
  unfold ref04_Weekday weekday
  obtain ⟨h1, h2⟩ := isDay_in hd
  simp only [hd, if_true, show ¬ (7 : Int) = 0 by decide, if_false, Option.bind_some]
  rw [w64' (by omega) (by omega), Int.tmod_eq_emod_of_nonneg (by omega)]
  simp [Int.sub_neg]
theorem ref17_Monday_eq {d : Int} (hd : isDay d = true) : ref17_Monday d = some (monday d) := by
  unfold ref17_Monday
  obtain ⟨h1, h2⟩ := isDay_in hd
  obtain ⟨h3, h4, h5⟩ := monday_in hd
  simp only [ref04_Weekday_eq hd, Option.bind_some]
  unfold monday at *
  rw [w64' (by omega) (by omega)]

theorem drop_cons {α : Type} {l : List α} {i : Nat} {e : α} (h : l[i]? = some e) : l.drop i = e :: l.drop (i + 1) := by
  obtain ⟨hl, he⟩ := List.getElem?_eq_some_iff.1 h
  rw [List.drop_eq_getElem_cons hl, he]
theorem get_ex {α : Type} {l : List α} {i : Nat} (h : i < l.length) : ∃ e, l[i]? = some e := ⟨_, List.getElem?_eq_getElem h⟩

theorem wrongL_cons (p : Option Ent) (e : Ent) (r : List Ent) : wrongL p (e :: r) = if weekday e.1 < 0 then 15 else if (p.any fun q => e.1 ≤ q.1) then 8 else if badE e then 2 else wrongL (some e) r := rfl

theorem sheet_wrong_loop (es : List Ent) (a b : Int) (hl : es.length ≤ 4096) : iter sheet_wrong_loop1 (es, es, (es.length : Int), 0, a, b, (), (), ()) = some (if wrongL none es = 0 then .inl (a, b, (), (), ()) else .inr (wrongL none es)) := by
  refine iter_inv (fun n s => ∃ (i : Nat) (p : Option Ent), i + n = es.length ∧ s = (es, es, (es.length : Int), (i : Int), a, b, (), (), ()) ∧ (0 < i → p = es[i - 1]?) ∧ (i = 0 → p = none) ∧ wrongL none es = wrongL p (es.drop i)) ?_ es.length _ ⟨0, none, by simp, rfl, by simp, by simp, by simp⟩
  rintro n s ⟨i, p, hi, rfl, hp, hp0, hw⟩
  rw [hw]
  unfold sheet_wrong_loop1
  simp only
  by_cases hlt : i < es.length
  · obtain ⟨⟨d, m, n'⟩, he⟩ := get_ex hlt
    rw [drop_cons he, wrongL_cons]
    have hlt' : ((i : Int) < es.length) := by omega
    simp only [hlt', decide_true, if_true, lAt_nat he, Option.map_some, Option.bind_some, civil_Weekday_eq]
    by_cases h1 : weekday d < 0
    · right; simp [h1]
    · simp only [h1, decide_false, Bool.false_eq_true, if_false]
      have hprev : ∀ {q : Ent}, 0 < i → p = some q → lAt es ((i : Int) - 1) = some q := by
        intro q h0 hq
        have := hp h0
        rw [hq] at this
        have e : (i : Int) - 1 = ((i - 1 : Nat) : Int) := by omega
        rw [e]
        exact lAt_nat this.symm
      have hstep : wrongL (some (d, m, n')) (es.drop (i + 1)) = wrongL es[i]? (es.drop (i + 1)) := by rw [he]
      by_cases h0 : 0 < i
      · obtain ⟨q, hq⟩ : ∃ q, p = some q := by
          rw [hp h0]; exact get_ex (by omega)
        have h0' : (0 : Int) < (i : Int) := by omega
        have hpr := hprev h0 hq
        subst hq
        simp only [gt_iff_lt, h0', decide_true, if_true, Option.map_some, Option.bind_some, Option.any_some]
        rw [w64' (by omega) (by omega), hpr]
        simp only [Option.map_some, Option.bind_some]
        by_cases h2 : d ≤ q.1
        · right; simp [h2]
        · simp only [h2, decide_false, Bool.false_eq_true, if_false]
          by_cases g1 : m < 0
          · right; simp [badE, g1]
          by_cases g2 : 1440 < m
          · right; simp [badE, g1, g2]
          by_cases g3 : n' < 0
          · right; simp [badE, g1, g2, g3]
          by_cases g4 : m < n'
          · right; simp [badE, g1, g2, g3, g4]
          left
          refine ⟨_, by simp [g1, g2, g3, g4]; rfl, n - 1, by omega, i + 1, some (d, m, n'), by omega, ?_, fun _ => by simpa using he.symm, by omega, ?_⟩
          · rw [w64' (by omega) (by omega)]; simp
          · simp [badE, g1, g2, g3, g4]
      · have h0' : ¬ (0 : Int) < (i : Int) := by omega
        have hpn := hp0 (by omega)
        subst hpn
        simp only [gt_iff_lt, h0', decide_false, Bool.false_eq_true, if_false, Option.map_none, Option.bind_some, Option.any_none]
        by_cases g1 : m < 0
        · right; simp [badE, g1]
        by_cases g2 : 1440 < m
        · right; simp [badE, g1, g2]
        by_cases g3 : n' < 0
        · right; simp [badE, g1, g2, g3]
        by_cases g4 : m < n'
        · right; simp [badE, g1, g2, g3, g4]
        left
        refine ⟨_, by simp [g1, g2, g3, g4]; rfl, n - 1, by omega, i + 1, some (d, m, n'), by omega, ?_, fun _ => by simpa using he.symm, by omega, ?_⟩
        · rw [w64' (by omega) (by omega)]; simp
        · simp [badE, g1, g2, g3, g4]
  · have hlt' : ¬ ((i : Int) < es.length) := by omega
    rw [List.drop_eq_nil_of_le (by omega)]
    right
    simp [hlt', wrongL]
theorem sheet_wrong_eq (es : List Ent) (a b : Int) : sheet_wrong (es, (a, b)) = some (wrong es a b) := by
  unfold sheet_wrong wrong
  simp only
  by_cases hl : 4096 < es.length
  · have : (es.length : Int) > 4096 := by omega
    simp [hl, this]
  · have : ¬ (es.length : Int) > 4096 := by omega
    simp only [this, decide_false, Bool.false_eq_true, if_false, hl, if_false]
    rw [sheet_wrong_loop es a b (by omega), Option.bind_some]
    by_cases hw : wrongL none es = 0
    · simp only [hw, if_true]
      by_cases g1 : a < 0
      · simp [badLim, g1]
      by_cases g2 : 1440 < a
      · simp [badLim, g1, g2]
      by_cases g3 : b < 0
      · simp [badLim, g1, g2, g3]
      by_cases g4 : 10080 < b
      · simp [badLim, g1, g2, g3, g4]
      simp [badLim, g1, g2, g3, g4]
    · simp [hw]
theorem sheet_Hours_add_eq (x y : Ent) : sheet_Hours_add (x, y) = some (addE x y) := rfl

theorem eqZw (a b : Int) : eqZ (.agg (.one (.int .i64))) a b = true ↔ a = b := by
  show ((a : Int) == b) = true ↔ a = b
  simp

theorem sheet_each_loop (es : List Ent) (a b : Int) (hl : es.length ≤ 4096) (hes : ∀ e ∈ es, okE e) (ha : 0 ≤ a ∧ a ≤ 1440) (hb : 0 ≤ b ∧ b ≤ 10080) :
    iter sheet_each_loop1 (es, (es.length : Int), 0, a, b, [], [], [], (), (), (), (), (), ()) = some ((eachL a b (fun _ => 0) es).map (·.1), (eachL a b (fun _ => 0) es).map (·.2), (), (), ()) := by
  refine iter_inv (fun n s => ∃ (i : Nat) (m : List (Int × Int)) (acc : List (Ent × Int)) (sm : Int → Int), i + n = es.length ∧ s = (es, (es.length : Int), (i : Int), a, b, m, acc.map (·.1), acc.map (·.2), (), (), (), (), (), ()) ∧ acc.length = i ∧
    (∀ w, (alGet (eqZ (.agg (.one (.int .i64)))) (zeroT (.int .i64)) w m).1 = sm w) ∧ (∀ w, 0 ≤ sm w ∧ sm w ≤ 1440 * i) ∧ eachL a b (fun _ => 0) es = acc ++ eachL a b sm (es.drop i)) ?_ es.length _ ⟨0, [], [], fun _ => 0, by simp, rfl, rfl, fun w => rfl, fun w => by simp, by simp⟩
  rintro n s ⟨i, m, acc, sm, hi, rfl, hacc, hm, hsm, hsp⟩
  unfold sheet_each_loop1
  simp only
  by_cases hlt : i < es.length
  · obtain ⟨⟨d, mi, n'⟩, he⟩ := get_ex hlt
    rw [drop_cons he] at hsp
    have hlt' : ((i : Int) < es.length) := by omega
    have hok := hes _ (List.mem_of_getElem? he)
    obtain ⟨o1, o2, o3, o4, o5⟩ := hok
    simp only at o1 o2 o3 o4 o5
    obtain ⟨d1, d2⟩ := isDay_in o1
    obtain ⟨d3, d4, d5⟩ := monday_in o1
    have hmon : IntKind.i64.wrap (d - weekday d) = monday d := by unfold monday at *; rw [w64' (by omega) (by omega)]
    have hs := hsm (monday d)
    simp only [hlt', decide_true, if_true, lAt_nat he, Option.map_some, Option.bind_some, civil_Weekday_eq, hmon, hm]
    left
    have w1 : IntKind.i64.wrap (b - sm (monday d)) = b - sm (monday d) := w64' (by omega) (by omega)
    have w2 : IntKind.i64.wrap (sm (monday d) + min mi a) = sm (monday d) + min mi a := w64' (by omega) (by omega)
    have w3 : IntKind.i64.wrap (mi - min (min mi a) (max (b - sm (monday d)) 0)) = mi - min (min mi a) (max (b - sm (monday d)) 0) := w64' (by omega) (by omega)
    have w4 : IntKind.i64.wrap ((i : Int) + 1) = ((i + 1 : Nat) : Int) := by rw [w64' (by omega) (by omega)]; omega
    have hg := alGet_put eqZw (zeroT (.int .i64)) (monday d) (monday d) (sm (monday d)) m
    rw [if_pos rfl] at hg
    simp only [w1, w2, w3, w4, hg, if_true]
    rw [Option.bind_some, app1 (by simp; omega) (by simp) (by decide), Option.bind_some, app1 (by simp; omega) (by simp) (by decide), Option.bind_some]
    refine ⟨_, rfl, n - 1, by omega, i + 1, alPut (eqZ (.agg (.one (.int .i64)))) (monday d) (sm (monday d) + min mi a) (alPut (eqZ (.agg (.one (.int .i64)))) (monday d) (sm (monday d)) m), acc ++ [((min (min mi a) (max (b - sm (monday d)) 0), mi - min (min mi a) (max (b - sm (monday d)) 0), n'), monday d)], fun x => if x = monday d then sm (monday d) + min mi a else sm x, by omega, ?_, by simp [hacc], fun w => ?_, fun w => ?_, ?_⟩
    · simp
    · rw [alGet_put eqZw]
      by_cases hw : w = monday d
      · simp [hw]
      · rw [if_neg hw, alGet_put eqZw, if_neg hw]
        simp [hw, hm]
    · have := hsm w
      simp only
      split <;> omega
    · rw [hsp]
      simp [eachL]
  · have hlt' : ¬ ((i : Int) < es.length) := by omega
    right
    rw [List.drop_eq_nil_of_le (by omega)] at hsp
    simp only [eachL, List.append_nil] at hsp
    simp [hlt', hsp]
theorem sheet_each_eq {es : List Ent} {a b : Int} (hw : wrong es a b = 0) : sheet_each (es, (a, b)) = some ((eachL a b (fun _ => 0) es).map (·.1), (eachL a b (fun _ => 0) es).map (·.2)) := by
  obtain ⟨h1, h2, h3, h4⟩ := wrong_ok hw
  unfold sheet_each
  simp only [sheet_each_loop es a b h1 h2 h3 h4, Option.bind_some]
theorem sheet_Sum_loop {es : List Ent} {a b : Int} (hw : wrong es a b = 0) (f t : Int) :
    iter sheet_Sum_loop1 ((eachL a b (fun _ => 0) es).map (·.1), es, (es.length : Int), 0, f, t, 0, 0, 0, 0, 0, 0, (), (), (), (), (), (), ()) = some (0, 0, 0, (sumH es a b f t).1, (sumH es a b f t).2.1, (sumH es a b f t).2.2, (), (), (), (), ()) := by
  obtain ⟨hl, hes, ha, hb⟩ := wrong_ok hw
  obtain ⟨X, hX⟩ : ∃ X, eachL a b (fun _ => 0) es = X := ⟨_, rfl⟩
  have hXl : X.length = es.length := by rw [← hX]; exact eachL_len _ _
  have hXok : ∀ x ∈ X, okH x.1 := by rw [← hX]; exact eachL_ok ha.1 es _ hes
  have hS : sumH es a b f t = sumL f t (0, 0, 0) (es.zip X) := by rw [← hX]; rfl
  rw [hS, hX]
  refine iter_inv (fun n s => ∃ (i : Nat) (h : Ent), i + n = es.length ∧ s = (X.map (·.1), es, (es.length : Int), (i : Int), f, t, 0, 0, 0, h.1, h.2.1, h.2.2, (), (), (), (), (), (), ()) ∧ inH i h ∧ sumL f t (0, 0, 0) (es.zip X) = sumL f t h ((es.zip X).drop i)) ?_ es.length _ ⟨0, (0, 0, 0), by simp, rfl, by simp [inH], by simp⟩
  rintro n s ⟨i, h, hi, rfl, hin, hsp⟩
  unfold sheet_Sum_loop1
  simp only
  by_cases hlt : i < es.length
  · obtain ⟨⟨d, mi, n'⟩, he⟩ := get_ex hlt
    obtain ⟨⟨x, v⟩, hx⟩ := get_ex (l := X) (i := i) (by omega)
    have hz : (es.zip X)[i]? = some ((d, mi, n'), (x, v)) := by rw [List.getElem?_zip_eq_some]; exact ⟨he, hx⟩
    have hxm : (X.map (·.1))[i]? = some x := by simp [hx]
    rw [drop_cons hz] at hsp
    simp only [sumL] at hsp
    have hlt' : ((i : Int) < es.length) := by omega
    have w1 : IntKind.i64.wrap ((i : Int) + 1) = (i : Int) + 1 := w64' (by omega) (by omega)
    have hin' : inH (i + 1) h := by unfold inH at *; omega
    simp only [hlt', decide_true, if_true, lAt_nat he, lAt_nat hxm, Option.map_some, Option.bind_some, w1]
    left
    by_cases g1 : d < f
    · rw [if_pos (.inl g1)] at hsp
      exact ⟨(X.map (·.1), es, (es.length : Int), ((i + 1 : Nat) : Int), f, t, 0, 0, 0, h.1, h.2.1, h.2.2, (), (), (), (), (), (), ()), by simp [g1, w1], n - 1, by omega, i + 1, h, by omega, rfl, hin', hsp⟩
    by_cases g2 : t ≤ d
    · rw [if_pos (.inr g2)] at hsp
      exact ⟨(X.map (·.1), es, (es.length : Int), ((i + 1 : Nat) : Int), f, t, 0, 0, 0, h.1, h.2.1, h.2.2, (), (), (), (), (), (), ()), by simp [g1, g2, w1], n - 1, by omega, i + 1, h, by omega, rfl, hin', hsp⟩
    rw [if_neg (by omega)] at hsp
    have hxo := hXok _ (List.mem_of_getElem? hx)
    have hadd : addE (h.1, h.2.1, h.2.2) x = add3 h x := addE_in (k := i) (by omega) hin hxo
    refine ⟨(X.map (·.1), es, (es.length : Int), ((i + 1 : Nat) : Int), f, t, 0, 0, 0, (add3 h x).1, (add3 h x).2.1, (add3 h x).2.2, (), (), (), (), (), (), ()), by simp [g1, g2, sheet_Hours_add_eq, hadd, w1], n - 1, by omega, i + 1, add3 h x, by omega, rfl, ?_, hsp⟩
    unfold okH at hxo
    unfold inH add3 at *
    simp only at hxo ⊢
    omega
  · have hlt' : ¬ ((i : Int) < es.length) := by omega
    right
    rw [List.drop_eq_nil_of_le (by simp; omega)] at hsp
    simp only [sumL] at hsp
    simp [hlt', hsp]
theorem sheet_Sum_eq (es : List Ent) (a b f t : Int) : sheet_Sum (es, (a, b), (f, t)) = some (sumE es a b f t, wrong es a b) := by
  unfold sheet_Sum
  simp only [sheet_wrong_eq, Option.bind_some]
  by_cases hw : wrong es a b = 0
  · simp only [hw, bne_self_eq_false, Bool.false_eq_true, if_false, sheet_each_eq hw, Option.bind_some, sheet_Sum_loop hw f t]
    simp [sumE, hw]
  · have : (wrong es a b != 0) = true := by simp [hw]
    simp [this, sumE, hw]

theorem sheet_Weeks_loop {es : List Ent} {a b : Int} (hw : wrong es a b = 0) :
    iter sheet_Weeks_loop1 ((eachL a b (fun _ => 0) es).map (·.2), (eachL a b (fun _ => 0) es).map (·.1), (((eachL a b (fun _ => 0) es).map (·.1)).length : Int), 0, [], (), ()) = some (weeksF es a b, (), ()) := by
  obtain ⟨hl, hes, ha, hb⟩ := wrong_ok hw
  have hS : weeksF es a b = merge [] none (eachL a b (fun _ => 0) es) := by simp [weeksF, hw]
  obtain ⟨X, hX⟩ : ∃ X, eachL a b (fun _ => 0) es = X := ⟨_, rfl⟩
  have hXl : X.length = es.length := by rw [← hX]; exact eachL_len _ _
  have hXok : ∀ x ∈ X, okH x.1 := by rw [← hX]; exact eachL_ok ha.1 es _ hes
  rw [hS, hX]
  refine iter_inv (fun n s => ∃ (i : Nat) (acc : List Ent), i + n = X.length ∧ s = (X.map (·.2), X.map (·.1), ((X.map (·.1)).length : Int), (i : Int), acc, (), ()) ∧ (0 < i → acc ≠ []) ∧ (∀ x ∈ acc, inH i x) ∧ acc.length ≤ i ∧
    merge [] none X = merge acc (if i = 0 then none else (X[i - 1]?).map (·.2)) (X.drop i)) ?_ X.length _ ⟨0, [], by simp, rfl, by simp, by simp, by simp, by simp⟩
  rintro n s ⟨i, acc, hi, rfl, hne, hin, hal, hsp⟩
  unfold sheet_Weeks_loop1
  simp only
  by_cases hlt : i < X.length
  · obtain ⟨⟨x, v⟩, hx⟩ := get_ex hlt
    rw [drop_cons hx] at hsp
    have hlt' : ((i : Int) < ((X.map (·.1)).length : Int)) := by simp; omega
    have w1 : IntKind.i64.wrap ((i : Int) + 1) = (i : Int) + 1 := w64' (by omega) (by omega)
    have hx1 : (X.map (·.1))[i]? = some x := by simp [hx]
    have hx2 : (X.map (·.2))[i]? = some v := by simp [hx]
    have hxo := hXok _ (List.mem_of_getElem? hx)
    have hin' : ∀ y ∈ acc, inH (i + 1) y := fun y hy => by have := hin y hy; unfold inH at *; omega
    have hxin : inH (i + 1) x := by unfold okH at hxo; unfold inH; simp only at hxo; omega
    simp only [hlt', decide_true, if_true, lAt_nat hx1, Option.map_some, Option.bind_some, w1]
    left
    by_cases h0 : i = 0
    · subst h0
      simp only [if_true] at hsp
      have hacc : acc = [] := List.eq_nil_of_length_eq_zero (by omega)
      subst hacc
      simp only [merge, Option.some_ne_none, if_false, reduceCtorEq] at hsp
      refine ⟨(X.map (·.2), X.map (·.1), ((X.map (·.1)).length : Int), ((1 : Nat) : Int), [x], (), ()), by simp [show IntKind.i64.wrap 1 = 1 from rfl], n - 1, by omega, 1, [x], by omega, by simp, by simp, by simpa using hxin, by simp, ?_⟩
      simpa [hx] using hsp
    · obtain ⟨⟨g, v'⟩, hg⟩ := get_ex (l := X) (i := i - 1) (by omega)
      rw [if_neg h0, hg] at hsp
      simp only [Option.map_some, merge] at hsp
      have h0' : ((0 : Int) < (i : Int)) := by omega
      have e1 : IntKind.i64.wrap ((i : Int) - 1) = ((i - 1 : Nat) : Int) := by rw [w64' (by omega) (by omega)]; omega
      have hg2 : (X.map (·.2))[i - 1]? = some v' := by simp [hg]
      obtain ⟨A, y, rfl⟩ : ∃ A y, acc = A ++ [y] := ⟨acc.dropLast, acc.getLast (hne (by omega)), (List.dropLast_concat_getLast (hne (by omega))).symm⟩
      simp only [List.length_append, List.length_cons, List.length_nil] at hal
      have e2 : IntKind.i64.wrap (((A.length + (0 + 1) : Nat) : Int) - 1) = (A.length : Int) := by rw [w64' (by omega) (by omega)]; omega
      have hyin := hin y (by simp)
      have hadd : addE y (x.1, x.2.1, x.2.2) = add3 y x := addE_in (k := i) (by omega) hyin hxo
      simp only [gt_iff_lt, h0', decide_true, if_true, Option.map_some, Option.bind_some, lAt_nat hx2, e1, lAt_nat hg2]
      by_cases hv : v = v'
      · subst hv
        simp only [if_true] at hsp
        simp only [beq_self_eq_true, if_true, List.length_append, List.length_cons, List.length_nil, e2]
        have c1 : (0 : Int) ≤ (A.length : Int) ∧ (A.length : Int) < ((A.length + (0 + 1) : Nat) : Int) := by omega
        simp only [c1, and_self, if_true, Option.bind_some, Int.toNat_natCast, List.getElem?_concat_length, Option.map_some, sheet_Hours_add_eq, hadd]
        refine ⟨(X.map (·.2), X.map (·.1), ((X.map (·.1)).length : Int), ((i + 1 : Nat) : Int), A ++ [add3 y x], (), ()), by simp [w1], n - 1, by omega, i + 1, A ++ [add3 y x], by omega, rfl, by simp, ?_, by simp; omega, ?_⟩
        · intro z hz
          simp only [List.mem_append, List.mem_singleton] at hz
          rcases hz with hz | rfl
          · exact hin' z (by simp [hz])
          · unfold okH at hxo; unfold inH add3 at *; simp only at hxo ⊢; omega
        · rw [hsp]; simp [hx]
      · have hv' : (v == v') = false := by simpa using hv
        rw [if_neg (by simpa using Ne.symm hv)] at hsp
        simp only [hv', Bool.false_eq_true, if_false]
        rw [app1 (by simp; omega) (by simp) (by decide)]
        simp only [Option.bind_some]
        refine ⟨(X.map (·.2), X.map (·.1), ((X.map (·.1)).length : Int), ((i + 1 : Nat) : Int), A ++ [y] ++ [x], (), ()), by simp [w1], n - 1, by omega, i + 1, A ++ [y] ++ [x], by omega, rfl, by simp, ?_, by simp; omega, ?_⟩
        · intro z hz
          simp only [List.mem_append, List.mem_singleton] at hz
          rcases hz with (hz | rfl) | rfl
          · exact hin' z (by simp [hz])
          · exact hin' _ (by simp)
          · exact hxin
        · rw [hsp]; simp [hx]
  · have hlt' : ¬ ((i : Int) < ((X.map (·.1)).length : Int)) := by simp; omega
    right
    rw [List.drop_eq_nil_of_le (by omega)] at hsp
    simp only [merge] at hsp
    simp only [hlt', decide_false, Bool.false_eq_true, if_false, hsp]
theorem sheet_Weeks_eq (es : List Ent) (a b : Int) : sheet_Weeks (es, (a, b)) = some (weeksF es a b) := by
  unfold sheet_Weeks
  simp only [sheet_wrong_eq, Option.bind_some]
  by_cases hw : wrong es a b = 0
  · simp only [hw, bne_self_eq_false, Bool.false_eq_true, if_false, sheet_each_eq hw, Option.bind_some, sheet_Weeks_loop hw]
  · have : (wrong es a b != 0) = true := by simp [hw]
    simp [this, weeksF, hw]
end WB
