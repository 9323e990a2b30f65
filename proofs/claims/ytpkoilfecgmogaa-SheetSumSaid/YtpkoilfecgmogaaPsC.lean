/-
  THE SHEET: the reference's functions, over plain data.
-/
import Derived.Test.YtpkoilfecgmogaaPsB
namespace WB
open Go Go.RowKit
set_option linter.unusedSimpArgs false
set_option linter.unusedVariables false

theorem weekday_day (d : Int) : (weekday d < 0) = (isDay d = false) := by
  unfold weekday
  cases hd : isDay d with
  | false => simp
  | true =>
    obtain ⟨h1, h2⟩ := isDay_in hd
    simp only [if_true, Bool.true_eq_false, eq_iff_iff, iff_false]
    omega

theorem ref17_Check_loop (es : List Ent) (a b : Int) (hl : es.length ≤ 4096) : iter ref17_Check_loop1 (es, a, b, 0, ()) = some (if wrongL none es = 0 then .inl (a, b, ()) else .inr (wrongL none es)) := by
  refine iter_inv (fun n s => ∃ (i : Nat) (p : Option Ent), i + n = es.length ∧ s = (es, a, b, (i : Int), ()) ∧ (0 < i → p = es[i - 1]?) ∧ (i = 0 → p = none) ∧ wrongL none es = wrongL p (es.drop i)) ?_ es.length _ ⟨0, none, by simp, rfl, by simp, by simp, by simp⟩
  rintro n s ⟨i, p, hi, rfl, hp, hp0, hw⟩
  rw [hw]
  unfold ref17_Check_loop1
  simp only
  by_cases hlt : i < es.length
  · obtain ⟨⟨d, m, n'⟩, he⟩ := get_ex hlt
    rw [drop_cons he, wrongL_cons]
    have hlt' : ((i : Int) < es.length) := by omega
    have w1 : IntKind.i64.wrap ((i : Int) + 1) = (i : Int) + 1 := w64' (by omega) (by omega)
    simp only [hlt', decide_true, if_true, lAt_nat he, Option.map_some, Option.bind_some, ref04_In_eq]
    cases h1 : isDay d with
    | false => right; simp [weekday_day, h1]
    | true =>
      simp only [Bool.not_true, Bool.false_eq_true, if_false, weekday_day, h1, Bool.true_eq_false]
      by_cases h0 : 0 < i
      · obtain ⟨q, hq⟩ : ∃ q, p = some q := by
          rw [hp h0]; exact get_ex (by omega)
        have hpr : lAt es ((i : Int) - 1) = some q := by
          have := hp h0
          rw [hq] at this
          have e : (i : Int) - 1 = ((i - 1 : Nat) : Int) := by omega
          rw [e]
          exact lAt_nat this.symm
        have h0' : (0 : Int) < (i : Int) := by omega
        subst hq
        simp only [gt_iff_lt, h0', decide_true, if_true, Option.map_some, Option.bind_some, Option.any_some]
        rw [w64' (by omega) (by omega), hpr]
        simp only [Option.map_some, Option.bind_some, lAt_nat he]
        by_cases h2 : d ≤ q.1
        · right; simp [h2]
        · simp only [h2, decide_false, Bool.false_eq_true, if_false]
          by_cases g1 : m < 0
          · right; simp [badE, g1]
          by_cases g2 : 1440 < m
          · right; simp [badE, g1, g2, lAt_nat he]
          by_cases g3 : n' < 0
          · right; simp [badE, g1, g2, g3, lAt_nat he]
          by_cases g4 : m < n'
          · right; simp [badE, g1, g2, g3, g4, lAt_nat he]
          left
          refine ⟨(es, a, b, ((i + 1 : Nat) : Int), ()), by simp [g1, g2, g3, g4, lAt_nat he, w1], n - 1, by omega, i + 1, some (d, m, n'), by omega, rfl, fun _ => by simpa using he.symm, by omega, ?_⟩
          simp [badE, g1, g2, g3, g4]
      · have h0' : ¬ (0 : Int) < (i : Int) := by omega
        have hpn := hp0 (by omega)
        subst hpn
        simp only [gt_iff_lt, h0', decide_false, Bool.false_eq_true, if_false, Option.map_none, Option.bind_some, Option.any_none, lAt_nat he, Option.map_some]
        by_cases g1 : m < 0
        · right; simp [badE, g1]
        by_cases g2 : 1440 < m
        · right; simp [badE, g1, g2, lAt_nat he]
        by_cases g3 : n' < 0
        · right; simp [badE, g1, g2, g3, lAt_nat he]
        by_cases g4 : m < n'
        · right; simp [badE, g1, g2, g3, g4, lAt_nat he]
        left
        refine ⟨(es, a, b, ((i + 1 : Nat) : Int), ()), by simp [g1, g2, g3, g4, lAt_nat he, w1], n - 1, by omega, i + 1, some (d, m, n'), by omega, rfl, fun _ => by simpa using he.symm, by omega, ?_⟩
        simp [badE, g1, g2, g3, g4]
  · have hlt' : ¬ ((i : Int) < es.length) := by omega
    rw [List.drop_eq_nil_of_le (by omega)]
    right
    simp [hlt', wrongL]
theorem ref17_Check_eq (es : List Ent) (a b : Int) : ref17_Check (es, a, b) = some (wrong es a b) := by
  unfold ref17_Check wrong
  simp only
  by_cases hl : 4096 < es.length
  · have : (es.length : Int) > 4096 := by omega
    simp [hl, this]
  · have : ¬ (es.length : Int) > 4096 := by omega
    simp only [this, decide_false, Bool.false_eq_true, if_false, hl, if_false]
    rw [ref17_Check_loop es a b (by omega), Option.bind_some]
    by_cases hw : wrongL none es = 0
    · simp only [hw, if_true]
      by_cases g1 : a < 0
      · simp [badLim, g1]
      by_cases g2 : 1440 < a
      · simp [badLim, g1, g2]
      by_cases g3 : b < 0
      · simp [badLim, g1, g2, g3]
      by_cases g4 : 10080 < b
      · simp [badLim, g1, g2, g3, g4]
      simp [badLim, g1, g2, g3, g4]
    · simp [hw]

/-- The minutes of a week's days that are reckoned, by a day's limit. -/
def smL (a w : Int) : List Ent → Int
  | [] => 0
  | e :: r => (if monday e.1 = w then min e.2.1 a else 0) + smL a w r
theorem smL_snoc (a w : Int) : ∀ (l : List Ent) (e : Ent), smL a w (l ++ [e]) = smL a w l + (if monday e.1 = w then min e.2.1 a else 0)
  | [], e => by simp [smL]
  | x :: l, e => by simp only [List.cons_append, smL, smL_snoc a w l e]; omega
theorem smL_in {a w : Int} (ha : 0 ≤ a) : ∀ (l : List Ent), (∀ e ∈ l, okE e) → 0 ≤ smL a w l ∧ smL a w l ≤ 1440 * l.length
  | [], _ => by simp [smL]
  | x :: l, h => by
    have h1 := smL_in (w := w) ha l (fun e he => h e (by simp [he]))
    obtain ⟨_, h2, h3, _⟩ := h x (by simp)
    simp only [smL, List.length_cons]
    split <;> omega
theorem take_snoc {α : Type} {l : List α} {i : Nat} {e : α} (h : l[i]? = some e) : l.take (i + 1) = l.take i ++ [e] := by
  rw [List.take_add_one, h]; rfl

theorem eachL_nth {a b : Int} : ∀ (es : List Ent) (sm : Int → Int) (i : Nat) (e : Ent), es[i]? = some e → (eachL a b sm es)[i]? = some ((min (min e.2.1 a) (max (b - (sm (monday e.1) + smL a (monday e.1) (es.take i))) 0), e.2.1 - min (min e.2.1 a) (max (b - (sm (monday e.1) + smL a (monday e.1) (es.take i))) 0), e.2.2), monday e.1)
  | [], _, _, _, h => by simp at h
  | x :: r, sm, 0, e, h => by
    simp at h; subst h
    simp [eachL, smL]
  | x :: r, sm, i + 1, e, h => by
    simp only [List.getElem?_cons_succ] at h
    simp only [eachL, List.getElem?_cons_succ, eachL_nth r _ i e h, List.take_succ_cons, smL]
    by_cases hm : monday e.1 = monday x.1
    · simp only [hm, if_true]
      have e1 : sm (monday x.1) + min x.2.1 a + smL a (monday x.1) (r.take i) = sm (monday x.1) + (min x.2.1 a + smL a (monday x.1) (r.take i)) := by omega
      rw [e1]
    · simp only [hm, if_false, Ne.symm hm]
      simp

theorem ref17_over_eq {es : List Ent} {a b : Int} (hw : wrong es a b = 0) {i : Nat} {e : Ent} (he : es[i]? = some e) : ref17_over (es, (i : Int), a, b) = some (e.2.1 - min (min e.2.1 a) (max (b - smL a (monday e.1) (es.take i)) 0)) := by
  obtain ⟨hl, hes, ha, hb⟩ := wrong_ok hw
  obtain ⟨hi, _⟩ := List.getElem?_eq_some_iff.1 he
  obtain ⟨o1, o2, o3, o4, o5⟩ := hes _ (List.mem_of_getElem? he)
  have hloop : iter ref17_over_loop1 (es, (i : Int), a, b, 0, 0, 0, ()) = some (es, (i : Int), b, min e.2.1 a, smL a (monday e.1) (es.take i), ()) := by
    refine iter_inv (fun n s => ∃ (k : Nat) (left ahead : Int), k + n = i + 1 ∧ s = (es, (i : Int), a, b, left, ahead, (k : Int), ()) ∧ (0 ≤ left ∧ left ≤ 1440) ∧ (0 ≤ ahead ∧ ahead ≤ 1440 * k) ∧
      ((k ≤ i ∧ ahead + left = smL a (monday e.1) (es.take k)) ∨ (k = i + 1 ∧ left = min e.2.1 a ∧ ahead = smL a (monday e.1) (es.take i)))) ?_ (i + 1) _ ⟨0, 0, 0, by simp, rfl, by omega, by omega, .inl ⟨by omega, by simp [smL]⟩⟩
    rintro n s ⟨k, left, ahead, hk, rfl, h1, h2, h3⟩
    unfold ref17_over_loop1
    simp only
    by_cases hki : k ≤ i
    · rcases h3 with ⟨_, h3⟩ | ⟨h3, _⟩
      · obtain ⟨⟨d, m, n'⟩, hg⟩ := get_ex (l := es) (i := k) (by omega)
        obtain ⟨p1, p2, p3, p4, p5⟩ := hes _ (List.mem_of_getElem? hg)
        simp only at p1 p2 p3
        have hki' : (k : Int) ≤ (i : Int) := by omega
        have w1 : IntKind.i64.wrap ((k : Int) + 1) = (k : Int) + 1 := w64' (by omega) (by omega)
        have w2 : IntKind.i64.wrap (ahead + left) = ahead + left := w64' (by omega) (by omega)
        simp only [hki', decide_true, if_true, lAt_nat hg, lAt_nat he, Option.map_some, Option.bind_some, ref17_Monday_eq p1, ref17_Monday_eq o1]
        left
        have hsn := smL_snoc a (monday e.1) (es.take k) (d, m, n')
        rw [← take_snoc hg] at hsn
        simp only at hsn
        by_cases hm : monday d = monday e.1
        · simp only [hm, bne_self_eq_false, Bool.false_eq_true, if_false]
          rw [if_pos hm] at hsn
          by_cases hma : m > a
          · refine ⟨(es, (i : Int), a, b, a, ahead + left, ((k + 1 : Nat) : Int), ()), by simp [hma, w1, w2], n - 1, by omega, k + 1, a, ahead + left, by omega, rfl, by omega, by omega, ?_⟩
            by_cases hlast : k = i
            · right
              subst hlast
              rw [hg] at he
              cases he
              exact ⟨rfl, by simp only; omega, h3⟩
            · left; exact ⟨by omega, by rw [hsn]; omega⟩
          · refine ⟨(es, (i : Int), a, b, m, ahead + left, ((k + 1 : Nat) : Int), ()), by simp [hma, w1, w2, lAt_nat hg], n - 1, by omega, k + 1, m, ahead + left, by omega, rfl, by omega, by omega, ?_⟩
            by_cases hlast : k = i
            · right
              subst hlast
              rw [hg] at he
              cases he
              exact ⟨rfl, by simp only; omega, h3⟩
            · left; exact ⟨by omega, by rw [hsn]; omega⟩
        · have hne : (monday d != monday e.1) = true := by simp [hm]
          rw [if_neg hm] at hsn
          refine ⟨(es, (i : Int), a, b, left, ahead, ((k + 1 : Nat) : Int), ()), by simp [hne, hm, w1], n - 1, by omega, k + 1, left, ahead, by omega, rfl, by omega, by omega, .inl ⟨?_, by rw [hsn]; omega⟩⟩
          rcases Nat.lt_or_ge k i with hh | hh
          · omega
          · exfalso
            have : k = i := by omega
            subst this
            rw [hg] at he
            cases he
            exact hm rfl
      · omega
    · rcases h3 with ⟨h3, _⟩ | ⟨h3, h4, h5⟩
      · omega
      · right
        have hki' : ¬ (k : Int) ≤ (i : Int) := by omega
        simp [hki', h4, h5]
  have hs := smL_in (w := monday e.1) ha.1 (es.take i) (fun x hx => hes x (List.mem_of_mem_take hx))
  have hlen : (es.take i).length ≤ i := by simp; omega
  unfold ref17_over
  simp only [hloop, Option.bind_some]
  rw [w64' (by omega) (by omega)]
  obtain ⟨S, hS⟩ : ∃ S, smL a (monday e.1) (es.take i) = S := ⟨_, rfl⟩
  rw [hS] at hs ⊢
  by_cases g1 : b - S < 0
  · simp only [g1, decide_true, if_true, Option.bind_some]
    by_cases g2 : (0 : Int) > min e.2.1 a
    · omega
    · simp only [g2, decide_false, Bool.false_eq_true, if_false, Option.bind_some, lAt_nat he, Option.map_some]
      rw [w64' (by omega) (by omega)]
      congr 1; omega
  · simp only [g1, decide_false, Bool.false_eq_true, if_false, Option.bind_some]
    by_cases g2 : b - S > min e.2.1 a
    · simp only [g2, decide_true, if_true, Option.bind_some, lAt_nat he, Option.map_some]
      rw [w64' (by omega) (by omega)]
      congr 1; omega
    · simp only [g2, decide_false, Bool.false_eq_true, if_false, Option.bind_some, lAt_nat he, Option.map_some]
      rw [w64' (by omega) (by omega)]
      congr 1; omega
end WB
