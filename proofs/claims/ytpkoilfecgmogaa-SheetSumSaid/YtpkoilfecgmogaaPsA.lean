/-
  THE SHEET, PLAIN: what its functions reckon, and laws of that. Nothing of a program stands here.
-/
import Derived.Test.YtpkoilfecgmogaaCoreZr
namespace WB
open Go Go.RowKit
set_option linter.unusedSimpArgs false
def isDay (d : Int) : Bool := decide (-25567 ≤ d) && decide (d < 84006)
def weekday (d : Int) : Int := if isDay d then (d + 25567) % 7 else -1
def addE (x y : Ent) : Ent := (IntKind.i64.wrap (x.1 + y.1), IntKind.i64.wrap (x.2.1 + y.2.1), IntKind.i64.wrap (x.2.2 + y.2.2))
def monday (d : Int) : Int := d - weekday d
def eachL (a b : Int) : (Int → Int) → List Ent → List (Ent × Int)
  | _, [] => []
  | sm, e :: r => ((min (min e.2.1 a) (max (b - sm (monday e.1)) 0), e.2.1 - min (min e.2.1 a) (max (b - sm (monday e.1)) 0), e.2.2), monday e.1) :: eachL a b (fun x => if x = monday e.1 then sm (monday e.1) + min e.2.1 a else sm x) r
def okE (e : Ent) : Prop := isDay e.1 = true ∧ 0 ≤ e.2.1 ∧ e.2.1 ≤ 1440 ∧ 0 ≤ e.2.2 ∧ e.2.2 ≤ e.2.1
def nl1 (es : List Ent) : Option Bool := if es = [] then some true else none
def badE (e : Ent) : Bool := e.2.1 < 0 || 1440 < e.2.1 || e.2.2 < 0 || e.2.1 < e.2.2
def wrongL : Option Ent → List Ent → Int
  | _, [] => 0
  | p, e :: r => if weekday e.1 < 0 then 15 else if (p.any fun q => e.1 ≤ q.1) then 8 else if badE e then 2 else wrongL (some e) r
def badLim (a b : Int) : Bool := a < 0 || 1440 < a || b < 0 || 10080 < b
def wrong (es : List Ent) (a b : Int) : Int :=
  if 4096 < es.length then 5 else if wrongL none es = 0 then (if badLim a b then 2 else 0) else wrongL none es

theorem wrongL_ok : ∀ {es : List Ent} {p : Option Ent}, wrongL p es = 0 → ∀ e ∈ es, okE e
  | [], _, _, e, he => by cases he
  | x :: r, p, h, e, he => by
    simp only [wrongL] at h
    split at h
    · cases h
    · rename_i h1
      split at h
      · cases h
      · split at h
        · cases h
        · rename_i h3
          rcases List.mem_cons.1 he with rfl | he
          · have hd : isDay e.1 = true := by
              cases hd : isDay e.1 with
              | true => rfl
              | false => simp [weekday, hd] at h1
            simp only [badE, Bool.or_eq_true, decide_eq_true_eq, not_or] at h3
            exact ⟨hd, by omega, by omega, by omega, by omega⟩
          · exact wrongL_ok h e he
theorem wrong_ok {es : List Ent} {a b : Int} (h : wrong es a b = 0) : es.length ≤ 4096 ∧ (∀ e ∈ es, okE e) ∧ (0 ≤ a ∧ a ≤ 1440) ∧ (0 ≤ b ∧ b ≤ 10080) := by
  unfold wrong at h
  split at h
  · cases h
  · rename_i h1
    split at h
    · rename_i h2
      split at h
      · cases h
      · rename_i h3
        simp only [badLim, Bool.or_eq_true, decide_eq_true_eq, not_or] at h3
        exact ⟨by omega, wrongL_ok h2, by omega, by omega⟩
    · rename_i h2; exact absurd h h2
theorem eachL_len {a b : Int} : ∀ (es : List Ent) (sm : Int → Int), (eachL a b sm es).length = es.length
  | [], _ => rfl
  | e :: r, sm => by simp [eachL, eachL_len r]
def okH (x : Ent) : Prop := (0 ≤ x.1 ∧ x.1 ≤ 1440) ∧ (0 ≤ x.2.1 ∧ x.2.1 ≤ 1440) ∧ (0 ≤ x.2.2 ∧ x.2.2 ≤ 1440)
theorem eachL_ok {a b : Int} (ha : 0 ≤ a) : ∀ (es : List Ent) (sm : Int → Int), (∀ e ∈ es, okE e) → ∀ x ∈ eachL a b sm es, okH x.1
  | [], _, _, x, hx => by cases hx
  | e :: r, sm, h, x, hx => by
    simp only [eachL, List.mem_cons] at hx
    rcases hx with rfl | hx
    · obtain ⟨_, h1, h2, h3, h4⟩ := h e (by simp)
      refine ⟨?_, ?_, ?_⟩ <;> simp only <;> omega
    · exact eachL_ok ha r _ (fun e he => h e (by simp [he])) x hx

def add3 (x y : Ent) : Ent := (x.1 + y.1, x.2.1 + y.2.1, x.2.2 + y.2.2)
def sumL (f t : Int) : Ent → List (Ent × Ent × Int) → Ent
  | h, [] => h
  | h, p :: r => if p.1.1 < f ∨ t ≤ p.1.1 then sumL f t h r else sumL f t (add3 h p.2.1) r
def sumH (es : List Ent) (a b f t : Int) : Ent := sumL f t (0, 0, 0) (es.zip (eachL a b (fun _ => 0) es))
def sumE (es : List Ent) (a b f t : Int) : Ent := if wrong es a b = 0 then sumH es a b f t else (0, 0, 0)
theorem addE_in {x y : Ent} {k : Nat} (hk : k ≤ 4096) (hx : (0 ≤ x.1 ∧ x.1 ≤ 1440 * k) ∧ (0 ≤ x.2.1 ∧ x.2.1 ≤ 1440 * k) ∧ (0 ≤ x.2.2 ∧ x.2.2 ≤ 1440 * k)) (hy : okH y) : addE x y = add3 x y := by
  obtain ⟨h1, h2, h3⟩ := hy
  simp only [addE, add3, w64 (x.1 + y.1) (by omega), w64 (x.2.1 + y.2.1) (by omega), w64 (x.2.2 + y.2.2) (by omega)]


def merge : List Ent → Option Int → List (Ent × Int) → List Ent
  | out, _, [] => out
  | out, p, x :: r => if p = some x.2 then merge (out.dropLast ++ [add3 (out.getLastD (0, 0, 0)) x.1]) (some x.2) r else merge (out ++ [x.1]) (some x.2) r
def weeksF (es : List Ent) (a b : Int) : List Ent := if wrong es a b = 0 then merge [] none (eachL a b (fun _ => 0) es) else []
def inH (k : Nat) (x : Ent) : Prop := (0 ≤ x.1 ∧ x.1 ≤ 1440 * k) ∧ (0 ≤ x.2.1 ∧ x.2.1 ≤ 1440 * k) ∧ (0 ≤ x.2.2 ∧ x.2.2 ≤ 1440 * k)
theorem monday_in {d : Int} (h : isDay d = true) : monday d ≤ d ∧ d - 6 ≤ monday d ∧ 0 ≤ weekday d := by
  unfold monday weekday
  rw [if_pos h]
  omega
theorem isDay_in {d : Int} (h : isDay d = true) : -25567 ≤ d ∧ d < 84006 := by
  simpa [isDay] using h


theorem add3_zero (x : Ent) : add3 (0, 0, 0) x = x := by simp [add3]
theorem add3_assoc (x y z : Ent) : add3 (add3 x y) z = add3 x (add3 y z) := by simp [add3, Int.add_assoc]
theorem add3_comm (x y : Ent) : add3 x y = add3 y x := by simp [add3, Int.add_comm]

theorem sumL_add (f t : Int) : ∀ (l : List (Ent × Ent × Int)) (h : Ent), sumL f t h l = add3 h (sumL f t (0, 0, 0) l)
  | [], h => by simp [sumL, add3]
  | p :: r, h => by
    simp only [sumL]
    split
    · exact sumL_add f t r h
    · rw [sumL_add f t r (add3 h p.2.1), sumL_add f t r (add3 (0, 0, 0) p.2.1), add3_zero, add3_assoc]

/-- Two spans that meet end to end. -/
theorem sumL_cut {f m t : Int} (h1 : f ≤ m) (h2 : m ≤ t) : ∀ (l : List (Ent × Ent × Int)), add3 (sumL f m (0, 0, 0) l) (sumL m t (0, 0, 0) l) = sumL f t (0, 0, 0) l
  | [] => by simp [sumL, add3]
  | p :: r => by
    have ih := sumL_cut h1 h2 r
    simp only [sumL]
    by_cases c1 : p.1.1 < f ∨ m ≤ p.1.1
    · rw [if_pos c1]
      by_cases c2 : p.1.1 < m ∨ t ≤ p.1.1
      · rw [if_pos c2, if_pos (by omega)]
        exact ih
      · rw [if_neg c2, if_neg (by omega), sumL_add m t r, sumL_add f t r, add3_zero, ← ih, ← add3_assoc, add3_comm _ p.2.1, add3_assoc]
    · rw [if_neg c1, if_pos (by omega), if_neg (by omega), sumL_add f m r, sumL_add f t r, add3_zero, ← ih, add3_assoc]

/-- All together. -/
def tot : List Ent → Ent
  | [] => (0, 0, 0)
  | x :: r => add3 x (tot r)
theorem tot_append : ∀ (l m : List Ent), tot (l ++ m) = add3 (tot l) (tot m)
  | [], m => (add3_zero _).symm
  | x :: l, m => by simp only [List.cons_append, tot, tot_append l m, add3_assoc]
theorem tot_last : ∀ (l : List Ent), add3 (tot l.dropLast) (l.getLastD (0, 0, 0)) = tot l
  | [] => by simp [tot, add3]
  | [x] => by simp [tot, add3]
  | x :: y :: r => by
    have ih := tot_last (y :: r)
    simp only [List.dropLast_cons_cons, tot, List.getLastD_cons] at ih ⊢
    rw [add3_assoc, ← ih]

theorem merge_tot : ∀ (l : List (Ent × Int)) (out : List Ent) (p : Option Int), tot (merge out p l) = add3 (tot out) (tot (l.map (·.1)))
  | [], out, p => by simp only [merge, List.map_nil, tot]; rw [add3_comm, add3_zero]
  | x :: r, out, p => by
    simp only [merge, List.map_cons, tot]
    split
    · rw [merge_tot r, tot_append, ← add3_assoc]
      congr 1
      simp only [tot]
      rw [add3_comm _ (0, 0, 0), add3_zero, ← add3_assoc, tot_last]
    · rw [merge_tot r, tot_append, ← add3_assoc]
      congr 1
      simp only [tot]
      rw [add3_comm _ (0, 0, 0), add3_zero]

theorem sumL_all {f t : Int} : ∀ (es : List Ent) (xs : List (Ent × Int)), es.length = xs.length → (∀ e ∈ es, f ≤ e.1 ∧ e.1 < t) → sumL f t (0, 0, 0) (es.zip xs) = tot (xs.map (·.1))
  | [], [], _, _ => rfl
  | e :: es, x :: xs, hl, h => by
    have he := h e (by simp)
    simp only [List.zip_cons_cons, sumL, List.map_cons, tot]
    rw [if_neg (by omega), sumL_add, add3_zero, sumL_all es xs (by simpa using hl) (fun e he => h e (by simp [he]))]
  | [], _ :: _, hl, _ => by simp at hl
  | _ :: _, [], hl, _ => by simp at hl

/-- What weeks come to, at most. -/
theorem merge_in : ∀ (l : List (Ent × Int)) (out : List Ent) (p : Option Int) (k : Nat), (∀ x ∈ out, inH k x) → (∀ x ∈ l, okH x.1) → out.length ≤ k → (∀ x ∈ merge out p l, inH (k + l.length) x) ∧ (merge out p l).length ≤ k + l.length
  | [], out, p, k, h, _, hl => ⟨h, hl⟩
  | x :: r, out, p, k, h, hx, hl => by
    have ho := hx x (by simp)
    have hr : ∀ y ∈ r, okH y.1 := fun y hy => hx y (by simp [hy])
    have hk : ∀ y, inH k y → inH (k + 1) y := fun y hy => by simp only [inH] at hy ⊢; omega
    simp only [merge, List.length_cons, show k + (r.length + 1) = k + 1 + r.length by omega]
    split
    · refine merge_in r _ _ (k + 1) (fun y hy => ?_) hr (by simp; omega)
      rcases List.mem_append.1 hy with hy | hy
      · exact hk y (h y (List.dropLast_subset _ hy))
      · simp only [List.mem_singleton] at hy
        subst hy
        have hlast : inH k (out.getLastD (0, 0, 0)) := by
          cases out with
          | nil => simp only [inH, List.getLastD_nil]; omega
          | cons a b =>
            refine h _ ?_
            rw [List.getLastD_cons]
            exact List.getLastD_mem_cons ..
        simp only [inH, okH, add3] at hlast ho ⊢
        omega
    · refine merge_in r _ _ (k + 1) (fun y hy => ?_) hr (by simp; omega)
      rcases List.mem_append.1 hy with hy | hy
      · exact hk y (h y hy)
      · simp only [List.mem_singleton] at hy
        subst hy
        simp only [inH, okH] at ho ⊢
        omega

/-- No week has more plain minutes than Week: 'pl' is what each week has so far. -/
theorem merge_plain {a b : Int} (ha : 0 ≤ a) (hb : 0 ≤ b) : ∀ (es : List Ent) (sm pl : Int → Int) (out : List Ent) (p : Option Int), (∀ e ∈ es, okE e) → (∀ w, 0 ≤ pl w ∧ pl w ≤ sm w ∧ pl w ≤ b) → (∀ x ∈ out, x.1 ≤ b) →
    (∀ w, p = some w → (out.getLastD (0, 0, 0)).1 ≤ pl w) → ∀ x ∈ merge out p (eachL a b sm es), x.1 ≤ b
  | [], sm, pl, out, p, _, _, ho, _ => ho
  | e :: r, sm, pl, out, p, he, hp, ho, hl => by
    obtain ⟨_, e1, _, _, _⟩ := he e (by simp)
    have hr : ∀ e ∈ r, okE e := fun y hy => he y (by simp [hy])
    have h1 := hp (monday e.1)
    have hpl : ∀ w, 0 ≤ (if w = monday e.1 then pl (monday e.1) + min (min e.2.1 a) (max (b - sm (monday e.1)) 0) else pl w) ∧ (if w = monday e.1 then pl (monday e.1) + min (min e.2.1 a) (max (b - sm (monday e.1)) 0) else pl w) ≤ (if w = monday e.1 then sm (monday e.1) + min e.2.1 a else sm w) ∧ (if w = monday e.1 then pl (monday e.1) + min (min e.2.1 a) (max (b - sm (monday e.1)) 0) else pl w) ≤ b := by
      intro w
      have h2 := hp w
      split <;> omega
    simp only [eachL, merge]
    split
    · rename_i hpw
      have h3 := hl _ hpw
      refine merge_plain ha hb r _ (fun w => if w = monday e.1 then pl (monday e.1) + min (min e.2.1 a) (max (b - sm (monday e.1)) 0) else pl w) _ _ hr hpl (fun x hx => ?_) (fun w hw => ?_)
      · rcases List.mem_append.1 hx with hx | hx
        · exact ho x (List.dropLast_subset _ hx)
        · simp only [List.mem_singleton] at hx
          subst hx
          show (out.getLastD (0, 0, 0)).1 + min (min e.2.1 a) (max (b - sm (monday e.1)) 0) ≤ b
          omega
      · cases hw
        rw [if_pos rfl]
        have : ((out.dropLast ++ [add3 (out.getLastD (0, 0, 0)) (min (min e.2.1 a) (max (b - sm (monday e.1)) 0), e.2.1 - min (min e.2.1 a) (max (b - sm (monday e.1)) 0), e.2.2)]).getLastD (0, 0, 0)).1 = (out.getLastD (0, 0, 0)).1 + min (min e.2.1 a) (max (b - sm (monday e.1)) 0) := by
          rw [List.getLastD_concat]
          rfl
        rw [this]
        omega
    · refine merge_plain ha hb r _ (fun w => if w = monday e.1 then pl (monday e.1) + min (min e.2.1 a) (max (b - sm (monday e.1)) 0) else pl w) _ _ hr hpl (fun x hx => ?_) (fun w hw => ?_)
      · rcases List.mem_append.1 hx with hx | hx
        · exact ho x hx
        · simp only [List.mem_singleton] at hx
          subst hx
          show min (min e.2.1 a) (max (b - sm (monday e.1)) 0) ≤ b
          omega
      · cases hw
        rw [if_pos rfl, List.getLastD_concat]
        show min (min e.2.1 a) (max (b - sm (monday e.1)) 0) ≤ _
        omega

theorem sumL_in {f t : Int} : ∀ (l : List (Ent × Ent × Int)) (h : Ent) (k : Nat), inH k h → (∀ p ∈ l, okH p.2.1) → inH (k + l.length) (sumL f t h l)
  | [], h, k, hh, _ => hh
  | p :: r, h, k, hh, hp => by
    have ho := hp p (by simp)
    have hr : ∀ q ∈ r, okH q.2.1 := fun q hq => hp q (by simp [hq])
    simp only [sumL, List.length_cons, show k + (r.length + 1) = k + 1 + r.length by omega]
    split
    · exact sumL_in r h (k + 1) (by simp only [inH] at hh ⊢; omega) hr
    · exact sumL_in r _ (k + 1) (by simp only [inH, okH, add3] at hh ho ⊢; omega) hr
theorem sumE_in (es : List Ent) (a b f t : Int) : inH es.length (sumE es a b f t) := by
  unfold sumE
  split
  · rename_i hw
    obtain ⟨_, hes, ha, _⟩ := wrong_ok hw
    have hlen := eachL_len (a := a) (b := b) es (fun _ => 0)
    have h := sumL_in (f := f) (t := t) (es.zip (eachL a b (fun _ => 0) es)) (0, 0, 0) 0 (by simp [inH]) (fun p hp => eachL_ok ha.1 es _ hes _ (List.of_mem_zip hp).2)
    simpa [hlen, sumH] using h
  · simp only [inH]; omega
theorem sumE_cut {f m t : Int} (h1 : f ≤ m) (h2 : m ≤ t) (es : List Ent) (a b : Int) : add3 (sumE es a b f m) (sumE es a b m t) = sumE es a b f t := by
  unfold sumE
  split
  · exact sumL_cut h1 h2 _
  · simp [add3]
theorem sumE_all {f t : Int} {es : List Ent} {a b : Int} (hw : wrong es a b = 0) (hf : f ≤ -25567) (ht : 84006 ≤ t) : sumE es a b f t = tot (weeksF es a b) := by
  obtain ⟨_, hes, _, _⟩ := wrong_ok hw
  unfold sumE weeksF
  rw [if_pos hw, if_pos hw, merge_tot]
  unfold sumH
  rw [sumL_all es _ (eachL_len es _).symm fun e he => by have := isDay_in (hes e he).1; omega]
  simp [tot, add3]
theorem weeksF_in {es : List Ent} {a b : Int} (hw : wrong es a b = 0) : (∀ x ∈ weeksF es a b, inH es.length x) ∧ (weeksF es a b).length ≤ es.length := by
  obtain ⟨_, hes, ha, _⟩ := wrong_ok hw
  have h := merge_in (eachL a b (fun _ => 0) es) [] none 0 (by simp) (fun x hx => eachL_ok ha.1 es _ hes x hx) (by simp)
  unfold weeksF
  rw [if_pos hw]
  simpa [eachL_len] using h
theorem weeksF_plain {es : List Ent} {a b : Int} (hw : wrong es a b = 0) : ∀ x ∈ weeksF es a b, x.1 ≤ b := by
  obtain ⟨_, hes, ha, hb⟩ := wrong_ok hw
  unfold weeksF
  rw [if_pos hw]
  exact merge_plain ha.1 hb.1 es _ (fun _ => 0) [] none hes (fun w => by simp; exact hb.1) (by simp) (by simp)


theorem eachL_zero {b : Int} : ∀ (es : List Ent) (sm : Int → Int), (∀ e ∈ es, okE e) → ∀ x ∈ eachL 0 b sm es, x.1.1 = 0
  | [], _, _, x, hx => by cases hx
  | e :: r, sm, h, x, hx => by
    simp only [eachL, List.mem_cons] at hx
    rcases hx with rfl | hx
    · obtain ⟨_, h1, _⟩ := h e (by simp)
      show min (min e.2.1 0) (max (b - sm (monday e.1)) 0) = 0
      omega
    · exact eachL_zero r _ (fun e he => h e (by simp [he])) x hx

theorem wrongL_sorted {p : Option Ent} {e : Ent} {r : List Ent} (h : wrongL p (e :: r) = 0) : okE e ∧ (∀ q, p = some q → q.1 < e.1) ∧ wrongL (some e) r = 0 := by
  refine ⟨wrongL_ok h e (by simp), ?_, ?_⟩
  · intro q hq
    subst hq
    simp only [wrongL] at h
    split at h
    · cases h
    · split at h
      · cases h
      · rename_i h2
        simp only [Option.any_some, decide_eq_true_eq] at h2
        omega
  · simp only [wrongL] at h
    split at h
    · cases h
    · split at h
      · cases h
      · split at h
        · cases h
        · exact h

theorem eachL_full : ∀ (es : List Ent) (q : Ent) (sm : Int → Int), wrongL (some q) es = 0 → (∀ w, 0 ≤ sm w ∧ sm w ≤ 1440 * max (q.1 + 1 - w) 0) → ∀ x ∈ eachL 1440 10080 sm es, x.1.2.1 = 0
  | [], _, _, _, _, x, hx => by cases hx
  | e :: r, q, sm, hw, hs, x, hx => by
    obtain ⟨⟨o1, o2, o3, o4, o5⟩, h2, h3⟩ := wrongL_sorted hw
    have hlt := h2 q rfl
    have hm := monday_in o1
    have h1 := hs (monday e.1)
    simp only [eachL, List.mem_cons] at hx
    rcases hx with rfl | hx
    · show e.2.1 - min (min e.2.1 1440) (max (10080 - sm (monday e.1)) 0) = 0
      omega
    · refine eachL_full r e _ h3 (fun w => ?_) x hx
      have h4 := hs w
      split
      · rename_i hww; subst hww; omega
      · omega
theorem eachL_full0 {es : List Ent} (hw : wrongL none es = 0) : ∀ x ∈ eachL 1440 10080 (fun _ => 0) es, x.1.2.1 = 0 := by
  cases es with
  | nil => intro x hx; cases hx
  | cons e r =>
    refine eachL_full (e :: r) (e.1 - 1, 0, 0) _ ?_ (fun w => by simp only; omega)
    have h := hw
    simp only [wrongL, Option.any_none, Option.any_some] at h ⊢
    have hd : ¬ e.1 ≤ e.1 - 1 := by omega
    simpa [hd] using h

/-- A greater Week: not more over, entry by entry. -/
theorem eachL_week {a b b' : Int} (hb : b ≤ b') : ∀ (es : List Ent) (sm : Int → Int) (i : Nat) (x y : Ent × Int), (eachL a b sm es)[i]? = some x → (eachL a b' sm es)[i]? = some y → y.1.2.1 ≤ x.1.2.1
  | [], _, i, x, y, h, _ => by simp [eachL] at h
  | e :: r, sm, 0, x, y, h, g => by
    simp only [eachL, List.getElem?_cons_zero, Option.some.injEq] at h g
    subst h
    subst g
    show e.2.1 - min (min e.2.1 a) (max (b' - sm (monday e.1)) 0) ≤ e.2.1 - min (min e.2.1 a) (max (b - sm (monday e.1)) 0)
    omega
  | e :: r, sm, i + 1, x, y, h, g => by
    simp only [eachL, List.getElem?_cons_succ] at h g
    exact eachL_week hb r _ i x y h g

theorem sumL_over {f t : Int} : ∀ (es : List Ent) (xs ys : List (Ent × Int)) (h g : Ent), xs.length = es.length → ys.length = es.length → g.2.1 ≤ h.2.1 → (∀ (i : Nat) x y, xs[i]? = some x → ys[i]? = some y → y.1.2.1 ≤ x.1.2.1) →
    (sumL f t g (es.zip ys)).2.1 ≤ (sumL f t h (es.zip xs)).2.1
  | [], _, _, h, g, _, _, hgh, _ => by simpa [sumL] using hgh
  | e :: es, [], _, _, _, hl, _, _, _ => by simp at hl
  | e :: es, _ :: _, [], _, _, _, hl, _, _ => by simp at hl
  | e :: es, x :: xs, y :: ys, h, g, hx, hy, hgh, hp => by
    simp only [List.zip_cons_cons, sumL]
    have h0 := hp 0 x y rfl rfl
    have hr : ∀ (i : Nat) x y, xs[i]? = some x → ys[i]? = some y → y.1.2.1 ≤ x.1.2.1 := fun i x' y' h1 h2 => hp (i + 1) x' y' (by simpa using h1) (by simpa using h2)
    split
    · exact sumL_over es xs ys h g (by simpa using hx) (by simpa using hy) hgh hr
    · exact sumL_over es xs ys _ _ (by simpa using hx) (by simpa using hy) (by simp only [add3]; omega) hr
theorem sumL_noover {f t : Int} : ∀ (l : List (Ent × Ent × Int)) (h : Ent), h.2.1 = 0 → (∀ p ∈ l, p.2.1.2.1 = 0) → (sumL f t h l).2.1 = 0
  | [], h, hh, _ => hh
  | p :: r, h, hh, hp => by
    have h0 := hp p (by simp)
    have hr : ∀ q ∈ r, q.2.1.2.1 = 0 := fun q hq => hp q (by simp [hq])
    simp only [sumL]
    split
    · exact sumL_noover r h hh hr
    · exact sumL_noover r _ (by simp only [add3]; omega) hr
theorem sumL_noplain {f t : Int} : ∀ (l : List (Ent × Ent × Int)) (h : Ent), h.1 = 0 → (∀ p ∈ l, p.2.1.1 = 0) → (sumL f t h l).1 = 0
  | [], h, hh, _ => hh
  | p :: r, h, hh, hp => by
    have h0 := hp p (by simp)
    have hr : ∀ q ∈ r, q.2.1.1 = 0 := fun q hq => hp q (by simp [hq])
    simp only [sumL]
    split
    · exact sumL_noplain r h hh hr
    · exact sumL_noplain r _ (by simp only [add3]; omega) hr

theorem monday_mono {d d' : Int} (h : isDay d = true) (h' : isDay d' = true) (hd : d ≤ d') : monday d ≤ monday d' := by
  unfold monday weekday
  rw [if_pos h, if_pos h']
  omega

/-- Greater limits: not less plain, of all together. -/
theorem plain_more {a b a' b' : Int} (ha : 0 ≤ a ∧ a ≤ a') (hb : 0 ≤ b ∧ b ≤ b') : ∀ (es : List Ent) (q : Ent) (s s' : Int → Int), isDay q.1 = true → wrongL (some q) es = 0 → (0 ≤ s (monday q.1) ∧ s (monday q.1) ≤ s' (monday q.1)) → (∀ w, monday q.1 < w → s w = 0 ∧ s' w = 0) →
    (tot ((eachL a b s es).map (·.1))).1 + min (s (monday q.1)) b ≤ (tot ((eachL a' b' s' es).map (·.1))).1 + min (s' (monday q.1)) b'
  | [], q, s, s', _, _, hs, _ => by simp only [eachL, List.map_nil, tot]; omega
  | e :: r, q, s, s', hq, hw, hs, hz => by
    obtain ⟨⟨o1, o2, o3, o4, o5⟩, h2, h3⟩ := wrongL_sorted hw
    have hlt := h2 q rfl
    have hm := monday_mono hq o1 (by omega)
    have ih := plain_more ha hb r e (fun x => if x = monday e.1 then s (monday e.1) + min e.2.1 a else s x) (fun x => if x = monday e.1 then s' (monday e.1) + min e.2.1 a' else s' x) o1 h3
    simp only [if_true] at ih
    simp only [eachL, List.map_cons, tot, add3]
    by_cases hv : monday e.1 = monday q.1
    · rw [hv] at ih ⊢
      have ih := ih (by omega) (fun w hw' => by rw [if_neg (by omega), if_neg (by omega)]; exact hz w hw')
      omega
    · have hz1 := hz (monday e.1) (by omega)
      have ih := ih (by omega) (fun w hw' => by rw [if_neg (by omega), if_neg (by omega)]; exact hz w (by omega))
      omega
theorem plain_more0 {a b a' b' : Int} (ha : 0 ≤ a ∧ a ≤ a') (hb : 0 ≤ b ∧ b ≤ b') {es : List Ent} (hw : wrongL none es = 0) :
    (tot ((eachL a b (fun _ => 0) es).map (·.1))).1 ≤ (tot ((eachL a' b' (fun _ => 0) es).map (·.1))).1 := by
  cases es with
  | nil => simp [eachL, tot]
  | cons e r =>
    obtain ⟨⟨o1, o2, o3, o4, o5⟩, _, h3⟩ := wrongL_sorted hw
    have h := plain_more ha hb r e (fun x => if x = monday e.1 then 0 + min e.2.1 a else 0) (fun x => if x = monday e.1 then 0 + min e.2.1 a' else 0) o1 h3 (by simp only [if_true]; omega) (fun w hw' => by rw [if_neg (by omega), if_neg (by omega)]; exact ⟨rfl, rfl⟩)
    simp only [if_true] at h
    simp only [eachL, List.map_cons, tot, add3]
    omega
theorem tot_worked {a b : Int} : ∀ (es : List Ent) (s : Int → Int), (tot ((eachL a b s es).map (·.1))).1 + (tot ((eachL a b s es).map (·.1))).2.1 = (tot (es.map fun e => (e.2.1, 0, 0))).1
  | [], s => by simp [eachL, tot]
  | e :: r, s => by
    have ih := tot_worked (a := a) (b := b) r (fun x => if x = monday e.1 then s (monday e.1) + min e.2.1 a else s x)
    simp only [eachL, List.map_cons, tot, add3]
    omega

theorem wrong_lim {es : List Ent} {a b : Int} (hw : wrong es a b = 0) {a' b' : Int} (ha : 0 ≤ a' ∧ a' ≤ 1440) (hb : 0 ≤ b' ∧ b' ≤ 10080) : wrong es a' b' = 0 := by
  unfold wrong at hw ⊢
  split at hw
  · cases hw
  · rename_i h1
    split at hw
    · rename_i h2
      rw [if_neg h1, if_pos h2]
      have : badLim a' b' = false := by simp only [badLim, Bool.or_eq_false_iff, decide_eq_false_iff_not]; omega
      simp [this]
    · rename_i h2; exact absurd hw h2
theorem wrong_sorted {es : List Ent} {a b : Int} (hw : wrong es a b = 0) : wrongL none es = 0 := by
  unfold wrong at hw
  split at hw
  · cases hw
  · split at hw
    · rename_i h2; exact h2
    · exact hw
theorem lim_none {es : List Ent} {a b f t : Int} (hw : wrong es a b = 0) : (sumE es 0 b f t).1 = 0 := by
  obtain ⟨_, hes, ha, hb⟩ := wrong_ok hw
  unfold sumE
  rw [if_pos (wrong_lim hw (by omega) hb)]
  exact sumL_noplain _ _ rfl fun p hp => eachL_zero es _ hes _ (List.of_mem_zip hp).2
theorem lim_all {es : List Ent} {a b f t : Int} (hw : wrong es a b = 0) : (sumE es 1440 10080 f t).2.1 = 0 := by
  unfold sumE
  rw [if_pos (wrong_lim hw (by omega) (by omega))]
  exact sumL_noover _ _ rfl fun p hp => eachL_full0 (wrong_sorted hw) _ (List.of_mem_zip hp).2
theorem lim_week {es : List Ent} {a b b' f t : Int} (hw : wrong es a b = 0) (hw' : wrong es a b' = 0) (hb : b ≤ b') : (sumE es a b' f t).2.1 ≤ (sumE es a b f t).2.1 := by
  unfold sumE
  rw [if_pos hw, if_pos hw']
  exact sumL_over es _ _ _ _ (eachL_len es _) (eachL_len es _) (Int.le_refl _) (eachL_week hb es _)
theorem lim_both {es : List Ent} {a b a' b' f t : Int} (hw : wrong es a b = 0) (hw' : wrong es a' b' = 0) (ha : a ≤ a') (hb : b ≤ b') (hf : f ≤ -25567) (ht : 84006 ≤ t) : (sumE es a' b' f t).2.1 ≤ (sumE es a b f t).2.1 := by
  obtain ⟨_, hes, ha0, hb0⟩ := wrong_ok hw
  have hall : ∀ a b, wrong es a b = 0 → sumE es a b f t = tot ((eachL a b (fun _ => 0) es).map (·.1)) := fun a b h => by
    unfold sumE sumH
    rw [if_pos h, sumL_all es _ (eachL_len es _).symm fun e he => by have := isDay_in (hes e he).1; omega]
  rw [hall _ _ hw, hall _ _ hw']
  have h1 := plain_more0 (a := a) (b := b) (a' := a') (b' := b') (by omega) (by omega) (wrong_sorted hw)
  have h2 := tot_worked (a := a) (b := b) es (fun _ => 0)
  have h3 := tot_worked (a := a') (b := b') es (fun _ => 0)
  omega

theorem wrongL_above : ∀ {es : List Ent} {q : Ent}, wrongL (some q) es = 0 → ∀ e ∈ es, q.1 < e.1
  | [], _, _, e, he => by cases he
  | x :: r, q, h, e, he => by
    obtain ⟨_, h2, h3⟩ := wrongL_sorted h
    have := h2 q rfl
    rcases List.mem_cons.1 he with rfl | he
    · exact this
    · have := wrongL_above h3 e he
      omega
theorem sumL_skip {f t : Int} : ∀ (es : List Ent) (xs : List (Ent × Int)) (h : Ent), (∀ e ∈ es, e.1 < f ∨ t ≤ e.1) → sumL f t h (es.zip xs) = h
  | [], _, _, _ => rfl
  | _ :: _, [], _, _ => rfl
  | e :: es, x :: xs, h, hs => by
    simp only [List.zip_cons_cons, sumL]
    rw [if_pos (hs e (by simp))]
    exact sumL_skip es xs h (fun e he => hs e (by simp [he]))
/-- Over one day one entry alone counts. -/
theorem sumL_one : ∀ (es : List Ent) (xs : List (Ent × Int)) (p : Option Ent) (j : Nat) (e : Ent) (x : Ent × Int) (h : Ent), wrongL p es = 0 → es[j]? = some e → xs[j]? = some x → sumL e.1 (e.1 + 1) h (es.zip xs) = add3 h x.1
  | [], _, _, _, _, _, _, _, he, _ => by simp at he
  | _ :: _, [], _, _, _, _, _, _, _, hx => by simp at hx
  | g :: es, y :: xs, p, 0, e, x, h, hw, he, hx => by
    simp only [List.getElem?_cons_zero, Option.some.injEq] at he hx
    subst he
    subst hx
    simp only [List.zip_cons_cons, sumL]
    rw [if_neg (by omega), sumL_skip es xs _ fun e he => ?_]
    have := wrongL_above (wrongL_sorted hw).2.2 e he
    omega
  | g :: es, y :: xs, p, j + 1, e, x, h, hw, he, hx => by
    simp only [List.getElem?_cons_succ] at he hx
    have h3 := (wrongL_sorted hw).2.2
    have := wrongL_above h3 e (List.mem_of_getElem? he)
    simp only [List.zip_cons_cons, sumL]
    rw [if_pos (by omega)]
    exact sumL_one es xs _ j e x h h3 he hx
theorem eachL_at {a b : Int} (ha : 0 ≤ a) : ∀ (es : List Ent) (sm : Int → Int) (j : Nat) (e : Ent), (∀ e ∈ es, okE e) → (∀ w, 0 ≤ sm w) → es[j]? = some e →
    ∃ s, 0 ≤ s ∧ (eachL a b sm es)[j]? = some ((min (min e.2.1 a) (max (b - s) 0), e.2.1 - min (min e.2.1 a) (max (b - s) 0), e.2.2), monday e.1) ∧ ((∀ (i : Nat) g, i < j → es[i]? = some g → monday g.1 ≠ monday e.1) → s = sm (monday e.1))
  | [], _, _, _, _, _, he => by simp at he
  | g :: es, sm, 0, e, _, hs, he => by
    simp only [List.getElem?_cons_zero, Option.some.injEq] at he
    subst he
    exact ⟨sm (monday g.1), hs _, rfl, fun _ => rfl⟩
  | g :: es, sm, j + 1, e, hok, hs, he => by
    simp only [List.getElem?_cons_succ] at he
    obtain ⟨_, o2, _⟩ := hok g (by simp)
    obtain ⟨s, h1, h2, h3⟩ := eachL_at (b := b) ha es (fun x => if x = monday g.1 then sm (monday g.1) + min g.2.1 a else sm x) j e (fun e he => hok e (by simp [he])) (fun w => by have := hs w; have := hs (monday g.1); split <;> omega) he
    refine ⟨s, h1, by simpa [eachL] using h2, fun hne => ?_⟩
    have h4 := h3 fun i x hi hx => hne (i + 1) x (by omega) (by simpa using hx)
    have h5 := hne 0 g (by omega) rfl
    rw [h4, if_neg (Ne.symm h5)]

theorem wrongL_idx : ∀ {es : List Ent} {p : Option Ent} {i j : Nat} {g e : Ent}, wrongL p es = 0 → i < j → es[i]? = some g → es[j]? = some e → g.1 < e.1
  | [], _, _, _, _, _, _, _, hg, _ => by simp at hg
  | x :: es, p, 0, j, g, e, h, hij, hg, he => by
    simp only [List.getElem?_cons_zero, Option.some.injEq] at hg
    subst hg
    obtain ⟨k, rfl⟩ : ∃ k, j = k + 1 := ⟨j - 1, by omega⟩
    simp only [List.getElem?_cons_succ] at he
    exact wrongL_above (wrongL_sorted h).2.2 e (List.mem_of_getElem? he)
  | x :: es, p, i + 1, j, g, e, h, hij, hg, he => by
    obtain ⟨k, rfl⟩ : ∃ k, j = k + 1 := ⟨j - 1, by omega⟩
    simp only [List.getElem?_cons_succ] at hg he
    exact wrongL_idx (wrongL_sorted h).2.2 (by omega) hg he
/-- What one entry's day comes to: 's' is what its week has had. -/
theorem alone {es : List Ent} {a b : Int} (hw : wrong es a b = 0) {j : Nat} {e : Ent} (he : es[j]? = some e) :
    ∃ s, 0 ≤ s ∧ sumE es a b e.1 (e.1 + 1) = (min (min e.2.1 a) (max (b - s) 0), e.2.1 - min (min e.2.1 a) (max (b - s) 0), e.2.2) ∧ ((∀ g ∈ es, ¬ (g.1 < e.1 ∧ e.1 - 7 < g.1)) → s = 0) := by
  obtain ⟨_, hes, ha, hb⟩ := wrong_ok hw
  obtain ⟨s, h1, h2, h3⟩ := eachL_at (b := b) ha.1 es (fun _ => 0) j e hes (fun _ => Int.le_refl _) he
  refine ⟨s, h1, ?_, fun hn => h3 fun i g hi hg hm => ?_⟩
  · unfold sumE sumH
    rw [if_pos hw, sumL_one es _ none j e _ _ (wrong_sorted hw) he h2, add3_zero]
  · have hlt := wrongL_idx (wrong_sorted hw) hi hg he
    have m1 := monday_in (hes g (List.mem_of_getElem? hg)).1
    have m2 := monday_in (hes e (List.mem_of_getElem? he)).1
    exact hn g (List.mem_of_getElem? hg) ⟨hlt, by omega⟩

end WB
