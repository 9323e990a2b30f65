/-
  THE SHEET's PLAIN LAWS, of what the functions come to.
-/
import Derived.Test.YtpkoilfecgmogaaSheetB
namespace WB
open Go Go.RowKit Go.Proofs
set_option linter.unusedSimpArgs false

theorem add3_zero (x : Ent) : add3 (0, 0, 0) x = x := by simp [add3]
theorem add3_assoc (x y z : Ent) : add3 (add3 x y) z = add3 x (add3 y z) := by simp [add3, Int.add_assoc]
theorem add3_comm (x y : Ent) : add3 x y = add3 y x := by simp [add3, Int.add_comm]

theorem sumL_add (f t : Int) : ∀ (l : List (Ent × Ent × Int)) (h : Ent), sumL f t h l = add3 h (sumL f t (0, 0, 0) l)
  | [], h => by simp [sumL, add3]
  | p :: r, h => by
    simp only [sumL]
    split
    · exact sumL_add f t r h
    · rw [sumL_add f t r (add3 h p.2.1), sumL_add f t r (add3 (0, 0, 0) p.2.1), add3_zero, add3_assoc]

/-- Two spans that meet end to end. -/
theorem sumL_cut {f m t : Int} (h1 : f ≤ m) (h2 : m ≤ t) : ∀ (l : List (Ent × Ent × Int)), add3 (sumL f m (0, 0, 0) l) (sumL m t (0, 0, 0) l) = sumL f t (0, 0, 0) l
  | [] => by simp [sumL, add3]
  | p :: r => by
    have ih := sumL_cut h1 h2 r
    simp only [sumL]
    by_cases c1 : p.1.1 < f ∨ m ≤ p.1.1
    · rw [if_pos c1]
      by_cases c2 : p.1.1 < m ∨ t ≤ p.1.1
      · rw [if_pos c2, if_pos (by omega)]
        exact ih
      · rw [if_neg c2, if_neg (by omega), sumL_add m t r, sumL_add f t r, add3_zero, ← ih, ← add3_assoc, add3_comm _ p.2.1, add3_assoc]
    · rw [if_neg c1, if_pos (by omega), if_neg (by omega), sumL_add f m r, sumL_add f t r, add3_zero, ← ih, add3_assoc]

/-- All together. -/
def tot : List Ent → Ent
  | [] => (0, 0, 0)
  | x :: r => add3 x (tot r)
theorem tot_append : ∀ (l m : List Ent), tot (l ++ m) = add3 (tot l) (tot m)
  | [], m => (add3_zero _).symm
  | x :: l, m => by simp only [List.cons_append, tot, tot_append l m, add3_assoc]
theorem tot_last : ∀ (l : List Ent), add3 (tot l.dropLast) (l.getLastD (0, 0, 0)) = tot l
  | [] => by simp [tot, add3]
  | [x] => by simp [tot, add3]
  | x :: y :: r => by
    have ih := tot_last (y :: r)
    simp only [List.dropLast_cons_cons, tot, List.getLastD_cons] at ih ⊢
    rw [add3_assoc, ← ih]

theorem merge_tot : ∀ (l : List (Ent × Int)) (out : List Ent) (p : Option Int), tot (merge out p l) = add3 (tot out) (tot (l.map (·.1)))
  | [], out, p => by simp only [merge, List.map_nil, tot]; rw [add3_comm, add3_zero]
  | x :: r, out, p => by
    simp only [merge, List.map_cons, tot]
    split
    · rw [merge_tot r, tot_append, ← add3_assoc]
      congr 1
      simp only [tot]
      rw [add3_comm _ (0, 0, 0), add3_zero, ← add3_assoc, tot_last]
    · rw [merge_tot r, tot_append, ← add3_assoc]
      congr 1
      simp only [tot]
      rw [add3_comm _ (0, 0, 0), add3_zero]

theorem sumL_all {f t : Int} : ∀ (es : List Ent) (xs : List (Ent × Int)), es.length = xs.length → (∀ e ∈ es, f ≤ e.1 ∧ e.1 < t) → sumL f t (0, 0, 0) (es.zip xs) = tot (xs.map (·.1))
  | [], [], _, _ => rfl
  | e :: es, x :: xs, hl, h => by
    have he := h e (by simp)
    simp only [List.zip_cons_cons, sumL, List.map_cons, tot]
    rw [if_neg (by omega), sumL_add, add3_zero, sumL_all es xs (by simpa using hl) (fun e he => h e (by simp [he]))]
  | [], _ :: _, hl, _ => by simp at hl
  | _ :: _, [], hl, _ => by simp at hl

/-- What weeks come to, at most. -/
theorem merge_in : ∀ (l : List (Ent × Int)) (out : List Ent) (p : Option Int) (k : Nat), (∀ x ∈ out, inH k x) → (∀ x ∈ l, okH x.1) → out.length ≤ k → (∀ x ∈ merge out p l, inH (k + l.length) x) ∧ (merge out p l).length ≤ k + l.length
  | [], out, p, k, h, _, hl => ⟨h, hl⟩
  | x :: r, out, p, k, h, hx, hl => by
    have ho := hx x (by simp)
    have hr : ∀ y ∈ r, okH y.1 := fun y hy => hx y (by simp [hy])
    have hk : ∀ y, inH k y → inH (k + 1) y := fun y hy => by simp only [inH] at hy ⊢; omega
    simp only [merge, List.length_cons, show k + (r.length + 1) = k + 1 + r.length by omega]
    split
    · refine merge_in r _ _ (k + 1) (fun y hy => ?_) hr (by simp; omega)
      rcases List.mem_append.1 hy with hy | hy
      · exact hk y (h y (List.dropLast_subset _ hy))
      · simp only [List.mem_singleton] at hy
        subst hy
        have hlast : inH k (out.getLastD (0, 0, 0)) := by
          cases out with
          | nil => simp only [inH, List.getLastD_nil]; omega
          | cons a b =>
            refine h _ ?_
            rw [List.getLastD_cons]
            exact List.getLastD_mem_cons ..
        simp only [inH, okH, add3] at hlast ho ⊢
        omega
    · refine merge_in r _ _ (k + 1) (fun y hy => ?_) hr (by simp; omega)
      rcases List.mem_append.1 hy with hy | hy
      · exact hk y (h y hy)
      · simp only [List.mem_singleton] at hy
        subst hy
        simp only [inH, okH] at ho ⊢
        omega

/-- No week has more plain minutes than Week: 'pl' is what each week has so far. -/
theorem merge_plain {a b : Int} (ha : 0 ≤ a) (hb : 0 ≤ b) : ∀ (es : List Ent) (sm pl : Int → Int) (out : List Ent) (p : Option Int), (∀ e ∈ es, okE e) → (∀ w, 0 ≤ pl w ∧ pl w ≤ sm w ∧ pl w ≤ b) → (∀ x ∈ out, x.1 ≤ b) →
    (∀ w, p = some w → (out.getLastD (0, 0, 0)).1 ≤ pl w) → ∀ x ∈ merge out p (eachL a b sm es), x.1 ≤ b
  | [], sm, pl, out, p, _, _, ho, _ => ho
  | e :: r, sm, pl, out, p, he, hp, ho, hl => by
    obtain ⟨_, e1, _, _, _⟩ := he e (by simp)
    have hr : ∀ e ∈ r, okE e := fun y hy => he y (by simp [hy])
    have h1 := hp (monday e.1)
    have hpl : ∀ w, 0 ≤ (if w = monday e.1 then pl (monday e.1) + min (min e.2.1 a) (max (b - sm (monday e.1)) 0) else pl w) ∧ (if w = monday e.1 then pl (monday e.1) + min (min e.2.1 a) (max (b - sm (monday e.1)) 0) else pl w) ≤ (if w = monday e.1 then sm (monday e.1) + min e.2.1 a else sm w) ∧ (if w = monday e.1 then pl (monday e.1) + min (min e.2.1 a) (max (b - sm (monday e.1)) 0) else pl w) ≤ b := by
      intro w
      have h2 := hp w
      split <;> omega
    simp only [eachL, merge]
    split
    · rename_i hpw
      have h3 := hl _ hpw
      refine merge_plain ha hb r _ (fun w => if w = monday e.1 then pl (monday e.1) + min (min e.2.1 a) (max (b - sm (monday e.1)) 0) else pl w) _ _ hr hpl (fun x hx => ?_) (fun w hw => ?_)
      · rcases List.mem_append.1 hx with hx | hx
        · exact ho x (List.dropLast_subset _ hx)
        · simp only [List.mem_singleton] at hx
          subst hx
          show (out.getLastD (0, 0, 0)).1 + min (min e.2.1 a) (max (b - sm (monday e.1)) 0) ≤ b
          omega
      · cases hw
        rw [if_pos rfl]
        have : ((out.dropLast ++ [add3 (out.getLastD (0, 0, 0)) (min (min e.2.1 a) (max (b - sm (monday e.1)) 0), e.2.1 - min (min e.2.1 a) (max (b - sm (monday e.1)) 0), e.2.2)]).getLastD (0, 0, 0)).1 = (out.getLastD (0, 0, 0)).1 + min (min e.2.1 a) (max (b - sm (monday e.1)) 0) := by
          rw [List.getLastD_concat]
          rfl
        rw [this]
        omega
    · refine merge_plain ha hb r _ (fun w => if w = monday e.1 then pl (monday e.1) + min (min e.2.1 a) (max (b - sm (monday e.1)) 0) else pl w) _ _ hr hpl (fun x hx => ?_) (fun w hw => ?_)
      · rcases List.mem_append.1 hx with hx | hx
        · exact ho x hx
        · simp only [List.mem_singleton] at hx
          subst hx
          show min (min e.2.1 a) (max (b - sm (monday e.1)) 0) ≤ b
          omega
      · cases hw
        rw [if_pos rfl, List.getLastD_concat]
        show min (min e.2.1 a) (max (b - sm (monday e.1)) 0) ≤ _
        omega

theorem sumL_in {f t : Int} : ∀ (l : List (Ent × Ent × Int)) (h : Ent) (k : Nat), inH k h → (∀ p ∈ l, okH p.2.1) → inH (k + l.length) (sumL f t h l)
  | [], h, k, hh, _ => hh
  | p :: r, h, k, hh, hp => by
    have ho := hp p (by simp)
    have hr : ∀ q ∈ r, okH q.2.1 := fun q hq => hp q (by simp [hq])
    simp only [sumL, List.length_cons, show k + (r.length + 1) = k + 1 + r.length by omega]
    split
    · exact sumL_in r h (k + 1) (by simp only [inH] at hh ⊢; omega) hr
    · exact sumL_in r _ (k + 1) (by simp only [inH, okH, add3] at hh ho ⊢; omega) hr
theorem sumE_in (es : List Ent) (a b f t : Int) : inH es.length (sumE es a b f t) := by
  unfold sumE
  split
  · rename_i hw
    obtain ⟨_, hes, ha, _⟩ := wrong_ok hw
    have hlen := eachL_len (a := a) (b := b) es (fun _ => 0)
    have h := sumL_in (f := f) (t := t) (es.zip (eachL a b (fun _ => 0) es)) (0, 0, 0) 0 (by simp [inH]) (fun p hp => eachL_ok ha.1 es _ hes _ (List.of_mem_zip hp).2)
    simpa [hlen, sumH] using h
  · simp only [inH]; omega
theorem sumE_cut {f m t : Int} (h1 : f ≤ m) (h2 : m ≤ t) (es : List Ent) (a b : Int) : add3 (sumE es a b f m) (sumE es a b m t) = sumE es a b f t := by
  unfold sumE
  split
  · exact sumL_cut h1 h2 _
  · simp [add3]
theorem sumE_all {f t : Int} {es : List Ent} {a b : Int} (hw : wrong es a b = 0) (hf : f ≤ -25567) (ht : 84006 ≤ t) : sumE es a b f t = tot (weeksF es a b) := by
  obtain ⟨_, hes, _, _⟩ := wrong_ok hw
  unfold sumE weeksF
  rw [if_pos hw, if_pos hw, merge_tot]
  unfold sumH
  rw [sumL_all es _ (eachL_len es _).symm fun e he => by have := isDay_in (hes e he).1; omega]
  simp [tot, add3]
theorem weeksF_in {es : List Ent} {a b : Int} (hw : wrong es a b = 0) : (∀ x ∈ weeksF es a b, inH es.length x) ∧ (weeksF es a b).length ≤ es.length := by
  obtain ⟨_, hes, ha, _⟩ := wrong_ok hw
  have h := merge_in (eachL a b (fun _ => 0) es) [] none 0 (by simp) (fun x hx => eachL_ok ha.1 es _ hes x hx) (by simp)
  unfold weeksF
  rw [if_pos hw]
  simpa [eachL_len] using h
theorem weeksF_plain {es : List Ent} {a b : Int} (hw : wrong es a b = 0) : ∀ x ∈ weeksF es a b, x.1 ≤ b := by
  obtain ⟨_, hes, ha, hb⟩ := wrong_ok hw
  unfold weeksF
  rw [if_pos hw]
  exact merge_plain ha.1 hb.1 es _ (fun _ => 0) [] none hes (fun w => by simp; exact hb.1) (by simp) (by simp)
end WB
