/-
  THE SHEET's PLAIN LAWS, third part: one entry alone.
-/
import Derived.Test.YtpkoilfecgmogaaSheetPB
namespace WB
open Go Go.RowKit Go.Proofs
set_option linter.unusedSimpArgs false

theorem wrongL_above : ∀ {es : List Ent} {q : Ent}, wrongL (some q) es = 0 → ∀ e ∈ es, q.1 < e.1
  | [], _, _, e, he => by cases he
  | x :: r, q, h, e, he => by
    obtain ⟨_, h2, h3⟩ := wrongL_sorted h
    have := h2 q rfl
    rcases List.mem_cons.1 he with rfl | he
    · exact this
    · have := wrongL_above h3 e he
      omega
theorem sumL_skip {f t : Int} : ∀ (es : List Ent) (xs : List (Ent × Int)) (h : Ent), (∀ e ∈ es, e.1 < f ∨ t ≤ e.1) → sumL f t h (es.zip xs) = h
  | [], _, _, _ => rfl
  | _ :: _, [], _, _ => rfl
  | e :: es, x :: xs, h, hs => by
    simp only [List.zip_cons_cons, sumL]
    rw [if_pos (hs e (by simp))]
    exact sumL_skip es xs h (fun e he => hs e (by simp [he]))
/-- Over one day one entry alone counts. -/
theorem sumL_one : ∀ (es : List Ent) (xs : List (Ent × Int)) (p : Option Ent) (j : Nat) (e : Ent) (x : Ent × Int) (h : Ent), wrongL p es = 0 → es[j]? = some e → xs[j]? = some x → sumL e.1 (e.1 + 1) h (es.zip xs) = add3 h x.1
  | [], _, _, _, _, _, _, _, he, _ => by simp at he
  | _ :: _, [], _, _, _, _, _, _, _, hx => by simp at hx
  | g :: es, y :: xs, p, 0, e, x, h, hw, he, hx => by
    simp only [List.getElem?_cons_zero, Option.some.injEq] at he hx
    subst he
    subst hx
    simp only [List.zip_cons_cons, sumL]
    rw [if_neg (by omega), sumL_skip es xs _ fun e he => ?_]
    have := wrongL_above (wrongL_sorted hw).2.2 e he
    omega
  | g :: es, y :: xs, p, j + 1, e, x, h, hw, he, hx => by
    simp only [List.getElem?_cons_succ] at he hx
    have h3 := (wrongL_sorted hw).2.2
    have := wrongL_above h3 e (List.mem_of_getElem? he)
    simp only [List.zip_cons_cons, sumL]
    rw [if_pos (by omega)]
    exact sumL_one es xs _ j e x h h3 he hx
theorem eachL_at {a b : Int} (ha : 0 ≤ a) : ∀ (es : List Ent) (sm : Int → Int) (j : Nat) (e : Ent), (∀ e ∈ es, okE e) → (∀ w, 0 ≤ sm w) → es[j]? = some e →
    ∃ s, 0 ≤ s ∧ (eachL a b sm es)[j]? = some ((min (min e.2.1 a) (max (b - s) 0), e.2.1 - min (min e.2.1 a) (max (b - s) 0), e.2.2), monday e.1) ∧ ((∀ (i : Nat) g, i < j → es[i]? = some g → monday g.1 ≠ monday e.1) → s = sm (monday e.1))
  | [], _, _, _, _, _, he => by simp at he
  | g :: es, sm, 0, e, _, hs, he => by
    simp only [List.getElem?_cons_zero, Option.some.injEq] at he
    subst he
    exact ⟨sm (monday g.1), hs _, rfl, fun _ => rfl⟩
  | g :: es, sm, j + 1, e, hok, hs, he => by
    simp only [List.getElem?_cons_succ] at he
    obtain ⟨_, o2, _⟩ := hok g (by simp)
    obtain ⟨s, h1, h2, h3⟩ := eachL_at (b := b) ha es (fun x => if x = monday g.1 then sm (monday g.1) + min g.2.1 a else sm x) j e (fun e he => hok e (by simp [he])) (fun w => by have := hs w; have := hs (monday g.1); split <;> omega) he
    refine ⟨s, h1, by simpa [eachL] using h2, fun hne => ?_⟩
    have h4 := h3 fun i x hi hx => hne (i + 1) x (by omega) (by simpa using hx)
    have h5 := hne 0 g (by omega) rfl
    rw [h4, if_neg (Ne.symm h5)]

theorem wrongL_idx : ∀ {es : List Ent} {p : Option Ent} {i j : Nat} {g e : Ent}, wrongL p es = 0 → i < j → es[i]? = some g → es[j]? = some e → g.1 < e.1
  | [], _, _, _, _, _, _, _, hg, _ => by simp at hg
  | x :: es, p, 0, j, g, e, h, hij, hg, he => by
    simp only [List.getElem?_cons_zero, Option.some.injEq] at hg
    subst hg
    obtain ⟨k, rfl⟩ : ∃ k, j = k + 1 := ⟨j - 1, by omega⟩
    simp only [List.getElem?_cons_succ] at he
    exact wrongL_above (wrongL_sorted h).2.2 e (List.mem_of_getElem? he)
  | x :: es, p, i + 1, j, g, e, h, hij, hg, he => by
    obtain ⟨k, rfl⟩ : ∃ k, j = k + 1 := ⟨j - 1, by omega⟩
    simp only [List.getElem?_cons_succ] at hg he
    exact wrongL_idx (wrongL_sorted h).2.2 (by omega) hg he
/-- What one entry's day comes to: 's' is what its week has had. -/
theorem alone {es : List Ent} {a b : Int} (hw : wrong es a b = 0) {j : Nat} {e : Ent} (he : es[j]? = some e) :
    ∃ s, 0 ≤ s ∧ sumE es a b e.1 (e.1 + 1) = (min (min e.2.1 a) (max (b - s) 0), e.2.1 - min (min e.2.1 a) (max (b - s) 0), e.2.2) ∧ ((∀ g ∈ es, ¬ (g.1 < e.1 ∧ e.1 - 7 < g.1)) → s = 0) := by
  obtain ⟨_, hes, ha, hb⟩ := wrong_ok hw
  obtain ⟨s, h1, h2, h3⟩ := eachL_at (b := b) ha.1 es (fun _ => 0) j e hes (fun _ => Int.le_refl _) he
  refine ⟨s, h1, ?_, fun hn => h3 fun i g hi hg hm => ?_⟩
  · unfold sumE sumH
    rw [if_pos hw, sumL_one es _ none j e _ _ (wrong_sorted hw) he h2, add3_zero]
  · have hlt := wrongL_idx (wrong_sorted hw) hi hg he
    have m1 := monday_in (hes g (List.mem_of_getElem? hg)).1
    have m2 := monday_in (hes e (List.mem_of_getElem? he)).1
    exact hn g (List.mem_of_getElem? hg) ⟨hlt, by omega⟩
end WB
