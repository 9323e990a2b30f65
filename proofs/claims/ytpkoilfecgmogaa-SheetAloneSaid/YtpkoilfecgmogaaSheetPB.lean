/-
  THE SHEET's PLAIN LAWS, second part: greater limits.
-/
import Derived.Test.YtpkoilfecgmogaaSheetP
namespace WB
open Go Go.RowKit Go.Proofs
set_option linter.unusedSimpArgs false

theorem eachL_zero {b : Int} : ∀ (es : List Ent) (sm : Int → Int), (∀ e ∈ es, okE e) → ∀ x ∈ eachL 0 b sm es, x.1.1 = 0
  | [], _, _, x, hx => by cases hx
  | e :: r, sm, h, x, hx => by
    simp only [eachL, List.mem_cons] at hx
    rcases hx with rfl | hx
    · obtain ⟨_, h1, _⟩ := h e (by simp)
      show min (min e.2.1 0) (max (b - sm (monday e.1)) 0) = 0
      omega
    · exact eachL_zero r _ (fun e he => h e (by simp [he])) x hx

theorem wrongL_sorted {p : Option Ent} {e : Ent} {r : List Ent} (h : wrongL p (e :: r) = 0) : okE e ∧ (∀ q, p = some q → q.1 < e.1) ∧ wrongL (some e) r = 0 := by
  refine ⟨wrongL_ok h e (by simp), ?_, ?_⟩
  · intro q hq
    subst hq
    simp only [wrongL] at h
    split at h
    · cases h
    · split at h
      · cases h
      · rename_i h2
        simp only [Option.any_some, decide_eq_true_eq] at h2
        omega
  · simp only [wrongL] at h
    split at h
    · cases h
    · split at h
      · cases h
      · split at h
        · cases h
        · exact h

theorem eachL_full : ∀ (es : List Ent) (q : Ent) (sm : Int → Int), wrongL (some q) es = 0 → (∀ w, 0 ≤ sm w ∧ sm w ≤ 1440 * max (q.1 + 1 - w) 0) → ∀ x ∈ eachL 1440 10080 sm es, x.1.2.1 = 0
  | [], _, _, _, _, x, hx => by cases hx
  | e :: r, q, sm, hw, hs, x, hx => by
    obtain ⟨⟨o1, o2, o3, o4, o5⟩, h2, h3⟩ := wrongL_sorted hw
    have hlt := h2 q rfl
    have hm := monday_in o1
    have h1 := hs (monday e.1)
    simp only [eachL, List.mem_cons] at hx
    rcases hx with rfl | hx
    · show e.2.1 - min (min e.2.1 1440) (max (10080 - sm (monday e.1)) 0) = 0
      omega
    · refine eachL_full r e _ h3 (fun w => ?_) x hx
      have h4 := hs w
      split
      · rename_i hww; subst hww; omega
      · omega
theorem eachL_full0 {es : List Ent} (hw : wrongL none es = 0) : ∀ x ∈ eachL 1440 10080 (fun _ => 0) es, x.1.2.1 = 0 := by
  cases es with
  | nil => intro x hx; cases hx
  | cons e r =>
    refine eachL_full (e :: r) (e.1 - 1, 0, 0) _ ?_ (fun w => by simp only; omega)
    have h := hw
    simp only [wrongL, Option.any_none, Option.any_some] at h ⊢
    have hd : ¬ e.1 ≤ e.1 - 1 := by omega
    simpa [hd] using h

/-- A greater Week: not more over, entry by entry. -/
theorem eachL_week {a b b' : Int} (hb : b ≤ b') : ∀ (es : List Ent) (sm : Int → Int) (i : Nat) (x y : Ent × Int), (eachL a b sm es)[i]? = some x → (eachL a b' sm es)[i]? = some y → y.1.2.1 ≤ x.1.2.1
  | [], _, i, x, y, h, _ => by simp [eachL] at h
  | e :: r, sm, 0, x, y, h, g => by
    simp only [eachL, List.getElem?_cons_zero, Option.some.injEq] at h g
    subst h
    subst g
    show e.2.1 - min (min e.2.1 a) (max (b' - sm (monday e.1)) 0) ≤ e.2.1 - min (min e.2.1 a) (max (b - sm (monday e.1)) 0)
    omega
  | e :: r, sm, i + 1, x, y, h, g => by
    simp only [eachL, List.getElem?_cons_succ] at h g
    exact eachL_week hb r _ i x y h g

theorem sumL_over {f t : Int} : ∀ (es : List Ent) (xs ys : List (Ent × Int)) (h g : Ent), xs.length = es.length → ys.length = es.length → g.2.1 ≤ h.2.1 → (∀ (i : Nat) x y, xs[i]? = some x → ys[i]? = some y → y.1.2.1 ≤ x.1.2.1) →
    (sumL f t g (es.zip ys)).2.1 ≤ (sumL f t h (es.zip xs)).2.1
  | [], _, _, h, g, _, _, hgh, _ => by simpa [sumL] using hgh
  | e :: es, [], _, _, _, hl, _, _, _ => by simp at hl
  | e :: es, _ :: _, [], _, _, _, hl, _, _ => by simp at hl
  | e :: es, x :: xs, y :: ys, h, g, hx, hy, hgh, hp => by
    simp only [List.zip_cons_cons, sumL]
    have h0 := hp 0 x y rfl rfl
    have hr : ∀ (i : Nat) x y, xs[i]? = some x → ys[i]? = some y → y.1.2.1 ≤ x.1.2.1 := fun i x' y' h1 h2 => hp (i + 1) x' y' (by simpa using h1) (by simpa using h2)
    split
    · exact sumL_over es xs ys h g (by simpa using hx) (by simpa using hy) hgh hr
    · exact sumL_over es xs ys _ _ (by simpa using hx) (by simpa using hy) (by simp only [add3]; omega) hr
theorem sumL_noover {f t : Int} : ∀ (l : List (Ent × Ent × Int)) (h : Ent), h.2.1 = 0 → (∀ p ∈ l, p.2.1.2.1 = 0) → (sumL f t h l).2.1 = 0
  | [], h, hh, _ => hh
  | p :: r, h, hh, hp => by
    have h0 := hp p (by simp)
    have hr : ∀ q ∈ r, q.2.1.2.1 = 0 := fun q hq => hp q (by simp [hq])
    simp only [sumL]
    split
    · exact sumL_noover r h hh hr
    · exact sumL_noover r _ (by simp only [add3]; omega) hr
theorem sumL_noplain {f t : Int} : ∀ (l : List (Ent × Ent × Int)) (h : Ent), h.1 = 0 → (∀ p ∈ l, p.2.1.1 = 0) → (sumL f t h l).1 = 0
  | [], h, hh, _ => hh
  | p :: r, h, hh, hp => by
    have h0 := hp p (by simp)
    have hr : ∀ q ∈ r, q.2.1.1 = 0 := fun q hq => hp q (by simp [hq])
    simp only [sumL]
    split
    · exact sumL_noplain r h hh hr
    · exact sumL_noplain r _ (by simp only [add3]; omega) hr

theorem monday_mono {d d' : Int} (h : isDay d = true) (h' : isDay d' = true) (hd : d ≤ d') : monday d ≤ monday d' := by
  unfold monday weekday
  rw [if_pos h, if_pos h']
  omega

/-- Greater limits: not less plain, of all together. -/
theorem plain_more {a b a' b' : Int} (ha : 0 ≤ a ∧ a ≤ a') (hb : 0 ≤ b ∧ b ≤ b') : ∀ (es : List Ent) (q : Ent) (s s' : Int → Int), isDay q.1 = true → wrongL (some q) es = 0 → (0 ≤ s (monday q.1) ∧ s (monday q.1) ≤ s' (monday q.1)) → (∀ w, monday q.1 < w → s w = 0 ∧ s' w = 0) →
    (tot ((eachL a b s es).map (·.1))).1 + min (s (monday q.1)) b ≤ (tot ((eachL a' b' s' es).map (·.1))).1 + min (s' (monday q.1)) b'
  | [], q, s, s', _, _, hs, _ => by simp only [eachL, List.map_nil, tot]; omega
  | e :: r, q, s, s', hq, hw, hs, hz => by
    obtain ⟨⟨o1, o2, o3, o4, o5⟩, h2, h3⟩ := wrongL_sorted hw
    have hlt := h2 q rfl
    have hm := monday_mono hq o1 (by omega)
    have ih := plain_more ha hb r e (fun x => if x = monday e.1 then s (monday e.1) + min e.2.1 a else s x) (fun x => if x = monday e.1 then s' (monday e.1) + min e.2.1 a' else s' x) o1 h3
    simp only [if_true] at ih
    simp only [eachL, List.map_cons, tot, add3]
    by_cases hv : monday e.1 = monday q.1
    · rw [hv] at ih ⊢
      have ih := ih (by omega) (fun w hw' => by rw [if_neg (by omega), if_neg (by omega)]; exact hz w hw')
      omega
    · have hz1 := hz (monday e.1) (by omega)
      have ih := ih (by omega) (fun w hw' => by rw [if_neg (by omega), if_neg (by omega)]; exact hz w (by omega))
      omega
theorem plain_more0 {a b a' b' : Int} (ha : 0 ≤ a ∧ a ≤ a') (hb : 0 ≤ b ∧ b ≤ b') {es : List Ent} (hw : wrongL none es = 0) :
    (tot ((eachL a b (fun _ => 0) es).map (·.1))).1 ≤ (tot ((eachL a' b' (fun _ => 0) es).map (·.1))).1 := by
  cases es with
  | nil => simp [eachL, tot]
  | cons e r =>
    obtain ⟨⟨o1, o2, o3, o4, o5⟩, _, h3⟩ := wrongL_sorted hw
    have h := plain_more ha hb r e (fun x => if x = monday e.1 then 0 + min e.2.1 a else 0) (fun x => if x = monday e.1 then 0 + min e.2.1 a' else 0) o1 h3 (by simp only [if_true]; omega) (fun w hw' => by rw [if_neg (by omega), if_neg (by omega)]; exact ⟨rfl, rfl⟩)
    simp only [if_true] at h
    simp only [eachL, List.map_cons, tot, add3]
    omega
theorem tot_worked {a b : Int} : ∀ (es : List Ent) (s : Int → Int), (tot ((eachL a b s es).map (·.1))).1 + (tot ((eachL a b s es).map (·.1))).2.1 = (tot (es.map fun e => (e.2.1, 0, 0))).1
  | [], s => by simp [eachL, tot]
  | e :: r, s => by
    have ih := tot_worked (a := a) (b := b) r (fun x => if x = monday e.1 then s (monday e.1) + min e.2.1 a else s x)
    simp only [eachL, List.map_cons, tot, add3]
    omega

theorem wrong_lim {es : List Ent} {a b : Int} (hw : wrong es a b = 0) {a' b' : Int} (ha : 0 ≤ a' ∧ a' ≤ 1440) (hb : 0 ≤ b' ∧ b' ≤ 10080) : wrong es a' b' = 0 := by
  unfold wrong at hw ⊢
  split at hw
  · cases hw
  · rename_i h1
    split at hw
    · rename_i h2
      rw [if_neg h1, if_pos h2]
      have : badLim a' b' = false := by simp only [badLim, Bool.or_eq_false_iff, decide_eq_false_iff_not]; omega
      simp [this]
    · rename_i h2; exact absurd hw h2
theorem wrong_sorted {es : List Ent} {a b : Int} (hw : wrong es a b = 0) : wrongL none es = 0 := by
  unfold wrong at hw
  split at hw
  · cases hw
  · split at hw
    · rename_i h2; exact h2
    · exact hw
theorem lim_none {es : List Ent} {a b f t : Int} (hw : wrong es a b = 0) : (sumE es 0 b f t).1 = 0 := by
  obtain ⟨_, hes, ha, hb⟩ := wrong_ok hw
  unfold sumE
  rw [if_pos (wrong_lim hw (by omega) hb)]
  exact sumL_noplain _ _ rfl fun p hp => eachL_zero es _ hes _ (List.of_mem_zip hp).2
theorem lim_all {es : List Ent} {a b f t : Int} (hw : wrong es a b = 0) : (sumE es 1440 10080 f t).2.1 = 0 := by
  unfold sumE
  rw [if_pos (wrong_lim hw (by omega) (by omega))]
  exact sumL_noover _ _ rfl fun p hp => eachL_full0 (wrong_sorted hw) _ (List.of_mem_zip hp).2
theorem lim_week {es : List Ent} {a b b' f t : Int} (hw : wrong es a b = 0) (hw' : wrong es a b' = 0) (hb : b ≤ b') : (sumE es a b' f t).2.1 ≤ (sumE es a b f t).2.1 := by
  unfold sumE
  rw [if_pos hw, if_pos hw']
  exact sumL_over es _ _ _ _ (eachL_len es _) (eachL_len es _) (Int.le_refl _) (eachL_week hb es _)
theorem lim_both {es : List Ent} {a b a' b' f t : Int} (hw : wrong es a b = 0) (hw' : wrong es a' b' = 0) (ha : a ≤ a') (hb : b ≤ b') (hf : f ≤ -25567) (ht : 84006 ≤ t) : (sumE es a' b' f t).2.1 ≤ (sumE es a b f t).2.1 := by
  obtain ⟨_, hes, ha0, hb0⟩ := wrong_ok hw
  have hall : ∀ a b, wrong es a b = 0 → sumE es a b f t = tot ((eachL a b (fun _ => 0) es).map (·.1)) := fun a b h => by
    unfold sumE sumH
    rw [if_pos h, sumL_all es _ (eachL_len es _).symm fun e he => by have := isDay_in (hes e he).1; omega]
  rw [hall _ _ hw, hall _ _ hw']
  have h1 := plain_more0 (a := a) (b := b) (a' := a') (b' := b') (by omega) (by omega) (wrong_sorted hw)
  have h2 := tot_worked (a := a) (b := b) es (fun _ => 0)
  have h3 := tot_worked (a := a') (b := b') es (fun _ => 0)
  omega
end WB
