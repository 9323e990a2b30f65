/-
  THE SHEET: the law SheetSum holds, over plain data.
-/
import Derived.Test.YtpkoilfecgmogaaPsD
namespace WB
open Go Go.RowKit
set_option linter.unusedSimpArgs false
set_option linter.unusedVariables false

theorem law17_of_eq (es : List Ent) (hl : es.length ≤ 5000) : law17_of es = some es := by
  have hloop : iter law17_of_loop1 (es, 0, [], (), ()) = some (es, (), ()) := by
    refine iter_inv (fun n s => ∃ (i : Nat), i + n = es.length ∧ s = (es, (i : Int), es.take i, (), ())) ?_ es.length _ ⟨0, by simp, by simp⟩
    rintro n s ⟨i, hi, rfl⟩
    unfold law17_of_loop1
    simp only
    by_cases hlt : i < es.length
    · obtain ⟨⟨d, m, n'⟩, he⟩ := get_ex hlt
      have hlt' : ((i : Int) < es.length) := by omega
      have w1 : IntKind.i64.wrap ((i : Int) + 1) = (i : Int) + 1 := w64' (by omega) (by omega)
      simp only [hlt', decide_true, if_true, lAt_nat he, ms, bs]
      left
      rw [app1 (by simp; omega) (by simp) (by decide)]
      exact ⟨(es, ((i + 1 : Nat) : Int), es.take (i + 1), (), ()), by simp [w1, take_snoc he], n - 1, by omega, i + 1, by omega, rfl⟩
    · have hlt' : ¬ ((i : Int) < es.length) := by omega
      right
      simp [hlt', List.take_of_length_le (show es.length ≤ i by omega)]
  unfold law17_of
  simp only [hloop, Option.bind_some]
theorem law17_hours_eq (x : Ent) : law17_hours x = some x := rfl

def aw : Nat → List Ent
  | 0 => []
  | i + 1 => aw i ++ [(19723 + (i : Int), 540, 0)]
theorem aw_len : ∀ i, (aw i).length = i
  | 0 => rfl
  | i + 1 => by simp [aw, aw_len i]
theorem aw_wrong : wrong (aw 5) 480 2280 = 0 := by decide
theorem aw_sum : sumE (aw 5) 480 2280 0 30000 = (2280, 420, 0) := by decide
theorem aw_weeks : weeksF (aw 5) 480 2280 = [(2280, 420, 0)] := by decide
theorem law17_awake_eq : law17_awake () = some true := by
  have hloop : iter law17_awake_loop1 (19723, [], (), ()) = some (aw 5, (), ()) := by
    refine iter_inv (fun n s => ∃ (i : Nat), i + n = 5 ∧ s = (19723 + (i : Int), aw i, (), ())) ?_ 5 _ ⟨0, by simp, rfl⟩
    rintro n s ⟨i, hi, rfl⟩
    unfold law17_awake_loop1
    simp only
    have hl := aw_len i
    by_cases hlt : i < 5
    · have hlt' : 19723 + (i : Int) < 19728 := by omega
      have w1 : IntKind.i64.wrap (19723 + (i : Int) + 1) = 19723 + ((i + 1 : Nat) : Int) := by rw [w64' (by omega) (by omega)]; omega
      simp only [hlt', decide_true, if_true]
      left
      rw [app1 (by omega) (by simp) (by decide)]
      exact ⟨(19723 + ((i + 1 : Nat) : Int), aw (i + 1), (), ()), by simp only [Option.bind_some, w1]; rfl, n - 1, by omega, i + 1, by omega, rfl⟩
    · have hi5 : i = 5 := by omega
      subst hi5
      right
      simp
  unfold law17_awake
  simp only [hloop, Option.bind_some, sheet_Sum_eq, sheet_Weeks_eq, aw_wrong, aw_sum, aw_weeks]
  rfl

theorem law17_SheetSum_loop (W : List Ent) (hl : W.length ≤ 5000) : iter law17_SheetSum_loop1 (W, W, 0, ()) = some (.inl ()) := by
  refine iter_inv (fun n s => ∃ (i : Nat), i + n = W.length ∧ s = (W, W, (i : Int), ())) ?_ W.length _ ⟨0, by simp, rfl⟩
  rintro n s ⟨i, hi, rfl⟩
  unfold law17_SheetSum_loop1
  simp only
  by_cases hlt : i < W.length
  · obtain ⟨⟨d, m, n'⟩, he⟩ := get_ex hlt
    have hlt' : ((i : Int) < W.length) := by omega
    have w1 : IntKind.i64.wrap ((i : Int) + 1) = (i : Int) + 1 := w64' (by omega) (by omega)
    left
    exact ⟨(W, W, ((i + 1 : Nat) : Int), ()), by simp [hlt', lAt_nat he, law17_hours_eq, w1], n - 1, by omega, i + 1, by omega, rfl⟩
  · have hlt' : ¬ ((i : Int) < W.length) := by omega
    right
    simp [hlt']

theorem law17_SheetSum_eq (es : List Ent) (a b f t : Int) : law17_SheetSum (es, (a, b), (f, t)) = some true := by
  unfold law17_SheetSum
  simp only [law17_awake_eq, Option.bind_some, Bool.not_true, Bool.false_eq_true, if_false]
  by_cases hbig : (40 < es.length ∧ es.length ≤ 4096) ∨ 5000 < es.length
  · rcases hbig with ⟨h1, h2⟩ | h1
    · have g1 : (es.length : Int) > 40 := by omega
      have g2 : (es.length : Int) ≤ 4096 := by omega
      simp [g1, g2]
    · have g1 : (es.length : Int) > 40 := by omega
      have g2 : ¬ (es.length : Int) ≤ 4096 := by omega
      have g3 : (es.length : Int) > 5000 := by omega
      simp [g1, g2, g3]
  have hl : es.length ≤ 5000 := by omega
  have key : ∀ (X : Option Bool), (Option.bind (if decide ((es.length : Int) > 40) = true then Option.map some (Option.map (fun z13 => decide (z13.1 ≤ z13.2)) (Option.bind (if decide ((es.length : Int) > 40) = true then some (es.length : Int) else none) fun z11 => some (z11, (4096 : Int)))) else some none) fun x21 => X) = X := by
    intro X
    by_cases h : (es.length : Int) > 40 <;> simp [h]
  have fin : ∀ {c1 c2 : Bool}, True := fun {_ _} => trivial
  by_cases g1 : (es.length : Int) > 40
  · have g2 : ¬ (es.length : Int) ≤ 4096 := by omega
    have g3 : ¬ (es.length : Int) > 5000 := by omega
    simp only [g1, g2, g3, decide_true, decide_false, if_true, Bool.false_eq_true, if_false, Option.map_some, Option.bind_some, sheet_Sum_eq, sheet_Weeks_eq, law17_of_eq es hl, ref17_Check_eq]
    have hw : wrong es a b = 5 := by unfold wrong; rw [if_pos (by omega)]
    simp [hw, sumE, weeksF]
  · have g3 : ¬ (es.length : Int) > 5000 := by omega
    simp only [g1, g3, decide_true, decide_false, if_true, Bool.false_eq_true, if_false, Option.map_some, Option.bind_some, sheet_Sum_eq, sheet_Weeks_eq, law17_of_eq es hl, ref17_Check_eq]
    by_cases hw : wrong es a b = 0
    · simp only [hw, bne_self_eq_false, Bool.false_eq_true, if_false, ref17_Weeks_eq hw, ref17_Sum_eq hw, law17_hours_eq, Option.bind_some, Option.map_some, if_true]
      have hwl := (weeksF_in hw).2
      simp [law17_SheetSum_loop (weeksF es a b) (by omega), law17_of_eq es hl, ref17_Sum_eq hw]
    · have hne : (wrong es a b != 0) = true := by simp [hw]
      simp [hne, hw, sumE, weeksF]
end WB
