/-
  THE SHEET'S FUNCTIONS (seat of the Sheet rows): what each of them does, walked through its model.
-/
import Derived.Test.YtpkoilfecgmogaaCoreZr
import Derived.Test.YtpkoilfecgmogaaProg
import Derived.KernelRfl
namespace WB
open Go Go.RowKit Go.Proofs
set_option linter.unusedSimpArgs false

def m25 : Model := ⟨9, (.seq (.reg false [] [⟨(some 2), (.mov (.k (.bool false))), none⟩]) (.seq (.reg false [] [⟨(some 3), (.mov (.t 0)), none⟩, ⟨(some 4), (.bin .geq (.t 3) (.k (.int .i64 (-25567)))), none⟩, ⟨(some 5), (.mov (.t 4)), none⟩, ⟨(some 6), (.mov (.t 0)), (some (5, true))⟩, ⟨(some 7), (.bin .lss (.t 6) (.k (.int .i64 84006))), (some (5, true))⟩, ⟨(some 8), (.pick (.t 5) (.t 7) (.k (.bool false))), none⟩, ⟨(some 2), (.mov (.t 8)), none⟩]) .ret)), [(.tmp 2)]⟩
theorem c25 : compF Try.prog 25 = some m25 := by kernel_rfl
def m23 : Model := ⟨9, (.seq (.reg false [] [⟨(some 2), (.mov (.k (.int .i64 0))), none⟩]) (.seq (.seq (.reg false [] [⟨(some 3), (.mov (.t 0)), none⟩, ⟨(some 4), (.call 25 [(.t 3)]), none⟩, ⟨(some 5), (.un .not (.t 4)), none⟩]) (.cond (.t 5) (.seq (.reg false [] [⟨(some 2), (.mov (.k (.int .i64 (-1)))), none⟩]) .ret) .skip)) (.seq (.reg false [] [⟨(some 6), (.mov (.t 0)), none⟩, ⟨(some 7), (.bin .sub (.t 6) (.k (.int .i64 (-25567)))), none⟩, ⟨(some 8), (.bin .rem (.t 7) (.k (.int .i64 7))), none⟩, ⟨(some 2), (.mov (.t 8)), none⟩]) .ret))), [(.tmp 2)]⟩
theorem c23 : compF Try.prog 23 = some m23 := by kernel_rfl
def m17 : Model := ⟨76, (.seq (.reg false [3] [⟨(some 3), (.box (.t 1)), none⟩, ⟨(some 4), (.mov (.k (.int .i64 0))), none⟩]) (.seq (.seq (.reg false [] [⟨(some 7), (.mov (.t 0)), none⟩, ⟨(some 8), (.len 1 (.t 7)), none⟩, ⟨(some 9), (.bin .gtr (.t 8) (.k (.int .i64 4096))), none⟩]) (.cond (.t 9) (.seq (.reg false [] [⟨(some 4), (.mov (.k (.int .i64 5))), none⟩]) .ret) .skip)) (.seq (.seq (.reg false [] [⟨(some 10), (.mov (.t 0)), none⟩, ⟨(some 11), (.len 1 (.t 10)), none⟩, ⟨(some 12), (.mov (.k (.int .i64 0))), none⟩]) (.block 0 (.loop (.seq (.reg false [] [⟨(some 13), (.bin .lss (.t 12) (.t 11)), none⟩]) (.seq (.cond (.t 13) .skip (.exit 0)) (.seq (.block 1 (.seq (.reg false [6] [⟨(some 14), (.mov (.t 12)), none⟩, ⟨(some 15), (.iaddr 3 (.t 10) (.t 12)), none⟩, ⟨(some 16), (.load (some 3) (.t 15)), none⟩, ⟨(some 6), (.alloc [(.int .i64 0), (.int .i64 0), (.int .i64 0)]), none⟩, ⟨(some 5), (.mov (.t 14)), none⟩, ⟨none, (.store 3 (.t 6) (.t 16)), none⟩]) (.block 2 (.seq (.reg false [] [⟨(some 18), (.faddr 0 (.t 6)), none⟩, ⟨(some 19), (.load none (.t 18)), none⟩, ⟨(some 20), (.call 23 [(.t 19)]), none⟩, ⟨(some 21), (.bin .lss (.t 20) (.k (.int .i64 0))), none⟩, ⟨(some 17), (.mov (.t 21)), none⟩]) (.cond (.t 17) (.seq (.reg false [] [⟨(some 4), (.mov (.k (.int .i64 15))), none⟩]) .ret) (.seq (.reg true [] [⟨(some 23), (.mov (.t 5)), none⟩, ⟨(some 24), (.bin .gtr (.t 23) (.k (.int .i64 0))), none⟩, ⟨(some 25), (.mov (.t 24)), none⟩, ⟨(some 26), (.faddr 0 (.t 6)), (some (25, true))⟩, ⟨(some 27), (.load none (.t 26)), (some (25, true))⟩, ⟨(some 28), (.mov (.t 0)), (some (25, true))⟩, ⟨(some 29), (.mov (.t 5)), (some (25, true))⟩, ⟨(some 30), (.bin .sub (.t 29) (.k (.int .i64 1))), (some (25, true))⟩, ⟨(some 31), (.iaddr 3 (.t 28) (.t 30)), (some (25, true))⟩, ⟨(some 32), (.faddr 0 (.t 31)), (some (25, true))⟩, ⟨(some 33), (.load none (.t 32)), (some (25, true))⟩, ⟨(some 34), (.bin .leq (.t 27) (.t 33)), (some (25, true))⟩, ⟨(some 35), (.pick (.t 25) (.t 34) (.k (.bool false))), none⟩, ⟨(some 22), (.mov (.t 35)), none⟩]) (.cond (.t 22) (.seq (.reg false [] [⟨(some 4), (.mov (.k (.int .i64 8))), none⟩]) .ret) (.seq (.reg false [] [⟨(some 37), (.faddr 1 (.t 6)), none⟩, ⟨(some 38), (.load none (.t 37)), none⟩, ⟨(some 39), (.bin .lss (.t 38) (.k (.int .i64 0))), none⟩, ⟨(some 40), (.mov (.t 39)), none⟩, ⟨(some 41), (.faddr 1 (.t 6)), (some (40, false))⟩, ⟨(some 42), (.load none (.t 41)), (some (40, false))⟩, ⟨(some 43), (.bin .gtr (.t 42) (.k (.int .i64 1440))), (some (40, false))⟩, ⟨(some 44), (.pick (.t 40) (.k (.bool true)) (.t 43)), none⟩, ⟨(some 45), (.mov (.t 44)), none⟩, ⟨(some 46), (.faddr 2 (.t 6)), (some (45, false))⟩, ⟨(some 47), (.load none (.t 46)), (some (45, false))⟩, ⟨(some 48), (.bin .lss (.t 47) (.k (.int .i64 0))), (some (45, false))⟩, ⟨(some 49), (.pick (.t 45) (.k (.bool true)) (.t 48)), none⟩, ⟨(some 50), (.mov (.t 49)), none⟩, ⟨(some 51), (.faddr 2 (.t 6)), (some (50, false))⟩, ⟨(some 52), (.load none (.t 51)), (some (50, false))⟩, ⟨(some 53), (.faddr 1 (.t 6)), (some (50, false))⟩, ⟨(some 54), (.load none (.t 53)), (some (50, false))⟩, ⟨(some 55), (.bin .gtr (.t 52) (.t 54)), (some (50, false))⟩, ⟨(some 56), (.pick (.t 50) (.k (.bool true)) (.t 55)), none⟩, ⟨(some 36), (.mov (.t 56)), none⟩]) (.cond (.t 36) (.seq (.reg false [] [⟨(some 4), (.mov (.k (.int .i64 2))), none⟩]) .ret) .skip))))))))) (.reg false [] [⟨(some 57), (.bin .add (.t 12) (.k (.int .i64 1))), none⟩, ⟨(some 12), (.mov (.t 57)), none⟩]))))))) (.seq (.seq (.reg false [] [⟨(some 58), (.faddr 0 (.t 3)), none⟩, ⟨(some 59), (.load none (.t 58)), none⟩, ⟨(some 60), (.bin .lss (.t 59) (.k (.int .i64 0))), none⟩, ⟨(some 61), (.mov (.t 60)), none⟩, ⟨(some 62), (.faddr 0 (.t 3)), (some (61, false))⟩, ⟨(some 63), (.load none (.t 62)), (some (61, false))⟩, ⟨(some 64), (.bin .gtr (.t 63) (.k (.int .i64 1440))), (some (61, false))⟩, ⟨(some 65), (.pick (.t 61) (.k (.bool true)) (.t 64)), none⟩, ⟨(some 66), (.mov (.t 65)), none⟩, ⟨(some 67), (.faddr 1 (.t 3)), (some (66, false))⟩, ⟨(some 68), (.load none (.t 67)), (some (66, false))⟩, ⟨(some 69), (.bin .lss (.t 68) (.k (.int .i64 0))), (some (66, false))⟩, ⟨(some 70), (.pick (.t 66) (.k (.bool true)) (.t 69)), none⟩, ⟨(some 71), (.mov (.t 70)), none⟩, ⟨(some 72), (.faddr 1 (.t 3)), (some (71, false))⟩, ⟨(some 73), (.load none (.t 72)), (some (71, false))⟩, ⟨(some 74), (.bin .gtr (.t 73) (.k (.int .i64 10080))), (some (71, false))⟩, ⟨(some 75), (.pick (.t 71) (.k (.bool true)) (.t 74)), none⟩]) (.cond (.t 75) (.seq (.reg false [] [⟨(some 4), (.mov (.k (.int .i64 2))), none⟩]) .ret) .skip)) (.seq (.reg false [] [⟨(some 4), (.mov (.k (.int .i64 0))), none⟩]) .ret))))), [(.tmp 4)]⟩
theorem c17 : compF Try.prog 17 = some m17 := by kernel_rfl
def m19 : Model := ⟨21, (.seq (.reg false [2, 3, 4] [⟨(some 2), (.box (.t 0)), none⟩, ⟨(some 3), (.box (.t 1)), none⟩, ⟨(some 4), (.alloc [(.int .i64 0), (.int .i64 0), (.int .i64 0)]), none⟩]) (.seq (.reg false [] [⟨(some 5), (.faddr 0 (.t 2)), none⟩, ⟨(some 6), (.load none (.t 5)), none⟩, ⟨(some 7), (.faddr 0 (.t 3)), none⟩, ⟨(some 8), (.load none (.t 7)), none⟩, ⟨(some 9), (.bin .add (.t 6) (.t 8)), none⟩, ⟨(some 10), (.faddr 1 (.t 2)), none⟩, ⟨(some 11), (.load none (.t 10)), none⟩, ⟨(some 12), (.faddr 1 (.t 3)), none⟩, ⟨(some 13), (.load none (.t 12)), none⟩, ⟨(some 14), (.bin .add (.t 11) (.t 13)), none⟩, ⟨(some 15), (.faddr 2 (.t 2)), none⟩, ⟨(some 16), (.load none (.t 15)), none⟩, ⟨(some 17), (.faddr 2 (.t 3)), none⟩, ⟨(some 18), (.load none (.t 17)), none⟩, ⟨(some 19), (.bin .add (.t 16) (.t 18)), none⟩, ⟨(some 20), (.build [(.int .i64 0), (.int .i64 0), (.int .i64 0)] [(0, (1, (.t 9))), (1, (1, (.t 14))), (2, (1, (.t 19)))]), none⟩, ⟨none, (.store 3 (.t 4) (.t 20)), none⟩]) .ret)), [(.cell 4 (some 3))]⟩
theorem c19 : compF Try.prog 19 = some m19 := by kernel_rfl
def m18 : Model := ⟨67, (.seq (.reg false [3] [⟨(some 3), (.box (.t 1)), none⟩, ⟨(some 4), (.mov (.k (.sl (some true) []))), none⟩, ⟨(some 5), (.mov (.k (.sl (some true) []))), none⟩]) (.seq (.reg false [14] [⟨(some 14), (.mkmap 64 (.struct [(.int .i64)]) (.int .i64 0)), none⟩, ⟨(some 6), (.mov (.t 14)), none⟩]) (.seq (.reg false [] [⟨(some 7), (.mov (.k (.sl (some true) []))), none⟩]) (.seq (.reg false [] [⟨(some 8), (.mov (.k (.sl (some true) []))), none⟩]) (.seq (.seq (.reg false [] [⟨(some 15), (.mov (.t 0)), none⟩, ⟨(some 16), (.len 1 (.t 15)), none⟩, ⟨(some 17), (.mov (.k (.int .i64 0))), none⟩]) (.block 0 (.loop (.seq (.reg false [] [⟨(some 18), (.bin .lss (.t 17) (.t 16)), none⟩]) (.seq (.cond (.t 18) .skip (.exit 0)) (.seq (.block 1 (.seq (.reg false [10] [⟨(some 19), (.iaddr 3 (.t 15) (.t 17)), none⟩, ⟨(some 20), (.load (some 3) (.t 19)), none⟩, ⟨(some 10), (.alloc [(.int .i64 0), (.int .i64 0), (.int .i64 0)]), none⟩, ⟨none, (.store 3 (.t 10) (.t 20)), none⟩]) (.seq (.reg true [25, 11] [⟨(some 21), (.faddr 0 (.t 10)), none⟩, ⟨(some 22), (.load none (.t 21)), none⟩, ⟨(some 23), (.faddr 0 (.t 10)), none⟩, ⟨(some 24), (.load none (.t 23)), none⟩, ⟨(some 25), (.call 23 [(.t 24)]), none⟩, ⟨(some 26), (.bin .sub (.t 22) (.t 25)), none⟩, ⟨(some 27), (.build [(.int .i64 0)] [(0, (1, (.t 26)))]), none⟩, ⟨(some 11), (.alloc [(.int .i64 0)]), none⟩, ⟨none, (.store 1 (.t 11) (.t 27)), none⟩]) (.seq (.reg false [] [⟨(some 28), (.faddr 1 (.t 10)), none⟩, ⟨(some 29), (.load none (.t 28)), none⟩, ⟨(some 30), (.faddr 0 (.t 3)), none⟩, ⟨(some 31), (.load none (.t 30)), none⟩, ⟨(some 32), (.minmax false [(.t 29), (.t 31)]), none⟩, ⟨(some 12), (.mov (.t 32)), none⟩]) (.seq (.reg true [] [⟨(some 33), (.mov (.t 12)), none⟩, ⟨(some 34), (.faddr 1 (.t 3)), none⟩, ⟨(some 35), (.load none (.t 34)), none⟩, ⟨(some 36), (.mov (.t 6)), none⟩, ⟨(some 37), (.load (some 1) (.t 11)), none⟩, ⟨(some 38), (.lookup 64 (.struct [(.int .i64)]) (.int .i64 0) false (.t 36) (.t 37)), none⟩, ⟨(some 39), (.bin .sub (.t 35) (.t 38)), none⟩, ⟨(some 40), (.minmax true [(.t 39), (.k (.int .i64 0))]), none⟩, ⟨(some 41), (.minmax false [(.t 33), (.t 40)]), none⟩, ⟨(some 13), (.mov (.t 41)), none⟩]) (.seq (.reg true [] [⟨(some 42), (.mov (.t 6)), none⟩, ⟨(some 43), (.load (some 1) (.t 11)), none⟩, ⟨(some 44), (.lookup 64 (.struct [(.int .i64)]) (.int .i64 0) false (.t 42) (.t 43)), none⟩, ⟨(some 45), (.mov (.t 12)), none⟩, ⟨(some 46), (.bin .add (.t 44) (.t 45)), none⟩, ⟨(some 47), (.mapent 64 (.t 42) (.t 43)), none⟩, ⟨(some 48), (.ext (.t 47) 1), none⟩, ⟨none, (.entst (.t 42) (.t 48) (.t 46)), none⟩]) (.seq (.reg false [58] [⟨(some 49), (.mov (.t 7)), none⟩, ⟨(some 50), (.mov (.t 13)), none⟩, ⟨(some 51), (.faddr 1 (.t 10)), none⟩, ⟨(some 52), (.load none (.t 51)), none⟩, ⟨(some 53), (.mov (.t 13)), none⟩, ⟨(some 54), (.bin .sub (.t 52) (.t 53)), none⟩, ⟨(some 55), (.faddr 2 (.t 10)), none⟩, ⟨(some 56), (.load none (.t 55)), none⟩, ⟨(some 57), (.build [(.int .i64 0), (.int .i64 0), (.int .i64 0)] [(0, (1, (.t 50))), (1, (1, (.t 54))), (2, (1, (.t 56)))]), none⟩, ⟨(some 58), (.mksl 30 3 [(.t 57)]), none⟩, ⟨(some 59), (.append 30 3 24 (.t 49) (.t 58)), none⟩, ⟨(some 7), (.mov (.t 59)), none⟩]) (.reg false [62] [⟨(some 60), (.mov (.t 8)), none⟩, ⟨(some 61), (.load (some 1) (.t 11)), none⟩, ⟨(some 62), (.mksl 58 1 [(.t 61)]), none⟩, ⟨(some 63), (.append 58 1 8 (.t 60) (.t 62)), none⟩, ⟨(some 8), (.mov (.t 63)), none⟩])))))))) (.reg false [] [⟨(some 64), (.bin .add (.t 17) (.k (.int .i64 1))), none⟩, ⟨(some 17), (.mov (.t 64)), none⟩]))))))) (.seq (.reg false [] [⟨(some 65), (.mov (.t 7)), none⟩, ⟨(some 66), (.mov (.t 8)), none⟩, ⟨(some 4), (.mov (.t 65)), none⟩, ⟨(some 5), (.mov (.t 66)), none⟩]) .ret)))))), [(.tmp 4), (.tmp 5)]⟩
theorem c18 : compF Try.prog 18 = some m18 := by kernel_rfl


variable {E : Env}
def isDay (d : Int) : Bool := decide (-25567 ≤ d) && decide (d < 84006)
def weekday (d : Int) : Int := if isDay d then (d + 25567) % 7 else -1
def addE (x y : Ent) : Ent := (IntKind.i64.wrap (x.1 + y.1), IntKind.i64.wrap (x.2.1 + y.2.1), IntKind.i64.wrap (x.2.2 + y.2.2))
def monday (d : Int) : Int := d - weekday d
def eachL (a b : Int) : (Int → Int) → List Ent → List (Ent × Int)
  | _, [] => []
  | sm, e :: r => ((min (min e.2.1 a) (max (b - sm (monday e.1)) 0), e.2.1 - min (min e.2.1 a) (max (b - sm (monday e.1)) 0), e.2.2), monday e.1) :: eachL a b (fun x => if x = monday e.1 then sm (monday e.1) + min e.2.1 a else sm x) r
def okE (e : Ent) : Prop := isDay e.1 = true ∧ 0 ≤ e.2.1 ∧ e.2.1 ≤ 1440 ∧ 0 ≤ e.2.2 ∧ e.2.2 ≤ e.2.1
def nl1 (es : List Ent) : Option Bool := if es = [] then some true else none
def badE (e : Ent) : Bool := e.2.1 < 0 || 1440 < e.2.1 || e.2.2 < 0 || e.2.1 < e.2.2
def wrongL : Option Ent → List Ent → Int
  | _, [] => 0
  | p, e :: r => if weekday e.1 < 0 then 15 else if (p.any fun q => e.1 ≤ q.1) then 8 else if badE e then 2 else wrongL (some e) r
def badLim (a b : Int) : Bool := a < 0 || 1440 < a || b < 0 || 10080 < b
def wrong (es : List Ent) (a b : Int) : Int :=
  if 4096 < es.length then 5 else if wrongL none es = 0 then (if badLim a b then 2 else 0) else wrongL none es

theorem wrongL_ok : ∀ {es : List Ent} {p : Option Ent}, wrongL p es = 0 → ∀ e ∈ es, okE e
  | [], _, _, e, he => by cases he
  | x :: r, p, h, e, he => by
    simp only [wrongL] at h
    split at h
    · cases h
    · rename_i h1
      split at h
      · cases h
      · split at h
        · cases h
        · rename_i h3
          rcases List.mem_cons.1 he with rfl | he
          · have hd : isDay e.1 = true := by
              cases hd : isDay e.1 with
              | true => rfl
              | false => simp [weekday, hd] at h1
            simp only [badE, Bool.or_eq_true, decide_eq_true_eq, not_or] at h3
            exact ⟨hd, by omega, by omega, by omega, by omega⟩
          · exact wrongL_ok h e he
theorem wrong_ok {es : List Ent} {a b : Int} (h : wrong es a b = 0) : es.length ≤ 4096 ∧ (∀ e ∈ es, okE e) ∧ (0 ≤ a ∧ a ≤ 1440) ∧ (0 ≤ b ∧ b ≤ 10080) := by
  unfold wrong at h
  split at h
  · cases h
  · rename_i h1
    split at h
    · rename_i h2
      split at h
      · cases h
      · rename_i h3
        simp only [badLim, Bool.or_eq_true, decide_eq_true_eq, not_or] at h3
        exact ⟨by omega, wrongL_ok h2, by omega, by omega⟩
    · rename_i h2; exact absurd h h2
theorem eachL_len {a b : Int} : ∀ (es : List Ent) (sm : Int → Int), (eachL a b sm es).length = es.length
  | [], _ => rfl
  | e :: r, sm => by simp [eachL, eachL_len r]
def okH (x : Ent) : Prop := (0 ≤ x.1 ∧ x.1 ≤ 1440) ∧ (0 ≤ x.2.1 ∧ x.2.1 ≤ 1440) ∧ (0 ≤ x.2.2 ∧ x.2.2 ≤ 1440)
theorem eachL_ok {a b : Int} (ha : 0 ≤ a) : ∀ (es : List Ent) (sm : Int → Int), (∀ e ∈ es, okE e) → ∀ x ∈ eachL a b sm es, okH x.1
  | [], _, _, x, hx => by cases hx
  | e :: r, sm, h, x, hx => by
    simp only [eachL, List.mem_cons] at hx
    rcases hx with rfl | hx
    · obtain ⟨_, h1, h2, h3, h4⟩ := h e (by simp)
      refine ⟨?_, ?_, ?_⟩ <;> simp only <;> omega
    · exact eachL_ok ha r _ (fun e he => h e (by simp [he])) x hx

def add3 (x y : Ent) : Ent := (x.1 + y.1, x.2.1 + y.2.1, x.2.2 + y.2.2)
def sumL (f t : Int) : Ent → List (Ent × Ent × Int) → Ent
  | h, [] => h
  | h, p :: r => if p.1.1 < f ∨ t ≤ p.1.1 then sumL f t h r else sumL f t (add3 h p.2.1) r
def sumH (es : List Ent) (a b f t : Int) : Ent := sumL f t (0, 0, 0) (es.zip (eachL a b (fun _ => 0) es))
def sumE (es : List Ent) (a b f t : Int) : Ent := if wrong es a b = 0 then sumH es a b f t else (0, 0, 0)
theorem addE_in {x y : Ent} {k : Nat} (hk : k ≤ 4096) (hx : (0 ≤ x.1 ∧ x.1 ≤ 1440 * k) ∧ (0 ≤ x.2.1 ∧ x.2.1 ≤ 1440 * k) ∧ (0 ≤ x.2.2 ∧ x.2.2 ≤ 1440 * k)) (hy : okH y) : addE x y = add3 x y := by
  obtain ⟨h1, h2, h3⟩ := hy
  simp only [addE, add3, w64 (x.1 + y.1) (by omega), w64 (x.2.1 + y.2.1) (by omega), w64 (x.2.2 + y.2.2) (by omega)]


def merge : List Ent → Option Int → List (Ent × Int) → List Ent
  | out, _, [] => out
  | out, p, x :: r => if p = some x.2 then merge (out.dropLast ++ [add3 (out.getLastD (0, 0, 0)) x.1]) (some x.2) r else merge (out ++ [x.1]) (some x.2) r
def weeksF (es : List Ent) (a b : Int) : List Ent := if wrong es a b = 0 then merge [] none (eachL a b (fun _ => 0) es) else []
def inH (k : Nat) (x : Ent) : Prop := (0 ≤ x.1 ∧ x.1 ≤ 1440 * k) ∧ (0 ≤ x.2.1 ∧ x.2.1 ≤ 1440 * k) ∧ (0 ≤ x.2.2 ∧ x.2.2 ≤ 1440 * k)

theorem w25 (d : Int) : pwp E m25.code (fin m25.res (.bool (isDay d))) (init [.int .i64 d]) := by
  unfold m25
  dsimp only
  repeat' (first
    | with_reducible apply p_seq
    | with_reducible apply then_normal
    | with_reducible apply then_exit
    | with_reducible apply then_ret
    | with_reducible apply block_normal
    | with_reducible apply block_exit
    | with_reducible apply block_ret
    | with_reducible apply turn_exit
    | with_reducible apply turn_ret
    | with_reducible apply p_skip
    | with_reducible apply p_exit
    | with_reducible apply p_ret
    | with_reducible apply p_block
    | with_reducible apply p_reg0
    | with_reducible apply p_reg1
    | with_reducible apply c_nil
    | with_reducible apply g_tt
    | with_reducible apply g_ff
    | with_reducible apply g_tf
    | with_reducible apply g_ft
    | with_reducible apply g_sk
    | with_reducible apply k_t
    | with_reducible apply k_f
    | ((with_reducible apply block_past); (· decide))
    | ((with_reducible apply c_mov); (· simp [valOp, so_t, so_k, so, setS_fr, setS_ob, newS_fr, newS_ob, refOf, kill_fr, kill_ob, init_fr, init_ob, mask_none, mask_some, upd_apply, killSV, killOb, *] <;> first | with_reducible exact rfl | with_reducible exact ⟨rfl, rfl⟩ | with_reducible exact ⟨by omega, rfl⟩))
    | ((with_reducible apply c_pick); (· simp [valOp, so_t, so_k, so, setS_fr, setS_ob, newS_fr, newS_ob, refOf, kill_fr, kill_ob, init_fr, init_ob, mask_none, mask_some, upd_apply, killSV, killOb, *] <;> first | with_reducible exact rfl | with_reducible exact ⟨rfl, rfl⟩ | with_reducible exact ⟨by omega, rfl⟩))
    | ((with_reducible apply c_bin); (· simp [valOp, binC, binI, cmpB, binS, so_t, so_k, so, setS_fr, setS_ob, newS_fr, newS_ob, refOf, kill_fr, kill_ob, init_fr, init_ob, mask_none, mask_some, upd_apply, killSV, killOb, *] <;> first | with_reducible exact rfl | with_reducible exact ⟨rfl, rfl⟩ | with_reducible exact ⟨by omega, rfl⟩))
    | ((with_reducible apply c_eqs); (· simp [valOp, eqA, eqL, eq1, so_t, so_k, so, setS_fr, setS_ob, newS_fr, newS_ob, refOf, kill_fr, kill_ob, init_fr, init_ob, mask_none, mask_some, upd_apply, killSV, killOb, *] <;> first | with_reducible exact rfl | with_reducible exact ⟨rfl, rfl⟩ | with_reducible exact ⟨by omega, rfl⟩))
    | ((with_reducible apply c_beq); (· simp [valOp, so_t, so_k, so, setS_fr, setS_ob, newS_fr, newS_ob, refOf, kill_fr, kill_ob, init_fr, init_ob, mask_none, mask_some, upd_apply, killSV, killOb, *] <;> first | with_reducible exact rfl | with_reducible exact ⟨rfl, rfl⟩ | with_reducible exact ⟨by omega, rfl⟩))
    | ((with_reducible apply c_isnil); (· simp [valOp, so_t, so_k, so, setS_fr, setS_ob, newS_fr, newS_ob, refOf, kill_fr, kill_ob, init_fr, init_ob, mask_none, mask_some, upd_apply, killSV, killOb, *] <;> first | with_reducible exact rfl | with_reducible exact ⟨rfl, rfl⟩ | with_reducible exact ⟨by omega, rfl⟩))
    | ((with_reducible apply c_un); (· simp [valOp, unC, so_t, so_k, so, setS_fr, setS_ob, newS_fr, newS_ob, refOf, kill_fr, kill_ob, init_fr, init_ob, mask_none, mask_some, upd_apply, killSV, killOb, *] <;> first | with_reducible exact rfl | with_reducible exact ⟨rfl, rfl⟩ | with_reducible exact ⟨by omega, rfl⟩))
    | ((with_reducible apply c_cvi); (· simp [valOp, so_t, so_k, so, setS_fr, setS_ob, newS_fr, newS_ob, refOf, kill_fr, kill_ob, init_fr, init_ob, mask_none, mask_some, upd_apply, killSV, killOb, *] <;> first | with_reducible exact rfl | with_reducible exact ⟨rfl, rfl⟩ | with_reducible exact ⟨by omega, rfl⟩))
    | ((with_reducible apply c_cvrune); (· simp [valOp, so_t, so_k, so, setS_fr, setS_ob, newS_fr, newS_ob, refOf, kill_fr, kill_ob, init_fr, init_ob, mask_none, mask_some, upd_apply, killSV, killOb, *] <;> first | with_reducible exact rfl | with_reducible exact ⟨rfl, rfl⟩ | with_reducible exact ⟨by omega, rfl⟩))
    | ((with_reducible apply c_cvid); (· simp [valOp, so_t, so_k, so, setS_fr, setS_ob, newS_fr, newS_ob, refOf, kill_fr, kill_ob, init_fr, init_ob, mask_none, mask_some, upd_apply, killSV, killOb, *] <;> first | with_reducible exact rfl | with_reducible exact ⟨rfl, rfl⟩ | with_reducible exact ⟨by omega, rfl⟩))
    | ((with_reducible apply c_build); (· simp [valOp, allM, closed, fillC, cellsN, CV.cells, so_t, so_k, so, setS_fr, setS_ob, newS_fr, newS_ob, refOf, kill_fr, kill_ob, init_fr, init_ob, mask_none, mask_some, upd_apply, killSV, killOb, *] <;> first | with_reducible exact rfl | with_reducible exact ⟨rfl, rfl⟩ | with_reducible exact ⟨by omega, rfl⟩))
    | ((with_reducible apply c_field); (· simp [valOp, partC, so_t, so_k, so, setS_fr, setS_ob, newS_fr, newS_ob, refOf, kill_fr, kill_ob, init_fr, init_ob, mask_none, mask_some, upd_apply, killSV, killOb, *] <;> first | with_reducible exact rfl | with_reducible exact ⟨rfl, rfl⟩ | with_reducible exact ⟨by omega, rfl⟩))
    | ((with_reducible apply c_ext); (· simp [valOp, so_t, so_k, so, setS_fr, setS_ob, newS_fr, newS_ob, refOf, kill_fr, kill_ob, init_fr, init_ob, mask_none, mask_some, upd_apply, killSV, killOb, *] <;> first | with_reducible exact rfl | with_reducible exact ⟨rfl, rfl⟩ | with_reducible exact ⟨by omega, rfl⟩))
    | ((with_reducible apply c_minmax); (· simp [valOp, allM, closed, minmaxC, so_t, so_k, so, setS_fr, setS_ob, newS_fr, newS_ob, refOf, kill_fr, kill_ob, init_fr, init_ob, mask_none, mask_some, upd_apply, killSV, killOb, *] <;> first | with_reducible exact rfl | with_reducible exact ⟨rfl, rfl⟩ | with_reducible exact ⟨by omega, rfl⟩))
    | ((with_reducible apply c_fnv); (· simp [valOp, allM, closed, so_t, so_k, so, setS_fr, setS_ob, newS_fr, newS_ob, refOf, kill_fr, kill_ob, init_fr, init_ob, mask_none, mask_some, upd_apply, killSV, killOb, *] <;> first | with_reducible exact rfl | with_reducible exact ⟨rfl, rfl⟩ | with_reducible exact ⟨by omega, rfl⟩))
    | ((with_reducible apply c_faddr); (· simp [valOp, so_t, so_k, so, setS_fr, setS_ob, newS_fr, newS_ob, refOf, kill_fr, kill_ob, init_fr, init_ob, mask_none, mask_some, upd_apply, killSV, killOb, *] <;> first | with_reducible exact rfl | with_reducible exact ⟨rfl, rfl⟩ | with_reducible exact ⟨by omega, rfl⟩))
    | ((with_reducible apply c_iaddr); (· simp [valOp, iaddrV, idxOf, cellsN, CV.cells, so_t, so_k, so, setS_fr, setS_ob, newS_fr, newS_ob, refOf, kill_fr, kill_ob, init_fr, init_ob, mask_none, mask_some, upd_apply, killSV, killOb, *] <;> first | with_reducible exact rfl | with_reducible exact ⟨rfl, rfl⟩ | with_reducible exact ⟨by omega, rfl⟩))
    | ((with_reducible apply c_aaddr); (· simp [valOp, aaddrV, idxOf, so_t, so_k, so, setS_fr, setS_ob, newS_fr, newS_ob, refOf, kill_fr, kill_ob, init_fr, init_ob, mask_none, mask_some, upd_apply, killSV, killOb, *] <;> first | with_reducible exact rfl | with_reducible exact ⟨rfl, rfl⟩ | with_reducible exact ⟨by omega, rfl⟩))
    | ((with_reducible apply c_sidx); (· simp [valOp, idxOf, so_t, so_k, so, setS_fr, setS_ob, newS_fr, newS_ob, refOf, kill_fr, kill_ob, init_fr, init_ob, mask_none, mask_some, upd_apply, killSV, killOb, *] <;> first | with_reducible exact rfl | with_reducible exact ⟨rfl, rfl⟩ | with_reducible exact ⟨by omega, rfl⟩))
    | ((with_reducible apply c_aidx); (· simp [valOp, idxOf, partC, so_t, so_k, so, setS_fr, setS_ob, newS_fr, newS_ob, refOf, kill_fr, kill_ob, init_fr, init_ob, mask_none, mask_some, upd_apply, killSV, killOb, *] <;> first | with_reducible exact rfl | with_reducible exact ⟨rfl, rfl⟩ | with_reducible exact ⟨by omega, rfl⟩))
    | ((with_reducible apply c_load); (· simp [valOp, loadV, partC, allM, closed, CV.cells, so_t, so_k, so, setS_fr, setS_ob, newS_fr, newS_ob, refOf, kill_fr, kill_ob, init_fr, init_ob, mask_none, mask_some, upd_apply, killSV, killOb, *] <;> first | with_reducible exact rfl | with_reducible exact ⟨rfl, rfl⟩ | with_reducible exact ⟨by omega, rfl⟩))
    | ((with_reducible apply c_len); (· simp [valOp, lenV, so_t, so_k, so, setS_fr, setS_ob, newS_fr, newS_ob, refOf, kill_fr, kill_ob, init_fr, init_ob, mask_none, mask_some, upd_apply, killSV, killOb, *] <;> first | with_reducible exact rfl | with_reducible exact ⟨rfl, rfl⟩ | with_reducible exact ⟨by omega, rfl⟩))
    | ((with_reducible apply c_sslice); (· simp [valOp, bound, so_t, so_k, so, setS_fr, setS_ob, newS_fr, newS_ob, refOf, kill_fr, kill_ob, init_fr, init_ob, mask_none, mask_some, upd_apply, killSV, killOb, *] <;> first | with_reducible exact rfl | with_reducible exact ⟨rfl, rfl⟩ | with_reducible exact ⟨by omega, rfl⟩))
    | ((with_reducible apply c_slice); (· simp [valOp, bound, cellsN, so_t, so_k, so, setS_fr, setS_ob, newS_fr, newS_ob, refOf, kill_fr, kill_ob, init_fr, init_ob, mask_none, mask_some, upd_apply, killSV, killOb, *] <;> first | with_reducible exact rfl | with_reducible exact ⟨rfl, rfl⟩ | with_reducible exact ⟨by omega, rfl⟩))
    | ((with_reducible apply c_lookup); (· simp [valOp, lookV, conf, conf1, so_t, so_k, so, setS_fr, setS_ob, newS_fr, newS_ob, refOf, kill_fr, kill_ob, init_fr, init_ob, mask_none, mask_some, upd_apply, killSV, killOb, *] <;> first | with_reducible exact rfl | with_reducible exact ⟨rfl, rfl⟩ | with_reducible exact ⟨by omega, rfl⟩))
    | ((with_reducible apply c_call); (· simp [allM, close, so_t, so_k, so, setS_fr, setS_ob, newS_fr, newS_ob, refOf, kill_fr, kill_ob, init_fr, init_ob, mask_none, mask_some, upd_apply, killSV, killOb, *] <;> first | with_reducible exact rfl | with_reducible exact ⟨rfl, rfl⟩ | with_reducible exact ⟨by omega, rfl⟩); (· simp [so_t, so_k, so, setS_fr, setS_ob, newS_fr, newS_ob, refOf, kill_fr, kill_ob, init_fr, init_ob, mask_none, mask_some, upd_apply, killSV, killOb, *] <;> first | with_reducible exact rfl | with_reducible exact ⟨rfl, rfl⟩ | with_reducible exact ⟨by omega, rfl⟩); (· simp [isC, memless, memlessL, so_t, so_k, so, setS_fr, setS_ob, newS_fr, newS_ob, refOf, kill_fr, kill_ob, init_fr, init_ob, mask_none, mask_some, upd_apply, killSV, killOb, *]; done))
    | ((with_reducible apply c_callN); (· simp [allM, close, so_t, so_k, so, setS_fr, setS_ob, newS_fr, newS_ob, refOf, kill_fr, kill_ob, init_fr, init_ob, mask_none, mask_some, upd_apply, killSV, killOb, *] <;> first | with_reducible exact rfl | with_reducible exact ⟨rfl, rfl⟩ | with_reducible exact ⟨by omega, rfl⟩); (· simp [so_t, so_k, so, setS_fr, setS_ob, newS_fr, newS_ob, refOf, kill_fr, kill_ob, init_fr, init_ob, mask_none, mask_some, upd_apply, killSV, killOb, *] <;> first | with_reducible exact rfl | with_reducible exact ⟨rfl, rfl⟩ | with_reducible exact ⟨by omega, rfl⟩); (· simp [isC, Res.memless, memless, memlessL, so_t, so_k, so, setS_fr, setS_ob, newS_fr, newS_ob, refOf, kill_fr, kill_ob, init_fr, init_ob, mask_none, mask_some, upd_apply, killSV, killOb, *]; done); (· simp [so_t, so_k, so, setS_fr, setS_ob, newS_fr, newS_ob, refOf, kill_fr, kill_ob, init_fr, init_ob, mask_none, mask_some, upd_apply, killSV, killOb, *]; done))
    | ((with_reducible apply c_new); (· rfl); (· simp [newOp, allM, closed, cellsN, so_t, so_k, so, setS_fr, setS_ob, newS_fr, newS_ob, refOf, kill_fr, kill_ob, init_fr, init_ob, mask_none, mask_some, upd_apply, killSV, killOb, *] <;> first | with_reducible exact rfl | with_reducible exact ⟨rfl, rfl⟩ | with_reducible exact ⟨by omega, rfl⟩); (· simp [so_t, so_k, so, setS_fr, setS_ob, newS_fr, newS_ob, refOf, kill_fr, kill_ob, init_fr, init_ob, mask_none, mask_some, upd_apply, killSV, killOb, *]; done))
    | ((with_reducible apply c_eff); (· rfl); (· simp [effOp, setCells, oneS, oneC, St.set, newsOf, putC, cellsN, CV.cells, so_t, so_k, so, setS_fr, setS_ob, newS_fr, newS_ob, refOf, kill_fr, kill_ob, init_fr, init_ob, mask_none, mask_some, upd_apply, killSV, killOb, *] <;> first | with_reducible exact rfl | with_reducible exact ⟨rfl, rfl⟩ | with_reducible exact ⟨by omega, rfl⟩))
    | ((with_reducible apply c_guard); (· simp [so_t, so_k, so, setS_fr, setS_ob, newS_fr, newS_ob, refOf, kill_fr, kill_ob, init_fr, init_ob, mask_none, mask_some, upd_apply, killSV, killOb, *] <;> first | with_reducible exact rfl | with_reducible exact ⟨rfl, rfl⟩ | with_reducible exact ⟨by omega, rfl⟩))
    | ((with_reducible apply p_if); (· simp [so_t, so_k, so, setS_fr, setS_ob, newS_fr, newS_ob, refOf, kill_fr, kill_ob, init_fr, init_ob, mask_none, mask_some, upd_apply, killSV, killOb, *] <;> first | with_reducible exact rfl | with_reducible exact ⟨rfl, rfl⟩ | with_reducible exact ⟨by omega, rfl⟩))
    | ((with_reducible apply g_split); all_goals (intro hb; try simp only [decide_eq_true_eq, decide_eq_false_iff_not, Bool.not_eq_true] at hb))
    | ((with_reducible apply k_split); all_goals (intro hb; try simp only [decide_eq_true_eq, decide_eq_false_iff_not, Bool.not_eq_true] at hb)))
  all_goals (refine fin_ret ?_; simp [resOf, allM, oneRes, packRes, close, setS_fr, init_fr, isDay, *])


theorem w23 (h25 : ∀ d, E.fn 25 [.int .i64 d] = some (.val (.bool (isDay d)))) (d : Int) : pwp E m23.code (fin m23.res (.int .i64 (weekday d))) (init [.int .i64 d]) := by
  unfold m23
  dsimp only
  by_cases hd : isDay d = true
  · have hw : IntKind.i64.wrap (d + 25567) = d + 25567 := by
      simp only [isDay, Bool.and_eq_true, decide_eq_true_eq] at hd
      exact w64 _ (by omega)
    have ht : (d + 25567).tmod 7 = (d + 25567) % 7 := by
      simp only [isDay, Bool.and_eq_true, decide_eq_true_eq] at hd
      exact Int.tmod_eq_emod_of_nonneg (by omega)
    repeat' (first
      | with_reducible apply p_seq
      | with_reducible apply then_normal
      | with_reducible apply then_exit
      | with_reducible apply then_ret
      | with_reducible apply block_normal
      | with_reducible apply block_exit
      | with_reducible apply block_ret
      | with_reducible apply turn_exit
      | with_reducible apply turn_ret
      | with_reducible apply p_skip
      | with_reducible apply p_exit
      | with_reducible apply p_ret
      | with_reducible apply p_block
      | with_reducible apply p_reg0
      | with_reducible apply p_reg1
      | with_reducible apply c_nil
      | with_reducible apply g_tt
      | with_reducible apply g_ff
      | with_reducible apply g_tf
      | with_reducible apply g_ft
      | with_reducible apply g_sk
      | with_reducible apply k_t
      | with_reducible apply k_f
      | ((with_reducible apply block_past); (· decide))
      | ((with_reducible apply c_mov); (· simp [valOp, so_t, so_k, so, setS_fr, setS_ob, newS_fr, newS_ob, refOf, kill_fr, kill_ob, init_fr, init_ob, mask_none, mask_some, upd_apply, killSV, killOb, *] <;> first | with_reducible exact rfl | with_reducible exact ⟨rfl, rfl⟩ | with_reducible exact ⟨by omega, rfl⟩))
      | ((with_reducible apply c_pick); (· simp [valOp, so_t, so_k, so, setS_fr, setS_ob, newS_fr, newS_ob, refOf, kill_fr, kill_ob, init_fr, init_ob, mask_none, mask_some, upd_apply, killSV, killOb, *] <;> first | with_reducible exact rfl | with_reducible exact ⟨rfl, rfl⟩ | with_reducible exact ⟨by omega, rfl⟩))
      | ((with_reducible apply c_bin); (· simp [valOp, binC, binI, cmpB, binS, so_t, so_k, so, setS_fr, setS_ob, newS_fr, newS_ob, refOf, kill_fr, kill_ob, init_fr, init_ob, mask_none, mask_some, upd_apply, killSV, killOb, *] <;> first | with_reducible exact rfl | with_reducible exact ⟨rfl, rfl⟩ | with_reducible exact ⟨by omega, rfl⟩))
      | ((with_reducible apply c_eqs); (· simp [valOp, eqA, eqL, eq1, so_t, so_k, so, setS_fr, setS_ob, newS_fr, newS_ob, refOf, kill_fr, kill_ob, init_fr, init_ob, mask_none, mask_some, upd_apply, killSV, killOb, *] <;> first | with_reducible exact rfl | with_reducible exact ⟨rfl, rfl⟩ | with_reducible exact ⟨by omega, rfl⟩))
      | ((with_reducible apply c_beq); (· simp [valOp, so_t, so_k, so, setS_fr, setS_ob, newS_fr, newS_ob, refOf, kill_fr, kill_ob, init_fr, init_ob, mask_none, mask_some, upd_apply, killSV, killOb, *] <;> first | with_reducible exact rfl | with_reducible exact ⟨rfl, rfl⟩ | with_reducible exact ⟨by omega, rfl⟩))
      | ((with_reducible apply c_isnil); (· simp [valOp, so_t, so_k, so, setS_fr, setS_ob, newS_fr, newS_ob, refOf, kill_fr, kill_ob, init_fr, init_ob, mask_none, mask_some, upd_apply, killSV, killOb, *] <;> first | with_reducible exact rfl | with_reducible exact ⟨rfl, rfl⟩ | with_reducible exact ⟨by omega, rfl⟩))
      | ((with_reducible apply c_un); (· simp [valOp, unC, so_t, so_k, so, setS_fr, setS_ob, newS_fr, newS_ob, refOf, kill_fr, kill_ob, init_fr, init_ob, mask_none, mask_some, upd_apply, killSV, killOb, *] <;> first | with_reducible exact rfl | with_reducible exact ⟨rfl, rfl⟩ | with_reducible exact ⟨by omega, rfl⟩))
      | ((with_reducible apply c_cvi); (· simp [valOp, so_t, so_k, so, setS_fr, setS_ob, newS_fr, newS_ob, refOf, kill_fr, kill_ob, init_fr, init_ob, mask_none, mask_some, upd_apply, killSV, killOb, *] <;> first | with_reducible exact rfl | with_reducible exact ⟨rfl, rfl⟩ | with_reducible exact ⟨by omega, rfl⟩))
      | ((with_reducible apply c_cvrune); (· simp [valOp, so_t, so_k, so, setS_fr, setS_ob, newS_fr, newS_ob, refOf, kill_fr, kill_ob, init_fr, init_ob, mask_none, mask_some, upd_apply, killSV, killOb, *] <;> first | with_reducible exact rfl | with_reducible exact ⟨rfl, rfl⟩ | with_reducible exact ⟨by omega, rfl⟩))
      | ((with_reducible apply c_cvid); (· simp [valOp, so_t, so_k, so, setS_fr, setS_ob, newS_fr, newS_ob, refOf, kill_fr, kill_ob, init_fr, init_ob, mask_none, mask_some, upd_apply, killSV, killOb, *] <;> first | with_reducible exact rfl | with_reducible exact ⟨rfl, rfl⟩ | with_reducible exact ⟨by omega, rfl⟩))
      | ((with_reducible apply c_build); (· simp [valOp, allM, closed, fillC, cellsN, CV.cells, so_t, so_k, so, setS_fr, setS_ob, newS_fr, newS_ob, refOf, kill_fr, kill_ob, init_fr, init_ob, mask_none, mask_some, upd_apply, killSV, killOb, *] <;> first | with_reducible exact rfl | with_reducible exact ⟨rfl, rfl⟩ | with_reducible exact ⟨by omega, rfl⟩))
      | ((with_reducible apply c_field); (· simp [valOp, partC, so_t, so_k, so, setS_fr, setS_ob, newS_fr, newS_ob, refOf, kill_fr, kill_ob, init_fr, init_ob, mask_none, mask_some, upd_apply, killSV, killOb, *] <;> first | with_reducible exact rfl | with_reducible exact ⟨rfl, rfl⟩ | with_reducible exact ⟨by omega, rfl⟩))
      | ((with_reducible apply c_ext); (· simp [valOp, so_t, so_k, so, setS_fr, setS_ob, newS_fr, newS_ob, refOf, kill_fr, kill_ob, init_fr, init_ob, mask_none, mask_some, upd_apply, killSV, killOb, *] <;> first | with_reducible exact rfl | with_reducible exact ⟨rfl, rfl⟩ | with_reducible exact ⟨by omega, rfl⟩))
      | ((with_reducible apply c_minmax); (· simp [valOp, allM, closed, minmaxC, so_t, so_k, so, setS_fr, setS_ob, newS_fr, newS_ob, refOf, kill_fr, kill_ob, init_fr, init_ob, mask_none, mask_some, upd_apply, killSV, killOb, *] <;> first | with_reducible exact rfl | with_reducible exact ⟨rfl, rfl⟩ | with_reducible exact ⟨by omega, rfl⟩))
      | ((with_reducible apply c_fnv); (· simp [valOp, allM, closed, so_t, so_k, so, setS_fr, setS_ob, newS_fr, newS_ob, refOf, kill_fr, kill_ob, init_fr, init_ob, mask_none, mask_some, upd_apply, killSV, killOb, *] <;> first | with_reducible exact rfl | with_reducible exact ⟨rfl, rfl⟩ | with_reducible exact ⟨by omega, rfl⟩))
      | ((with_reducible apply c_faddr); (· simp [valOp, so_t, so_k, so, setS_fr, setS_ob, newS_fr, newS_ob, refOf, kill_fr, kill_ob, init_fr, init_ob, mask_none, mask_some, upd_apply, killSV, killOb, *] <;> first | with_reducible exact rfl | with_reducible exact ⟨rfl, rfl⟩ | with_reducible exact ⟨by omega, rfl⟩))
      | ((with_reducible apply c_iaddr); (· simp [valOp, iaddrV, idxOf, cellsN, CV.cells, so_t, so_k, so, setS_fr, setS_ob, newS_fr, newS_ob, refOf, kill_fr, kill_ob, init_fr, init_ob, mask_none, mask_some, upd_apply, killSV, killOb, *] <;> first | with_reducible exact rfl | with_reducible exact ⟨rfl, rfl⟩ | with_reducible exact ⟨by omega, rfl⟩))
      | ((with_reducible apply c_aaddr); (· simp [valOp, aaddrV, idxOf, so_t, so_k, so, setS_fr, setS_ob, newS_fr, newS_ob, refOf, kill_fr, kill_ob, init_fr, init_ob, mask_none, mask_some, upd_apply, killSV, killOb, *] <;> first | with_reducible exact rfl | with_reducible exact ⟨rfl, rfl⟩ | with_reducible exact ⟨by omega, rfl⟩))
      | ((with_reducible apply c_sidx); (· simp [valOp, idxOf, so_t, so_k, so, setS_fr, setS_ob, newS_fr, newS_ob, refOf, kill_fr, kill_ob, init_fr, init_ob, mask_none, mask_some, upd_apply, killSV, killOb, *] <;> first | with_reducible exact rfl | with_reducible exact ⟨rfl, rfl⟩ | with_reducible exact ⟨by omega, rfl⟩))
      | ((with_reducible apply c_aidx); (· simp [valOp, idxOf, partC, so_t, so_k, so, setS_fr, setS_ob, newS_fr, newS_ob, refOf, kill_fr, kill_ob, init_fr, init_ob, mask_none, mask_some, upd_apply, killSV, killOb, *] <;> first | with_reducible exact rfl | with_reducible exact ⟨rfl, rfl⟩ | with_reducible exact ⟨by omega, rfl⟩))
      | ((with_reducible apply c_load); (· simp [valOp, loadV, partC, allM, closed, CV.cells, so_t, so_k, so, setS_fr, setS_ob, newS_fr, newS_ob, refOf, kill_fr, kill_ob, init_fr, init_ob, mask_none, mask_some, upd_apply, killSV, killOb, *] <;> first | with_reducible exact rfl | with_reducible exact ⟨rfl, rfl⟩ | with_reducible exact ⟨by omega, rfl⟩))
      | ((with_reducible apply c_len); (· simp [valOp, lenV, so_t, so_k, so, setS_fr, setS_ob, newS_fr, newS_ob, refOf, kill_fr, kill_ob, init_fr, init_ob, mask_none, mask_some, upd_apply, killSV, killOb, *] <;> first | with_reducible exact rfl | with_reducible exact ⟨rfl, rfl⟩ | with_reducible exact ⟨by omega, rfl⟩))
      | ((with_reducible apply c_sslice); (· simp [valOp, bound, so_t, so_k, so, setS_fr, setS_ob, newS_fr, newS_ob, refOf, kill_fr, kill_ob, init_fr, init_ob, mask_none, mask_some, upd_apply, killSV, killOb, *] <;> first | with_reducible exact rfl | with_reducible exact ⟨rfl, rfl⟩ | with_reducible exact ⟨by omega, rfl⟩))
      | ((with_reducible apply c_slice); (· simp [valOp, bound, cellsN, so_t, so_k, so, setS_fr, setS_ob, newS_fr, newS_ob, refOf, kill_fr, kill_ob, init_fr, init_ob, mask_none, mask_some, upd_apply, killSV, killOb, *] <;> first | with_reducible exact rfl | with_reducible exact ⟨rfl, rfl⟩ | with_reducible exact ⟨by omega, rfl⟩))
      | ((with_reducible apply c_lookup); (· simp [valOp, lookV, conf, conf1, so_t, so_k, so, setS_fr, setS_ob, newS_fr, newS_ob, refOf, kill_fr, kill_ob, init_fr, init_ob, mask_none, mask_some, upd_apply, killSV, killOb, *] <;> first | with_reducible exact rfl | with_reducible exact ⟨rfl, rfl⟩ | with_reducible exact ⟨by omega, rfl⟩))
      | ((with_reducible apply c_call); (· simp [allM, close, so_t, so_k, so, setS_fr, setS_ob, newS_fr, newS_ob, refOf, kill_fr, kill_ob, init_fr, init_ob, mask_none, mask_some, upd_apply, killSV, killOb, *] <;> first | with_reducible exact rfl | with_reducible exact ⟨rfl, rfl⟩ | with_reducible exact ⟨by omega, rfl⟩); (· simp [so_t, so_k, so, setS_fr, setS_ob, newS_fr, newS_ob, refOf, kill_fr, kill_ob, init_fr, init_ob, mask_none, mask_some, upd_apply, killSV, killOb, *] <;> first | with_reducible exact rfl | with_reducible exact ⟨rfl, rfl⟩ | with_reducible exact ⟨by omega, rfl⟩); (· simp [isC, memless, memlessL, so_t, so_k, so, setS_fr, setS_ob, newS_fr, newS_ob, refOf, kill_fr, kill_ob, init_fr, init_ob, mask_none, mask_some, upd_apply, killSV, killOb, *]; done))
      | ((with_reducible apply c_callN); (· simp [allM, close, so_t, so_k, so, setS_fr, setS_ob, newS_fr, newS_ob, refOf, kill_fr, kill_ob, init_fr, init_ob, mask_none, mask_some, upd_apply, killSV, killOb, *] <;> first | with_reducible exact rfl | with_reducible exact ⟨rfl, rfl⟩ | with_reducible exact ⟨by omega, rfl⟩); (· simp [so_t, so_k, so, setS_fr, setS_ob, newS_fr, newS_ob, refOf, kill_fr, kill_ob, init_fr, init_ob, mask_none, mask_some, upd_apply, killSV, killOb, *] <;> first | with_reducible exact rfl | with_reducible exact ⟨rfl, rfl⟩ | with_reducible exact ⟨by omega, rfl⟩); (· simp [isC, Res.memless, memless, memlessL, so_t, so_k, so, setS_fr, setS_ob, newS_fr, newS_ob, refOf, kill_fr, kill_ob, init_fr, init_ob, mask_none, mask_some, upd_apply, killSV, killOb, *]; done); (· simp [so_t, so_k, so, setS_fr, setS_ob, newS_fr, newS_ob, refOf, kill_fr, kill_ob, init_fr, init_ob, mask_none, mask_some, upd_apply, killSV, killOb, *]; done))
      | ((with_reducible apply c_new); (· rfl); (· simp [newOp, allM, closed, cellsN, so_t, so_k, so, setS_fr, setS_ob, newS_fr, newS_ob, refOf, kill_fr, kill_ob, init_fr, init_ob, mask_none, mask_some, upd_apply, killSV, killOb, *] <;> first | with_reducible exact rfl | with_reducible exact ⟨rfl, rfl⟩ | with_reducible exact ⟨by omega, rfl⟩); (· simp [so_t, so_k, so, setS_fr, setS_ob, newS_fr, newS_ob, refOf, kill_fr, kill_ob, init_fr, init_ob, mask_none, mask_some, upd_apply, killSV, killOb, *]; done))
      | ((with_reducible apply c_eff); (· rfl); (· simp [effOp, setCells, oneS, oneC, St.set, newsOf, putC, cellsN, CV.cells, so_t, so_k, so, setS_fr, setS_ob, newS_fr, newS_ob, refOf, kill_fr, kill_ob, init_fr, init_ob, mask_none, mask_some, upd_apply, killSV, killOb, *] <;> first | with_reducible exact rfl | with_reducible exact ⟨rfl, rfl⟩ | with_reducible exact ⟨by omega, rfl⟩))
      | ((with_reducible apply c_guard); (· simp [so_t, so_k, so, setS_fr, setS_ob, newS_fr, newS_ob, refOf, kill_fr, kill_ob, init_fr, init_ob, mask_none, mask_some, upd_apply, killSV, killOb, *] <;> first | with_reducible exact rfl | with_reducible exact ⟨rfl, rfl⟩ | with_reducible exact ⟨by omega, rfl⟩))
      | ((with_reducible apply p_if); (· simp [so_t, so_k, so, setS_fr, setS_ob, newS_fr, newS_ob, refOf, kill_fr, kill_ob, init_fr, init_ob, mask_none, mask_some, upd_apply, killSV, killOb, *] <;> first | with_reducible exact rfl | with_reducible exact ⟨rfl, rfl⟩ | with_reducible exact ⟨by omega, rfl⟩))
      | ((with_reducible apply g_split); all_goals (intro hb; try simp only [decide_eq_true_eq, decide_eq_false_iff_not, Bool.not_eq_true] at hb))
      | ((with_reducible apply k_split); all_goals (intro hb; try simp only [decide_eq_true_eq, decide_eq_false_iff_not, Bool.not_eq_true] at hb)))
    all_goals (refine fin_ret ?_; simp [resOf, allM, oneRes, packRes, close, setS_fr, init_fr, weekday, *])
  · repeat' (first
      | with_reducible apply p_seq
      | with_reducible apply then_normal
      | with_reducible apply then_exit
      | with_reducible apply then_ret
      | with_reducible apply block_normal
      | with_reducible apply block_exit
      | with_reducible apply block_ret
      | with_reducible apply turn_exit
      | with_reducible apply turn_ret
      | with_reducible apply p_skip
      | with_reducible apply p_exit
      | with_reducible apply p_ret
      | with_reducible apply p_block
      | with_reducible apply p_reg0
      | with_reducible apply p_reg1
      | with_reducible apply c_nil
      | with_reducible apply g_tt
      | with_reducible apply g_ff
      | with_reducible apply g_tf
      | with_reducible apply g_ft
      | with_reducible apply g_sk
      | with_reducible apply k_t
      | with_reducible apply k_f
      | ((with_reducible apply block_past); (· decide))
      | ((with_reducible apply c_mov); (· simp [valOp, so_t, so_k, so, setS_fr, setS_ob, newS_fr, newS_ob, refOf, kill_fr, kill_ob, init_fr, init_ob, mask_none, mask_some, upd_apply, killSV, killOb, *] <;> first | with_reducible exact rfl | with_reducible exact ⟨rfl, rfl⟩ | with_reducible exact ⟨by omega, rfl⟩))
      | ((with_reducible apply c_pick); (· simp [valOp, so_t, so_k, so, setS_fr, setS_ob, newS_fr, newS_ob, refOf, kill_fr, kill_ob, init_fr, init_ob, mask_none, mask_some, upd_apply, killSV, killOb, *] <;> first | with_reducible exact rfl | with_reducible exact ⟨rfl, rfl⟩ | with_reducible exact ⟨by omega, rfl⟩))
      | ((with_reducible apply c_bin); (· simp [valOp, binC, binI, cmpB, binS, so_t, so_k, so, setS_fr, setS_ob, newS_fr, newS_ob, refOf, kill_fr, kill_ob, init_fr, init_ob, mask_none, mask_some, upd_apply, killSV, killOb, *] <;> first | with_reducible exact rfl | with_reducible exact ⟨rfl, rfl⟩ | with_reducible exact ⟨by omega, rfl⟩))
      | ((with_reducible apply c_eqs); (· simp [valOp, eqA, eqL, eq1, so_t, so_k, so, setS_fr, setS_ob, newS_fr, newS_ob, refOf, kill_fr, kill_ob, init_fr, init_ob, mask_none, mask_some, upd_apply, killSV, killOb, *] <;> first | with_reducible exact rfl | with_reducible exact ⟨rfl, rfl⟩ | with_reducible exact ⟨by omega, rfl⟩))
      | ((with_reducible apply c_beq); (· simp [valOp, so_t, so_k, so, setS_fr, setS_ob, newS_fr, newS_ob, refOf, kill_fr, kill_ob, init_fr, init_ob, mask_none, mask_some, upd_apply, killSV, killOb, *] <;> first | with_reducible exact rfl | with_reducible exact ⟨rfl, rfl⟩ | with_reducible exact ⟨by omega, rfl⟩))
      | ((with_reducible apply c_isnil); (· simp [valOp, so_t, so_k, so, setS_fr, setS_ob, newS_fr, newS_ob, refOf, kill_fr, kill_ob, init_fr, init_ob, mask_none, mask_some, upd_apply, killSV, killOb, *] <;> first | with_reducible exact rfl | with_reducible exact ⟨rfl, rfl⟩ | with_reducible exact ⟨by omega, rfl⟩))
      | ((with_reducible apply c_un); (· simp [valOp, unC, so_t, so_k, so, setS_fr, setS_ob, newS_fr, newS_ob, refOf, kill_fr, kill_ob, init_fr, init_ob, mask_none, mask_some, upd_apply, killSV, killOb, *] <;> first | with_reducible exact rfl | with_reducible exact ⟨rfl, rfl⟩ | with_reducible exact ⟨by omega, rfl⟩))
      | ((with_reducible apply c_cvi); (· simp [valOp, so_t, so_k, so, setS_fr, setS_ob, newS_fr, newS_ob, refOf, kill_fr, kill_ob, init_fr, init_ob, mask_none, mask_some, upd_apply, killSV, killOb, *] <;> first | with_reducible exact rfl | with_reducible exact ⟨rfl, rfl⟩ | with_reducible exact ⟨by omega, rfl⟩))
      | ((with_reducible apply c_cvrune); (· simp [valOp, so_t, so_k, so, setS_fr, setS_ob, newS_fr, newS_ob, refOf, kill_fr, kill_ob, init_fr, init_ob, mask_none, mask_some, upd_apply, killSV, killOb, *] <;> first | with_reducible exact rfl | with_reducible exact ⟨rfl, rfl⟩ | with_reducible exact ⟨by omega, rfl⟩))
      | ((with_reducible apply c_cvid); (· simp [valOp, so_t, so_k, so, setS_fr, setS_ob, newS_fr, newS_ob, refOf, kill_fr, kill_ob, init_fr, init_ob, mask_none, mask_some, upd_apply, killSV, killOb, *] <;> first | with_reducible exact rfl | with_reducible exact ⟨rfl, rfl⟩ | with_reducible exact ⟨by omega, rfl⟩))
      | ((with_reducible apply c_build); (· simp [valOp, allM, closed, fillC, cellsN, CV.cells, so_t, so_k, so, setS_fr, setS_ob, newS_fr, newS_ob, refOf, kill_fr, kill_ob, init_fr, init_ob, mask_none, mask_some, upd_apply, killSV, killOb, *] <;> first | with_reducible exact rfl | with_reducible exact ⟨rfl, rfl⟩ | with_reducible exact ⟨by omega, rfl⟩))
      | ((with_reducible apply c_field); (· simp [valOp, partC, so_t, so_k, so, setS_fr, setS_ob, newS_fr, newS_ob, refOf, kill_fr, kill_ob, init_fr, init_ob, mask_none, mask_some, upd_apply, killSV, killOb, *] <;> first | with_reducible exact rfl | with_reducible exact ⟨rfl, rfl⟩ | with_reducible exact ⟨by omega, rfl⟩))
      | ((with_reducible apply c_ext); (· simp [valOp, so_t, so_k, so, setS_fr, setS_ob, newS_fr, newS_ob, refOf, kill_fr, kill_ob, init_fr, init_ob, mask_none, mask_some, upd_apply, killSV, killOb, *] <;> first | with_reducible exact rfl | with_reducible exact ⟨rfl, rfl⟩ | with_reducible exact ⟨by omega, rfl⟩))
      | ((with_reducible apply c_minmax); (· simp [valOp, allM, closed, minmaxC, so_t, so_k, so, setS_fr, setS_ob, newS_fr, newS_ob, refOf, kill_fr, kill_ob, init_fr, init_ob, mask_none, mask_some, upd_apply, killSV, killOb, *] <;> first | with_reducible exact rfl | with_reducible exact ⟨rfl, rfl⟩ | with_reducible exact ⟨by omega, rfl⟩))
      | ((with_reducible apply c_fnv); (· simp [valOp, allM, closed, so_t, so_k, so, setS_fr, setS_ob, newS_fr, newS_ob, refOf, kill_fr, kill_ob, init_fr, init_ob, mask_none, mask_some, upd_apply, killSV, killOb, *] <;> first | with_reducible exact rfl | with_reducible exact ⟨rfl, rfl⟩ | with_reducible exact ⟨by omega, rfl⟩))
      | ((with_reducible apply c_faddr); (· simp [valOp, so_t, so_k, so, setS_fr, setS_ob, newS_fr, newS_ob, refOf, kill_fr, kill_ob, init_fr, init_ob, mask_none, mask_some, upd_apply, killSV, killOb, *] <;> first | with_reducible exact rfl | with_reducible exact ⟨rfl, rfl⟩ | with_reducible exact ⟨by omega, rfl⟩))
      | ((with_reducible apply c_iaddr); (· simp [valOp, iaddrV, idxOf, cellsN, CV.cells, so_t, so_k, so, setS_fr, setS_ob, newS_fr, newS_ob, refOf, kill_fr, kill_ob, init_fr, init_ob, mask_none, mask_some, upd_apply, killSV, killOb, *] <;> first | with_reducible exact rfl | with_reducible exact ⟨rfl, rfl⟩ | with_reducible exact ⟨by omega, rfl⟩))
      | ((with_reducible apply c_aaddr); (· simp [valOp, aaddrV, idxOf, so_t, so_k, so, setS_fr, setS_ob, newS_fr, newS_ob, refOf, kill_fr, kill_ob, init_fr, init_ob, mask_none, mask_some, upd_apply, killSV, killOb, *] <;> first | with_reducible exact rfl | with_reducible exact ⟨rfl, rfl⟩ | with_reducible exact ⟨by omega, rfl⟩))
      | ((with_reducible apply c_sidx); (· simp [valOp, idxOf, so_t, so_k, so, setS_fr, setS_ob, newS_fr, newS_ob, refOf, kill_fr, kill_ob, init_fr, init_ob, mask_none, mask_some, upd_apply, killSV, killOb, *] <;> first | with_reducible exact rfl | with_reducible exact ⟨rfl, rfl⟩ | with_reducible exact ⟨by omega, rfl⟩))
      | ((with_reducible apply c_aidx); (· simp [valOp, idxOf, partC, so_t, so_k, so, setS_fr, setS_ob, newS_fr, newS_ob, refOf, kill_fr, kill_ob, init_fr, init_ob, mask_none, mask_some, upd_apply, killSV, killOb, *] <;> first | with_reducible exact rfl | with_reducible exact ⟨rfl, rfl⟩ | with_reducible exact ⟨by omega, rfl⟩))
      | ((with_reducible apply c_load); (· simp [valOp, loadV, partC, allM, closed, CV.cells, so_t, so_k, so, setS_fr, setS_ob, newS_fr, newS_ob, refOf, kill_fr, kill_ob, init_fr, init_ob, mask_none, mask_some, upd_apply, killSV, killOb, *] <;> first | with_reducible exact rfl | with_reducible exact ⟨rfl, rfl⟩ | with_reducible exact ⟨by omega, rfl⟩))
      | ((with_reducible apply c_len); (· simp [valOp, lenV, so_t, so_k, so, setS_fr, setS_ob, newS_fr, newS_ob, refOf, kill_fr, kill_ob, init_fr, init_ob, mask_none, mask_some, upd_apply, killSV, killOb, *] <;> first | with_reducible exact rfl | with_reducible exact ⟨rfl, rfl⟩ | with_reducible exact ⟨by omega, rfl⟩))
      | ((with_reducible apply c_sslice); (· simp [valOp, bound, so_t, so_k, so, setS_fr, setS_ob, newS_fr, newS_ob, refOf, kill_fr, kill_ob, init_fr, init_ob, mask_none, mask_some, upd_apply, killSV, killOb, *] <;> first | with_reducible exact rfl | with_reducible exact ⟨rfl, rfl⟩ | with_reducible exact ⟨by omega, rfl⟩))
      | ((with_reducible apply c_slice); (· simp [valOp, bound, cellsN, so_t, so_k, so, setS_fr, setS_ob, newS_fr, newS_ob, refOf, kill_fr, kill_ob, init_fr, init_ob, mask_none, mask_some, upd_apply, killSV, killOb, *] <;> first | with_reducible exact rfl | with_reducible exact ⟨rfl, rfl⟩ | with_reducible exact ⟨by omega, rfl⟩))
      | ((with_reducible apply c_lookup); (· simp [valOp, lookV, conf, conf1, so_t, so_k, so, setS_fr, setS_ob, newS_fr, newS_ob, refOf, kill_fr, kill_ob, init_fr, init_ob, mask_none, mask_some, upd_apply, killSV, killOb, *] <;> first | with_reducible exact rfl | with_reducible exact ⟨rfl, rfl⟩ | with_reducible exact ⟨by omega, rfl⟩))
      | ((with_reducible apply c_call); (· simp [allM, close, so_t, so_k, so, setS_fr, setS_ob, newS_fr, newS_ob, refOf, kill_fr, kill_ob, init_fr, init_ob, mask_none, mask_some, upd_apply, killSV, killOb, *] <;> first | with_reducible exact rfl | with_reducible exact ⟨rfl, rfl⟩ | with_reducible exact ⟨by omega, rfl⟩); (· simp [so_t, so_k, so, setS_fr, setS_ob, newS_fr, newS_ob, refOf, kill_fr, kill_ob, init_fr, init_ob, mask_none, mask_some, upd_apply, killSV, killOb, *] <;> first | with_reducible exact rfl | with_reducible exact ⟨rfl, rfl⟩ | with_reducible exact ⟨by omega, rfl⟩); (· simp [isC, memless, memlessL, so_t, so_k, so, setS_fr, setS_ob, newS_fr, newS_ob, refOf, kill_fr, kill_ob, init_fr, init_ob, mask_none, mask_some, upd_apply, killSV, killOb, *]; done))
      | ((with_reducible apply c_callN); (· simp [allM, close, so_t, so_k, so, setS_fr, setS_ob, newS_fr, newS_ob, refOf, kill_fr, kill_ob, init_fr, init_ob, mask_none, mask_some, upd_apply, killSV, killOb, *] <;> first | with_reducible exact rfl | with_reducible exact ⟨rfl, rfl⟩ | with_reducible exact ⟨by omega, rfl⟩); (· simp [so_t, so_k, so, setS_fr, setS_ob, newS_fr, newS_ob, refOf, kill_fr, kill_ob, init_fr, init_ob, mask_none, mask_some, upd_apply, killSV, killOb, *] <;> first | with_reducible exact rfl | with_reducible exact ⟨rfl, rfl⟩ | with_reducible exact ⟨by omega, rfl⟩); (· simp [isC, Res.memless, memless, memlessL, so_t, so_k, so, setS_fr, setS_ob, newS_fr, newS_ob, refOf, kill_fr, kill_ob, init_fr, init_ob, mask_none, mask_some, upd_apply, killSV, killOb, *]; done); (· simp [so_t, so_k, so, setS_fr, setS_ob, newS_fr, newS_ob, refOf, kill_fr, kill_ob, init_fr, init_ob, mask_none, mask_some, upd_apply, killSV, killOb, *]; done))
      | ((with_reducible apply c_new); (· rfl); (· simp [newOp, allM, closed, cellsN, so_t, so_k, so, setS_fr, setS_ob, newS_fr, newS_ob, refOf, kill_fr, kill_ob, init_fr, init_ob, mask_none, mask_some, upd_apply, killSV, killOb, *] <;> first | with_reducible exact rfl | with_reducible exact ⟨rfl, rfl⟩ | with_reducible exact ⟨by omega, rfl⟩); (· simp [so_t, so_k, so, setS_fr, setS_ob, newS_fr, newS_ob, refOf, kill_fr, kill_ob, init_fr, init_ob, mask_none, mask_some, upd_apply, killSV, killOb, *]; done))
      | ((with_reducible apply c_eff); (· rfl); (· simp [effOp, setCells, oneS, oneC, St.set, newsOf, putC, cellsN, CV.cells, so_t, so_k, so, setS_fr, setS_ob, newS_fr, newS_ob, refOf, kill_fr, kill_ob, init_fr, init_ob, mask_none, mask_some, upd_apply, killSV, killOb, *] <;> first | with_reducible exact rfl | with_reducible exact ⟨rfl, rfl⟩ | with_reducible exact ⟨by omega, rfl⟩))
      | ((with_reducible apply c_guard); (· simp [so_t, so_k, so, setS_fr, setS_ob, newS_fr, newS_ob, refOf, kill_fr, kill_ob, init_fr, init_ob, mask_none, mask_some, upd_apply, killSV, killOb, *] <;> first | with_reducible exact rfl | with_reducible exact ⟨rfl, rfl⟩ | with_reducible exact ⟨by omega, rfl⟩))
      | ((with_reducible apply p_if); (· simp [so_t, so_k, so, setS_fr, setS_ob, newS_fr, newS_ob, refOf, kill_fr, kill_ob, init_fr, init_ob, mask_none, mask_some, upd_apply, killSV, killOb, *] <;> first | with_reducible exact rfl | with_reducible exact ⟨rfl, rfl⟩ | with_reducible exact ⟨by omega, rfl⟩))
      | ((with_reducible apply g_split); all_goals (intro hb; try simp only [decide_eq_true_eq, decide_eq_false_iff_not, Bool.not_eq_true] at hb))
      | ((with_reducible apply k_split); all_goals (intro hb; try simp only [decide_eq_true_eq, decide_eq_false_iff_not, Bool.not_eq_true] at hb)))
    all_goals (refine fin_ret ?_; simp [resOf, allM, oneRes, packRes, close, setS_fr, init_fr, weekday, *])


theorem w17 (h23 : ∀ d, E.fn 23 [.int .i64 d] = some (.val (.int .i64 (weekday d)))) (nl : Option Bool) (es : List Ent) (a b : Int) : pwp E m17.code (fin m17.res (.int .i64 (wrong es a b))) (init [.sl nl (es.map encE), .agg [.int .i64 a, .int .i64 b]]) := by
  unfold m17
  dsimp only
  by_cases hlen : 4096 < es.length
  · have hlen' : (4096 : Int) < es.length := by omega
    repeat' (first
      | with_reducible apply p_seq
      | with_reducible apply then_normal
      | with_reducible apply then_exit
      | with_reducible apply then_ret
      | with_reducible apply block_normal
      | with_reducible apply block_exit
      | with_reducible apply block_ret
      | with_reducible apply turn_exit
      | with_reducible apply turn_ret
      | with_reducible apply p_skip
      | with_reducible apply p_exit
      | with_reducible apply p_ret
      | with_reducible apply p_block
      | with_reducible apply p_reg0
      | with_reducible apply p_reg1
      | with_reducible apply c_nil
      | with_reducible apply g_tt
      | with_reducible apply g_ff
      | with_reducible apply g_tf
      | with_reducible apply g_ft
      | with_reducible apply g_sk
      | with_reducible apply k_t
      | with_reducible apply k_f
      | ((with_reducible apply block_past); (· decide))
      | ((with_reducible apply c_mov); (· simp [valOp, so_t, so_k, so, setS_fr, setS_ob, newS_fr, newS_ob, refOf, kill_fr, kill_ob, init_fr, init_ob, mask_none, mask_some, upd_apply, killSV, killOb, *] <;> first | with_reducible exact rfl | with_reducible exact ⟨rfl, rfl⟩ | with_reducible exact ⟨by omega, rfl⟩))
      | ((with_reducible apply c_pick); (· simp [valOp, so_t, so_k, so, setS_fr, setS_ob, newS_fr, newS_ob, refOf, kill_fr, kill_ob, init_fr, init_ob, mask_none, mask_some, upd_apply, killSV, killOb, *] <;> first | with_reducible exact rfl | with_reducible exact ⟨rfl, rfl⟩ | with_reducible exact ⟨by omega, rfl⟩))
      | ((with_reducible apply c_bin); (· simp [valOp, binC, binI, cmpB, binS, so_t, so_k, so, setS_fr, setS_ob, newS_fr, newS_ob, refOf, kill_fr, kill_ob, init_fr, init_ob, mask_none, mask_some, upd_apply, killSV, killOb, *] <;> first | with_reducible exact rfl | with_reducible exact ⟨rfl, rfl⟩ | with_reducible exact ⟨by omega, rfl⟩))
      | ((with_reducible apply c_eqs); (· simp [valOp, eqA, eqL, eq1, so_t, so_k, so, setS_fr, setS_ob, newS_fr, newS_ob, refOf, kill_fr, kill_ob, init_fr, init_ob, mask_none, mask_some, upd_apply, killSV, killOb, *] <;> first | with_reducible exact rfl | with_reducible exact ⟨rfl, rfl⟩ | with_reducible exact ⟨by omega, rfl⟩))
      | ((with_reducible apply c_beq); (· simp [valOp, so_t, so_k, so, setS_fr, setS_ob, newS_fr, newS_ob, refOf, kill_fr, kill_ob, init_fr, init_ob, mask_none, mask_some, upd_apply, killSV, killOb, *] <;> first | with_reducible exact rfl | with_reducible exact ⟨rfl, rfl⟩ | with_reducible exact ⟨by omega, rfl⟩))
      | ((with_reducible apply c_isnil); (· simp [valOp, so_t, so_k, so, setS_fr, setS_ob, newS_fr, newS_ob, refOf, kill_fr, kill_ob, init_fr, init_ob, mask_none, mask_some, upd_apply, killSV, killOb, *] <;> first | with_reducible exact rfl | with_reducible exact ⟨rfl, rfl⟩ | with_reducible exact ⟨by omega, rfl⟩))
      | ((with_reducible apply c_un); (· simp [valOp, unC, so_t, so_k, so, setS_fr, setS_ob, newS_fr, newS_ob, refOf, kill_fr, kill_ob, init_fr, init_ob, mask_none, mask_some, upd_apply, killSV, killOb, *] <;> first | with_reducible exact rfl | with_reducible exact ⟨rfl, rfl⟩ | with_reducible exact ⟨by omega, rfl⟩))
      | ((with_reducible apply c_cvi); (· simp [valOp, so_t, so_k, so, setS_fr, setS_ob, newS_fr, newS_ob, refOf, kill_fr, kill_ob, init_fr, init_ob, mask_none, mask_some, upd_apply, killSV, killOb, *] <;> first | with_reducible exact rfl | with_reducible exact ⟨rfl, rfl⟩ | with_reducible exact ⟨by omega, rfl⟩))
      | ((with_reducible apply c_cvrune); (· simp [valOp, so_t, so_k, so, setS_fr, setS_ob, newS_fr, newS_ob, refOf, kill_fr, kill_ob, init_fr, init_ob, mask_none, mask_some, upd_apply, killSV, killOb, *] <;> first | with_reducible exact rfl | with_reducible exact ⟨rfl, rfl⟩ | with_reducible exact ⟨by omega, rfl⟩))
      | ((with_reducible apply c_cvid); (· simp [valOp, so_t, so_k, so, setS_fr, setS_ob, newS_fr, newS_ob, refOf, kill_fr, kill_ob, init_fr, init_ob, mask_none, mask_some, upd_apply, killSV, killOb, *] <;> first | with_reducible exact rfl | with_reducible exact ⟨rfl, rfl⟩ | with_reducible exact ⟨by omega, rfl⟩))
      | ((with_reducible apply c_build); (· simp [valOp, allM, closed, fillC, cellsN, CV.cells, so_t, so_k, so, setS_fr, setS_ob, newS_fr, newS_ob, refOf, kill_fr, kill_ob, init_fr, init_ob, mask_none, mask_some, upd_apply, killSV, killOb, *] <;> first | with_reducible exact rfl | with_reducible exact ⟨rfl, rfl⟩ | with_reducible exact ⟨by omega, rfl⟩))
      | ((with_reducible apply c_field); (· simp [valOp, partC, so_t, so_k, so, setS_fr, setS_ob, newS_fr, newS_ob, refOf, kill_fr, kill_ob, init_fr, init_ob, mask_none, mask_some, upd_apply, killSV, killOb, *] <;> first | with_reducible exact rfl | with_reducible exact ⟨rfl, rfl⟩ | with_reducible exact ⟨by omega, rfl⟩))
      | ((with_reducible apply c_ext); (· simp [valOp, so_t, so_k, so, setS_fr, setS_ob, newS_fr, newS_ob, refOf, kill_fr, kill_ob, init_fr, init_ob, mask_none, mask_some, upd_apply, killSV, killOb, *] <;> first | with_reducible exact rfl | with_reducible exact ⟨rfl, rfl⟩ | with_reducible exact ⟨by omega, rfl⟩))
      | ((with_reducible apply c_minmax); (· simp [valOp, allM, closed, minmaxC, so_t, so_k, so, setS_fr, setS_ob, newS_fr, newS_ob, refOf, kill_fr, kill_ob, init_fr, init_ob, mask_none, mask_some, upd_apply, killSV, killOb, *] <;> first | with_reducible exact rfl | with_reducible exact ⟨rfl, rfl⟩ | with_reducible exact ⟨by omega, rfl⟩))
      | ((with_reducible apply c_fnv); (· simp [valOp, allM, closed, so_t, so_k, so, setS_fr, setS_ob, newS_fr, newS_ob, refOf, kill_fr, kill_ob, init_fr, init_ob, mask_none, mask_some, upd_apply, killSV, killOb, *] <;> first | with_reducible exact rfl | with_reducible exact ⟨rfl, rfl⟩ | with_reducible exact ⟨by omega, rfl⟩))
      | ((with_reducible apply c_faddr); (· simp [valOp, so_t, so_k, so, setS_fr, setS_ob, newS_fr, newS_ob, refOf, kill_fr, kill_ob, init_fr, init_ob, mask_none, mask_some, upd_apply, killSV, killOb, *] <;> first | with_reducible exact rfl | with_reducible exact ⟨rfl, rfl⟩ | with_reducible exact ⟨by omega, rfl⟩))
      | ((with_reducible apply c_iaddr); (· simp [valOp, iaddrV, idxOf, cellsN, CV.cells, so_t, so_k, so, setS_fr, setS_ob, newS_fr, newS_ob, refOf, kill_fr, kill_ob, init_fr, init_ob, mask_none, mask_some, upd_apply, killSV, killOb, *] <;> first | with_reducible exact rfl | with_reducible exact ⟨rfl, rfl⟩ | with_reducible exact ⟨by omega, rfl⟩))
      | ((with_reducible apply c_aaddr); (· simp [valOp, aaddrV, idxOf, so_t, so_k, so, setS_fr, setS_ob, newS_fr, newS_ob, refOf, kill_fr, kill_ob, init_fr, init_ob, mask_none, mask_some, upd_apply, killSV, killOb, *] <;> first | with_reducible exact rfl | with_reducible exact ⟨rfl, rfl⟩ | with_reducible exact ⟨by omega, rfl⟩))
      | ((with_reducible apply c_sidx); (· simp [valOp, idxOf, so_t, so_k, so, setS_fr, setS_ob, newS_fr, newS_ob, refOf, kill_fr, kill_ob, init_fr, init_ob, mask_none, mask_some, upd_apply, killSV, killOb, *] <;> first | with_reducible exact rfl | with_reducible exact ⟨rfl, rfl⟩ | with_reducible exact ⟨by omega, rfl⟩))
      | ((with_reducible apply c_aidx); (· simp [valOp, idxOf, partC, so_t, so_k, so, setS_fr, setS_ob, newS_fr, newS_ob, refOf, kill_fr, kill_ob, init_fr, init_ob, mask_none, mask_some, upd_apply, killSV, killOb, *] <;> first | with_reducible exact rfl | with_reducible exact ⟨rfl, rfl⟩ | with_reducible exact ⟨by omega, rfl⟩))
      | ((with_reducible apply c_load); (· simp [valOp, loadV, partC, allM, closed, CV.cells, so_t, so_k, so, setS_fr, setS_ob, newS_fr, newS_ob, refOf, kill_fr, kill_ob, init_fr, init_ob, mask_none, mask_some, upd_apply, killSV, killOb, *] <;> first | with_reducible exact rfl | with_reducible exact ⟨rfl, rfl⟩ | with_reducible exact ⟨by omega, rfl⟩))
      | ((with_reducible apply c_len); (· simp [valOp, lenV, so_t, so_k, so, setS_fr, setS_ob, newS_fr, newS_ob, refOf, kill_fr, kill_ob, init_fr, init_ob, mask_none, mask_some, upd_apply, killSV, killOb, *] <;> first | with_reducible exact rfl | with_reducible exact ⟨rfl, rfl⟩ | with_reducible exact ⟨by omega, rfl⟩))
      | ((with_reducible apply c_sslice); (· simp [valOp, bound, so_t, so_k, so, setS_fr, setS_ob, newS_fr, newS_ob, refOf, kill_fr, kill_ob, init_fr, init_ob, mask_none, mask_some, upd_apply, killSV, killOb, *] <;> first | with_reducible exact rfl | with_reducible exact ⟨rfl, rfl⟩ | with_reducible exact ⟨by omega, rfl⟩))
      | ((with_reducible apply c_slice); (· simp [valOp, bound, cellsN, so_t, so_k, so, setS_fr, setS_ob, newS_fr, newS_ob, refOf, kill_fr, kill_ob, init_fr, init_ob, mask_none, mask_some, upd_apply, killSV, killOb, *] <;> first | with_reducible exact rfl | with_reducible exact ⟨rfl, rfl⟩ | with_reducible exact ⟨by omega, rfl⟩))
      | ((with_reducible apply c_lookup); (· simp [valOp, lookV, conf, conf1, so_t, so_k, so, setS_fr, setS_ob, newS_fr, newS_ob, refOf, kill_fr, kill_ob, init_fr, init_ob, mask_none, mask_some, upd_apply, killSV, killOb, *] <;> first | with_reducible exact rfl | with_reducible exact ⟨rfl, rfl⟩ | with_reducible exact ⟨by omega, rfl⟩))
      | ((with_reducible apply c_call); (· simp [allM, close, so_t, so_k, so, setS_fr, setS_ob, newS_fr, newS_ob, refOf, kill_fr, kill_ob, init_fr, init_ob, mask_none, mask_some, upd_apply, killSV, killOb, *] <;> first | with_reducible exact rfl | with_reducible exact ⟨rfl, rfl⟩ | with_reducible exact ⟨by omega, rfl⟩); (· simp [so_t, so_k, so, setS_fr, setS_ob, newS_fr, newS_ob, refOf, kill_fr, kill_ob, init_fr, init_ob, mask_none, mask_some, upd_apply, killSV, killOb, *] <;> first | with_reducible exact rfl | with_reducible exact ⟨rfl, rfl⟩ | with_reducible exact ⟨by omega, rfl⟩); (· simp [isC, memless, memlessL, so_t, so_k, so, setS_fr, setS_ob, newS_fr, newS_ob, refOf, kill_fr, kill_ob, init_fr, init_ob, mask_none, mask_some, upd_apply, killSV, killOb, *]; done))
      | ((with_reducible apply c_callN); (· simp [allM, close, so_t, so_k, so, setS_fr, setS_ob, newS_fr, newS_ob, refOf, kill_fr, kill_ob, init_fr, init_ob, mask_none, mask_some, upd_apply, killSV, killOb, *] <;> first | with_reducible exact rfl | with_reducible exact ⟨rfl, rfl⟩ | with_reducible exact ⟨by omega, rfl⟩); (· simp [so_t, so_k, so, setS_fr, setS_ob, newS_fr, newS_ob, refOf, kill_fr, kill_ob, init_fr, init_ob, mask_none, mask_some, upd_apply, killSV, killOb, *] <;> first | with_reducible exact rfl | with_reducible exact ⟨rfl, rfl⟩ | with_reducible exact ⟨by omega, rfl⟩); (· simp [isC, Res.memless, memless, memlessL, so_t, so_k, so, setS_fr, setS_ob, newS_fr, newS_ob, refOf, kill_fr, kill_ob, init_fr, init_ob, mask_none, mask_some, upd_apply, killSV, killOb, *]; done); (· simp [so_t, so_k, so, setS_fr, setS_ob, newS_fr, newS_ob, refOf, kill_fr, kill_ob, init_fr, init_ob, mask_none, mask_some, upd_apply, killSV, killOb, *]; done))
      | ((with_reducible apply c_new); (· rfl); (· simp [newOp, allM, closed, cellsN, so_t, so_k, so, setS_fr, setS_ob, newS_fr, newS_ob, refOf, kill_fr, kill_ob, init_fr, init_ob, mask_none, mask_some, upd_apply, killSV, killOb, *] <;> first | with_reducible exact rfl | with_reducible exact ⟨rfl, rfl⟩ | with_reducible exact ⟨by omega, rfl⟩); (· simp [so_t, so_k, so, setS_fr, setS_ob, newS_fr, newS_ob, refOf, kill_fr, kill_ob, init_fr, init_ob, mask_none, mask_some, upd_apply, killSV, killOb, *]; done))
      | ((with_reducible apply c_eff); (· rfl); (· simp [effOp, setCells, oneS, oneC, St.set, newsOf, putC, cellsN, CV.cells, so_t, so_k, so, setS_fr, setS_ob, newS_fr, newS_ob, refOf, kill_fr, kill_ob, init_fr, init_ob, mask_none, mask_some, upd_apply, killSV, killOb, *] <;> first | with_reducible exact rfl | with_reducible exact ⟨rfl, rfl⟩ | with_reducible exact ⟨by omega, rfl⟩))
      | ((with_reducible apply c_guard); (· simp [so_t, so_k, so, setS_fr, setS_ob, newS_fr, newS_ob, refOf, kill_fr, kill_ob, init_fr, init_ob, mask_none, mask_some, upd_apply, killSV, killOb, *] <;> first | with_reducible exact rfl | with_reducible exact ⟨rfl, rfl⟩ | with_reducible exact ⟨by omega, rfl⟩))
      | ((with_reducible apply p_if); (· simp [so_t, so_k, so, setS_fr, setS_ob, newS_fr, newS_ob, refOf, kill_fr, kill_ob, init_fr, init_ob, mask_none, mask_some, upd_apply, killSV, killOb, *] <;> first | with_reducible exact rfl | with_reducible exact ⟨rfl, rfl⟩ | with_reducible exact ⟨by omega, rfl⟩))
      | ((with_reducible apply g_split); all_goals (intro hb; try simp only [decide_eq_true_eq, decide_eq_false_iff_not, Bool.not_eq_true] at hb))
      | ((with_reducible apply k_split); all_goals (intro hb; try simp only [decide_eq_true_eq, decide_eq_false_iff_not, Bool.not_eq_true] at hb)))
    all_goals (refine fin_ret ?_; simp [resOf, allM, oneRes, packRes, close, setS_fr, init_fr, wrong, *])
  · have hlen' : ¬ (4096 : Int) < es.length := by omega
    repeat' (first
      | with_reducible apply p_seq
      | with_reducible apply then_normal
      | with_reducible apply then_exit
      | with_reducible apply then_ret
      | with_reducible apply block_normal
      | with_reducible apply block_exit
      | with_reducible apply block_ret
      | with_reducible apply turn_exit
      | with_reducible apply turn_ret
      | with_reducible apply p_skip
      | with_reducible apply p_exit
      | with_reducible apply p_ret
      | with_reducible apply p_block
      | with_reducible apply p_reg0
      | with_reducible apply p_reg1
      | with_reducible apply c_nil
      | with_reducible apply g_tt
      | with_reducible apply g_ff
      | with_reducible apply g_tf
      | with_reducible apply g_ft
      | with_reducible apply g_sk
      | with_reducible apply k_t
      | with_reducible apply k_f
      | ((with_reducible apply block_past); (· decide))
      | ((with_reducible apply c_mov); (· simp [valOp, so_t, so_k, so, setS_fr, setS_ob, newS_fr, newS_ob, refOf, kill_fr, kill_ob, init_fr, init_ob, mask_none, mask_some, upd_apply, killSV, killOb, *] <;> first | with_reducible exact rfl | with_reducible exact ⟨rfl, rfl⟩ | with_reducible exact ⟨by omega, rfl⟩))
      | ((with_reducible apply c_pick); (· simp [valOp, so_t, so_k, so, setS_fr, setS_ob, newS_fr, newS_ob, refOf, kill_fr, kill_ob, init_fr, init_ob, mask_none, mask_some, upd_apply, killSV, killOb, *] <;> first | with_reducible exact rfl | with_reducible exact ⟨rfl, rfl⟩ | with_reducible exact ⟨by omega, rfl⟩))
      | ((with_reducible apply c_bin); (· simp [valOp, binC, binI, cmpB, binS, so_t, so_k, so, setS_fr, setS_ob, newS_fr, newS_ob, refOf, kill_fr, kill_ob, init_fr, init_ob, mask_none, mask_some, upd_apply, killSV, killOb, *] <;> first | with_reducible exact rfl | with_reducible exact ⟨rfl, rfl⟩ | with_reducible exact ⟨by omega, rfl⟩))
      | ((with_reducible apply c_eqs); (· simp [valOp, eqA, eqL, eq1, so_t, so_k, so, setS_fr, setS_ob, newS_fr, newS_ob, refOf, kill_fr, kill_ob, init_fr, init_ob, mask_none, mask_some, upd_apply, killSV, killOb, *] <;> first | with_reducible exact rfl | with_reducible exact ⟨rfl, rfl⟩ | with_reducible exact ⟨by omega, rfl⟩))
      | ((with_reducible apply c_beq); (· simp [valOp, so_t, so_k, so, setS_fr, setS_ob, newS_fr, newS_ob, refOf, kill_fr, kill_ob, init_fr, init_ob, mask_none, mask_some, upd_apply, killSV, killOb, *] <;> first | with_reducible exact rfl | with_reducible exact ⟨rfl, rfl⟩ | with_reducible exact ⟨by omega, rfl⟩))
      | ((with_reducible apply c_isnil); (· simp [valOp, so_t, so_k, so, setS_fr, setS_ob, newS_fr, newS_ob, refOf, kill_fr, kill_ob, init_fr, init_ob, mask_none, mask_some, upd_apply, killSV, killOb, *] <;> first | with_reducible exact rfl | with_reducible exact ⟨rfl, rfl⟩ | with_reducible exact ⟨by omega, rfl⟩))
      | ((with_reducible apply c_un); (· simp [valOp, unC, so_t, so_k, so, setS_fr, setS_ob, newS_fr, newS_ob, refOf, kill_fr, kill_ob, init_fr, init_ob, mask_none, mask_some, upd_apply, killSV, killOb, *] <;> first | with_reducible exact rfl | with_reducible exact ⟨rfl, rfl⟩ | with_reducible exact ⟨by omega, rfl⟩))
      | ((with_reducible apply c_cvi); (· simp [valOp, so_t, so_k, so, setS_fr, setS_ob, newS_fr, newS_ob, refOf, kill_fr, kill_ob, init_fr, init_ob, mask_none, mask_some, upd_apply, killSV, killOb, *] <;> first | with_reducible exact rfl | with_reducible exact ⟨rfl, rfl⟩ | with_reducible exact ⟨by omega, rfl⟩))
      | ((with_reducible apply c_cvrune); (· simp [valOp, so_t, so_k, so, setS_fr, setS_ob, newS_fr, newS_ob, refOf, kill_fr, kill_ob, init_fr, init_ob, mask_none, mask_some, upd_apply, killSV, killOb, *] <;> first | with_reducible exact rfl | with_reducible exact ⟨rfl, rfl⟩ | with_reducible exact ⟨by omega, rfl⟩))
      | ((with_reducible apply c_cvid); (· simp [valOp, so_t, so_k, so, setS_fr, setS_ob, newS_fr, newS_ob, refOf, kill_fr, kill_ob, init_fr, init_ob, mask_none, mask_some, upd_apply, killSV, killOb, *] <;> first | with_reducible exact rfl | with_reducible exact ⟨rfl, rfl⟩ | with_reducible exact ⟨by omega, rfl⟩))
      | ((with_reducible apply c_build); (· simp [valOp, allM, closed, fillC, cellsN, CV.cells, so_t, so_k, so, setS_fr, setS_ob, newS_fr, newS_ob, refOf, kill_fr, kill_ob, init_fr, init_ob, mask_none, mask_some, upd_apply, killSV, killOb, *] <;> first | with_reducible exact rfl | with_reducible exact ⟨rfl, rfl⟩ | with_reducible exact ⟨by omega, rfl⟩))
      | ((with_reducible apply c_field); (· simp [valOp, partC, so_t, so_k, so, setS_fr, setS_ob, newS_fr, newS_ob, refOf, kill_fr, kill_ob, init_fr, init_ob, mask_none, mask_some, upd_apply, killSV, killOb, *] <;> first | with_reducible exact rfl | with_reducible exact ⟨rfl, rfl⟩ | with_reducible exact ⟨by omega, rfl⟩))
      | ((with_reducible apply c_ext); (· simp [valOp, so_t, so_k, so, setS_fr, setS_ob, newS_fr, newS_ob, refOf, kill_fr, kill_ob, init_fr, init_ob, mask_none, mask_some, upd_apply, killSV, killOb, *] <;> first | with_reducible exact rfl | with_reducible exact ⟨rfl, rfl⟩ | with_reducible exact ⟨by omega, rfl⟩))
      | ((with_reducible apply c_minmax); (· simp [valOp, allM, closed, minmaxC, so_t, so_k, so, setS_fr, setS_ob, newS_fr, newS_ob, refOf, kill_fr, kill_ob, init_fr, init_ob, mask_none, mask_some, upd_apply, killSV, killOb, *] <;> first | with_reducible exact rfl | with_reducible exact ⟨rfl, rfl⟩ | with_reducible exact ⟨by omega, rfl⟩))
      | ((with_reducible apply c_fnv); (· simp [valOp, allM, closed, so_t, so_k, so, setS_fr, setS_ob, newS_fr, newS_ob, refOf, kill_fr, kill_ob, init_fr, init_ob, mask_none, mask_some, upd_apply, killSV, killOb, *] <;> first | with_reducible exact rfl | with_reducible exact ⟨rfl, rfl⟩ | with_reducible exact ⟨by omega, rfl⟩))
      | ((with_reducible apply c_faddr); (· simp [valOp, so_t, so_k, so, setS_fr, setS_ob, newS_fr, newS_ob, refOf, kill_fr, kill_ob, init_fr, init_ob, mask_none, mask_some, upd_apply, killSV, killOb, *] <;> first | with_reducible exact rfl | with_reducible exact ⟨rfl, rfl⟩ | with_reducible exact ⟨by omega, rfl⟩))
      | ((with_reducible apply c_iaddr); (· simp [valOp, iaddrV, idxOf, cellsN, CV.cells, so_t, so_k, so, setS_fr, setS_ob, newS_fr, newS_ob, refOf, kill_fr, kill_ob, init_fr, init_ob, mask_none, mask_some, upd_apply, killSV, killOb, *] <;> first | with_reducible exact rfl | with_reducible exact ⟨rfl, rfl⟩ | with_reducible exact ⟨by omega, rfl⟩))
      | ((with_reducible apply c_aaddr); (· simp [valOp, aaddrV, idxOf, so_t, so_k, so, setS_fr, setS_ob, newS_fr, newS_ob, refOf, kill_fr, kill_ob, init_fr, init_ob, mask_none, mask_some, upd_apply, killSV, killOb, *] <;> first | with_reducible exact rfl | with_reducible exact ⟨rfl, rfl⟩ | with_reducible exact ⟨by omega, rfl⟩))
      | ((with_reducible apply c_sidx); (· simp [valOp, idxOf, so_t, so_k, so, setS_fr, setS_ob, newS_fr, newS_ob, refOf, kill_fr, kill_ob, init_fr, init_ob, mask_none, mask_some, upd_apply, killSV, killOb, *] <;> first | with_reducible exact rfl | with_reducible exact ⟨rfl, rfl⟩ | with_reducible exact ⟨by omega, rfl⟩))
      | ((with_reducible apply c_aidx); (· simp [valOp, idxOf, partC, so_t, so_k, so, setS_fr, setS_ob, newS_fr, newS_ob, refOf, kill_fr, kill_ob, init_fr, init_ob, mask_none, mask_some, upd_apply, killSV, killOb, *] <;> first | with_reducible exact rfl | with_reducible exact ⟨rfl, rfl⟩ | with_reducible exact ⟨by omega, rfl⟩))
      | ((with_reducible apply c_load); (· simp [valOp, loadV, partC, allM, closed, CV.cells, so_t, so_k, so, setS_fr, setS_ob, newS_fr, newS_ob, refOf, kill_fr, kill_ob, init_fr, init_ob, mask_none, mask_some, upd_apply, killSV, killOb, *] <;> first | with_reducible exact rfl | with_reducible exact ⟨rfl, rfl⟩ | with_reducible exact ⟨by omega, rfl⟩))
      | ((with_reducible apply c_len); (· simp [valOp, lenV, so_t, so_k, so, setS_fr, setS_ob, newS_fr, newS_ob, refOf, kill_fr, kill_ob, init_fr, init_ob, mask_none, mask_some, upd_apply, killSV, killOb, *] <;> first | with_reducible exact rfl | with_reducible exact ⟨rfl, rfl⟩ | with_reducible exact ⟨by omega, rfl⟩))
      | ((with_reducible apply c_sslice); (· simp [valOp, bound, so_t, so_k, so, setS_fr, setS_ob, newS_fr, newS_ob, refOf, kill_fr, kill_ob, init_fr, init_ob, mask_none, mask_some, upd_apply, killSV, killOb, *] <;> first | with_reducible exact rfl | with_reducible exact ⟨rfl, rfl⟩ | with_reducible exact ⟨by omega, rfl⟩))
      | ((with_reducible apply c_slice); (· simp [valOp, bound, cellsN, so_t, so_k, so, setS_fr, setS_ob, newS_fr, newS_ob, refOf, kill_fr, kill_ob, init_fr, init_ob, mask_none, mask_some, upd_apply, killSV, killOb, *] <;> first | with_reducible exact rfl | with_reducible exact ⟨rfl, rfl⟩ | with_reducible exact ⟨by omega, rfl⟩))
      | ((with_reducible apply c_lookup); (· simp [valOp, lookV, conf, conf1, so_t, so_k, so, setS_fr, setS_ob, newS_fr, newS_ob, refOf, kill_fr, kill_ob, init_fr, init_ob, mask_none, mask_some, upd_apply, killSV, killOb, *] <;> first | with_reducible exact rfl | with_reducible exact ⟨rfl, rfl⟩ | with_reducible exact ⟨by omega, rfl⟩))
      | ((with_reducible apply c_call); (· simp [allM, close, so_t, so_k, so, setS_fr, setS_ob, newS_fr, newS_ob, refOf, kill_fr, kill_ob, init_fr, init_ob, mask_none, mask_some, upd_apply, killSV, killOb, *] <;> first | with_reducible exact rfl | with_reducible exact ⟨rfl, rfl⟩ | with_reducible exact ⟨by omega, rfl⟩); (· simp [so_t, so_k, so, setS_fr, setS_ob, newS_fr, newS_ob, refOf, kill_fr, kill_ob, init_fr, init_ob, mask_none, mask_some, upd_apply, killSV, killOb, *] <;> first | with_reducible exact rfl | with_reducible exact ⟨rfl, rfl⟩ | with_reducible exact ⟨by omega, rfl⟩); (· simp [isC, memless, memlessL, so_t, so_k, so, setS_fr, setS_ob, newS_fr, newS_ob, refOf, kill_fr, kill_ob, init_fr, init_ob, mask_none, mask_some, upd_apply, killSV, killOb, *]; done))
      | ((with_reducible apply c_callN); (· simp [allM, close, so_t, so_k, so, setS_fr, setS_ob, newS_fr, newS_ob, refOf, kill_fr, kill_ob, init_fr, init_ob, mask_none, mask_some, upd_apply, killSV, killOb, *] <;> first | with_reducible exact rfl | with_reducible exact ⟨rfl, rfl⟩ | with_reducible exact ⟨by omega, rfl⟩); (· simp [so_t, so_k, so, setS_fr, setS_ob, newS_fr, newS_ob, refOf, kill_fr, kill_ob, init_fr, init_ob, mask_none, mask_some, upd_apply, killSV, killOb, *] <;> first | with_reducible exact rfl | with_reducible exact ⟨rfl, rfl⟩ | with_reducible exact ⟨by omega, rfl⟩); (· simp [isC, Res.memless, memless, memlessL, so_t, so_k, so, setS_fr, setS_ob, newS_fr, newS_ob, refOf, kill_fr, kill_ob, init_fr, init_ob, mask_none, mask_some, upd_apply, killSV, killOb, *]; done); (· simp [so_t, so_k, so, setS_fr, setS_ob, newS_fr, newS_ob, refOf, kill_fr, kill_ob, init_fr, init_ob, mask_none, mask_some, upd_apply, killSV, killOb, *]; done))
      | ((with_reducible apply c_new); (· rfl); (· simp [newOp, allM, closed, cellsN, so_t, so_k, so, setS_fr, setS_ob, newS_fr, newS_ob, refOf, kill_fr, kill_ob, init_fr, init_ob, mask_none, mask_some, upd_apply, killSV, killOb, *] <;> first | with_reducible exact rfl | with_reducible exact ⟨rfl, rfl⟩ | with_reducible exact ⟨by omega, rfl⟩); (· simp [so_t, so_k, so, setS_fr, setS_ob, newS_fr, newS_ob, refOf, kill_fr, kill_ob, init_fr, init_ob, mask_none, mask_some, upd_apply, killSV, killOb, *]; done))
      | ((with_reducible apply c_eff); (· rfl); (· simp [effOp, setCells, oneS, oneC, St.set, newsOf, putC, cellsN, CV.cells, so_t, so_k, so, setS_fr, setS_ob, newS_fr, newS_ob, refOf, kill_fr, kill_ob, init_fr, init_ob, mask_none, mask_some, upd_apply, killSV, killOb, *] <;> first | with_reducible exact rfl | with_reducible exact ⟨rfl, rfl⟩ | with_reducible exact ⟨by omega, rfl⟩))
      | ((with_reducible apply c_guard); (· simp [so_t, so_k, so, setS_fr, setS_ob, newS_fr, newS_ob, refOf, kill_fr, kill_ob, init_fr, init_ob, mask_none, mask_some, upd_apply, killSV, killOb, *] <;> first | with_reducible exact rfl | with_reducible exact ⟨rfl, rfl⟩ | with_reducible exact ⟨by omega, rfl⟩))
      | ((with_reducible apply p_if); (· simp [so_t, so_k, so, setS_fr, setS_ob, newS_fr, newS_ob, refOf, kill_fr, kill_ob, init_fr, init_ob, mask_none, mask_some, upd_apply, killSV, killOb, *] <;> first | with_reducible exact rfl | with_reducible exact ⟨rfl, rfl⟩ | with_reducible exact ⟨by omega, rfl⟩))
      | ((with_reducible apply g_split); all_goals (intro hb; try simp only [decide_eq_true_eq, decide_eq_false_iff_not, Bool.not_eq_true] at hb))
      | ((with_reducible apply k_split); all_goals (intro hb; try simp only [decide_eq_true_eq, decide_eq_false_iff_not, Bool.not_eq_true] at hb)))
    refine p_loop (fun m s => ∃ i : Nat, i + m = es.length ∧ s.fr 0 = .c (.sl nl (es.map encE)) ∧ s.fr 10 = .c (.sl nl (es.map encE)) ∧ s.fr 11 = .c (.int .i64 es.length) ∧ s.fr 12 = .c (.int .i64 i) ∧ s.fr 3 = .ptr 3 0 ∧ s.ob 3 = .box [.c (.int .i64 a), .c (.int .i64 b)] ∧ wrongL none es = wrongL (if i = 0 then none else es[i - 1]?) (es.drop i)) es.length ⟨0, by simp, (by simp [so_t, so_k, so, setS_fr, setS_ob, newS_fr, newS_ob, refOf, kill_fr, kill_ob, init_fr, init_ob, mask_none, mask_some, upd_apply, killSV, killOb, *]), (by simp [so_t, so_k, so, setS_fr, setS_ob, newS_fr, newS_ob, refOf, kill_fr, kill_ob, init_fr, init_ob, mask_none, mask_some, upd_apply, killSV, killOb, *]), (by simp [so_t, so_k, so, setS_fr, setS_ob, newS_fr, newS_ob, refOf, kill_fr, kill_ob, init_fr, init_ob, mask_none, mask_some, upd_apply, killSV, killOb, *]), (by simp [so_t, so_k, so, setS_fr, setS_ob, newS_fr, newS_ob, refOf, kill_fr, kill_ob, init_fr, init_ob, mask_none, mask_some, upd_apply, killSV, killOb, *]), (by simp [so_t, so_k, so, setS_fr, setS_ob, newS_fr, newS_ob, refOf, kill_fr, kill_ob, init_fr, init_ob, mask_none, mask_some, upd_apply, killSV, killOb, *]), (by simp [so_t, so_k, so, setS_fr, setS_ob, newS_fr, newS_ob, refOf, kill_fr, kill_ob, init_fr, init_ob, mask_none, mask_some, upd_apply, killSV, killOb, *]), by simp⟩ ?_
    intro m s ⟨i, hm, h0, h10, h11, h12, h3, ho3, hw⟩
    by_cases hi : i < es.length
    · obtain ⟨⟨d, mi, n⟩, hE⟩ : ∃ e, es[i] = e := ⟨_, rfl⟩
      have hd : es.drop i = (d, mi, n) :: es.drop (i + 1) := by rw [List.drop_eq_getElem_cons hi, hE]
      rw [hd] at hw
      have w1 : IntKind.i64.wrap ((i : Int) + 1) = (i : Int) + 1 := w64 _ (by omega)
      by_cases hz : i = 0
      · subst hz
        simp only [if_true] at hw
        have w1 : IntKind.i64.wrap 1 = 1 := by rfl
        repeat' (first
          | with_reducible apply p_seq
          | with_reducible apply then_normal
          | with_reducible apply then_exit
          | with_reducible apply then_ret
          | with_reducible apply block_normal
          | with_reducible apply block_exit
          | with_reducible apply block_ret
          | with_reducible apply turn_exit
          | with_reducible apply turn_ret
          | with_reducible apply p_skip
          | with_reducible apply p_exit
          | with_reducible apply p_ret
          | with_reducible apply p_block
          | with_reducible apply p_reg0
          | with_reducible apply p_reg1
          | with_reducible apply c_nil
          | with_reducible apply g_tt
          | with_reducible apply g_ff
          | with_reducible apply g_tf
          | with_reducible apply g_ft
          | with_reducible apply g_sk
          | with_reducible apply k_t
          | with_reducible apply k_f
          | ((with_reducible apply block_past); (· decide))
          | ((with_reducible apply c_mov); (· simp [valOp, encE, so_t, so_k, so, setS_fr, setS_ob, newS_fr, newS_ob, refOf, kill_fr, kill_ob, init_fr, init_ob, mask_none, mask_some, upd_apply, killSV, killOb, *] <;> first | with_reducible exact rfl | with_reducible exact ⟨rfl, rfl⟩ | with_reducible exact ⟨by omega, rfl⟩))
          | ((with_reducible apply c_pick); (· simp [valOp, encE, so_t, so_k, so, setS_fr, setS_ob, newS_fr, newS_ob, refOf, kill_fr, kill_ob, init_fr, init_ob, mask_none, mask_some, upd_apply, killSV, killOb, *] <;> first | with_reducible exact rfl | with_reducible exact ⟨rfl, rfl⟩ | with_reducible exact ⟨by omega, rfl⟩))
          | ((with_reducible apply c_bin); (· simp [valOp, binC, binI, cmpB, binS, encE, so_t, so_k, so, setS_fr, setS_ob, newS_fr, newS_ob, refOf, kill_fr, kill_ob, init_fr, init_ob, mask_none, mask_some, upd_apply, killSV, killOb, *] <;> first | with_reducible exact rfl | with_reducible exact ⟨rfl, rfl⟩ | with_reducible exact ⟨by omega, rfl⟩))
          | ((with_reducible apply c_eqs); (· simp [valOp, eqA, eqL, eq1, encE, so_t, so_k, so, setS_fr, setS_ob, newS_fr, newS_ob, refOf, kill_fr, kill_ob, init_fr, init_ob, mask_none, mask_some, upd_apply, killSV, killOb, *] <;> first | with_reducible exact rfl | with_reducible exact ⟨rfl, rfl⟩ | with_reducible exact ⟨by omega, rfl⟩))
          | ((with_reducible apply c_beq); (· simp [valOp, encE, so_t, so_k, so, setS_fr, setS_ob, newS_fr, newS_ob, refOf, kill_fr, kill_ob, init_fr, init_ob, mask_none, mask_some, upd_apply, killSV, killOb, *] <;> first | with_reducible exact rfl | with_reducible exact ⟨rfl, rfl⟩ | with_reducible exact ⟨by omega, rfl⟩))
          | ((with_reducible apply c_isnil); (· simp [valOp, encE, so_t, so_k, so, setS_fr, setS_ob, newS_fr, newS_ob, refOf, kill_fr, kill_ob, init_fr, init_ob, mask_none, mask_some, upd_apply, killSV, killOb, *] <;> first | with_reducible exact rfl | with_reducible exact ⟨rfl, rfl⟩ | with_reducible exact ⟨by omega, rfl⟩))
          | ((with_reducible apply c_un); (· simp [valOp, unC, encE, so_t, so_k, so, setS_fr, setS_ob, newS_fr, newS_ob, refOf, kill_fr, kill_ob, init_fr, init_ob, mask_none, mask_some, upd_apply, killSV, killOb, *] <;> first | with_reducible exact rfl | with_reducible exact ⟨rfl, rfl⟩ | with_reducible exact ⟨by omega, rfl⟩))
          | ((with_reducible apply c_cvi); (· simp [valOp, encE, so_t, so_k, so, setS_fr, setS_ob, newS_fr, newS_ob, refOf, kill_fr, kill_ob, init_fr, init_ob, mask_none, mask_some, upd_apply, killSV, killOb, *] <;> first | with_reducible exact rfl | with_reducible exact ⟨rfl, rfl⟩ | with_reducible exact ⟨by omega, rfl⟩))
          | ((with_reducible apply c_cvrune); (· simp [valOp, encE, so_t, so_k, so, setS_fr, setS_ob, newS_fr, newS_ob, refOf, kill_fr, kill_ob, init_fr, init_ob, mask_none, mask_some, upd_apply, killSV, killOb, *] <;> first | with_reducible exact rfl | with_reducible exact ⟨rfl, rfl⟩ | with_reducible exact ⟨by omega, rfl⟩))
          | ((with_reducible apply c_cvid); (· simp [valOp, encE, so_t, so_k, so, setS_fr, setS_ob, newS_fr, newS_ob, refOf, kill_fr, kill_ob, init_fr, init_ob, mask_none, mask_some, upd_apply, killSV, killOb, *] <;> first | with_reducible exact rfl | with_reducible exact ⟨rfl, rfl⟩ | with_reducible exact ⟨by omega, rfl⟩))
          | ((with_reducible apply c_build); (· simp [valOp, allM, closed, fillC, cellsN, CV.cells, encE, so_t, so_k, so, setS_fr, setS_ob, newS_fr, newS_ob, refOf, kill_fr, kill_ob, init_fr, init_ob, mask_none, mask_some, upd_apply, killSV, killOb, *] <;> first | with_reducible exact rfl | with_reducible exact ⟨rfl, rfl⟩ | with_reducible exact ⟨by omega, rfl⟩))
          | ((with_reducible apply c_field); (· simp [valOp, partC, encE, so_t, so_k, so, setS_fr, setS_ob, newS_fr, newS_ob, refOf, kill_fr, kill_ob, init_fr, init_ob, mask_none, mask_some, upd_apply, killSV, killOb, *] <;> first | with_reducible exact rfl | with_reducible exact ⟨rfl, rfl⟩ | with_reducible exact ⟨by omega, rfl⟩))
          | ((with_reducible apply c_ext); (· simp [valOp, encE, so_t, so_k, so, setS_fr, setS_ob, newS_fr, newS_ob, refOf, kill_fr, kill_ob, init_fr, init_ob, mask_none, mask_some, upd_apply, killSV, killOb, *] <;> first | with_reducible exact rfl | with_reducible exact ⟨rfl, rfl⟩ | with_reducible exact ⟨by omega, rfl⟩))
          | ((with_reducible apply c_minmax); (· simp [valOp, allM, closed, minmaxC, encE, so_t, so_k, so, setS_fr, setS_ob, newS_fr, newS_ob, refOf, kill_fr, kill_ob, init_fr, init_ob, mask_none, mask_some, upd_apply, killSV, killOb, *] <;> first | with_reducible exact rfl | with_reducible exact ⟨rfl, rfl⟩ | with_reducible exact ⟨by omega, rfl⟩))
          | ((with_reducible apply c_fnv); (· simp [valOp, allM, closed, encE, so_t, so_k, so, setS_fr, setS_ob, newS_fr, newS_ob, refOf, kill_fr, kill_ob, init_fr, init_ob, mask_none, mask_some, upd_apply, killSV, killOb, *] <;> first | with_reducible exact rfl | with_reducible exact ⟨rfl, rfl⟩ | with_reducible exact ⟨by omega, rfl⟩))
          | ((with_reducible apply c_faddr); (· simp [valOp, encE, so_t, so_k, so, setS_fr, setS_ob, newS_fr, newS_ob, refOf, kill_fr, kill_ob, init_fr, init_ob, mask_none, mask_some, upd_apply, killSV, killOb, *] <;> first | with_reducible exact rfl | with_reducible exact ⟨rfl, rfl⟩ | with_reducible exact ⟨by omega, rfl⟩))
          | ((with_reducible apply c_iaddr); (· simp [valOp, iaddrV, idxOf, cellsN, CV.cells, encE, so_t, so_k, so, setS_fr, setS_ob, newS_fr, newS_ob, refOf, kill_fr, kill_ob, init_fr, init_ob, mask_none, mask_some, upd_apply, killSV, killOb, *] <;> first | with_reducible exact rfl | with_reducible exact ⟨rfl, rfl⟩ | with_reducible exact ⟨by omega, rfl⟩))
          | ((with_reducible apply c_aaddr); (· simp [valOp, aaddrV, idxOf, encE, so_t, so_k, so, setS_fr, setS_ob, newS_fr, newS_ob, refOf, kill_fr, kill_ob, init_fr, init_ob, mask_none, mask_some, upd_apply, killSV, killOb, *] <;> first | with_reducible exact rfl | with_reducible exact ⟨rfl, rfl⟩ | with_reducible exact ⟨by omega, rfl⟩))
          | ((with_reducible apply c_sidx); (· simp [valOp, idxOf, encE, so_t, so_k, so, setS_fr, setS_ob, newS_fr, newS_ob, refOf, kill_fr, kill_ob, init_fr, init_ob, mask_none, mask_some, upd_apply, killSV, killOb, *] <;> first | with_reducible exact rfl | with_reducible exact ⟨rfl, rfl⟩ | with_reducible exact ⟨by omega, rfl⟩))
          | ((with_reducible apply c_aidx); (· simp [valOp, idxOf, partC, encE, so_t, so_k, so, setS_fr, setS_ob, newS_fr, newS_ob, refOf, kill_fr, kill_ob, init_fr, init_ob, mask_none, mask_some, upd_apply, killSV, killOb, *] <;> first | with_reducible exact rfl | with_reducible exact ⟨rfl, rfl⟩ | with_reducible exact ⟨by omega, rfl⟩))
          | ((with_reducible apply c_load); (· simp [valOp, loadV, partC, allM, closed, CV.cells, encE, so_t, so_k, so, setS_fr, setS_ob, newS_fr, newS_ob, refOf, kill_fr, kill_ob, init_fr, init_ob, mask_none, mask_some, upd_apply, killSV, killOb, *] <;> first | with_reducible exact rfl | with_reducible exact ⟨rfl, rfl⟩ | with_reducible exact ⟨by omega, rfl⟩))
          | ((with_reducible apply c_len); (· simp [valOp, lenV, encE, so_t, so_k, so, setS_fr, setS_ob, newS_fr, newS_ob, refOf, kill_fr, kill_ob, init_fr, init_ob, mask_none, mask_some, upd_apply, killSV, killOb, *] <;> first | with_reducible exact rfl | with_reducible exact ⟨rfl, rfl⟩ | with_reducible exact ⟨by omega, rfl⟩))
          | ((with_reducible apply c_sslice); (· simp [valOp, bound, encE, so_t, so_k, so, setS_fr, setS_ob, newS_fr, newS_ob, refOf, kill_fr, kill_ob, init_fr, init_ob, mask_none, mask_some, upd_apply, killSV, killOb, *] <;> first | with_reducible exact rfl | with_reducible exact ⟨rfl, rfl⟩ | with_reducible exact ⟨by omega, rfl⟩))
          | ((with_reducible apply c_slice); (· simp [valOp, bound, cellsN, encE, so_t, so_k, so, setS_fr, setS_ob, newS_fr, newS_ob, refOf, kill_fr, kill_ob, init_fr, init_ob, mask_none, mask_some, upd_apply, killSV, killOb, *] <;> first | with_reducible exact rfl | with_reducible exact ⟨rfl, rfl⟩ | with_reducible exact ⟨by omega, rfl⟩))
          | ((with_reducible apply c_lookup); (· simp [valOp, lookV, conf, conf1, encE, so_t, so_k, so, setS_fr, setS_ob, newS_fr, newS_ob, refOf, kill_fr, kill_ob, init_fr, init_ob, mask_none, mask_some, upd_apply, killSV, killOb, *] <;> first | with_reducible exact rfl | with_reducible exact ⟨rfl, rfl⟩ | with_reducible exact ⟨by omega, rfl⟩))
          | ((with_reducible apply c_call); (· simp [allM, close, encE, so_t, so_k, so, setS_fr, setS_ob, newS_fr, newS_ob, refOf, kill_fr, kill_ob, init_fr, init_ob, mask_none, mask_some, upd_apply, killSV, killOb, *] <;> first | with_reducible exact rfl | with_reducible exact ⟨rfl, rfl⟩ | with_reducible exact ⟨by omega, rfl⟩); (· simp [encE, so_t, so_k, so, setS_fr, setS_ob, newS_fr, newS_ob, refOf, kill_fr, kill_ob, init_fr, init_ob, mask_none, mask_some, upd_apply, killSV, killOb, *] <;> first | with_reducible exact rfl | with_reducible exact ⟨rfl, rfl⟩ | with_reducible exact ⟨by omega, rfl⟩); (· simp [isC, memless, memlessL, encE, so_t, so_k, so, setS_fr, setS_ob, newS_fr, newS_ob, refOf, kill_fr, kill_ob, init_fr, init_ob, mask_none, mask_some, upd_apply, killSV, killOb, *]; done))
          | ((with_reducible apply c_callN); (· simp [allM, close, encE, so_t, so_k, so, setS_fr, setS_ob, newS_fr, newS_ob, refOf, kill_fr, kill_ob, init_fr, init_ob, mask_none, mask_some, upd_apply, killSV, killOb, *] <;> first | with_reducible exact rfl | with_reducible exact ⟨rfl, rfl⟩ | with_reducible exact ⟨by omega, rfl⟩); (· simp [encE, so_t, so_k, so, setS_fr, setS_ob, newS_fr, newS_ob, refOf, kill_fr, kill_ob, init_fr, init_ob, mask_none, mask_some, upd_apply, killSV, killOb, *] <;> first | with_reducible exact rfl | with_reducible exact ⟨rfl, rfl⟩ | with_reducible exact ⟨by omega, rfl⟩); (· simp [isC, Res.memless, memless, memlessL, encE, so_t, so_k, so, setS_fr, setS_ob, newS_fr, newS_ob, refOf, kill_fr, kill_ob, init_fr, init_ob, mask_none, mask_some, upd_apply, killSV, killOb, *]; done); (· simp [encE, so_t, so_k, so, setS_fr, setS_ob, newS_fr, newS_ob, refOf, kill_fr, kill_ob, init_fr, init_ob, mask_none, mask_some, upd_apply, killSV, killOb, *]; done))
          | ((with_reducible apply c_new); (· rfl); (· simp [newOp, allM, closed, cellsN, encE, so_t, so_k, so, setS_fr, setS_ob, newS_fr, newS_ob, refOf, kill_fr, kill_ob, init_fr, init_ob, mask_none, mask_some, upd_apply, killSV, killOb, *] <;> first | with_reducible exact rfl | with_reducible exact ⟨rfl, rfl⟩ | with_reducible exact ⟨by omega, rfl⟩); (· simp [encE, so_t, so_k, so, setS_fr, setS_ob, newS_fr, newS_ob, refOf, kill_fr, kill_ob, init_fr, init_ob, mask_none, mask_some, upd_apply, killSV, killOb, *]; done))
          | ((with_reducible apply c_eff); (· rfl); (· simp [effOp, setCells, oneS, oneC, St.set, newsOf, putC, cellsN, CV.cells, encE, so_t, so_k, so, setS_fr, setS_ob, newS_fr, newS_ob, refOf, kill_fr, kill_ob, init_fr, init_ob, mask_none, mask_some, upd_apply, killSV, killOb, *] <;> first | with_reducible exact rfl | with_reducible exact ⟨rfl, rfl⟩ | with_reducible exact ⟨by omega, rfl⟩))
          | ((with_reducible apply c_guard); (· simp [encE, so_t, so_k, so, setS_fr, setS_ob, newS_fr, newS_ob, refOf, kill_fr, kill_ob, init_fr, init_ob, mask_none, mask_some, upd_apply, killSV, killOb, *] <;> first | with_reducible exact rfl | with_reducible exact ⟨rfl, rfl⟩ | with_reducible exact ⟨by omega, rfl⟩))
          | ((with_reducible apply p_if); (· simp [encE, so_t, so_k, so, setS_fr, setS_ob, newS_fr, newS_ob, refOf, kill_fr, kill_ob, init_fr, init_ob, mask_none, mask_some, upd_apply, killSV, killOb, *] <;> first | with_reducible exact rfl | with_reducible exact ⟨rfl, rfl⟩ | with_reducible exact ⟨by omega, rfl⟩))
          | ((with_reducible apply g_split); all_goals (intro hb; try simp only [decide_eq_true_eq, decide_eq_false_iff_not, Bool.not_eq_true] at hb))
          | ((with_reducible apply k_split); all_goals (intro hb; try simp only [decide_eq_true_eq, decide_eq_false_iff_not, Bool.not_eq_true] at hb)))
        all_goals first
          | (refine fin_ret ?_; simp [resOf, allM, oneRes, packRes, close, setS_fr, wrong, wrongL, badE, badLim, *]; done)
          | (refine turn_normal (k := m - 1) (by omega) ⟨1, by omega, (by simp [so_t, so_k, so, setS_fr, setS_ob, newS_fr, newS_ob, refOf, kill_fr, kill_ob, init_fr, init_ob, mask_none, mask_some, upd_apply, killSV, killOb, *]), (by simp [so_t, so_k, so, setS_fr, setS_ob, newS_fr, newS_ob, refOf, kill_fr, kill_ob, init_fr, init_ob, mask_none, mask_some, upd_apply, killSV, killOb, *]), (by simp [so_t, so_k, so, setS_fr, setS_ob, newS_fr, newS_ob, refOf, kill_fr, kill_ob, init_fr, init_ob, mask_none, mask_some, upd_apply, killSV, killOb, *]), (by simp [so_t, so_k, so, setS_fr, setS_ob, newS_fr, newS_ob, refOf, kill_fr, kill_ob, init_fr, init_ob, mask_none, mask_some, upd_apply, killSV, killOb, *]), (by simp [so_t, so_k, so, setS_fr, setS_ob, newS_fr, newS_ob, refOf, kill_fr, kill_ob, init_fr, init_ob, mask_none, mask_some, upd_apply, killSV, killOb, *]), (by simp [so_t, so_k, so, setS_fr, setS_ob, newS_fr, newS_ob, refOf, kill_fr, kill_ob, init_fr, init_ob, mask_none, mask_some, upd_apply, killSV, killOb, *]), ?_⟩; simp [wrongL, badE, *]; done)
      · obtain ⟨k, hki⟩ : ∃ k, k + 1 = i := ⟨i - 1, by omega⟩
        have hk : k < es.length := by omega
        obtain ⟨⟨d', mi', n'⟩, hE'⟩ : ∃ e, es[k] = e := ⟨_, rfl⟩
        have he' : es[i - 1]? = some (d', mi', n') := by rw [← hki, Nat.add_sub_cancel, List.getElem?_eq_getElem hk, hE']
        have w0 : IntKind.i64.wrap ((i : Int) - 1) = (k : Int) := by rw [w64 _ (by omega)]; omega
        have hpos : 0 < i := by omega
        rw [if_neg hz, he'] at hw
        repeat' (first
          | with_reducible apply p_seq
          | with_reducible apply then_normal
          | with_reducible apply then_exit
          | with_reducible apply then_ret
          | with_reducible apply block_normal
          | with_reducible apply block_exit
          | with_reducible apply block_ret
          | with_reducible apply turn_exit
          | with_reducible apply turn_ret
          | with_reducible apply p_skip
          | with_reducible apply p_exit
          | with_reducible apply p_ret
          | with_reducible apply p_block
          | with_reducible apply p_reg0
          | with_reducible apply p_reg1
          | with_reducible apply c_nil
          | with_reducible apply g_tt
          | with_reducible apply g_ff
          | with_reducible apply g_tf
          | with_reducible apply g_ft
          | with_reducible apply g_sk
          | with_reducible apply k_t
          | with_reducible apply k_f
          | ((with_reducible apply block_past); (· decide))
          | ((with_reducible apply c_mov); (· simp [valOp, encE, so_t, so_k, so, setS_fr, setS_ob, newS_fr, newS_ob, refOf, kill_fr, kill_ob, init_fr, init_ob, mask_none, mask_some, upd_apply, killSV, killOb, *] <;> first | with_reducible exact rfl | with_reducible exact ⟨rfl, rfl⟩ | with_reducible exact ⟨by omega, rfl⟩))
          | ((with_reducible apply c_pick); (· simp [valOp, encE, so_t, so_k, so, setS_fr, setS_ob, newS_fr, newS_ob, refOf, kill_fr, kill_ob, init_fr, init_ob, mask_none, mask_some, upd_apply, killSV, killOb, *] <;> first | with_reducible exact rfl | with_reducible exact ⟨rfl, rfl⟩ | with_reducible exact ⟨by omega, rfl⟩))
          | ((with_reducible apply c_bin); (· simp [valOp, binC, binI, cmpB, binS, encE, so_t, so_k, so, setS_fr, setS_ob, newS_fr, newS_ob, refOf, kill_fr, kill_ob, init_fr, init_ob, mask_none, mask_some, upd_apply, killSV, killOb, *] <;> first | with_reducible exact rfl | with_reducible exact ⟨rfl, rfl⟩ | with_reducible exact ⟨by omega, rfl⟩))
          | ((with_reducible apply c_eqs); (· simp [valOp, eqA, eqL, eq1, encE, so_t, so_k, so, setS_fr, setS_ob, newS_fr, newS_ob, refOf, kill_fr, kill_ob, init_fr, init_ob, mask_none, mask_some, upd_apply, killSV, killOb, *] <;> first | with_reducible exact rfl | with_reducible exact ⟨rfl, rfl⟩ | with_reducible exact ⟨by omega, rfl⟩))
          | ((with_reducible apply c_beq); (· simp [valOp, encE, so_t, so_k, so, setS_fr, setS_ob, newS_fr, newS_ob, refOf, kill_fr, kill_ob, init_fr, init_ob, mask_none, mask_some, upd_apply, killSV, killOb, *] <;> first | with_reducible exact rfl | with_reducible exact ⟨rfl, rfl⟩ | with_reducible exact ⟨by omega, rfl⟩))
          | ((with_reducible apply c_isnil); (· simp [valOp, encE, so_t, so_k, so, setS_fr, setS_ob, newS_fr, newS_ob, refOf, kill_fr, kill_ob, init_fr, init_ob, mask_none, mask_some, upd_apply, killSV, killOb, *] <;> first | with_reducible exact rfl | with_reducible exact ⟨rfl, rfl⟩ | with_reducible exact ⟨by omega, rfl⟩))
          | ((with_reducible apply c_un); (· simp [valOp, unC, encE, so_t, so_k, so, setS_fr, setS_ob, newS_fr, newS_ob, refOf, kill_fr, kill_ob, init_fr, init_ob, mask_none, mask_some, upd_apply, killSV, killOb, *] <;> first | with_reducible exact rfl | with_reducible exact ⟨rfl, rfl⟩ | with_reducible exact ⟨by omega, rfl⟩))
          | ((with_reducible apply c_cvi); (· simp [valOp, encE, so_t, so_k, so, setS_fr, setS_ob, newS_fr, newS_ob, refOf, kill_fr, kill_ob, init_fr, init_ob, mask_none, mask_some, upd_apply, killSV, killOb, *] <;> first | with_reducible exact rfl | with_reducible exact ⟨rfl, rfl⟩ | with_reducible exact ⟨by omega, rfl⟩))
          | ((with_reducible apply c_cvrune); (· simp [valOp, encE, so_t, so_k, so, setS_fr, setS_ob, newS_fr, newS_ob, refOf, kill_fr, kill_ob, init_fr, init_ob, mask_none, mask_some, upd_apply, killSV, killOb, *] <;> first | with_reducible exact rfl | with_reducible exact ⟨rfl, rfl⟩ | with_reducible exact ⟨by omega, rfl⟩))
          | ((with_reducible apply c_cvid); (· simp [valOp, encE, so_t, so_k, so, setS_fr, setS_ob, newS_fr, newS_ob, refOf, kill_fr, kill_ob, init_fr, init_ob, mask_none, mask_some, upd_apply, killSV, killOb, *] <;> first | with_reducible exact rfl | with_reducible exact ⟨rfl, rfl⟩ | with_reducible exact ⟨by omega, rfl⟩))
          | ((with_reducible apply c_build); (· simp [valOp, allM, closed, fillC, cellsN, CV.cells, encE, so_t, so_k, so, setS_fr, setS_ob, newS_fr, newS_ob, refOf, kill_fr, kill_ob, init_fr, init_ob, mask_none, mask_some, upd_apply, killSV, killOb, *] <;> first | with_reducible exact rfl | with_reducible exact ⟨rfl, rfl⟩ | with_reducible exact ⟨by omega, rfl⟩))
          | ((with_reducible apply c_field); (· simp [valOp, partC, encE, so_t, so_k, so, setS_fr, setS_ob, newS_fr, newS_ob, refOf, kill_fr, kill_ob, init_fr, init_ob, mask_none, mask_some, upd_apply, killSV, killOb, *] <;> first | with_reducible exact rfl | with_reducible exact ⟨rfl, rfl⟩ | with_reducible exact ⟨by omega, rfl⟩))
          | ((with_reducible apply c_ext); (· simp [valOp, encE, so_t, so_k, so, setS_fr, setS_ob, newS_fr, newS_ob, refOf, kill_fr, kill_ob, init_fr, init_ob, mask_none, mask_some, upd_apply, killSV, killOb, *] <;> first | with_reducible exact rfl | with_reducible exact ⟨rfl, rfl⟩ | with_reducible exact ⟨by omega, rfl⟩))
          | ((with_reducible apply c_minmax); (· simp [valOp, allM, closed, minmaxC, encE, so_t, so_k, so, setS_fr, setS_ob, newS_fr, newS_ob, refOf, kill_fr, kill_ob, init_fr, init_ob, mask_none, mask_some, upd_apply, killSV, killOb, *] <;> first | with_reducible exact rfl | with_reducible exact ⟨rfl, rfl⟩ | with_reducible exact ⟨by omega, rfl⟩))
          | ((with_reducible apply c_fnv); (· simp [valOp, allM, closed, encE, so_t, so_k, so, setS_fr, setS_ob, newS_fr, newS_ob, refOf, kill_fr, kill_ob, init_fr, init_ob, mask_none, mask_some, upd_apply, killSV, killOb, *] <;> first | with_reducible exact rfl | with_reducible exact ⟨rfl, rfl⟩ | with_reducible exact ⟨by omega, rfl⟩))
          | ((with_reducible apply c_faddr); (· simp [valOp, encE, so_t, so_k, so, setS_fr, setS_ob, newS_fr, newS_ob, refOf, kill_fr, kill_ob, init_fr, init_ob, mask_none, mask_some, upd_apply, killSV, killOb, *] <;> first | with_reducible exact rfl | with_reducible exact ⟨rfl, rfl⟩ | with_reducible exact ⟨by omega, rfl⟩))
          | ((with_reducible apply c_iaddr); (· simp [valOp, iaddrV, idxOf, cellsN, CV.cells, encE, so_t, so_k, so, setS_fr, setS_ob, newS_fr, newS_ob, refOf, kill_fr, kill_ob, init_fr, init_ob, mask_none, mask_some, upd_apply, killSV, killOb, *] <;> first | with_reducible exact rfl | with_reducible exact ⟨rfl, rfl⟩ | with_reducible exact ⟨by omega, rfl⟩))
          | ((with_reducible apply c_aaddr); (· simp [valOp, aaddrV, idxOf, encE, so_t, so_k, so, setS_fr, setS_ob, newS_fr, newS_ob, refOf, kill_fr, kill_ob, init_fr, init_ob, mask_none, mask_some, upd_apply, killSV, killOb, *] <;> first | with_reducible exact rfl | with_reducible exact ⟨rfl, rfl⟩ | with_reducible exact ⟨by omega, rfl⟩))
          | ((with_reducible apply c_sidx); (· simp [valOp, idxOf, encE, so_t, so_k, so, setS_fr, setS_ob, newS_fr, newS_ob, refOf, kill_fr, kill_ob, init_fr, init_ob, mask_none, mask_some, upd_apply, killSV, killOb, *] <;> first | with_reducible exact rfl | with_reducible exact ⟨rfl, rfl⟩ | with_reducible exact ⟨by omega, rfl⟩))
          | ((with_reducible apply c_aidx); (· simp [valOp, idxOf, partC, encE, so_t, so_k, so, setS_fr, setS_ob, newS_fr, newS_ob, refOf, kill_fr, kill_ob, init_fr, init_ob, mask_none, mask_some, upd_apply, killSV, killOb, *] <;> first | with_reducible exact rfl | with_reducible exact ⟨rfl, rfl⟩ | with_reducible exact ⟨by omega, rfl⟩))
          | ((with_reducible apply c_load); (· simp [valOp, loadV, partC, allM, closed, CV.cells, encE, so_t, so_k, so, setS_fr, setS_ob, newS_fr, newS_ob, refOf, kill_fr, kill_ob, init_fr, init_ob, mask_none, mask_some, upd_apply, killSV, killOb, *] <;> first | with_reducible exact rfl | with_reducible exact ⟨rfl, rfl⟩ | with_reducible exact ⟨by omega, rfl⟩))
          | ((with_reducible apply c_len); (· simp [valOp, lenV, encE, so_t, so_k, so, setS_fr, setS_ob, newS_fr, newS_ob, refOf, kill_fr, kill_ob, init_fr, init_ob, mask_none, mask_some, upd_apply, killSV, killOb, *] <;> first | with_reducible exact rfl | with_reducible exact ⟨rfl, rfl⟩ | with_reducible exact ⟨by omega, rfl⟩))
          | ((with_reducible apply c_sslice); (· simp [valOp, bound, encE, so_t, so_k, so, setS_fr, setS_ob, newS_fr, newS_ob, refOf, kill_fr, kill_ob, init_fr, init_ob, mask_none, mask_some, upd_apply, killSV, killOb, *] <;> first | with_reducible exact rfl | with_reducible exact ⟨rfl, rfl⟩ | with_reducible exact ⟨by omega, rfl⟩))
          | ((with_reducible apply c_slice); (· simp [valOp, bound, cellsN, encE, so_t, so_k, so, setS_fr, setS_ob, newS_fr, newS_ob, refOf, kill_fr, kill_ob, init_fr, init_ob, mask_none, mask_some, upd_apply, killSV, killOb, *] <;> first | with_reducible exact rfl | with_reducible exact ⟨rfl, rfl⟩ | with_reducible exact ⟨by omega, rfl⟩))
          | ((with_reducible apply c_lookup); (· simp [valOp, lookV, conf, conf1, encE, so_t, so_k, so, setS_fr, setS_ob, newS_fr, newS_ob, refOf, kill_fr, kill_ob, init_fr, init_ob, mask_none, mask_some, upd_apply, killSV, killOb, *] <;> first | with_reducible exact rfl | with_reducible exact ⟨rfl, rfl⟩ | with_reducible exact ⟨by omega, rfl⟩))
          | ((with_reducible apply c_call); (· simp [allM, close, encE, so_t, so_k, so, setS_fr, setS_ob, newS_fr, newS_ob, refOf, kill_fr, kill_ob, init_fr, init_ob, mask_none, mask_some, upd_apply, killSV, killOb, *] <;> first | with_reducible exact rfl | with_reducible exact ⟨rfl, rfl⟩ | with_reducible exact ⟨by omega, rfl⟩); (· simp [encE, so_t, so_k, so, setS_fr, setS_ob, newS_fr, newS_ob, refOf, kill_fr, kill_ob, init_fr, init_ob, mask_none, mask_some, upd_apply, killSV, killOb, *] <;> first | with_reducible exact rfl | with_reducible exact ⟨rfl, rfl⟩ | with_reducible exact ⟨by omega, rfl⟩); (· simp [isC, memless, memlessL, encE, so_t, so_k, so, setS_fr, setS_ob, newS_fr, newS_ob, refOf, kill_fr, kill_ob, init_fr, init_ob, mask_none, mask_some, upd_apply, killSV, killOb, *]; done))
          | ((with_reducible apply c_callN); (· simp [allM, close, encE, so_t, so_k, so, setS_fr, setS_ob, newS_fr, newS_ob, refOf, kill_fr, kill_ob, init_fr, init_ob, mask_none, mask_some, upd_apply, killSV, killOb, *] <;> first | with_reducible exact rfl | with_reducible exact ⟨rfl, rfl⟩ | with_reducible exact ⟨by omega, rfl⟩); (· simp [encE, so_t, so_k, so, setS_fr, setS_ob, newS_fr, newS_ob, refOf, kill_fr, kill_ob, init_fr, init_ob, mask_none, mask_some, upd_apply, killSV, killOb, *] <;> first | with_reducible exact rfl | with_reducible exact ⟨rfl, rfl⟩ | with_reducible exact ⟨by omega, rfl⟩); (· simp [isC, Res.memless, memless, memlessL, encE, so_t, so_k, so, setS_fr, setS_ob, newS_fr, newS_ob, refOf, kill_fr, kill_ob, init_fr, init_ob, mask_none, mask_some, upd_apply, killSV, killOb, *]; done); (· simp [encE, so_t, so_k, so, setS_fr, setS_ob, newS_fr, newS_ob, refOf, kill_fr, kill_ob, init_fr, init_ob, mask_none, mask_some, upd_apply, killSV, killOb, *]; done))
          | ((with_reducible apply c_new); (· rfl); (· simp [newOp, allM, closed, cellsN, encE, so_t, so_k, so, setS_fr, setS_ob, newS_fr, newS_ob, refOf, kill_fr, kill_ob, init_fr, init_ob, mask_none, mask_some, upd_apply, killSV, killOb, *] <;> first | with_reducible exact rfl | with_reducible exact ⟨rfl, rfl⟩ | with_reducible exact ⟨by omega, rfl⟩); (· simp [encE, so_t, so_k, so, setS_fr, setS_ob, newS_fr, newS_ob, refOf, kill_fr, kill_ob, init_fr, init_ob, mask_none, mask_some, upd_apply, killSV, killOb, *]; done))
          | ((with_reducible apply c_eff); (· rfl); (· simp [effOp, setCells, oneS, oneC, St.set, newsOf, putC, cellsN, CV.cells, encE, so_t, so_k, so, setS_fr, setS_ob, newS_fr, newS_ob, refOf, kill_fr, kill_ob, init_fr, init_ob, mask_none, mask_some, upd_apply, killSV, killOb, *] <;> first | with_reducible exact rfl | with_reducible exact ⟨rfl, rfl⟩ | with_reducible exact ⟨by omega, rfl⟩))
          | ((with_reducible apply c_guard); (· simp [encE, so_t, so_k, so, setS_fr, setS_ob, newS_fr, newS_ob, refOf, kill_fr, kill_ob, init_fr, init_ob, mask_none, mask_some, upd_apply, killSV, killOb, *] <;> first | with_reducible exact rfl | with_reducible exact ⟨rfl, rfl⟩ | with_reducible exact ⟨by omega, rfl⟩))
          | ((with_reducible apply p_if); (· simp [encE, so_t, so_k, so, setS_fr, setS_ob, newS_fr, newS_ob, refOf, kill_fr, kill_ob, init_fr, init_ob, mask_none, mask_some, upd_apply, killSV, killOb, *] <;> first | with_reducible exact rfl | with_reducible exact ⟨rfl, rfl⟩ | with_reducible exact ⟨by omega, rfl⟩))
          | ((with_reducible apply g_split); all_goals (intro hb; try simp only [decide_eq_true_eq, decide_eq_false_iff_not, Bool.not_eq_true] at hb))
          | ((with_reducible apply k_split); all_goals (intro hb; try simp only [decide_eq_true_eq, decide_eq_false_iff_not, Bool.not_eq_true] at hb)))
        all_goals first
          | (refine fin_ret ?_; simp [resOf, allM, oneRes, packRes, close, setS_fr, wrong, wrongL, badE, badLim, *]; done)
          | (refine turn_normal (k := m - 1) (by omega) ⟨i + 1, by omega, (by simp [so_t, so_k, so, setS_fr, setS_ob, newS_fr, newS_ob, refOf, kill_fr, kill_ob, init_fr, init_ob, mask_none, mask_some, upd_apply, killSV, killOb, *]), (by simp [so_t, so_k, so, setS_fr, setS_ob, newS_fr, newS_ob, refOf, kill_fr, kill_ob, init_fr, init_ob, mask_none, mask_some, upd_apply, killSV, killOb, *]), (by simp [so_t, so_k, so, setS_fr, setS_ob, newS_fr, newS_ob, refOf, kill_fr, kill_ob, init_fr, init_ob, mask_none, mask_some, upd_apply, killSV, killOb, *]), (by simp [so_t, so_k, so, setS_fr, setS_ob, newS_fr, newS_ob, refOf, kill_fr, kill_ob, init_fr, init_ob, mask_none, mask_some, upd_apply, killSV, killOb, *]), (by simp [so_t, so_k, so, setS_fr, setS_ob, newS_fr, newS_ob, refOf, kill_fr, kill_ob, init_fr, init_ob, mask_none, mask_some, upd_apply, killSV, killOb, *]), (by simp [so_t, so_k, so, setS_fr, setS_ob, newS_fr, newS_ob, refOf, kill_fr, kill_ob, init_fr, init_ob, mask_none, mask_some, upd_apply, killSV, killOb, *]), ?_⟩; simp [wrongL, badE, *]; done)
          | skip
        all_goals trace_state
        all_goals sorry
    · have hd : es.drop i = [] := List.drop_eq_nil_of_le (by omega)
      rw [hd] at hw
      repeat' (first
        | with_reducible apply p_seq
        | with_reducible apply then_normal
        | with_reducible apply then_exit
        | with_reducible apply then_ret
        | with_reducible apply block_normal
        | with_reducible apply block_exit
        | with_reducible apply block_ret
        | with_reducible apply turn_exit
        | with_reducible apply turn_ret
        | with_reducible apply p_skip
        | with_reducible apply p_exit
        | with_reducible apply p_ret
        | with_reducible apply p_block
        | with_reducible apply p_reg0
        | with_reducible apply p_reg1
        | with_reducible apply c_nil
        | with_reducible apply g_tt
        | with_reducible apply g_ff
        | with_reducible apply g_tf
        | with_reducible apply g_ft
        | with_reducible apply g_sk
        | with_reducible apply k_t
        | with_reducible apply k_f
        | ((with_reducible apply block_past); (· decide))
        | ((with_reducible apply c_mov); (· simp [valOp, encE, so_t, so_k, so, setS_fr, setS_ob, newS_fr, newS_ob, refOf, kill_fr, kill_ob, init_fr, init_ob, mask_none, mask_some, upd_apply, killSV, killOb, *] <;> first | with_reducible exact rfl | with_reducible exact ⟨rfl, rfl⟩ | with_reducible exact ⟨by omega, rfl⟩))
        | ((with_reducible apply c_pick); (· simp [valOp, encE, so_t, so_k, so, setS_fr, setS_ob, newS_fr, newS_ob, refOf, kill_fr, kill_ob, init_fr, init_ob, mask_none, mask_some, upd_apply, killSV, killOb, *] <;> first | with_reducible exact rfl | with_reducible exact ⟨rfl, rfl⟩ | with_reducible exact ⟨by omega, rfl⟩))
        | ((with_reducible apply c_bin); (· simp [valOp, binC, binI, cmpB, binS, encE, so_t, so_k, so, setS_fr, setS_ob, newS_fr, newS_ob, refOf, kill_fr, kill_ob, init_fr, init_ob, mask_none, mask_some, upd_apply, killSV, killOb, *] <;> first | with_reducible exact rfl | with_reducible exact ⟨rfl, rfl⟩ | with_reducible exact ⟨by omega, rfl⟩))
        | ((with_reducible apply c_eqs); (· simp [valOp, eqA, eqL, eq1, encE, so_t, so_k, so, setS_fr, setS_ob, newS_fr, newS_ob, refOf, kill_fr, kill_ob, init_fr, init_ob, mask_none, mask_some, upd_apply, killSV, killOb, *] <;> first | with_reducible exact rfl | with_reducible exact ⟨rfl, rfl⟩ | with_reducible exact ⟨by omega, rfl⟩))
        | ((with_reducible apply c_beq); (· simp [valOp, encE, so_t, so_k, so, setS_fr, setS_ob, newS_fr, newS_ob, refOf, kill_fr, kill_ob, init_fr, init_ob, mask_none, mask_some, upd_apply, killSV, killOb, *] <;> first | with_reducible exact rfl | with_reducible exact ⟨rfl, rfl⟩ | with_reducible exact ⟨by omega, rfl⟩))
        | ((with_reducible apply c_isnil); (· simp [valOp, encE, so_t, so_k, so, setS_fr, setS_ob, newS_fr, newS_ob, refOf, kill_fr, kill_ob, init_fr, init_ob, mask_none, mask_some, upd_apply, killSV, killOb, *] <;> first | with_reducible exact rfl | with_reducible exact ⟨rfl, rfl⟩ | with_reducible exact ⟨by omega, rfl⟩))
        | ((with_reducible apply c_un); (· simp [valOp, unC, encE, so_t, so_k, so, setS_fr, setS_ob, newS_fr, newS_ob, refOf, kill_fr, kill_ob, init_fr, init_ob, mask_none, mask_some, upd_apply, killSV, killOb, *] <;> first | with_reducible exact rfl | with_reducible exact ⟨rfl, rfl⟩ | with_reducible exact ⟨by omega, rfl⟩))
        | ((with_reducible apply c_cvi); (· simp [valOp, encE, so_t, so_k, so, setS_fr, setS_ob, newS_fr, newS_ob, refOf, kill_fr, kill_ob, init_fr, init_ob, mask_none, mask_some, upd_apply, killSV, killOb, *] <;> first | with_reducible exact rfl | with_reducible exact ⟨rfl, rfl⟩ | with_reducible exact ⟨by omega, rfl⟩))
        | ((with_reducible apply c_cvrune); (· simp [valOp, encE, so_t, so_k, so, setS_fr, setS_ob, newS_fr, newS_ob, refOf, kill_fr, kill_ob, init_fr, init_ob, mask_none, mask_some, upd_apply, killSV, killOb, *] <;> first | with_reducible exact rfl | with_reducible exact ⟨rfl, rfl⟩ | with_reducible exact ⟨by omega, rfl⟩))
        | ((with_reducible apply c_cvid); (· simp [valOp, encE, so_t, so_k, so, setS_fr, setS_ob, newS_fr, newS_ob, refOf, kill_fr, kill_ob, init_fr, init_ob, mask_none, mask_some, upd_apply, killSV, killOb, *] <;> first | with_reducible exact rfl | with_reducible exact ⟨rfl, rfl⟩ | with_reducible exact ⟨by omega, rfl⟩))
        | ((with_reducible apply c_build); (· simp [valOp, allM, closed, fillC, cellsN, CV.cells, encE, so_t, so_k, so, setS_fr, setS_ob, newS_fr, newS_ob, refOf, kill_fr, kill_ob, init_fr, init_ob, mask_none, mask_some, upd_apply, killSV, killOb, *] <;> first | with_reducible exact rfl | with_reducible exact ⟨rfl, rfl⟩ | with_reducible exact ⟨by omega, rfl⟩))
        | ((with_reducible apply c_field); (· simp [valOp, partC, encE, so_t, so_k, so, setS_fr, setS_ob, newS_fr, newS_ob, refOf, kill_fr, kill_ob, init_fr, init_ob, mask_none, mask_some, upd_apply, killSV, killOb, *] <;> first | with_reducible exact rfl | with_reducible exact ⟨rfl, rfl⟩ | with_reducible exact ⟨by omega, rfl⟩))
        | ((with_reducible apply c_ext); (· simp [valOp, encE, so_t, so_k, so, setS_fr, setS_ob, newS_fr, newS_ob, refOf, kill_fr, kill_ob, init_fr, init_ob, mask_none, mask_some, upd_apply, killSV, killOb, *] <;> first | with_reducible exact rfl | with_reducible exact ⟨rfl, rfl⟩ | with_reducible exact ⟨by omega, rfl⟩))
        | ((with_reducible apply c_minmax); (· simp [valOp, allM, closed, minmaxC, encE, so_t, so_k, so, setS_fr, setS_ob, newS_fr, newS_ob, refOf, kill_fr, kill_ob, init_fr, init_ob, mask_none, mask_some, upd_apply, killSV, killOb, *] <;> first | with_reducible exact rfl | with_reducible exact ⟨rfl, rfl⟩ | with_reducible exact ⟨by omega, rfl⟩))
        | ((with_reducible apply c_fnv); (· simp [valOp, allM, closed, encE, so_t, so_k, so, setS_fr, setS_ob, newS_fr, newS_ob, refOf, kill_fr, kill_ob, init_fr, init_ob, mask_none, mask_some, upd_apply, killSV, killOb, *] <;> first | with_reducible exact rfl | with_reducible exact ⟨rfl, rfl⟩ | with_reducible exact ⟨by omega, rfl⟩))
        | ((with_reducible apply c_faddr); (· simp [valOp, encE, so_t, so_k, so, setS_fr, setS_ob, newS_fr, newS_ob, refOf, kill_fr, kill_ob, init_fr, init_ob, mask_none, mask_some, upd_apply, killSV, killOb, *] <;> first | with_reducible exact rfl | with_reducible exact ⟨rfl, rfl⟩ | with_reducible exact ⟨by omega, rfl⟩))
        | ((with_reducible apply c_iaddr); (· simp [valOp, iaddrV, idxOf, cellsN, CV.cells, encE, so_t, so_k, so, setS_fr, setS_ob, newS_fr, newS_ob, refOf, kill_fr, kill_ob, init_fr, init_ob, mask_none, mask_some, upd_apply, killSV, killOb, *] <;> first | with_reducible exact rfl | with_reducible exact ⟨rfl, rfl⟩ | with_reducible exact ⟨by omega, rfl⟩))
        | ((with_reducible apply c_aaddr); (· simp [valOp, aaddrV, idxOf, encE, so_t, so_k, so, setS_fr, setS_ob, newS_fr, newS_ob, refOf, kill_fr, kill_ob, init_fr, init_ob, mask_none, mask_some, upd_apply, killSV, killOb, *] <;> first | with_reducible exact rfl | with_reducible exact ⟨rfl, rfl⟩ | with_reducible exact ⟨by omega, rfl⟩))
        | ((with_reducible apply c_sidx); (· simp [valOp, idxOf, encE, so_t, so_k, so, setS_fr, setS_ob, newS_fr, newS_ob, refOf, kill_fr, kill_ob, init_fr, init_ob, mask_none, mask_some, upd_apply, killSV, killOb, *] <;> first | with_reducible exact rfl | with_reducible exact ⟨rfl, rfl⟩ | with_reducible exact ⟨by omega, rfl⟩))
        | ((with_reducible apply c_aidx); (· simp [valOp, idxOf, partC, encE, so_t, so_k, so, setS_fr, setS_ob, newS_fr, newS_ob, refOf, kill_fr, kill_ob, init_fr, init_ob, mask_none, mask_some, upd_apply, killSV, killOb, *] <;> first | with_reducible exact rfl | with_reducible exact ⟨rfl, rfl⟩ | with_reducible exact ⟨by omega, rfl⟩))
        | ((with_reducible apply c_load); (· simp [valOp, loadV, partC, allM, closed, CV.cells, encE, so_t, so_k, so, setS_fr, setS_ob, newS_fr, newS_ob, refOf, kill_fr, kill_ob, init_fr, init_ob, mask_none, mask_some, upd_apply, killSV, killOb, *] <;> first | with_reducible exact rfl | with_reducible exact ⟨rfl, rfl⟩ | with_reducible exact ⟨by omega, rfl⟩))
        | ((with_reducible apply c_len); (· simp [valOp, lenV, encE, so_t, so_k, so, setS_fr, setS_ob, newS_fr, newS_ob, refOf, kill_fr, kill_ob, init_fr, init_ob, mask_none, mask_some, upd_apply, killSV, killOb, *] <;> first | with_reducible exact rfl | with_reducible exact ⟨rfl, rfl⟩ | with_reducible exact ⟨by omega, rfl⟩))
        | ((with_reducible apply c_sslice); (· simp [valOp, bound, encE, so_t, so_k, so, setS_fr, setS_ob, newS_fr, newS_ob, refOf, kill_fr, kill_ob, init_fr, init_ob, mask_none, mask_some, upd_apply, killSV, killOb, *] <;> first | with_reducible exact rfl | with_reducible exact ⟨rfl, rfl⟩ | with_reducible exact ⟨by omega, rfl⟩))
        | ((with_reducible apply c_slice); (· simp [valOp, bound, cellsN, encE, so_t, so_k, so, setS_fr, setS_ob, newS_fr, newS_ob, refOf, kill_fr, kill_ob, init_fr, init_ob, mask_none, mask_some, upd_apply, killSV, killOb, *] <;> first | with_reducible exact rfl | with_reducible exact ⟨rfl, rfl⟩ | with_reducible exact ⟨by omega, rfl⟩))
        | ((with_reducible apply c_lookup); (· simp [valOp, lookV, conf, conf1, encE, so_t, so_k, so, setS_fr, setS_ob, newS_fr, newS_ob, refOf, kill_fr, kill_ob, init_fr, init_ob, mask_none, mask_some, upd_apply, killSV, killOb, *] <;> first | with_reducible exact rfl | with_reducible exact ⟨rfl, rfl⟩ | with_reducible exact ⟨by omega, rfl⟩))
        | ((with_reducible apply c_call); (· simp [allM, close, encE, so_t, so_k, so, setS_fr, setS_ob, newS_fr, newS_ob, refOf, kill_fr, kill_ob, init_fr, init_ob, mask_none, mask_some, upd_apply, killSV, killOb, *] <;> first | with_reducible exact rfl | with_reducible exact ⟨rfl, rfl⟩ | with_reducible exact ⟨by omega, rfl⟩); (· simp [encE, so_t, so_k, so, setS_fr, setS_ob, newS_fr, newS_ob, refOf, kill_fr, kill_ob, init_fr, init_ob, mask_none, mask_some, upd_apply, killSV, killOb, *] <;> first | with_reducible exact rfl | with_reducible exact ⟨rfl, rfl⟩ | with_reducible exact ⟨by omega, rfl⟩); (· simp [isC, memless, memlessL, encE, so_t, so_k, so, setS_fr, setS_ob, newS_fr, newS_ob, refOf, kill_fr, kill_ob, init_fr, init_ob, mask_none, mask_some, upd_apply, killSV, killOb, *]; done))
        | ((with_reducible apply c_callN); (· simp [allM, close, encE, so_t, so_k, so, setS_fr, setS_ob, newS_fr, newS_ob, refOf, kill_fr, kill_ob, init_fr, init_ob, mask_none, mask_some, upd_apply, killSV, killOb, *] <;> first | with_reducible exact rfl | with_reducible exact ⟨rfl, rfl⟩ | with_reducible exact ⟨by omega, rfl⟩); (· simp [encE, so_t, so_k, so, setS_fr, setS_ob, newS_fr, newS_ob, refOf, kill_fr, kill_ob, init_fr, init_ob, mask_none, mask_some, upd_apply, killSV, killOb, *] <;> first | with_reducible exact rfl | with_reducible exact ⟨rfl, rfl⟩ | with_reducible exact ⟨by omega, rfl⟩); (· simp [isC, Res.memless, memless, memlessL, encE, so_t, so_k, so, setS_fr, setS_ob, newS_fr, newS_ob, refOf, kill_fr, kill_ob, init_fr, init_ob, mask_none, mask_some, upd_apply, killSV, killOb, *]; done); (· simp [encE, so_t, so_k, so, setS_fr, setS_ob, newS_fr, newS_ob, refOf, kill_fr, kill_ob, init_fr, init_ob, mask_none, mask_some, upd_apply, killSV, killOb, *]; done))
        | ((with_reducible apply c_new); (· rfl); (· simp [newOp, allM, closed, cellsN, encE, so_t, so_k, so, setS_fr, setS_ob, newS_fr, newS_ob, refOf, kill_fr, kill_ob, init_fr, init_ob, mask_none, mask_some, upd_apply, killSV, killOb, *] <;> first | with_reducible exact rfl | with_reducible exact ⟨rfl, rfl⟩ | with_reducible exact ⟨by omega, rfl⟩); (· simp [encE, so_t, so_k, so, setS_fr, setS_ob, newS_fr, newS_ob, refOf, kill_fr, kill_ob, init_fr, init_ob, mask_none, mask_some, upd_apply, killSV, killOb, *]; done))
        | ((with_reducible apply c_eff); (· rfl); (· simp [effOp, setCells, oneS, oneC, St.set, newsOf, putC, cellsN, CV.cells, encE, so_t, so_k, so, setS_fr, setS_ob, newS_fr, newS_ob, refOf, kill_fr, kill_ob, init_fr, init_ob, mask_none, mask_some, upd_apply, killSV, killOb, *] <;> first | with_reducible exact rfl | with_reducible exact ⟨rfl, rfl⟩ | with_reducible exact ⟨by omega, rfl⟩))
        | ((with_reducible apply c_guard); (· simp [encE, so_t, so_k, so, setS_fr, setS_ob, newS_fr, newS_ob, refOf, kill_fr, kill_ob, init_fr, init_ob, mask_none, mask_some, upd_apply, killSV, killOb, *] <;> first | with_reducible exact rfl | with_reducible exact ⟨rfl, rfl⟩ | with_reducible exact ⟨by omega, rfl⟩))
        | ((with_reducible apply p_if); (· simp [encE, so_t, so_k, so, setS_fr, setS_ob, newS_fr, newS_ob, refOf, kill_fr, kill_ob, init_fr, init_ob, mask_none, mask_some, upd_apply, killSV, killOb, *] <;> first | with_reducible exact rfl | with_reducible exact ⟨rfl, rfl⟩ | with_reducible exact ⟨by omega, rfl⟩))
        | ((with_reducible apply g_split); all_goals (intro hb; try simp only [decide_eq_true_eq, decide_eq_false_iff_not, Bool.not_eq_true] at hb))
        | ((with_reducible apply k_split); all_goals (intro hb; try simp only [decide_eq_true_eq, decide_eq_false_iff_not, Bool.not_eq_true] at hb)))
      all_goals first
        | (refine fin_ret ?_; simp [resOf, allM, oneRes, packRes, close, setS_fr, wrong, wrongL, badE, badLim, *]; done)
        | skip
      all_goals trace_state
      all_goals sorry

theorem w19 (x y : Ent) : pwp E m19.code (fin m19.res (encE (addE x y))) (init [encE x, encE y]) := by
  unfold m19
  dsimp only
  repeat' (first
    | with_reducible apply p_seq
    | with_reducible apply then_normal
    | with_reducible apply then_exit
    | with_reducible apply then_ret
    | with_reducible apply block_normal
    | with_reducible apply block_exit
    | with_reducible apply block_ret
    | with_reducible apply turn_exit
    | with_reducible apply turn_ret
    | with_reducible apply p_skip
    | with_reducible apply p_exit
    | with_reducible apply p_ret
    | with_reducible apply p_block
    | with_reducible apply p_reg0
    | with_reducible apply p_reg1
    | with_reducible apply c_nil
    | with_reducible apply g_tt
    | with_reducible apply g_ff
    | with_reducible apply g_tf
    | with_reducible apply g_ft
    | with_reducible apply g_sk
    | with_reducible apply k_t
    | with_reducible apply k_f
    | ((with_reducible apply block_past); (· decide))
    | ((with_reducible apply c_mov); (· simp [valOp, encE, so_t, so_k, so, setS_fr, setS_ob, newS_fr, newS_ob, refOf, kill_fr, kill_ob, init_fr, init_ob, mask_none, mask_some, upd_apply, killSV, killOb, *] <;> first | with_reducible exact rfl | with_reducible exact ⟨rfl, rfl⟩ | with_reducible exact ⟨by omega, rfl⟩))
    | ((with_reducible apply c_pick); (· simp [valOp, encE, so_t, so_k, so, setS_fr, setS_ob, newS_fr, newS_ob, refOf, kill_fr, kill_ob, init_fr, init_ob, mask_none, mask_some, upd_apply, killSV, killOb, *] <;> first | with_reducible exact rfl | with_reducible exact ⟨rfl, rfl⟩ | with_reducible exact ⟨by omega, rfl⟩))
    | ((with_reducible apply c_bin); (· simp [valOp, binC, binI, cmpB, binS, encE, so_t, so_k, so, setS_fr, setS_ob, newS_fr, newS_ob, refOf, kill_fr, kill_ob, init_fr, init_ob, mask_none, mask_some, upd_apply, killSV, killOb, *] <;> first | with_reducible exact rfl | with_reducible exact ⟨rfl, rfl⟩ | with_reducible exact ⟨by omega, rfl⟩))
    | ((with_reducible apply c_eqs); (· simp [valOp, eqA, eqL, eq1, encE, so_t, so_k, so, setS_fr, setS_ob, newS_fr, newS_ob, refOf, kill_fr, kill_ob, init_fr, init_ob, mask_none, mask_some, upd_apply, killSV, killOb, *] <;> first | with_reducible exact rfl | with_reducible exact ⟨rfl, rfl⟩ | with_reducible exact ⟨by omega, rfl⟩))
    | ((with_reducible apply c_beq); (· simp [valOp, encE, so_t, so_k, so, setS_fr, setS_ob, newS_fr, newS_ob, refOf, kill_fr, kill_ob, init_fr, init_ob, mask_none, mask_some, upd_apply, killSV, killOb, *] <;> first | with_reducible exact rfl | with_reducible exact ⟨rfl, rfl⟩ | with_reducible exact ⟨by omega, rfl⟩))
    | ((with_reducible apply c_isnil); (· simp [valOp, encE, so_t, so_k, so, setS_fr, setS_ob, newS_fr, newS_ob, refOf, kill_fr, kill_ob, init_fr, init_ob, mask_none, mask_some, upd_apply, killSV, killOb, *] <;> first | with_reducible exact rfl | with_reducible exact ⟨rfl, rfl⟩ | with_reducible exact ⟨by omega, rfl⟩))
    | ((with_reducible apply c_un); (· simp [valOp, unC, encE, so_t, so_k, so, setS_fr, setS_ob, newS_fr, newS_ob, refOf, kill_fr, kill_ob, init_fr, init_ob, mask_none, mask_some, upd_apply, killSV, killOb, *] <;> first | with_reducible exact rfl | with_reducible exact ⟨rfl, rfl⟩ | with_reducible exact ⟨by omega, rfl⟩))
    | ((with_reducible apply c_cvi); (· simp [valOp, encE, so_t, so_k, so, setS_fr, setS_ob, newS_fr, newS_ob, refOf, kill_fr, kill_ob, init_fr, init_ob, mask_none, mask_some, upd_apply, killSV, killOb, *] <;> first | with_reducible exact rfl | with_reducible exact ⟨rfl, rfl⟩ | with_reducible exact ⟨by omega, rfl⟩))
    | ((with_reducible apply c_cvrune); (· simp [valOp, encE, so_t, so_k, so, setS_fr, setS_ob, newS_fr, newS_ob, refOf, kill_fr, kill_ob, init_fr, init_ob, mask_none, mask_some, upd_apply, killSV, killOb, *] <;> first | with_reducible exact rfl | with_reducible exact ⟨rfl, rfl⟩ | with_reducible exact ⟨by omega, rfl⟩))
    | ((with_reducible apply c_cvid); (· simp [valOp, encE, so_t, so_k, so, setS_fr, setS_ob, newS_fr, newS_ob, refOf, kill_fr, kill_ob, init_fr, init_ob, mask_none, mask_some, upd_apply, killSV, killOb, *] <;> first | with_reducible exact rfl | with_reducible exact ⟨rfl, rfl⟩ | with_reducible exact ⟨by omega, rfl⟩))
    | ((with_reducible apply c_build); (· simp [valOp, allM, closed, fillC, cellsN, CV.cells, encE, so_t, so_k, so, setS_fr, setS_ob, newS_fr, newS_ob, refOf, kill_fr, kill_ob, init_fr, init_ob, mask_none, mask_some, upd_apply, killSV, killOb, *] <;> first | with_reducible exact rfl | with_reducible exact ⟨rfl, rfl⟩ | with_reducible exact ⟨by omega, rfl⟩))
    | ((with_reducible apply c_field); (· simp [valOp, partC, encE, so_t, so_k, so, setS_fr, setS_ob, newS_fr, newS_ob, refOf, kill_fr, kill_ob, init_fr, init_ob, mask_none, mask_some, upd_apply, killSV, killOb, *] <;> first | with_reducible exact rfl | with_reducible exact ⟨rfl, rfl⟩ | with_reducible exact ⟨by omega, rfl⟩))
    | ((with_reducible apply c_ext); (· simp [valOp, encE, so_t, so_k, so, setS_fr, setS_ob, newS_fr, newS_ob, refOf, kill_fr, kill_ob, init_fr, init_ob, mask_none, mask_some, upd_apply, killSV, killOb, *] <;> first | with_reducible exact rfl | with_reducible exact ⟨rfl, rfl⟩ | with_reducible exact ⟨by omega, rfl⟩))
    | ((with_reducible apply c_minmax); (· simp [valOp, allM, closed, minmaxC, encE, so_t, so_k, so, setS_fr, setS_ob, newS_fr, newS_ob, refOf, kill_fr, kill_ob, init_fr, init_ob, mask_none, mask_some, upd_apply, killSV, killOb, *] <;> first | with_reducible exact rfl | with_reducible exact ⟨rfl, rfl⟩ | with_reducible exact ⟨by omega, rfl⟩))
    | ((with_reducible apply c_fnv); (· simp [valOp, allM, closed, encE, so_t, so_k, so, setS_fr, setS_ob, newS_fr, newS_ob, refOf, kill_fr, kill_ob, init_fr, init_ob, mask_none, mask_some, upd_apply, killSV, killOb, *] <;> first | with_reducible exact rfl | with_reducible exact ⟨rfl, rfl⟩ | with_reducible exact ⟨by omega, rfl⟩))
    | ((with_reducible apply c_faddr); (· simp [valOp, encE, so_t, so_k, so, setS_fr, setS_ob, newS_fr, newS_ob, refOf, kill_fr, kill_ob, init_fr, init_ob, mask_none, mask_some, upd_apply, killSV, killOb, *] <;> first | with_reducible exact rfl | with_reducible exact ⟨rfl, rfl⟩ | with_reducible exact ⟨by omega, rfl⟩))
    | ((with_reducible apply c_iaddr); (· simp [valOp, iaddrV, idxOf, cellsN, CV.cells, encE, so_t, so_k, so, setS_fr, setS_ob, newS_fr, newS_ob, refOf, kill_fr, kill_ob, init_fr, init_ob, mask_none, mask_some, upd_apply, killSV, killOb, *] <;> first | with_reducible exact rfl | with_reducible exact ⟨rfl, rfl⟩ | with_reducible exact ⟨by omega, rfl⟩))
    | ((with_reducible apply c_aaddr); (· simp [valOp, aaddrV, idxOf, encE, so_t, so_k, so, setS_fr, setS_ob, newS_fr, newS_ob, refOf, kill_fr, kill_ob, init_fr, init_ob, mask_none, mask_some, upd_apply, killSV, killOb, *] <;> first | with_reducible exact rfl | with_reducible exact ⟨rfl, rfl⟩ | with_reducible exact ⟨by omega, rfl⟩))
    | ((with_reducible apply c_sidx); (· simp [valOp, idxOf, encE, so_t, so_k, so, setS_fr, setS_ob, newS_fr, newS_ob, refOf, kill_fr, kill_ob, init_fr, init_ob, mask_none, mask_some, upd_apply, killSV, killOb, *] <;> first | with_reducible exact rfl | with_reducible exact ⟨rfl, rfl⟩ | with_reducible exact ⟨by omega, rfl⟩))
    | ((with_reducible apply c_aidx); (· simp [valOp, idxOf, partC, encE, so_t, so_k, so, setS_fr, setS_ob, newS_fr, newS_ob, refOf, kill_fr, kill_ob, init_fr, init_ob, mask_none, mask_some, upd_apply, killSV, killOb, *] <;> first | with_reducible exact rfl | with_reducible exact ⟨rfl, rfl⟩ | with_reducible exact ⟨by omega, rfl⟩))
    | ((with_reducible apply c_load); (· simp [valOp, loadV, partC, allM, closed, CV.cells, encE, so_t, so_k, so, setS_fr, setS_ob, newS_fr, newS_ob, refOf, kill_fr, kill_ob, init_fr, init_ob, mask_none, mask_some, upd_apply, killSV, killOb, *] <;> first | with_reducible exact rfl | with_reducible exact ⟨rfl, rfl⟩ | with_reducible exact ⟨by omega, rfl⟩))
    | ((with_reducible apply c_len); (· simp [valOp, lenV, encE, so_t, so_k, so, setS_fr, setS_ob, newS_fr, newS_ob, refOf, kill_fr, kill_ob, init_fr, init_ob, mask_none, mask_some, upd_apply, killSV, killOb, *] <;> first | with_reducible exact rfl | with_reducible exact ⟨rfl, rfl⟩ | with_reducible exact ⟨by omega, rfl⟩))
    | ((with_reducible apply c_sslice); (· simp [valOp, bound, encE, so_t, so_k, so, setS_fr, setS_ob, newS_fr, newS_ob, refOf, kill_fr, kill_ob, init_fr, init_ob, mask_none, mask_some, upd_apply, killSV, killOb, *] <;> first | with_reducible exact rfl | with_reducible exact ⟨rfl, rfl⟩ | with_reducible exact ⟨by omega, rfl⟩))
    | ((with_reducible apply c_slice); (· simp [valOp, bound, cellsN, encE, so_t, so_k, so, setS_fr, setS_ob, newS_fr, newS_ob, refOf, kill_fr, kill_ob, init_fr, init_ob, mask_none, mask_some, upd_apply, killSV, killOb, *] <;> first | with_reducible exact rfl | with_reducible exact ⟨rfl, rfl⟩ | with_reducible exact ⟨by omega, rfl⟩))
    | ((with_reducible apply c_lookup); (· simp [valOp, lookV, conf, conf1, encE, so_t, so_k, so, setS_fr, setS_ob, newS_fr, newS_ob, refOf, kill_fr, kill_ob, init_fr, init_ob, mask_none, mask_some, upd_apply, killSV, killOb, *] <;> first | with_reducible exact rfl | with_reducible exact ⟨rfl, rfl⟩ | with_reducible exact ⟨by omega, rfl⟩))
    | ((with_reducible apply c_call); (· simp [allM, close, encE, so_t, so_k, so, setS_fr, setS_ob, newS_fr, newS_ob, refOf, kill_fr, kill_ob, init_fr, init_ob, mask_none, mask_some, upd_apply, killSV, killOb, *] <;> first | with_reducible exact rfl | with_reducible exact ⟨rfl, rfl⟩ | with_reducible exact ⟨by omega, rfl⟩); (· simp [encE, so_t, so_k, so, setS_fr, setS_ob, newS_fr, newS_ob, refOf, kill_fr, kill_ob, init_fr, init_ob, mask_none, mask_some, upd_apply, killSV, killOb, *] <;> first | with_reducible exact rfl | with_reducible exact ⟨rfl, rfl⟩ | with_reducible exact ⟨by omega, rfl⟩); (· simp [isC, memless, memlessL, encE, so_t, so_k, so, setS_fr, setS_ob, newS_fr, newS_ob, refOf, kill_fr, kill_ob, init_fr, init_ob, mask_none, mask_some, upd_apply, killSV, killOb, *]; done))
    | ((with_reducible apply c_callN); (· simp [allM, close, encE, so_t, so_k, so, setS_fr, setS_ob, newS_fr, newS_ob, refOf, kill_fr, kill_ob, init_fr, init_ob, mask_none, mask_some, upd_apply, killSV, killOb, *] <;> first | with_reducible exact rfl | with_reducible exact ⟨rfl, rfl⟩ | with_reducible exact ⟨by omega, rfl⟩); (· simp [encE, so_t, so_k, so, setS_fr, setS_ob, newS_fr, newS_ob, refOf, kill_fr, kill_ob, init_fr, init_ob, mask_none, mask_some, upd_apply, killSV, killOb, *] <;> first | with_reducible exact rfl | with_reducible exact ⟨rfl, rfl⟩ | with_reducible exact ⟨by omega, rfl⟩); (· simp [isC, Res.memless, memless, memlessL, encE, so_t, so_k, so, setS_fr, setS_ob, newS_fr, newS_ob, refOf, kill_fr, kill_ob, init_fr, init_ob, mask_none, mask_some, upd_apply, killSV, killOb, *]; done); (· simp [encE, so_t, so_k, so, setS_fr, setS_ob, newS_fr, newS_ob, refOf, kill_fr, kill_ob, init_fr, init_ob, mask_none, mask_some, upd_apply, killSV, killOb, *]; done))
    | ((with_reducible apply c_new); (· rfl); (· simp [newOp, allM, closed, cellsN, encE, so_t, so_k, so, setS_fr, setS_ob, newS_fr, newS_ob, refOf, kill_fr, kill_ob, init_fr, init_ob, mask_none, mask_some, upd_apply, killSV, killOb, *] <;> first | with_reducible exact rfl | with_reducible exact ⟨rfl, rfl⟩ | with_reducible exact ⟨by omega, rfl⟩); (· simp [encE, so_t, so_k, so, setS_fr, setS_ob, newS_fr, newS_ob, refOf, kill_fr, kill_ob, init_fr, init_ob, mask_none, mask_some, upd_apply, killSV, killOb, *]; done))
    | ((with_reducible apply c_eff); (· rfl); (· simp [effOp, setCells, oneS, oneC, St.set, newsOf, putC, cellsN, CV.cells, encE, so_t, so_k, so, setS_fr, setS_ob, newS_fr, newS_ob, refOf, kill_fr, kill_ob, init_fr, init_ob, mask_none, mask_some, upd_apply, killSV, killOb, *] <;> first | with_reducible exact rfl | with_reducible exact ⟨rfl, rfl⟩ | with_reducible exact ⟨by omega, rfl⟩))
    | ((with_reducible apply c_guard); (· simp [encE, so_t, so_k, so, setS_fr, setS_ob, newS_fr, newS_ob, refOf, kill_fr, kill_ob, init_fr, init_ob, mask_none, mask_some, upd_apply, killSV, killOb, *] <;> first | with_reducible exact rfl | with_reducible exact ⟨rfl, rfl⟩ | with_reducible exact ⟨by omega, rfl⟩))
    | ((with_reducible apply p_if); (· simp [encE, so_t, so_k, so, setS_fr, setS_ob, newS_fr, newS_ob, refOf, kill_fr, kill_ob, init_fr, init_ob, mask_none, mask_some, upd_apply, killSV, killOb, *] <;> first | with_reducible exact rfl | with_reducible exact ⟨rfl, rfl⟩ | with_reducible exact ⟨by omega, rfl⟩))
    | ((with_reducible apply g_split); all_goals (intro hb; try simp only [decide_eq_true_eq, decide_eq_false_iff_not, Bool.not_eq_true] at hb))
    | ((with_reducible apply k_split); all_goals (intro hb; try simp only [decide_eq_true_eq, decide_eq_false_iff_not, Bool.not_eq_true] at hb)))
  all_goals (refine fin_ret ?_; simp [resOf, allM, oneRes, packRes, close, loadV, closed, encE, addE, so_t, so_k, so, setS_fr, setS_ob, newS_fr, newS_ob, refOf, kill_fr, kill_ob, init_fr, init_ob, mask_none, mask_some, upd_apply, killSV, killOb, *])


theorem monday_in {d : Int} (h : isDay d = true) : monday d ≤ d ∧ d - 6 ≤ monday d ∧ 0 ≤ weekday d := by
  unfold monday weekday
  rw [if_pos h]
  omega
theorem isDay_in {d : Int} (h : isDay d = true) : -25567 ≤ d ∧ d < 84006 := by
  simpa [isDay] using h

theorem w18 (h23 : ∀ d, E.fn 23 [.int .i64 d] = some (.val (.int .i64 (weekday d)))) (nl : Option Bool) (es : List Ent) (a b : Int) (hlen : es.length ≤ 4096) (hes : ∀ e ∈ es, okE e) (ha : 0 ≤ a ∧ a ≤ 1440) (hb : 0 ≤ b ∧ b ≤ 10080) :
    pwp E m18.code (fin m18.res (.tup [.sl (nl1 es) ((eachL a b (fun _ => 0) es).map fun p => encE p.1), .sl (nl1 es) ((eachL a b (fun _ => 0) es).map fun p => encW p.2)])) (init [.sl nl (es.map encE), .agg [.int .i64 a, .int .i64 b]]) := by
  unfold m18
  dsimp only
  repeat' (first
    | with_reducible apply p_seq
    | with_reducible apply then_normal
    | with_reducible apply then_exit
    | with_reducible apply then_ret
    | with_reducible apply block_normal
    | with_reducible apply block_exit
    | with_reducible apply block_ret
    | with_reducible apply turn_exit
    | with_reducible apply turn_ret
    | with_reducible apply p_skip
    | with_reducible apply p_exit
    | with_reducible apply p_ret
    | with_reducible apply p_block
    | with_reducible apply p_reg0
    | with_reducible apply p_reg1
    | with_reducible apply c_nil
    | with_reducible apply g_tt
    | with_reducible apply g_ff
    | with_reducible apply g_tf
    | with_reducible apply g_ft
    | with_reducible apply g_sk
    | with_reducible apply k_t
    | with_reducible apply k_f
    | ((with_reducible apply block_past); (· decide))
    | ((with_reducible apply c_mov); (· simp [valOp, so_t, so_k, so, setS_fr, setS_ob, newS_fr, newS_ob, refOf, kill_fr, kill_ob, init_fr, init_ob, mask_none, mask_some, upd_apply, killSV, killOb, *] <;> first | with_reducible exact rfl | with_reducible exact ⟨rfl, rfl⟩ | with_reducible exact ⟨by omega, rfl⟩))
    | ((with_reducible apply c_pick); (· simp [valOp, so_t, so_k, so, setS_fr, setS_ob, newS_fr, newS_ob, refOf, kill_fr, kill_ob, init_fr, init_ob, mask_none, mask_some, upd_apply, killSV, killOb, *] <;> first | with_reducible exact rfl | with_reducible exact ⟨rfl, rfl⟩ | with_reducible exact ⟨by omega, rfl⟩))
    | ((with_reducible apply c_bin); (· simp [valOp, binC, binI, cmpB, binS, so_t, so_k, so, setS_fr, setS_ob, newS_fr, newS_ob, refOf, kill_fr, kill_ob, init_fr, init_ob, mask_none, mask_some, upd_apply, killSV, killOb, *] <;> first | with_reducible exact rfl | with_reducible exact ⟨rfl, rfl⟩ | with_reducible exact ⟨by omega, rfl⟩))
    | ((with_reducible apply c_eqs); (· simp [valOp, eqA, eqL, eq1, so_t, so_k, so, setS_fr, setS_ob, newS_fr, newS_ob, refOf, kill_fr, kill_ob, init_fr, init_ob, mask_none, mask_some, upd_apply, killSV, killOb, *] <;> first | with_reducible exact rfl | with_reducible exact ⟨rfl, rfl⟩ | with_reducible exact ⟨by omega, rfl⟩))
    | ((with_reducible apply c_beq); (· simp [valOp, so_t, so_k, so, setS_fr, setS_ob, newS_fr, newS_ob, refOf, kill_fr, kill_ob, init_fr, init_ob, mask_none, mask_some, upd_apply, killSV, killOb, *] <;> first | with_reducible exact rfl | with_reducible exact ⟨rfl, rfl⟩ | with_reducible exact ⟨by omega, rfl⟩))
    | ((with_reducible apply c_isnil); (· simp [valOp, so_t, so_k, so, setS_fr, setS_ob, newS_fr, newS_ob, refOf, kill_fr, kill_ob, init_fr, init_ob, mask_none, mask_some, upd_apply, killSV, killOb, *] <;> first | with_reducible exact rfl | with_reducible exact ⟨rfl, rfl⟩ | with_reducible exact ⟨by omega, rfl⟩))
    | ((with_reducible apply c_un); (· simp [valOp, unC, so_t, so_k, so, setS_fr, setS_ob, newS_fr, newS_ob, refOf, kill_fr, kill_ob, init_fr, init_ob, mask_none, mask_some, upd_apply, killSV, killOb, *] <;> first | with_reducible exact rfl | with_reducible exact ⟨rfl, rfl⟩ | with_reducible exact ⟨by omega, rfl⟩))
    | ((with_reducible apply c_cvi); (· simp [valOp, so_t, so_k, so, setS_fr, setS_ob, newS_fr, newS_ob, refOf, kill_fr, kill_ob, init_fr, init_ob, mask_none, mask_some, upd_apply, killSV, killOb, *] <;> first | with_reducible exact rfl | with_reducible exact ⟨rfl, rfl⟩ | with_reducible exact ⟨by omega, rfl⟩))
    | ((with_reducible apply c_cvrune); (· simp [valOp, so_t, so_k, so, setS_fr, setS_ob, newS_fr, newS_ob, refOf, kill_fr, kill_ob, init_fr, init_ob, mask_none, mask_some, upd_apply, killSV, killOb, *] <;> first | with_reducible exact rfl | with_reducible exact ⟨rfl, rfl⟩ | with_reducible exact ⟨by omega, rfl⟩))
    | ((with_reducible apply c_cvid); (· simp [valOp, so_t, so_k, so, setS_fr, setS_ob, newS_fr, newS_ob, refOf, kill_fr, kill_ob, init_fr, init_ob, mask_none, mask_some, upd_apply, killSV, killOb, *] <;> first | with_reducible exact rfl | with_reducible exact ⟨rfl, rfl⟩ | with_reducible exact ⟨by omega, rfl⟩))
    | ((with_reducible apply c_build); (· simp [valOp, allM, closed, fillC, cellsN, CV.cells, so_t, so_k, so, setS_fr, setS_ob, newS_fr, newS_ob, refOf, kill_fr, kill_ob, init_fr, init_ob, mask_none, mask_some, upd_apply, killSV, killOb, *] <;> first | with_reducible exact rfl | with_reducible exact ⟨rfl, rfl⟩ | with_reducible exact ⟨by omega, rfl⟩))
    | ((with_reducible apply c_field); (· simp [valOp, partC, so_t, so_k, so, setS_fr, setS_ob, newS_fr, newS_ob, refOf, kill_fr, kill_ob, init_fr, init_ob, mask_none, mask_some, upd_apply, killSV, killOb, *] <;> first | with_reducible exact rfl | with_reducible exact ⟨rfl, rfl⟩ | with_reducible exact ⟨by omega, rfl⟩))
    | ((with_reducible apply c_ext); (· simp [valOp, so_t, so_k, so, setS_fr, setS_ob, newS_fr, newS_ob, refOf, kill_fr, kill_ob, init_fr, init_ob, mask_none, mask_some, upd_apply, killSV, killOb, *] <;> first | with_reducible exact rfl | with_reducible exact ⟨rfl, rfl⟩ | with_reducible exact ⟨by omega, rfl⟩))
    | ((with_reducible apply c_minmax); (· simp [valOp, allM, closed, minmaxC, so_t, so_k, so, setS_fr, setS_ob, newS_fr, newS_ob, refOf, kill_fr, kill_ob, init_fr, init_ob, mask_none, mask_some, upd_apply, killSV, killOb, *] <;> first | with_reducible exact rfl | with_reducible exact ⟨rfl, rfl⟩ | with_reducible exact ⟨by omega, rfl⟩))
    | ((with_reducible apply c_fnv); (· simp [valOp, allM, closed, so_t, so_k, so, setS_fr, setS_ob, newS_fr, newS_ob, refOf, kill_fr, kill_ob, init_fr, init_ob, mask_none, mask_some, upd_apply, killSV, killOb, *] <;> first | with_reducible exact rfl | with_reducible exact ⟨rfl, rfl⟩ | with_reducible exact ⟨by omega, rfl⟩))
    | ((with_reducible apply c_faddr); (· simp [valOp, so_t, so_k, so, setS_fr, setS_ob, newS_fr, newS_ob, refOf, kill_fr, kill_ob, init_fr, init_ob, mask_none, mask_some, upd_apply, killSV, killOb, *] <;> first | with_reducible exact rfl | with_reducible exact ⟨rfl, rfl⟩ | with_reducible exact ⟨by omega, rfl⟩))
    | ((with_reducible apply c_iaddr); (· simp [valOp, iaddrV, idxOf, cellsN, CV.cells, so_t, so_k, so, setS_fr, setS_ob, newS_fr, newS_ob, refOf, kill_fr, kill_ob, init_fr, init_ob, mask_none, mask_some, upd_apply, killSV, killOb, *] <;> first | with_reducible exact rfl | with_reducible exact ⟨rfl, rfl⟩ | with_reducible exact ⟨by omega, rfl⟩))
    | ((with_reducible apply c_aaddr); (· simp [valOp, aaddrV, idxOf, so_t, so_k, so, setS_fr, setS_ob, newS_fr, newS_ob, refOf, kill_fr, kill_ob, init_fr, init_ob, mask_none, mask_some, upd_apply, killSV, killOb, *] <;> first | with_reducible exact rfl | with_reducible exact ⟨rfl, rfl⟩ | with_reducible exact ⟨by omega, rfl⟩))
    | ((with_reducible apply c_sidx); (· simp [valOp, idxOf, so_t, so_k, so, setS_fr, setS_ob, newS_fr, newS_ob, refOf, kill_fr, kill_ob, init_fr, init_ob, mask_none, mask_some, upd_apply, killSV, killOb, *] <;> first | with_reducible exact rfl | with_reducible exact ⟨rfl, rfl⟩ | with_reducible exact ⟨by omega, rfl⟩))
    | ((with_reducible apply c_aidx); (· simp [valOp, idxOf, partC, so_t, so_k, so, setS_fr, setS_ob, newS_fr, newS_ob, refOf, kill_fr, kill_ob, init_fr, init_ob, mask_none, mask_some, upd_apply, killSV, killOb, *] <;> first | with_reducible exact rfl | with_reducible exact ⟨rfl, rfl⟩ | with_reducible exact ⟨by omega, rfl⟩))
    | ((with_reducible apply c_load); (· simp [valOp, loadV, partC, allM, closed, CV.cells, so_t, so_k, so, setS_fr, setS_ob, newS_fr, newS_ob, refOf, kill_fr, kill_ob, init_fr, init_ob, mask_none, mask_some, upd_apply, killSV, killOb, *] <;> first | with_reducible exact rfl | with_reducible exact ⟨rfl, rfl⟩ | with_reducible exact ⟨by omega, rfl⟩))
    | ((with_reducible apply c_len); (· simp [valOp, lenV, so_t, so_k, so, setS_fr, setS_ob, newS_fr, newS_ob, refOf, kill_fr, kill_ob, init_fr, init_ob, mask_none, mask_some, upd_apply, killSV, killOb, *] <;> first | with_reducible exact rfl | with_reducible exact ⟨rfl, rfl⟩ | with_reducible exact ⟨by omega, rfl⟩))
    | ((with_reducible apply c_sslice); (· simp [valOp, bound, so_t, so_k, so, setS_fr, setS_ob, newS_fr, newS_ob, refOf, kill_fr, kill_ob, init_fr, init_ob, mask_none, mask_some, upd_apply, killSV, killOb, *] <;> first | with_reducible exact rfl | with_reducible exact ⟨rfl, rfl⟩ | with_reducible exact ⟨by omega, rfl⟩))
    | ((with_reducible apply c_slice); (· simp [valOp, bound, cellsN, so_t, so_k, so, setS_fr, setS_ob, newS_fr, newS_ob, refOf, kill_fr, kill_ob, init_fr, init_ob, mask_none, mask_some, upd_apply, killSV, killOb, *] <;> first | with_reducible exact rfl | with_reducible exact ⟨rfl, rfl⟩ | with_reducible exact ⟨by omega, rfl⟩))
    | ((with_reducible apply c_lookup); (· simp [valOp, lookV, conf, conf1, so_t, so_k, so, setS_fr, setS_ob, newS_fr, newS_ob, refOf, kill_fr, kill_ob, init_fr, init_ob, mask_none, mask_some, upd_apply, killSV, killOb, *] <;> first | with_reducible exact rfl | with_reducible exact ⟨rfl, rfl⟩ | with_reducible exact ⟨by omega, rfl⟩))
    | ((with_reducible apply c_call); (· simp [allM, close, so_t, so_k, so, setS_fr, setS_ob, newS_fr, newS_ob, refOf, kill_fr, kill_ob, init_fr, init_ob, mask_none, mask_some, upd_apply, killSV, killOb, *] <;> first | with_reducible exact rfl | with_reducible exact ⟨rfl, rfl⟩ | with_reducible exact ⟨by omega, rfl⟩); (· simp [so_t, so_k, so, setS_fr, setS_ob, newS_fr, newS_ob, refOf, kill_fr, kill_ob, init_fr, init_ob, mask_none, mask_some, upd_apply, killSV, killOb, *] <;> first | with_reducible exact rfl | with_reducible exact ⟨rfl, rfl⟩ | with_reducible exact ⟨by omega, rfl⟩); (· simp [isC, memless, memlessL, so_t, so_k, so, setS_fr, setS_ob, newS_fr, newS_ob, refOf, kill_fr, kill_ob, init_fr, init_ob, mask_none, mask_some, upd_apply, killSV, killOb, *]; done))
    | ((with_reducible apply c_callN); (· simp [allM, close, so_t, so_k, so, setS_fr, setS_ob, newS_fr, newS_ob, refOf, kill_fr, kill_ob, init_fr, init_ob, mask_none, mask_some, upd_apply, killSV, killOb, *] <;> first | with_reducible exact rfl | with_reducible exact ⟨rfl, rfl⟩ | with_reducible exact ⟨by omega, rfl⟩); (· simp [so_t, so_k, so, setS_fr, setS_ob, newS_fr, newS_ob, refOf, kill_fr, kill_ob, init_fr, init_ob, mask_none, mask_some, upd_apply, killSV, killOb, *] <;> first | with_reducible exact rfl | with_reducible exact ⟨rfl, rfl⟩ | with_reducible exact ⟨by omega, rfl⟩); (· simp [isC, Res.memless, memless, memlessL, so_t, so_k, so, setS_fr, setS_ob, newS_fr, newS_ob, refOf, kill_fr, kill_ob, init_fr, init_ob, mask_none, mask_some, upd_apply, killSV, killOb, *]; done); (· simp [so_t, so_k, so, setS_fr, setS_ob, newS_fr, newS_ob, refOf, kill_fr, kill_ob, init_fr, init_ob, mask_none, mask_some, upd_apply, killSV, killOb, *]; done))
    | ((with_reducible apply c_new); (· rfl); (· simp [newOp, allM, closed, cellsN, so_t, so_k, so, setS_fr, setS_ob, newS_fr, newS_ob, refOf, kill_fr, kill_ob, init_fr, init_ob, mask_none, mask_some, upd_apply, killSV, killOb, *] <;> first | with_reducible exact rfl | with_reducible exact ⟨rfl, rfl⟩ | with_reducible exact ⟨by omega, rfl⟩); (· simp [so_t, so_k, so, setS_fr, setS_ob, newS_fr, newS_ob, refOf, kill_fr, kill_ob, init_fr, init_ob, mask_none, mask_some, upd_apply, killSV, killOb, *]; done))
    | ((with_reducible apply c_eff); (· rfl); (· simp [effOp, setCells, oneS, oneC, St.set, newsOf, putC, cellsN, CV.cells, so_t, so_k, so, setS_fr, setS_ob, newS_fr, newS_ob, refOf, kill_fr, kill_ob, init_fr, init_ob, mask_none, mask_some, upd_apply, killSV, killOb, *] <;> first | with_reducible exact rfl | with_reducible exact ⟨rfl, rfl⟩ | with_reducible exact ⟨by omega, rfl⟩))
    | ((with_reducible apply c_guard); (· simp [so_t, so_k, so, setS_fr, setS_ob, newS_fr, newS_ob, refOf, kill_fr, kill_ob, init_fr, init_ob, mask_none, mask_some, upd_apply, killSV, killOb, *] <;> first | with_reducible exact rfl | with_reducible exact ⟨rfl, rfl⟩ | with_reducible exact ⟨by omega, rfl⟩))
    | ((with_reducible apply p_if); (· simp [so_t, so_k, so, setS_fr, setS_ob, newS_fr, newS_ob, refOf, kill_fr, kill_ob, init_fr, init_ob, mask_none, mask_some, upd_apply, killSV, killOb, *] <;> first | with_reducible exact rfl | with_reducible exact ⟨rfl, rfl⟩ | with_reducible exact ⟨by omega, rfl⟩))
    | ((with_reducible apply g_split); all_goals (intro hb; try simp only [decide_eq_true_eq, decide_eq_false_iff_not, Bool.not_eq_true] at hb))
    | ((with_reducible apply k_split); all_goals (intro hb; try simp only [decide_eq_true_eq, decide_eq_false_iff_not, Bool.not_eq_true] at hb)))
  refine p_loop (fun m s => ∃ (i : Nat) (acc : List (Ent × Int)) (sm : Int → Int) (ks vs : List CV), i + m = es.length ∧ acc.length = i ∧ s.fr 15 = .c (.sl nl (es.map encE)) ∧ s.fr 16 = .c (.int .i64 es.length) ∧ s.fr 17 = .c (.int .i64 i) ∧ s.fr 3 = .ptr 3 0 ∧ s.ob 3 = .box [.c (.int .i64 a), .c (.int .i64 b)] ∧
    s.fr 6 = .omap 14 ∧ s.ob 14 = .map 64 (.struct [.int .i64]) (.int .i64 0) ks vs ∧ ks.length = vs.length ∧
    (i = 0 → s.fr 7 = .c (.sl (some true) []) ∧ s.fr 8 = .c (.sl (some true) [])) ∧ (i ≠ 0 → s.fr 7 = .osl 59 ∧ s.ob 59 = .arr 30 3 (acc.map fun p => encE p.1) ∧ s.fr 8 = .osl 63 ∧ s.ob 63 = .arr 58 1 (acc.map fun p => encW p.2)) ∧
    (∀ w, (look (.struct [.int .i64]) (.int .i64 0) ks vs (encW w)).1 = .int .i64 (sm w)) ∧ (∀ w, 0 ≤ sm w ∧ sm w ≤ 1440 * i) ∧ eachL a b (fun _ => 0) es = acc ++ eachL a b sm (es.drop i)) es.length
    ⟨0, [], fun _ => 0, [], [], by simp, rfl, (by simp [so_t, so_k, so, setS_fr, setS_ob, newS_fr, newS_ob, refOf, kill_fr, kill_ob, init_fr, init_ob, mask_none, mask_some, upd_apply, killSV, killOb, *]), (by simp [so_t, so_k, so, setS_fr, setS_ob, newS_fr, newS_ob, refOf, kill_fr, kill_ob, init_fr, init_ob, mask_none, mask_some, upd_apply, killSV, killOb, *]), (by simp [so_t, so_k, so, setS_fr, setS_ob, newS_fr, newS_ob, refOf, kill_fr, kill_ob, init_fr, init_ob, mask_none, mask_some, upd_apply, killSV, killOb, *]), (by simp [so_t, so_k, so, setS_fr, setS_ob, newS_fr, newS_ob, refOf, kill_fr, kill_ob, init_fr, init_ob, mask_none, mask_some, upd_apply, killSV, killOb, *]), (by simp [so_t, so_k, so, setS_fr, setS_ob, newS_fr, newS_ob, refOf, kill_fr, kill_ob, init_fr, init_ob, mask_none, mask_some, upd_apply, killSV, killOb, *]), (by simp [so_t, so_k, so, setS_fr, setS_ob, newS_fr, newS_ob, refOf, kill_fr, kill_ob, init_fr, init_ob, mask_none, mask_some, upd_apply, killSV, killOb, *]), (by simp [so_t, so_k, so, setS_fr, setS_ob, newS_fr, newS_ob, refOf, kill_fr, kill_ob, init_fr, init_ob, mask_none, mask_some, upd_apply, killSV, killOb, *]), rfl, fun _ => ⟨(by simp [so_t, so_k, so, setS_fr, setS_ob, newS_fr, newS_ob, refOf, kill_fr, kill_ob, init_fr, init_ob, mask_none, mask_some, upd_apply, killSV, killOb, *]), (by simp [so_t, so_k, so, setS_fr, setS_ob, newS_fr, newS_ob, refOf, kill_fr, kill_ob, init_fr, init_ob, mask_none, mask_some, upd_apply, killSV, killOb, *])⟩, fun h => absurd rfl h, fun w => by simp [look, kIdx], fun w => by simp, by simp⟩ ?_
  intro m s ⟨i, acc, sm, ks, vs, hm, hacc, h15, h16, h17, h3, ho3, h6, ho14, hkl, h0, h1, hlk, hsm, hsp⟩
  by_cases hi : i < es.length
  · obtain ⟨⟨d, mi, n⟩, hE⟩ : ∃ e, es[i] = e := ⟨_, rfl⟩
    have hd : es.drop i = (d, mi, n) :: es.drop (i + 1) := by rw [List.drop_eq_getElem_cons hi, hE]
    rw [hd] at hsp
    have hok : okE (d, mi, n) := hE ▸ hes _ (List.getElem_mem hi)
    obtain ⟨o1, o2, o3, o4, o5⟩ := hok
    simp only at o1 o2 o3 o4 o5
    have hmon := monday_in o1
    have hday := isDay_in o1
    have hs := hsm (monday d)
    have w1 : IntKind.i64.wrap ((i : Int) + 1) = (i : Int) + 1 := w64 _ (by omega)
    have w2 : IntKind.i64.wrap (d - weekday d) = monday d := by unfold monday at *; exact w64 _ (by omega)
    have w3 : IntKind.i64.wrap (b - sm (monday d)) = b - sm (monday d) := w64 _ (by omega)
    have w4 : IntKind.i64.wrap (sm (monday d) + min mi a) = sm (monday d) + min mi a := w64 _ (by omega)
    have w5 : IntKind.i64.wrap (mi - min (min mi a) (max (b - sm (monday d)) 0)) = mi - min (min mi a) (max (b - sm (monday d)) 0) := w64 _ (by omega)
    have w6 : IntKind.i64.wrap (mi - min mi (min a (max (b - sm (monday d)) 0))) = mi - min mi (min a (max (b - sm (monday d)) 0)) := w64 _ (by omega)
    have hl1 := hlk (monday d)
    simp only [encW] at hl1
    have HLK : ∀ w, (look (.struct [.int .i64]) (.int .i64 0) (insertK (.struct [.int .i64]) ks (encW (monday d))) (insertV (.struct [.int .i64]) (insertK (.struct [.int .i64]) ks (encW (monday d))) (insertV (.struct [.int .i64]) ks vs (encW (monday d)) (.int .i64 (sm (monday d)))) (encW (monday d)) (.int .i64 (sm (monday d) + min mi a))) (encW w)).1 = .int .i64 (if w = monday d then sm (monday d) + min mi a else sm w) := by
      intro w
      rw [look_set (encW w) hkl (by simp [encW, conf, confL, conf1]), hlk w]
      by_cases hw : w = monday d <;> simp [encW, keyEq, eqL, eq1, hw]
    have HSM : ∀ w, 0 ≤ (if w = monday d then sm (monday d) + min mi a else sm w) ∧ (if w = monday d then sm (monday d) + min mi a else sm w) ≤ 1440 * ((i + 1 : Nat) : Int) := by
      intro w
      have h2 := hsm w
      split <;> omega
    have HSP : eachL a b (fun _ => 0) es = (acc ++ [((min (min mi a) (max (b - sm (monday d)) 0), mi - min (min mi a) (max (b - sm (monday d)) 0), n), monday d)]) ++ eachL a b (fun x => if x = monday d then sm (monday d) + min mi a else sm x) (es.drop (i + 1)) := by
      rw [hsp]
      simp [eachL]
    clear hlk hsm hes hsp
    replace HLK : Hide _ := HLK
    replace HSM : Hide _ := HSM
    replace HSP : Hide _ := HSP
    by_cases hz : i = 0
    · obtain ⟨h7, h8⟩ := h0 hz
      clear h0 h1
      subst hz
      have hacc0 : acc = [] := List.eq_nil_of_length_eq_zero hacc
      subst hacc0
      have w10 : IntKind.i64.wrap 1 = 1 := by rfl
      repeat' (first
        | with_reducible apply p_seq
        | with_reducible apply then_normal
        | with_reducible apply then_exit
        | with_reducible apply then_ret
        | with_reducible apply block_normal
        | with_reducible apply block_exit
        | with_reducible apply block_ret
        | with_reducible apply turn_exit
        | with_reducible apply turn_ret
        | with_reducible apply p_skip
        | with_reducible apply p_exit
        | with_reducible apply p_ret
        | with_reducible apply p_block
        | with_reducible apply p_reg0
        | with_reducible apply p_reg1
        | with_reducible apply c_nil
        | with_reducible apply g_tt
        | with_reducible apply g_ff
        | with_reducible apply g_tf
        | with_reducible apply g_ft
        | with_reducible apply g_sk
        | with_reducible apply k_t
        | with_reducible apply k_f
        | ((with_reducible apply block_past); (· decide))
        | ((with_reducible apply c_mov); (· simp [valOp, encE, so_t, so_k, so, setS_fr, setS_ob, newS_fr, newS_ob, refOf, kill_fr, kill_ob, init_fr, init_ob, mask_none, mask_some, upd_apply, killSV, killOb, *] <;> first | with_reducible exact rfl | with_reducible exact ⟨rfl, rfl⟩ | with_reducible exact ⟨by omega, rfl⟩))
        | ((with_reducible apply c_pick); (· simp [valOp, encE, so_t, so_k, so, setS_fr, setS_ob, newS_fr, newS_ob, refOf, kill_fr, kill_ob, init_fr, init_ob, mask_none, mask_some, upd_apply, killSV, killOb, *] <;> first | with_reducible exact rfl | with_reducible exact ⟨rfl, rfl⟩ | with_reducible exact ⟨by omega, rfl⟩))
        | ((with_reducible apply c_bin); (· simp [valOp, binC, binI, cmpB, binS, encE, so_t, so_k, so, setS_fr, setS_ob, newS_fr, newS_ob, refOf, kill_fr, kill_ob, init_fr, init_ob, mask_none, mask_some, upd_apply, killSV, killOb, *] <;> first | with_reducible exact rfl | with_reducible exact ⟨rfl, rfl⟩ | with_reducible exact ⟨by omega, rfl⟩))
        | ((with_reducible apply c_eqs); (· simp [valOp, eqA, eqL, eq1, encE, so_t, so_k, so, setS_fr, setS_ob, newS_fr, newS_ob, refOf, kill_fr, kill_ob, init_fr, init_ob, mask_none, mask_some, upd_apply, killSV, killOb, *] <;> first | with_reducible exact rfl | with_reducible exact ⟨rfl, rfl⟩ | with_reducible exact ⟨by omega, rfl⟩))
        | ((with_reducible apply c_beq); (· simp [valOp, encE, so_t, so_k, so, setS_fr, setS_ob, newS_fr, newS_ob, refOf, kill_fr, kill_ob, init_fr, init_ob, mask_none, mask_some, upd_apply, killSV, killOb, *] <;> first | with_reducible exact rfl | with_reducible exact ⟨rfl, rfl⟩ | with_reducible exact ⟨by omega, rfl⟩))
        | ((with_reducible apply c_isnil); (· simp [valOp, encE, so_t, so_k, so, setS_fr, setS_ob, newS_fr, newS_ob, refOf, kill_fr, kill_ob, init_fr, init_ob, mask_none, mask_some, upd_apply, killSV, killOb, *] <;> first | with_reducible exact rfl | with_reducible exact ⟨rfl, rfl⟩ | with_reducible exact ⟨by omega, rfl⟩))
        | ((with_reducible apply c_un); (· simp [valOp, unC, encE, so_t, so_k, so, setS_fr, setS_ob, newS_fr, newS_ob, refOf, kill_fr, kill_ob, init_fr, init_ob, mask_none, mask_some, upd_apply, killSV, killOb, *] <;> first | with_reducible exact rfl | with_reducible exact ⟨rfl, rfl⟩ | with_reducible exact ⟨by omega, rfl⟩))
        | ((with_reducible apply c_cvi); (· simp [valOp, encE, so_t, so_k, so, setS_fr, setS_ob, newS_fr, newS_ob, refOf, kill_fr, kill_ob, init_fr, init_ob, mask_none, mask_some, upd_apply, killSV, killOb, *] <;> first | with_reducible exact rfl | with_reducible exact ⟨rfl, rfl⟩ | with_reducible exact ⟨by omega, rfl⟩))
        | ((with_reducible apply c_cvrune); (· simp [valOp, encE, so_t, so_k, so, setS_fr, setS_ob, newS_fr, newS_ob, refOf, kill_fr, kill_ob, init_fr, init_ob, mask_none, mask_some, upd_apply, killSV, killOb, *] <;> first | with_reducible exact rfl | with_reducible exact ⟨rfl, rfl⟩ | with_reducible exact ⟨by omega, rfl⟩))
        | ((with_reducible apply c_cvid); (· simp [valOp, encE, so_t, so_k, so, setS_fr, setS_ob, newS_fr, newS_ob, refOf, kill_fr, kill_ob, init_fr, init_ob, mask_none, mask_some, upd_apply, killSV, killOb, *] <;> first | with_reducible exact rfl | with_reducible exact ⟨rfl, rfl⟩ | with_reducible exact ⟨by omega, rfl⟩))
        | ((with_reducible apply c_build); (· simp [valOp, allM, closed, fillC, cellsN, CV.cells, encE, so_t, so_k, so, setS_fr, setS_ob, newS_fr, newS_ob, refOf, kill_fr, kill_ob, init_fr, init_ob, mask_none, mask_some, upd_apply, killSV, killOb, *] <;> first | with_reducible exact rfl | with_reducible exact ⟨rfl, rfl⟩ | with_reducible exact ⟨by omega, rfl⟩))
        | ((with_reducible apply c_field); (· simp [valOp, partC, encE, so_t, so_k, so, setS_fr, setS_ob, newS_fr, newS_ob, refOf, kill_fr, kill_ob, init_fr, init_ob, mask_none, mask_some, upd_apply, killSV, killOb, *] <;> first | with_reducible exact rfl | with_reducible exact ⟨rfl, rfl⟩ | with_reducible exact ⟨by omega, rfl⟩))
        | ((with_reducible apply c_ext); (· simp [valOp, encE, so_t, so_k, so, setS_fr, setS_ob, newS_fr, newS_ob, refOf, kill_fr, kill_ob, init_fr, init_ob, mask_none, mask_some, upd_apply, killSV, killOb, *] <;> first | with_reducible exact rfl | with_reducible exact ⟨rfl, rfl⟩ | with_reducible exact ⟨by omega, rfl⟩))
        | ((with_reducible apply c_minmax); (· simp [valOp, allM, closed, minmaxC, encE, so_t, so_k, so, setS_fr, setS_ob, newS_fr, newS_ob, refOf, kill_fr, kill_ob, init_fr, init_ob, mask_none, mask_some, upd_apply, killSV, killOb, *] <;> first | with_reducible exact rfl | with_reducible exact ⟨rfl, rfl⟩ | with_reducible exact ⟨by omega, rfl⟩))
        | ((with_reducible apply c_fnv); (· simp [valOp, allM, closed, encE, so_t, so_k, so, setS_fr, setS_ob, newS_fr, newS_ob, refOf, kill_fr, kill_ob, init_fr, init_ob, mask_none, mask_some, upd_apply, killSV, killOb, *] <;> first | with_reducible exact rfl | with_reducible exact ⟨rfl, rfl⟩ | with_reducible exact ⟨by omega, rfl⟩))
        | ((with_reducible apply c_faddr); (· simp [valOp, encE, so_t, so_k, so, setS_fr, setS_ob, newS_fr, newS_ob, refOf, kill_fr, kill_ob, init_fr, init_ob, mask_none, mask_some, upd_apply, killSV, killOb, *] <;> first | with_reducible exact rfl | with_reducible exact ⟨rfl, rfl⟩ | with_reducible exact ⟨by omega, rfl⟩))
        | ((with_reducible apply c_iaddr); (· simp [valOp, iaddrV, idxOf, cellsN, CV.cells, encE, so_t, so_k, so, setS_fr, setS_ob, newS_fr, newS_ob, refOf, kill_fr, kill_ob, init_fr, init_ob, mask_none, mask_some, upd_apply, killSV, killOb, *] <;> first | with_reducible exact rfl | with_reducible exact ⟨rfl, rfl⟩ | with_reducible exact ⟨by omega, rfl⟩))
        | ((with_reducible apply c_aaddr); (· simp [valOp, aaddrV, idxOf, encE, so_t, so_k, so, setS_fr, setS_ob, newS_fr, newS_ob, refOf, kill_fr, kill_ob, init_fr, init_ob, mask_none, mask_some, upd_apply, killSV, killOb, *] <;> first | with_reducible exact rfl | with_reducible exact ⟨rfl, rfl⟩ | with_reducible exact ⟨by omega, rfl⟩))
        | ((with_reducible apply c_sidx); (· simp [valOp, idxOf, encE, so_t, so_k, so, setS_fr, setS_ob, newS_fr, newS_ob, refOf, kill_fr, kill_ob, init_fr, init_ob, mask_none, mask_some, upd_apply, killSV, killOb, *] <;> first | with_reducible exact rfl | with_reducible exact ⟨rfl, rfl⟩ | with_reducible exact ⟨by omega, rfl⟩))
        | ((with_reducible apply c_aidx); (· simp [valOp, idxOf, partC, encE, so_t, so_k, so, setS_fr, setS_ob, newS_fr, newS_ob, refOf, kill_fr, kill_ob, init_fr, init_ob, mask_none, mask_some, upd_apply, killSV, killOb, *] <;> first | with_reducible exact rfl | with_reducible exact ⟨rfl, rfl⟩ | with_reducible exact ⟨by omega, rfl⟩))
        | ((with_reducible apply c_load); (· simp [valOp, loadV, partC, allM, closed, CV.cells, encE, so_t, so_k, so, setS_fr, setS_ob, newS_fr, newS_ob, refOf, kill_fr, kill_ob, init_fr, init_ob, mask_none, mask_some, upd_apply, killSV, killOb, *] <;> first | with_reducible exact rfl | with_reducible exact ⟨rfl, rfl⟩ | with_reducible exact ⟨by omega, rfl⟩))
        | ((with_reducible apply c_len); (· simp [valOp, lenV, encE, so_t, so_k, so, setS_fr, setS_ob, newS_fr, newS_ob, refOf, kill_fr, kill_ob, init_fr, init_ob, mask_none, mask_some, upd_apply, killSV, killOb, *] <;> first | with_reducible exact rfl | with_reducible exact ⟨rfl, rfl⟩ | with_reducible exact ⟨by omega, rfl⟩))
        | ((with_reducible apply c_sslice); (· simp [valOp, bound, encE, so_t, so_k, so, setS_fr, setS_ob, newS_fr, newS_ob, refOf, kill_fr, kill_ob, init_fr, init_ob, mask_none, mask_some, upd_apply, killSV, killOb, *] <;> first | with_reducible exact rfl | with_reducible exact ⟨rfl, rfl⟩ | with_reducible exact ⟨by omega, rfl⟩))
        | ((with_reducible apply c_slice); (· simp [valOp, bound, cellsN, encE, so_t, so_k, so, setS_fr, setS_ob, newS_fr, newS_ob, refOf, kill_fr, kill_ob, init_fr, init_ob, mask_none, mask_some, upd_apply, killSV, killOb, *] <;> first | with_reducible exact rfl | with_reducible exact ⟨rfl, rfl⟩ | with_reducible exact ⟨by omega, rfl⟩))
        | ((with_reducible apply c_lookup); (· simp [valOp, lookV, conf, conf1, encE, so_t, so_k, so, setS_fr, setS_ob, newS_fr, newS_ob, refOf, kill_fr, kill_ob, init_fr, init_ob, mask_none, mask_some, upd_apply, killSV, killOb, *] <;> first | with_reducible exact rfl | with_reducible exact ⟨rfl, rfl⟩ | with_reducible exact ⟨by omega, rfl⟩))
        | ((with_reducible apply c_call); (· simp [allM, close, encE, so_t, so_k, so, setS_fr, setS_ob, newS_fr, newS_ob, refOf, kill_fr, kill_ob, init_fr, init_ob, mask_none, mask_some, upd_apply, killSV, killOb, *] <;> first | with_reducible exact rfl | with_reducible exact ⟨rfl, rfl⟩ | with_reducible exact ⟨by omega, rfl⟩); (· simp [encE, so_t, so_k, so, setS_fr, setS_ob, newS_fr, newS_ob, refOf, kill_fr, kill_ob, init_fr, init_ob, mask_none, mask_some, upd_apply, killSV, killOb, *] <;> first | with_reducible exact rfl | with_reducible exact ⟨rfl, rfl⟩ | with_reducible exact ⟨by omega, rfl⟩); (· simp [isC, memless, memlessL, encE, so_t, so_k, so, setS_fr, setS_ob, newS_fr, newS_ob, refOf, kill_fr, kill_ob, init_fr, init_ob, mask_none, mask_some, upd_apply, killSV, killOb, *]; done))
        | ((with_reducible apply c_callN); (· simp [allM, close, encE, so_t, so_k, so, setS_fr, setS_ob, newS_fr, newS_ob, refOf, kill_fr, kill_ob, init_fr, init_ob, mask_none, mask_some, upd_apply, killSV, killOb, *] <;> first | with_reducible exact rfl | with_reducible exact ⟨rfl, rfl⟩ | with_reducible exact ⟨by omega, rfl⟩); (· simp [encE, so_t, so_k, so, setS_fr, setS_ob, newS_fr, newS_ob, refOf, kill_fr, kill_ob, init_fr, init_ob, mask_none, mask_some, upd_apply, killSV, killOb, *] <;> first | with_reducible exact rfl | with_reducible exact ⟨rfl, rfl⟩ | with_reducible exact ⟨by omega, rfl⟩); (· simp [isC, Res.memless, memless, memlessL, encE, so_t, so_k, so, setS_fr, setS_ob, newS_fr, newS_ob, refOf, kill_fr, kill_ob, init_fr, init_ob, mask_none, mask_some, upd_apply, killSV, killOb, *]; done); (· simp [encE, so_t, so_k, so, setS_fr, setS_ob, newS_fr, newS_ob, refOf, kill_fr, kill_ob, init_fr, init_ob, mask_none, mask_some, upd_apply, killSV, killOb, *]; done))
        | ((with_reducible apply c_new); (· rfl); (· simp [newOp, allM, closed, cellsN, encE, so_t, so_k, so, setS_fr, setS_ob, newS_fr, newS_ob, refOf, kill_fr, kill_ob, init_fr, init_ob, mask_none, mask_some, upd_apply, killSV, killOb, *] <;> first | with_reducible exact rfl | with_reducible exact ⟨rfl, rfl⟩ | with_reducible exact ⟨by omega, rfl⟩); (· simp [encE, so_t, so_k, so, setS_fr, setS_ob, newS_fr, newS_ob, refOf, kill_fr, kill_ob, init_fr, init_ob, mask_none, mask_some, upd_apply, killSV, killOb, *]; done))
        | ((with_reducible apply c_eff); (· rfl); (· simp [effOp, setCells, oneS, oneC, St.set, newsOf, putC, cellsN, CV.cells, encE, so_t, so_k, so, setS_fr, setS_ob, newS_fr, newS_ob, refOf, kill_fr, kill_ob, init_fr, init_ob, mask_none, mask_some, upd_apply, killSV, killOb, *] <;> first | with_reducible exact rfl | with_reducible exact ⟨rfl, rfl⟩ | with_reducible exact ⟨by omega, rfl⟩))
        | ((with_reducible apply c_guard); (· simp [encE, so_t, so_k, so, setS_fr, setS_ob, newS_fr, newS_ob, refOf, kill_fr, kill_ob, init_fr, init_ob, mask_none, mask_some, upd_apply, killSV, killOb, *] <;> first | with_reducible exact rfl | with_reducible exact ⟨rfl, rfl⟩ | with_reducible exact ⟨by omega, rfl⟩))
        | ((with_reducible apply p_if); (· simp [encE, so_t, so_k, so, setS_fr, setS_ob, newS_fr, newS_ob, refOf, kill_fr, kill_ob, init_fr, init_ob, mask_none, mask_some, upd_apply, killSV, killOb, *] <;> first | with_reducible exact rfl | with_reducible exact ⟨rfl, rfl⟩ | with_reducible exact ⟨by omega, rfl⟩))
        | ((with_reducible apply g_split); all_goals (intro hb; try simp only [decide_eq_true_eq, decide_eq_false_iff_not, Bool.not_eq_true] at hb))
        | ((with_reducible apply k_split); all_goals (intro hb; try simp only [decide_eq_true_eq, decide_eq_false_iff_not, Bool.not_eq_true] at hb)))
      · refine turn_normal (k := m - 1) (by omega) ⟨1, [((min (min mi a) (max (b - sm (monday d)) 0), mi - min (min mi a) (max (b - sm (monday d)) 0), n), monday d)], fun x => if x = monday d then sm (monday d) + min mi a else sm x,
          insertK (.struct [.int .i64]) ks (encW (monday d)), insertV (.struct [.int .i64]) (insertK (.struct [.int .i64]) ks (encW (monday d))) (insertV (.struct [.int .i64]) ks vs (encW (monday d)) (.int .i64 (sm (monday d)))) (encW (monday d)) (.int .i64 (sm (monday d) + min mi a)),
          by omega, rfl, (by simp [encE, encW, so_t, so_k, so, setS_fr, setS_ob, newS_fr, newS_ob, refOf, kill_fr, kill_ob, init_fr, init_ob, mask_none, mask_some, upd_apply, killSV, killOb, *]), (by simp [encE, encW, so_t, so_k, so, setS_fr, setS_ob, newS_fr, newS_ob, refOf, kill_fr, kill_ob, init_fr, init_ob, mask_none, mask_some, upd_apply, killSV, killOb, *]), (by simp [encE, encW, so_t, so_k, so, setS_fr, setS_ob, newS_fr, newS_ob, refOf, kill_fr, kill_ob, init_fr, init_ob, mask_none, mask_some, upd_apply, killSV, killOb, *]), (by simp [encE, encW, so_t, so_k, so, setS_fr, setS_ob, newS_fr, newS_ob, refOf, kill_fr, kill_ob, init_fr, init_ob, mask_none, mask_some, upd_apply, killSV, killOb, *]), (by simp [encE, encW, so_t, so_k, so, setS_fr, setS_ob, newS_fr, newS_ob, refOf, kill_fr, kill_ob, init_fr, init_ob, mask_none, mask_some, upd_apply, killSV, killOb, *]), (by simp [encE, encW, so_t, so_k, so, setS_fr, setS_ob, newS_fr, newS_ob, refOf, kill_fr, kill_ob, init_fr, init_ob, mask_none, mask_some, upd_apply, killSV, killOb, *]), (by simp [encE, encW, so_t, so_k, so, setS_fr, setS_ob, newS_fr, newS_ob, refOf, kill_fr, kill_ob, init_fr, init_ob, mask_none, mask_some, upd_apply, killSV, killOb, *]), insert2_len hkl (by simp [encW, conf, confL, conf1]), fun h => absurd h (by omega), fun _ => ⟨(by simp [encE, encW, so_t, so_k, so, setS_fr, setS_ob, newS_fr, newS_ob, refOf, kill_fr, kill_ob, init_fr, init_ob, mask_none, mask_some, upd_apply, killSV, killOb, *]), (by simp [encE, encW, so_t, so_k, so, setS_fr, setS_ob, newS_fr, newS_ob, refOf, kill_fr, kill_ob, init_fr, init_ob, mask_none, mask_some, upd_apply, killSV, killOb, *]), (by simp [encE, encW, so_t, so_k, so, setS_fr, setS_ob, newS_fr, newS_ob, refOf, kill_fr, kill_ob, init_fr, init_ob, mask_none, mask_some, upd_apply, killSV, killOb, *]), (by simp [encE, encW, so_t, so_k, so, setS_fr, setS_ob, newS_fr, newS_ob, refOf, kill_fr, kill_ob, init_fr, init_ob, mask_none, mask_some, upd_apply, killSV, killOb, *])⟩, HLK.out, by simpa using HSM.out, by simpa using HSP.out⟩
    · obtain ⟨h7, ho59, h8, ho63⟩ := h1 hz
      clear h0 h1
      have hc1 : (i + 1) * 24 ≤ 140737488355328 := by omega
      have hc2 : (i + 1) * 8 ≤ 140737488355328 := by omega
      have hc3 : i ≤ 4611686018427387903 := by omega
      repeat' (first
        | with_reducible apply p_seq
        | with_reducible apply then_normal
        | with_reducible apply then_exit
        | with_reducible apply then_ret
        | with_reducible apply block_normal
        | with_reducible apply block_exit
        | with_reducible apply block_ret
        | with_reducible apply turn_exit
        | with_reducible apply turn_ret
        | with_reducible apply p_skip
        | with_reducible apply p_exit
        | with_reducible apply p_ret
        | with_reducible apply p_block
        | with_reducible apply p_reg0
        | with_reducible apply p_reg1
        | with_reducible apply c_nil
        | with_reducible apply g_tt
        | with_reducible apply g_ff
        | with_reducible apply g_tf
        | with_reducible apply g_ft
        | with_reducible apply g_sk
        | with_reducible apply k_t
        | with_reducible apply k_f
        | ((with_reducible apply block_past); (· decide))
        | ((with_reducible apply c_mov); (· simp [valOp, encE, so_t, so_k, so, setS_fr, setS_ob, newS_fr, newS_ob, refOf, kill_fr, kill_ob, init_fr, init_ob, mask_none, mask_some, upd_apply, killSV, killOb, *] <;> first | with_reducible exact rfl | with_reducible exact ⟨rfl, rfl⟩ | with_reducible exact ⟨by omega, rfl⟩))
        | ((with_reducible apply c_pick); (· simp [valOp, encE, so_t, so_k, so, setS_fr, setS_ob, newS_fr, newS_ob, refOf, kill_fr, kill_ob, init_fr, init_ob, mask_none, mask_some, upd_apply, killSV, killOb, *] <;> first | with_reducible exact rfl | with_reducible exact ⟨rfl, rfl⟩ | with_reducible exact ⟨by omega, rfl⟩))
        | ((with_reducible apply c_bin); (· simp [valOp, binC, binI, cmpB, binS, encE, so_t, so_k, so, setS_fr, setS_ob, newS_fr, newS_ob, refOf, kill_fr, kill_ob, init_fr, init_ob, mask_none, mask_some, upd_apply, killSV, killOb, *] <;> first | with_reducible exact rfl | with_reducible exact ⟨rfl, rfl⟩ | with_reducible exact ⟨by omega, rfl⟩))
        | ((with_reducible apply c_eqs); (· simp [valOp, eqA, eqL, eq1, encE, so_t, so_k, so, setS_fr, setS_ob, newS_fr, newS_ob, refOf, kill_fr, kill_ob, init_fr, init_ob, mask_none, mask_some, upd_apply, killSV, killOb, *] <;> first | with_reducible exact rfl | with_reducible exact ⟨rfl, rfl⟩ | with_reducible exact ⟨by omega, rfl⟩))
        | ((with_reducible apply c_beq); (· simp [valOp, encE, so_t, so_k, so, setS_fr, setS_ob, newS_fr, newS_ob, refOf, kill_fr, kill_ob, init_fr, init_ob, mask_none, mask_some, upd_apply, killSV, killOb, *] <;> first | with_reducible exact rfl | with_reducible exact ⟨rfl, rfl⟩ | with_reducible exact ⟨by omega, rfl⟩))
        | ((with_reducible apply c_isnil); (· simp [valOp, encE, so_t, so_k, so, setS_fr, setS_ob, newS_fr, newS_ob, refOf, kill_fr, kill_ob, init_fr, init_ob, mask_none, mask_some, upd_apply, killSV, killOb, *] <;> first | with_reducible exact rfl | with_reducible exact ⟨rfl, rfl⟩ | with_reducible exact ⟨by omega, rfl⟩))
        | ((with_reducible apply c_un); (· simp [valOp, unC, encE, so_t, so_k, so, setS_fr, setS_ob, newS_fr, newS_ob, refOf, kill_fr, kill_ob, init_fr, init_ob, mask_none, mask_some, upd_apply, killSV, killOb, *] <;> first | with_reducible exact rfl | with_reducible exact ⟨rfl, rfl⟩ | with_reducible exact ⟨by omega, rfl⟩))
        | ((with_reducible apply c_cvi); (· simp [valOp, encE, so_t, so_k, so, setS_fr, setS_ob, newS_fr, newS_ob, refOf, kill_fr, kill_ob, init_fr, init_ob, mask_none, mask_some, upd_apply, killSV, killOb, *] <;> first | with_reducible exact rfl | with_reducible exact ⟨rfl, rfl⟩ | with_reducible exact ⟨by omega, rfl⟩))
        | ((with_reducible apply c_cvrune); (· simp [valOp, encE, so_t, so_k, so, setS_fr, setS_ob, newS_fr, newS_ob, refOf, kill_fr, kill_ob, init_fr, init_ob, mask_none, mask_some, upd_apply, killSV, killOb, *] <;> first | with_reducible exact rfl | with_reducible exact ⟨rfl, rfl⟩ | with_reducible exact ⟨by omega, rfl⟩))
        | ((with_reducible apply c_cvid); (· simp [valOp, encE, so_t, so_k, so, setS_fr, setS_ob, newS_fr, newS_ob, refOf, kill_fr, kill_ob, init_fr, init_ob, mask_none, mask_some, upd_apply, killSV, killOb, *] <;> first | with_reducible exact rfl | with_reducible exact ⟨rfl, rfl⟩ | with_reducible exact ⟨by omega, rfl⟩))
        | ((with_reducible apply c_build); (· simp [valOp, allM, closed, fillC, cellsN, CV.cells, encE, so_t, so_k, so, setS_fr, setS_ob, newS_fr, newS_ob, refOf, kill_fr, kill_ob, init_fr, init_ob, mask_none, mask_some, upd_apply, killSV, killOb, *] <;> first | with_reducible exact rfl | with_reducible exact ⟨rfl, rfl⟩ | with_reducible exact ⟨by omega, rfl⟩))
        | ((with_reducible apply c_field); (· simp [valOp, partC, encE, so_t, so_k, so, setS_fr, setS_ob, newS_fr, newS_ob, refOf, kill_fr, kill_ob, init_fr, init_ob, mask_none, mask_some, upd_apply, killSV, killOb, *] <;> first | with_reducible exact rfl | with_reducible exact ⟨rfl, rfl⟩ | with_reducible exact ⟨by omega, rfl⟩))
        | ((with_reducible apply c_ext); (· simp [valOp, encE, so_t, so_k, so, setS_fr, setS_ob, newS_fr, newS_ob, refOf, kill_fr, kill_ob, init_fr, init_ob, mask_none, mask_some, upd_apply, killSV, killOb, *] <;> first | with_reducible exact rfl | with_reducible exact ⟨rfl, rfl⟩ | with_reducible exact ⟨by omega, rfl⟩))
        | ((with_reducible apply c_minmax); (· simp [valOp, allM, closed, minmaxC, encE, so_t, so_k, so, setS_fr, setS_ob, newS_fr, newS_ob, refOf, kill_fr, kill_ob, init_fr, init_ob, mask_none, mask_some, upd_apply, killSV, killOb, *] <;> first | with_reducible exact rfl | with_reducible exact ⟨rfl, rfl⟩ | with_reducible exact ⟨by omega, rfl⟩))
        | ((with_reducible apply c_fnv); (· simp [valOp, allM, closed, encE, so_t, so_k, so, setS_fr, setS_ob, newS_fr, newS_ob, refOf, kill_fr, kill_ob, init_fr, init_ob, mask_none, mask_some, upd_apply, killSV, killOb, *] <;> first | with_reducible exact rfl | with_reducible exact ⟨rfl, rfl⟩ | with_reducible exact ⟨by omega, rfl⟩))
        | ((with_reducible apply c_faddr); (· simp [valOp, encE, so_t, so_k, so, setS_fr, setS_ob, newS_fr, newS_ob, refOf, kill_fr, kill_ob, init_fr, init_ob, mask_none, mask_some, upd_apply, killSV, killOb, *] <;> first | with_reducible exact rfl | with_reducible exact ⟨rfl, rfl⟩ | with_reducible exact ⟨by omega, rfl⟩))
        | ((with_reducible apply c_iaddr); (· simp [valOp, iaddrV, idxOf, cellsN, CV.cells, encE, so_t, so_k, so, setS_fr, setS_ob, newS_fr, newS_ob, refOf, kill_fr, kill_ob, init_fr, init_ob, mask_none, mask_some, upd_apply, killSV, killOb, *] <;> first | with_reducible exact rfl | with_reducible exact ⟨rfl, rfl⟩ | with_reducible exact ⟨by omega, rfl⟩))
        | ((with_reducible apply c_aaddr); (· simp [valOp, aaddrV, idxOf, encE, so_t, so_k, so, setS_fr, setS_ob, newS_fr, newS_ob, refOf, kill_fr, kill_ob, init_fr, init_ob, mask_none, mask_some, upd_apply, killSV, killOb, *] <;> first | with_reducible exact rfl | with_reducible exact ⟨rfl, rfl⟩ | with_reducible exact ⟨by omega, rfl⟩))
        | ((with_reducible apply c_sidx); (· simp [valOp, idxOf, encE, so_t, so_k, so, setS_fr, setS_ob, newS_fr, newS_ob, refOf, kill_fr, kill_ob, init_fr, init_ob, mask_none, mask_some, upd_apply, killSV, killOb, *] <;> first | with_reducible exact rfl | with_reducible exact ⟨rfl, rfl⟩ | with_reducible exact ⟨by omega, rfl⟩))
        | ((with_reducible apply c_aidx); (· simp [valOp, idxOf, partC, encE, so_t, so_k, so, setS_fr, setS_ob, newS_fr, newS_ob, refOf, kill_fr, kill_ob, init_fr, init_ob, mask_none, mask_some, upd_apply, killSV, killOb, *] <;> first | with_reducible exact rfl | with_reducible exact ⟨rfl, rfl⟩ | with_reducible exact ⟨by omega, rfl⟩))
        | ((with_reducible apply c_load); (· simp [valOp, loadV, partC, allM, closed, CV.cells, encE, so_t, so_k, so, setS_fr, setS_ob, newS_fr, newS_ob, refOf, kill_fr, kill_ob, init_fr, init_ob, mask_none, mask_some, upd_apply, killSV, killOb, *] <;> first | with_reducible exact rfl | with_reducible exact ⟨rfl, rfl⟩ | with_reducible exact ⟨by omega, rfl⟩))
        | ((with_reducible apply c_len); (· simp [valOp, lenV, encE, so_t, so_k, so, setS_fr, setS_ob, newS_fr, newS_ob, refOf, kill_fr, kill_ob, init_fr, init_ob, mask_none, mask_some, upd_apply, killSV, killOb, *] <;> first | with_reducible exact rfl | with_reducible exact ⟨rfl, rfl⟩ | with_reducible exact ⟨by omega, rfl⟩))
        | ((with_reducible apply c_sslice); (· simp [valOp, bound, encE, so_t, so_k, so, setS_fr, setS_ob, newS_fr, newS_ob, refOf, kill_fr, kill_ob, init_fr, init_ob, mask_none, mask_some, upd_apply, killSV, killOb, *] <;> first | with_reducible exact rfl | with_reducible exact ⟨rfl, rfl⟩ | with_reducible exact ⟨by omega, rfl⟩))
        | ((with_reducible apply c_slice); (· simp [valOp, bound, cellsN, encE, so_t, so_k, so, setS_fr, setS_ob, newS_fr, newS_ob, refOf, kill_fr, kill_ob, init_fr, init_ob, mask_none, mask_some, upd_apply, killSV, killOb, *] <;> first | with_reducible exact rfl | with_reducible exact ⟨rfl, rfl⟩ | with_reducible exact ⟨by omega, rfl⟩))
        | ((with_reducible apply c_lookup); (· simp [valOp, lookV, conf, conf1, encE, so_t, so_k, so, setS_fr, setS_ob, newS_fr, newS_ob, refOf, kill_fr, kill_ob, init_fr, init_ob, mask_none, mask_some, upd_apply, killSV, killOb, *] <;> first | with_reducible exact rfl | with_reducible exact ⟨rfl, rfl⟩ | with_reducible exact ⟨by omega, rfl⟩))
        | ((with_reducible apply c_call); (· simp [allM, close, encE, so_t, so_k, so, setS_fr, setS_ob, newS_fr, newS_ob, refOf, kill_fr, kill_ob, init_fr, init_ob, mask_none, mask_some, upd_apply, killSV, killOb, *] <;> first | with_reducible exact rfl | with_reducible exact ⟨rfl, rfl⟩ | with_reducible exact ⟨by omega, rfl⟩); (· simp [encE, so_t, so_k, so, setS_fr, setS_ob, newS_fr, newS_ob, refOf, kill_fr, kill_ob, init_fr, init_ob, mask_none, mask_some, upd_apply, killSV, killOb, *] <;> first | with_reducible exact rfl | with_reducible exact ⟨rfl, rfl⟩ | with_reducible exact ⟨by omega, rfl⟩); (· simp [isC, memless, memlessL, encE, so_t, so_k, so, setS_fr, setS_ob, newS_fr, newS_ob, refOf, kill_fr, kill_ob, init_fr, init_ob, mask_none, mask_some, upd_apply, killSV, killOb, *]; done))
        | ((with_reducible apply c_callN); (· simp [allM, close, encE, so_t, so_k, so, setS_fr, setS_ob, newS_fr, newS_ob, refOf, kill_fr, kill_ob, init_fr, init_ob, mask_none, mask_some, upd_apply, killSV, killOb, *] <;> first | with_reducible exact rfl | with_reducible exact ⟨rfl, rfl⟩ | with_reducible exact ⟨by omega, rfl⟩); (· simp [encE, so_t, so_k, so, setS_fr, setS_ob, newS_fr, newS_ob, refOf, kill_fr, kill_ob, init_fr, init_ob, mask_none, mask_some, upd_apply, killSV, killOb, *] <;> first | with_reducible exact rfl | with_reducible exact ⟨rfl, rfl⟩ | with_reducible exact ⟨by omega, rfl⟩); (· simp [isC, Res.memless, memless, memlessL, encE, so_t, so_k, so, setS_fr, setS_ob, newS_fr, newS_ob, refOf, kill_fr, kill_ob, init_fr, init_ob, mask_none, mask_some, upd_apply, killSV, killOb, *]; done); (· simp [encE, so_t, so_k, so, setS_fr, setS_ob, newS_fr, newS_ob, refOf, kill_fr, kill_ob, init_fr, init_ob, mask_none, mask_some, upd_apply, killSV, killOb, *]; done))
        | ((with_reducible apply c_new); (· rfl); (· simp [newOp, allM, closed, cellsN, encE, so_t, so_k, so, setS_fr, setS_ob, newS_fr, newS_ob, refOf, kill_fr, kill_ob, init_fr, init_ob, mask_none, mask_some, upd_apply, killSV, killOb, *] <;> first | with_reducible exact rfl | with_reducible exact ⟨rfl, rfl⟩ | with_reducible exact ⟨by omega, rfl⟩); (· simp [encE, so_t, so_k, so, setS_fr, setS_ob, newS_fr, newS_ob, refOf, kill_fr, kill_ob, init_fr, init_ob, mask_none, mask_some, upd_apply, killSV, killOb, *]; done))
        | ((with_reducible apply c_eff); (· rfl); (· simp [effOp, setCells, oneS, oneC, St.set, newsOf, putC, cellsN, CV.cells, encE, so_t, so_k, so, setS_fr, setS_ob, newS_fr, newS_ob, refOf, kill_fr, kill_ob, init_fr, init_ob, mask_none, mask_some, upd_apply, killSV, killOb, *] <;> first | with_reducible exact rfl | with_reducible exact ⟨rfl, rfl⟩ | with_reducible exact ⟨by omega, rfl⟩))
        | ((with_reducible apply c_guard); (· simp [encE, so_t, so_k, so, setS_fr, setS_ob, newS_fr, newS_ob, refOf, kill_fr, kill_ob, init_fr, init_ob, mask_none, mask_some, upd_apply, killSV, killOb, *] <;> first | with_reducible exact rfl | with_reducible exact ⟨rfl, rfl⟩ | with_reducible exact ⟨by omega, rfl⟩))
        | ((with_reducible apply p_if); (· simp [encE, so_t, so_k, so, setS_fr, setS_ob, newS_fr, newS_ob, refOf, kill_fr, kill_ob, init_fr, init_ob, mask_none, mask_some, upd_apply, killSV, killOb, *] <;> first | with_reducible exact rfl | with_reducible exact ⟨rfl, rfl⟩ | with_reducible exact ⟨by omega, rfl⟩))
        | ((with_reducible apply g_split); all_goals (intro hb; try simp only [decide_eq_true_eq, decide_eq_false_iff_not, Bool.not_eq_true] at hb))
        | ((with_reducible apply k_split); all_goals (intro hb; try simp only [decide_eq_true_eq, decide_eq_false_iff_not, Bool.not_eq_true] at hb)))
      · refine turn_normal (k := m - 1) (by omega) ⟨i + 1, acc ++ [((min (min mi a) (max (b - sm (monday d)) 0), mi - min (min mi a) (max (b - sm (monday d)) 0), n), monday d)], fun x => if x = monday d then sm (monday d) + min mi a else sm x,
          insertK (.struct [.int .i64]) ks (encW (monday d)), insertV (.struct [.int .i64]) (insertK (.struct [.int .i64]) ks (encW (monday d))) (insertV (.struct [.int .i64]) ks vs (encW (monday d)) (.int .i64 (sm (monday d)))) (encW (monday d)) (.int .i64 (sm (monday d) + min mi a)),
          by omega, by simp [hacc], (by simp [encE, encW, so_t, so_k, so, setS_fr, setS_ob, newS_fr, newS_ob, refOf, kill_fr, kill_ob, init_fr, init_ob, mask_none, mask_some, upd_apply, killSV, killOb, *]), (by simp [encE, encW, so_t, so_k, so, setS_fr, setS_ob, newS_fr, newS_ob, refOf, kill_fr, kill_ob, init_fr, init_ob, mask_none, mask_some, upd_apply, killSV, killOb, *]), (by simp [encE, encW, so_t, so_k, so, setS_fr, setS_ob, newS_fr, newS_ob, refOf, kill_fr, kill_ob, init_fr, init_ob, mask_none, mask_some, upd_apply, killSV, killOb, *]), (by simp [encE, encW, so_t, so_k, so, setS_fr, setS_ob, newS_fr, newS_ob, refOf, kill_fr, kill_ob, init_fr, init_ob, mask_none, mask_some, upd_apply, killSV, killOb, *]), (by simp [encE, encW, so_t, so_k, so, setS_fr, setS_ob, newS_fr, newS_ob, refOf, kill_fr, kill_ob, init_fr, init_ob, mask_none, mask_some, upd_apply, killSV, killOb, *]), (by simp [encE, encW, so_t, so_k, so, setS_fr, setS_ob, newS_fr, newS_ob, refOf, kill_fr, kill_ob, init_fr, init_ob, mask_none, mask_some, upd_apply, killSV, killOb, *]), (by simp [encE, encW, so_t, so_k, so, setS_fr, setS_ob, newS_fr, newS_ob, refOf, kill_fr, kill_ob, init_fr, init_ob, mask_none, mask_some, upd_apply, killSV, killOb, *]), insert2_len hkl (by simp [encW, conf, confL, conf1]), fun h => absurd h (by omega), fun _ => ⟨(by simp [encE, encW, so_t, so_k, so, setS_fr, setS_ob, newS_fr, newS_ob, refOf, kill_fr, kill_ob, init_fr, init_ob, mask_none, mask_some, upd_apply, killSV, killOb, *]), (by simp [encE, encW, so_t, so_k, so, setS_fr, setS_ob, newS_fr, newS_ob, refOf, kill_fr, kill_ob, init_fr, init_ob, mask_none, mask_some, upd_apply, killSV, killOb, *]), (by simp [encE, encW, so_t, so_k, so, setS_fr, setS_ob, newS_fr, newS_ob, refOf, kill_fr, kill_ob, init_fr, init_ob, mask_none, mask_some, upd_apply, killSV, killOb, *]), (by simp [encE, encW, so_t, so_k, so, setS_fr, setS_ob, newS_fr, newS_ob, refOf, kill_fr, kill_ob, init_fr, init_ob, mask_none, mask_some, upd_apply, killSV, killOb, *])⟩, HLK.out, HSM.out, HSP.out⟩
  · have hd : es.drop i = [] := List.drop_eq_nil_of_le (by omega)
    rw [hd] at hsp
    have hin : i = es.length := by omega
    simp only [eachL, List.append_nil] at hsp
    by_cases hz : i = 0
    · obtain ⟨h7, h8⟩ := h0 hz
      clear h0 h1
      have hes0 : es = [] := List.eq_nil_of_length_eq_zero (by omega)
      rw [hsp]
      have hacc0 : acc = [] := List.eq_nil_of_length_eq_zero (by omega)
      clear hsp
      subst hacc0
      subst hes0
      repeat' (first
        | with_reducible apply p_seq
        | with_reducible apply then_normal
        | with_reducible apply then_exit
        | with_reducible apply then_ret
        | with_reducible apply block_normal
        | with_reducible apply block_exit
        | with_reducible apply block_ret
        | with_reducible apply turn_exit
        | with_reducible apply turn_ret
        | with_reducible apply p_skip
        | with_reducible apply p_exit
        | with_reducible apply p_ret
        | with_reducible apply p_block
        | with_reducible apply p_reg0
        | with_reducible apply p_reg1
        | with_reducible apply c_nil
        | with_reducible apply g_tt
        | with_reducible apply g_ff
        | with_reducible apply g_tf
        | with_reducible apply g_ft
        | with_reducible apply g_sk
        | with_reducible apply k_t
        | with_reducible apply k_f
        | ((with_reducible apply block_past); (· decide))
        | ((with_reducible apply c_mov); (· simp [valOp, encE, so_t, so_k, so, setS_fr, setS_ob, newS_fr, newS_ob, refOf, kill_fr, kill_ob, init_fr, init_ob, mask_none, mask_some, upd_apply, killSV, killOb, *] <;> first | with_reducible exact rfl | with_reducible exact ⟨rfl, rfl⟩ | with_reducible exact ⟨by omega, rfl⟩))
        | ((with_reducible apply c_pick); (· simp [valOp, encE, so_t, so_k, so, setS_fr, setS_ob, newS_fr, newS_ob, refOf, kill_fr, kill_ob, init_fr, init_ob, mask_none, mask_some, upd_apply, killSV, killOb, *] <;> first | with_reducible exact rfl | with_reducible exact ⟨rfl, rfl⟩ | with_reducible exact ⟨by omega, rfl⟩))
        | ((with_reducible apply c_bin); (· simp [valOp, binC, binI, cmpB, binS, encE, so_t, so_k, so, setS_fr, setS_ob, newS_fr, newS_ob, refOf, kill_fr, kill_ob, init_fr, init_ob, mask_none, mask_some, upd_apply, killSV, killOb, *] <;> first | with_reducible exact rfl | with_reducible exact ⟨rfl, rfl⟩ | with_reducible exact ⟨by omega, rfl⟩))
        | ((with_reducible apply c_eqs); (· simp [valOp, eqA, eqL, eq1, encE, so_t, so_k, so, setS_fr, setS_ob, newS_fr, newS_ob, refOf, kill_fr, kill_ob, init_fr, init_ob, mask_none, mask_some, upd_apply, killSV, killOb, *] <;> first | with_reducible exact rfl | with_reducible exact ⟨rfl, rfl⟩ | with_reducible exact ⟨by omega, rfl⟩))
        | ((with_reducible apply c_beq); (· simp [valOp, encE, so_t, so_k, so, setS_fr, setS_ob, newS_fr, newS_ob, refOf, kill_fr, kill_ob, init_fr, init_ob, mask_none, mask_some, upd_apply, killSV, killOb, *] <;> first | with_reducible exact rfl | with_reducible exact ⟨rfl, rfl⟩ | with_reducible exact ⟨by omega, rfl⟩))
        | ((with_reducible apply c_isnil); (· simp [valOp, encE, so_t, so_k, so, setS_fr, setS_ob, newS_fr, newS_ob, refOf, kill_fr, kill_ob, init_fr, init_ob, mask_none, mask_some, upd_apply, killSV, killOb, *] <;> first | with_reducible exact rfl | with_reducible exact ⟨rfl, rfl⟩ | with_reducible exact ⟨by omega, rfl⟩))
        | ((with_reducible apply c_un); (· simp [valOp, unC, encE, so_t, so_k, so, setS_fr, setS_ob, newS_fr, newS_ob, refOf, kill_fr, kill_ob, init_fr, init_ob, mask_none, mask_some, upd_apply, killSV, killOb, *] <;> first | with_reducible exact rfl | with_reducible exact ⟨rfl, rfl⟩ | with_reducible exact ⟨by omega, rfl⟩))
        | ((with_reducible apply c_cvi); (· simp [valOp, encE, so_t, so_k, so, setS_fr, setS_ob, newS_fr, newS_ob, refOf, kill_fr, kill_ob, init_fr, init_ob, mask_none, mask_some, upd_apply, killSV, killOb, *] <;> first | with_reducible exact rfl | with_reducible exact ⟨rfl, rfl⟩ | with_reducible exact ⟨by omega, rfl⟩))
        | ((with_reducible apply c_cvrune); (· simp [valOp, encE, so_t, so_k, so, setS_fr, setS_ob, newS_fr, newS_ob, refOf, kill_fr, kill_ob, init_fr, init_ob, mask_none, mask_some, upd_apply, killSV, killOb, *] <;> first | with_reducible exact rfl | with_reducible exact ⟨rfl, rfl⟩ | with_reducible exact ⟨by omega, rfl⟩))
        | ((with_reducible apply c_cvid); (· simp [valOp, encE, so_t, so_k, so, setS_fr, setS_ob, newS_fr, newS_ob, refOf, kill_fr, kill_ob, init_fr, init_ob, mask_none, mask_some, upd_apply, killSV, killOb, *] <;> first | with_reducible exact rfl | with_reducible exact ⟨rfl, rfl⟩ | with_reducible exact ⟨by omega, rfl⟩))
        | ((with_reducible apply c_build); (· simp [valOp, allM, closed, fillC, cellsN, CV.cells, encE, so_t, so_k, so, setS_fr, setS_ob, newS_fr, newS_ob, refOf, kill_fr, kill_ob, init_fr, init_ob, mask_none, mask_some, upd_apply, killSV, killOb, *] <;> first | with_reducible exact rfl | with_reducible exact ⟨rfl, rfl⟩ | with_reducible exact ⟨by omega, rfl⟩))
        | ((with_reducible apply c_field); (· simp [valOp, partC, encE, so_t, so_k, so, setS_fr, setS_ob, newS_fr, newS_ob, refOf, kill_fr, kill_ob, init_fr, init_ob, mask_none, mask_some, upd_apply, killSV, killOb, *] <;> first | with_reducible exact rfl | with_reducible exact ⟨rfl, rfl⟩ | with_reducible exact ⟨by omega, rfl⟩))
        | ((with_reducible apply c_ext); (· simp [valOp, encE, so_t, so_k, so, setS_fr, setS_ob, newS_fr, newS_ob, refOf, kill_fr, kill_ob, init_fr, init_ob, mask_none, mask_some, upd_apply, killSV, killOb, *] <;> first | with_reducible exact rfl | with_reducible exact ⟨rfl, rfl⟩ | with_reducible exact ⟨by omega, rfl⟩))
        | ((with_reducible apply c_minmax); (· simp [valOp, allM, closed, minmaxC, encE, so_t, so_k, so, setS_fr, setS_ob, newS_fr, newS_ob, refOf, kill_fr, kill_ob, init_fr, init_ob, mask_none, mask_some, upd_apply, killSV, killOb, *] <;> first | with_reducible exact rfl | with_reducible exact ⟨rfl, rfl⟩ | with_reducible exact ⟨by omega, rfl⟩))
        | ((with_reducible apply c_fnv); (· simp [valOp, allM, closed, encE, so_t, so_k, so, setS_fr, setS_ob, newS_fr, newS_ob, refOf, kill_fr, kill_ob, init_fr, init_ob, mask_none, mask_some, upd_apply, killSV, killOb, *] <;> first | with_reducible exact rfl | with_reducible exact ⟨rfl, rfl⟩ | with_reducible exact ⟨by omega, rfl⟩))
        | ((with_reducible apply c_faddr); (· simp [valOp, encE, so_t, so_k, so, setS_fr, setS_ob, newS_fr, newS_ob, refOf, kill_fr, kill_ob, init_fr, init_ob, mask_none, mask_some, upd_apply, killSV, killOb, *] <;> first | with_reducible exact rfl | with_reducible exact ⟨rfl, rfl⟩ | with_reducible exact ⟨by omega, rfl⟩))
        | ((with_reducible apply c_iaddr); (· simp [valOp, iaddrV, idxOf, cellsN, CV.cells, encE, so_t, so_k, so, setS_fr, setS_ob, newS_fr, newS_ob, refOf, kill_fr, kill_ob, init_fr, init_ob, mask_none, mask_some, upd_apply, killSV, killOb, *] <;> first | with_reducible exact rfl | with_reducible exact ⟨rfl, rfl⟩ | with_reducible exact ⟨by omega, rfl⟩))
        | ((with_reducible apply c_aaddr); (· simp [valOp, aaddrV, idxOf, encE, so_t, so_k, so, setS_fr, setS_ob, newS_fr, newS_ob, refOf, kill_fr, kill_ob, init_fr, init_ob, mask_none, mask_some, upd_apply, killSV, killOb, *] <;> first | with_reducible exact rfl | with_reducible exact ⟨rfl, rfl⟩ | with_reducible exact ⟨by omega, rfl⟩))
        | ((with_reducible apply c_sidx); (· simp [valOp, idxOf, encE, so_t, so_k, so, setS_fr, setS_ob, newS_fr, newS_ob, refOf, kill_fr, kill_ob, init_fr, init_ob, mask_none, mask_some, upd_apply, killSV, killOb, *] <;> first | with_reducible exact rfl | with_reducible exact ⟨rfl, rfl⟩ | with_reducible exact ⟨by omega, rfl⟩))
        | ((with_reducible apply c_aidx); (· simp [valOp, idxOf, partC, encE, so_t, so_k, so, setS_fr, setS_ob, newS_fr, newS_ob, refOf, kill_fr, kill_ob, init_fr, init_ob, mask_none, mask_some, upd_apply, killSV, killOb, *] <;> first | with_reducible exact rfl | with_reducible exact ⟨rfl, rfl⟩ | with_reducible exact ⟨by omega, rfl⟩))
        | ((with_reducible apply c_load); (· simp [valOp, loadV, partC, allM, closed, CV.cells, encE, so_t, so_k, so, setS_fr, setS_ob, newS_fr, newS_ob, refOf, kill_fr, kill_ob, init_fr, init_ob, mask_none, mask_some, upd_apply, killSV, killOb, *] <;> first | with_reducible exact rfl | with_reducible exact ⟨rfl, rfl⟩ | with_reducible exact ⟨by omega, rfl⟩))
        | ((with_reducible apply c_len); (· simp [valOp, lenV, encE, so_t, so_k, so, setS_fr, setS_ob, newS_fr, newS_ob, refOf, kill_fr, kill_ob, init_fr, init_ob, mask_none, mask_some, upd_apply, killSV, killOb, *] <;> first | with_reducible exact rfl | with_reducible exact ⟨rfl, rfl⟩ | with_reducible exact ⟨by omega, rfl⟩))
        | ((with_reducible apply c_sslice); (· simp [valOp, bound, encE, so_t, so_k, so, setS_fr, setS_ob, newS_fr, newS_ob, refOf, kill_fr, kill_ob, init_fr, init_ob, mask_none, mask_some, upd_apply, killSV, killOb, *] <;> first | with_reducible exact rfl | with_reducible exact ⟨rfl, rfl⟩ | with_reducible exact ⟨by omega, rfl⟩))
        | ((with_reducible apply c_slice); (· simp [valOp, bound, cellsN, encE, so_t, so_k, so, setS_fr, setS_ob, newS_fr, newS_ob, refOf, kill_fr, kill_ob, init_fr, init_ob, mask_none, mask_some, upd_apply, killSV, killOb, *] <;> first | with_reducible exact rfl | with_reducible exact ⟨rfl, rfl⟩ | with_reducible exact ⟨by omega, rfl⟩))
        | ((with_reducible apply c_lookup); (· simp [valOp, lookV, conf, conf1, encE, so_t, so_k, so, setS_fr, setS_ob, newS_fr, newS_ob, refOf, kill_fr, kill_ob, init_fr, init_ob, mask_none, mask_some, upd_apply, killSV, killOb, *] <;> first | with_reducible exact rfl | with_reducible exact ⟨rfl, rfl⟩ | with_reducible exact ⟨by omega, rfl⟩))
        | ((with_reducible apply c_call); (· simp [allM, close, encE, so_t, so_k, so, setS_fr, setS_ob, newS_fr, newS_ob, refOf, kill_fr, kill_ob, init_fr, init_ob, mask_none, mask_some, upd_apply, killSV, killOb, *] <;> first | with_reducible exact rfl | with_reducible exact ⟨rfl, rfl⟩ | with_reducible exact ⟨by omega, rfl⟩); (· simp [encE, so_t, so_k, so, setS_fr, setS_ob, newS_fr, newS_ob, refOf, kill_fr, kill_ob, init_fr, init_ob, mask_none, mask_some, upd_apply, killSV, killOb, *] <;> first | with_reducible exact rfl | with_reducible exact ⟨rfl, rfl⟩ | with_reducible exact ⟨by omega, rfl⟩); (· simp [isC, memless, memlessL, encE, so_t, so_k, so, setS_fr, setS_ob, newS_fr, newS_ob, refOf, kill_fr, kill_ob, init_fr, init_ob, mask_none, mask_some, upd_apply, killSV, killOb, *]; done))
        | ((with_reducible apply c_callN); (· simp [allM, close, encE, so_t, so_k, so, setS_fr, setS_ob, newS_fr, newS_ob, refOf, kill_fr, kill_ob, init_fr, init_ob, mask_none, mask_some, upd_apply, killSV, killOb, *] <;> first | with_reducible exact rfl | with_reducible exact ⟨rfl, rfl⟩ | with_reducible exact ⟨by omega, rfl⟩); (· simp [encE, so_t, so_k, so, setS_fr, setS_ob, newS_fr, newS_ob, refOf, kill_fr, kill_ob, init_fr, init_ob, mask_none, mask_some, upd_apply, killSV, killOb, *] <;> first | with_reducible exact rfl | with_reducible exact ⟨rfl, rfl⟩ | with_reducible exact ⟨by omega, rfl⟩); (· simp [isC, Res.memless, memless, memlessL, encE, so_t, so_k, so, setS_fr, setS_ob, newS_fr, newS_ob, refOf, kill_fr, kill_ob, init_fr, init_ob, mask_none, mask_some, upd_apply, killSV, killOb, *]; done); (· simp [encE, so_t, so_k, so, setS_fr, setS_ob, newS_fr, newS_ob, refOf, kill_fr, kill_ob, init_fr, init_ob, mask_none, mask_some, upd_apply, killSV, killOb, *]; done))
        | ((with_reducible apply c_new); (· rfl); (· simp [newOp, allM, closed, cellsN, encE, so_t, so_k, so, setS_fr, setS_ob, newS_fr, newS_ob, refOf, kill_fr, kill_ob, init_fr, init_ob, mask_none, mask_some, upd_apply, killSV, killOb, *] <;> first | with_reducible exact rfl | with_reducible exact ⟨rfl, rfl⟩ | with_reducible exact ⟨by omega, rfl⟩); (· simp [encE, so_t, so_k, so, setS_fr, setS_ob, newS_fr, newS_ob, refOf, kill_fr, kill_ob, init_fr, init_ob, mask_none, mask_some, upd_apply, killSV, killOb, *]; done))
        | ((with_reducible apply c_eff); (· rfl); (· simp [effOp, setCells, oneS, oneC, St.set, newsOf, putC, cellsN, CV.cells, encE, so_t, so_k, so, setS_fr, setS_ob, newS_fr, newS_ob, refOf, kill_fr, kill_ob, init_fr, init_ob, mask_none, mask_some, upd_apply, killSV, killOb, *] <;> first | with_reducible exact rfl | with_reducible exact ⟨rfl, rfl⟩ | with_reducible exact ⟨by omega, rfl⟩))
        | ((with_reducible apply c_guard); (· simp [encE, so_t, so_k, so, setS_fr, setS_ob, newS_fr, newS_ob, refOf, kill_fr, kill_ob, init_fr, init_ob, mask_none, mask_some, upd_apply, killSV, killOb, *] <;> first | with_reducible exact rfl | with_reducible exact ⟨rfl, rfl⟩ | with_reducible exact ⟨by omega, rfl⟩))
        | ((with_reducible apply p_if); (· simp [encE, so_t, so_k, so, setS_fr, setS_ob, newS_fr, newS_ob, refOf, kill_fr, kill_ob, init_fr, init_ob, mask_none, mask_some, upd_apply, killSV, killOb, *] <;> first | with_reducible exact rfl | with_reducible exact ⟨rfl, rfl⟩ | with_reducible exact ⟨by omega, rfl⟩))
        | ((with_reducible apply g_split); all_goals (intro hb; try simp only [decide_eq_true_eq, decide_eq_false_iff_not, Bool.not_eq_true] at hb))
        | ((with_reducible apply k_split); all_goals (intro hb; try simp only [decide_eq_true_eq, decide_eq_false_iff_not, Bool.not_eq_true] at hb)))
      all_goals (refine fin_ret ?_; simp [resOf, allM, oneRes, packRes, close, nl1, so_t, so_k, so, setS_fr, setS_ob, newS_fr, newS_ob, refOf, kill_fr, kill_ob, init_fr, init_ob, mask_none, mask_some, upd_apply, killSV, killOb, *])
    · obtain ⟨h7, ho59, h8, ho63⟩ := h1 hz
      clear h0 h1
      rw [hsp]
      have hne : es ≠ [] := by intro h; subst h; exact hz hin
      clear hsp hes hlk hsm
      repeat' (first
        | with_reducible apply p_seq
        | with_reducible apply then_normal
        | with_reducible apply then_exit
        | with_reducible apply then_ret
        | with_reducible apply block_normal
        | with_reducible apply block_exit
        | with_reducible apply block_ret
        | with_reducible apply turn_exit
        | with_reducible apply turn_ret
        | with_reducible apply p_skip
        | with_reducible apply p_exit
        | with_reducible apply p_ret
        | with_reducible apply p_block
        | with_reducible apply p_reg0
        | with_reducible apply p_reg1
        | with_reducible apply c_nil
        | with_reducible apply g_tt
        | with_reducible apply g_ff
        | with_reducible apply g_tf
        | with_reducible apply g_ft
        | with_reducible apply g_sk
        | with_reducible apply k_t
        | with_reducible apply k_f
        | ((with_reducible apply block_past); (· decide))
        | ((with_reducible apply c_mov); (· simp [valOp, encE, so_t, so_k, so, setS_fr, setS_ob, newS_fr, newS_ob, refOf, kill_fr, kill_ob, init_fr, init_ob, mask_none, mask_some, upd_apply, killSV, killOb, *] <;> first | with_reducible exact rfl | with_reducible exact ⟨rfl, rfl⟩ | with_reducible exact ⟨by omega, rfl⟩))
        | ((with_reducible apply c_pick); (· simp [valOp, encE, so_t, so_k, so, setS_fr, setS_ob, newS_fr, newS_ob, refOf, kill_fr, kill_ob, init_fr, init_ob, mask_none, mask_some, upd_apply, killSV, killOb, *] <;> first | with_reducible exact rfl | with_reducible exact ⟨rfl, rfl⟩ | with_reducible exact ⟨by omega, rfl⟩))
        | ((with_reducible apply c_bin); (· simp [valOp, binC, binI, cmpB, binS, encE, so_t, so_k, so, setS_fr, setS_ob, newS_fr, newS_ob, refOf, kill_fr, kill_ob, init_fr, init_ob, mask_none, mask_some, upd_apply, killSV, killOb, *] <;> first | with_reducible exact rfl | with_reducible exact ⟨rfl, rfl⟩ | with_reducible exact ⟨by omega, rfl⟩))
        | ((with_reducible apply c_eqs); (· simp [valOp, eqA, eqL, eq1, encE, so_t, so_k, so, setS_fr, setS_ob, newS_fr, newS_ob, refOf, kill_fr, kill_ob, init_fr, init_ob, mask_none, mask_some, upd_apply, killSV, killOb, *] <;> first | with_reducible exact rfl | with_reducible exact ⟨rfl, rfl⟩ | with_reducible exact ⟨by omega, rfl⟩))
        | ((with_reducible apply c_beq); (· simp [valOp, encE, so_t, so_k, so, setS_fr, setS_ob, newS_fr, newS_ob, refOf, kill_fr, kill_ob, init_fr, init_ob, mask_none, mask_some, upd_apply, killSV, killOb, *] <;> first | with_reducible exact rfl | with_reducible exact ⟨rfl, rfl⟩ | with_reducible exact ⟨by omega, rfl⟩))
        | ((with_reducible apply c_isnil); (· simp [valOp, encE, so_t, so_k, so, setS_fr, setS_ob, newS_fr, newS_ob, refOf, kill_fr, kill_ob, init_fr, init_ob, mask_none, mask_some, upd_apply, killSV, killOb, *] <;> first | with_reducible exact rfl | with_reducible exact ⟨rfl, rfl⟩ | with_reducible exact ⟨by omega, rfl⟩))
        | ((with_reducible apply c_un); (· simp [valOp, unC, encE, so_t, so_k, so, setS_fr, setS_ob, newS_fr, newS_ob, refOf, kill_fr, kill_ob, init_fr, init_ob, mask_none, mask_some, upd_apply, killSV, killOb, *] <;> first | with_reducible exact rfl | with_reducible exact ⟨rfl, rfl⟩ | with_reducible exact ⟨by omega, rfl⟩))
        | ((with_reducible apply c_cvi); (· simp [valOp, encE, so_t, so_k, so, setS_fr, setS_ob, newS_fr, newS_ob, refOf, kill_fr, kill_ob, init_fr, init_ob, mask_none, mask_some, upd_apply, killSV, killOb, *] <;> first | with_reducible exact rfl | with_reducible exact ⟨rfl, rfl⟩ | with_reducible exact ⟨by omega, rfl⟩))
        | ((with_reducible apply c_cvrune); (· simp [valOp, encE, so_t, so_k, so, setS_fr, setS_ob, newS_fr, newS_ob, refOf, kill_fr, kill_ob, init_fr, init_ob, mask_none, mask_some, upd_apply, killSV, killOb, *] <;> first | with_reducible exact rfl | with_reducible exact ⟨rfl, rfl⟩ | with_reducible exact ⟨by omega, rfl⟩))
        | ((with_reducible apply c_cvid); (· simp [valOp, encE, so_t, so_k, so, setS_fr, setS_ob, newS_fr, newS_ob, refOf, kill_fr, kill_ob, init_fr, init_ob, mask_none, mask_some, upd_apply, killSV, killOb, *] <;> first | with_reducible exact rfl | with_reducible exact ⟨rfl, rfl⟩ | with_reducible exact ⟨by omega, rfl⟩))
        | ((with_reducible apply c_build); (· simp [valOp, allM, closed, fillC, cellsN, CV.cells, encE, so_t, so_k, so, setS_fr, setS_ob, newS_fr, newS_ob, refOf, kill_fr, kill_ob, init_fr, init_ob, mask_none, mask_some, upd_apply, killSV, killOb, *] <;> first | with_reducible exact rfl | with_reducible exact ⟨rfl, rfl⟩ | with_reducible exact ⟨by omega, rfl⟩))
        | ((with_reducible apply c_field); (· simp [valOp, partC, encE, so_t, so_k, so, setS_fr, setS_ob, newS_fr, newS_ob, refOf, kill_fr, kill_ob, init_fr, init_ob, mask_none, mask_some, upd_apply, killSV, killOb, *] <;> first | with_reducible exact rfl | with_reducible exact ⟨rfl, rfl⟩ | with_reducible exact ⟨by omega, rfl⟩))
        | ((with_reducible apply c_ext); (· simp [valOp, encE, so_t, so_k, so, setS_fr, setS_ob, newS_fr, newS_ob, refOf, kill_fr, kill_ob, init_fr, init_ob, mask_none, mask_some, upd_apply, killSV, killOb, *] <;> first | with_reducible exact rfl | with_reducible exact ⟨rfl, rfl⟩ | with_reducible exact ⟨by omega, rfl⟩))
        | ((with_reducible apply c_minmax); (· simp [valOp, allM, closed, minmaxC, encE, so_t, so_k, so, setS_fr, setS_ob, newS_fr, newS_ob, refOf, kill_fr, kill_ob, init_fr, init_ob, mask_none, mask_some, upd_apply, killSV, killOb, *] <;> first | with_reducible exact rfl | with_reducible exact ⟨rfl, rfl⟩ | with_reducible exact ⟨by omega, rfl⟩))
        | ((with_reducible apply c_fnv); (· simp [valOp, allM, closed, encE, so_t, so_k, so, setS_fr, setS_ob, newS_fr, newS_ob, refOf, kill_fr, kill_ob, init_fr, init_ob, mask_none, mask_some, upd_apply, killSV, killOb, *] <;> first | with_reducible exact rfl | with_reducible exact ⟨rfl, rfl⟩ | with_reducible exact ⟨by omega, rfl⟩))
        | ((with_reducible apply c_faddr); (· simp [valOp, encE, so_t, so_k, so, setS_fr, setS_ob, newS_fr, newS_ob, refOf, kill_fr, kill_ob, init_fr, init_ob, mask_none, mask_some, upd_apply, killSV, killOb, *] <;> first | with_reducible exact rfl | with_reducible exact ⟨rfl, rfl⟩ | with_reducible exact ⟨by omega, rfl⟩))
        | ((with_reducible apply c_iaddr); (· simp [valOp, iaddrV, idxOf, cellsN, CV.cells, encE, so_t, so_k, so, setS_fr, setS_ob, newS_fr, newS_ob, refOf, kill_fr, kill_ob, init_fr, init_ob, mask_none, mask_some, upd_apply, killSV, killOb, *] <;> first | with_reducible exact rfl | with_reducible exact ⟨rfl, rfl⟩ | with_reducible exact ⟨by omega, rfl⟩))
        | ((with_reducible apply c_aaddr); (· simp [valOp, aaddrV, idxOf, encE, so_t, so_k, so, setS_fr, setS_ob, newS_fr, newS_ob, refOf, kill_fr, kill_ob, init_fr, init_ob, mask_none, mask_some, upd_apply, killSV, killOb, *] <;> first | with_reducible exact rfl | with_reducible exact ⟨rfl, rfl⟩ | with_reducible exact ⟨by omega, rfl⟩))
        | ((with_reducible apply c_sidx); (· simp [valOp, idxOf, encE, so_t, so_k, so, setS_fr, setS_ob, newS_fr, newS_ob, refOf, kill_fr, kill_ob, init_fr, init_ob, mask_none, mask_some, upd_apply, killSV, killOb, *] <;> first | with_reducible exact rfl | with_reducible exact ⟨rfl, rfl⟩ | with_reducible exact ⟨by omega, rfl⟩))
        | ((with_reducible apply c_aidx); (· simp [valOp, idxOf, partC, encE, so_t, so_k, so, setS_fr, setS_ob, newS_fr, newS_ob, refOf, kill_fr, kill_ob, init_fr, init_ob, mask_none, mask_some, upd_apply, killSV, killOb, *] <;> first | with_reducible exact rfl | with_reducible exact ⟨rfl, rfl⟩ | with_reducible exact ⟨by omega, rfl⟩))
        | ((with_reducible apply c_load); (· simp [valOp, loadV, partC, allM, closed, CV.cells, encE, so_t, so_k, so, setS_fr, setS_ob, newS_fr, newS_ob, refOf, kill_fr, kill_ob, init_fr, init_ob, mask_none, mask_some, upd_apply, killSV, killOb, *] <;> first | with_reducible exact rfl | with_reducible exact ⟨rfl, rfl⟩ | with_reducible exact ⟨by omega, rfl⟩))
        | ((with_reducible apply c_len); (· simp [valOp, lenV, encE, so_t, so_k, so, setS_fr, setS_ob, newS_fr, newS_ob, refOf, kill_fr, kill_ob, init_fr, init_ob, mask_none, mask_some, upd_apply, killSV, killOb, *] <;> first | with_reducible exact rfl | with_reducible exact ⟨rfl, rfl⟩ | with_reducible exact ⟨by omega, rfl⟩))
        | ((with_reducible apply c_sslice); (· simp [valOp, bound, encE, so_t, so_k, so, setS_fr, setS_ob, newS_fr, newS_ob, refOf, kill_fr, kill_ob, init_fr, init_ob, mask_none, mask_some, upd_apply, killSV, killOb, *] <;> first | with_reducible exact rfl | with_reducible exact ⟨rfl, rfl⟩ | with_reducible exact ⟨by omega, rfl⟩))
        | ((with_reducible apply c_slice); (· simp [valOp, bound, cellsN, encE, so_t, so_k, so, setS_fr, setS_ob, newS_fr, newS_ob, refOf, kill_fr, kill_ob, init_fr, init_ob, mask_none, mask_some, upd_apply, killSV, killOb, *] <;> first | with_reducible exact rfl | with_reducible exact ⟨rfl, rfl⟩ | with_reducible exact ⟨by omega, rfl⟩))
        | ((with_reducible apply c_lookup); (· simp [valOp, lookV, conf, conf1, encE, so_t, so_k, so, setS_fr, setS_ob, newS_fr, newS_ob, refOf, kill_fr, kill_ob, init_fr, init_ob, mask_none, mask_some, upd_apply, killSV, killOb, *] <;> first | with_reducible exact rfl | with_reducible exact ⟨rfl, rfl⟩ | with_reducible exact ⟨by omega, rfl⟩))
        | ((with_reducible apply c_call); (· simp [allM, close, encE, so_t, so_k, so, setS_fr, setS_ob, newS_fr, newS_ob, refOf, kill_fr, kill_ob, init_fr, init_ob, mask_none, mask_some, upd_apply, killSV, killOb, *] <;> first | with_reducible exact rfl | with_reducible exact ⟨rfl, rfl⟩ | with_reducible exact ⟨by omega, rfl⟩); (· simp [encE, so_t, so_k, so, setS_fr, setS_ob, newS_fr, newS_ob, refOf, kill_fr, kill_ob, init_fr, init_ob, mask_none, mask_some, upd_apply, killSV, killOb, *] <;> first | with_reducible exact rfl | with_reducible exact ⟨rfl, rfl⟩ | with_reducible exact ⟨by omega, rfl⟩); (· simp [isC, memless, memlessL, encE, so_t, so_k, so, setS_fr, setS_ob, newS_fr, newS_ob, refOf, kill_fr, kill_ob, init_fr, init_ob, mask_none, mask_some, upd_apply, killSV, killOb, *]; done))
        | ((with_reducible apply c_callN); (· simp [allM, close, encE, so_t, so_k, so, setS_fr, setS_ob, newS_fr, newS_ob, refOf, kill_fr, kill_ob, init_fr, init_ob, mask_none, mask_some, upd_apply, killSV, killOb, *] <;> first | with_reducible exact rfl | with_reducible exact ⟨rfl, rfl⟩ | with_reducible exact ⟨by omega, rfl⟩); (· simp [encE, so_t, so_k, so, setS_fr, setS_ob, newS_fr, newS_ob, refOf, kill_fr, kill_ob, init_fr, init_ob, mask_none, mask_some, upd_apply, killSV, killOb, *] <;> first | with_reducible exact rfl | with_reducible exact ⟨rfl, rfl⟩ | with_reducible exact ⟨by omega, rfl⟩); (· simp [isC, Res.memless, memless, memlessL, encE, so_t, so_k, so, setS_fr, setS_ob, newS_fr, newS_ob, refOf, kill_fr, kill_ob, init_fr, init_ob, mask_none, mask_some, upd_apply, killSV, killOb, *]; done); (· simp [encE, so_t, so_k, so, setS_fr, setS_ob, newS_fr, newS_ob, refOf, kill_fr, kill_ob, init_fr, init_ob, mask_none, mask_some, upd_apply, killSV, killOb, *]; done))
        | ((with_reducible apply c_new); (· rfl); (· simp [newOp, allM, closed, cellsN, encE, so_t, so_k, so, setS_fr, setS_ob, newS_fr, newS_ob, refOf, kill_fr, kill_ob, init_fr, init_ob, mask_none, mask_some, upd_apply, killSV, killOb, *] <;> first | with_reducible exact rfl | with_reducible exact ⟨rfl, rfl⟩ | with_reducible exact ⟨by omega, rfl⟩); (· simp [encE, so_t, so_k, so, setS_fr, setS_ob, newS_fr, newS_ob, refOf, kill_fr, kill_ob, init_fr, init_ob, mask_none, mask_some, upd_apply, killSV, killOb, *]; done))
        | ((with_reducible apply c_eff); (· rfl); (· simp [effOp, setCells, oneS, oneC, St.set, newsOf, putC, cellsN, CV.cells, encE, so_t, so_k, so, setS_fr, setS_ob, newS_fr, newS_ob, refOf, kill_fr, kill_ob, init_fr, init_ob, mask_none, mask_some, upd_apply, killSV, killOb, *] <;> first | with_reducible exact rfl | with_reducible exact ⟨rfl, rfl⟩ | with_reducible exact ⟨by omega, rfl⟩))
        | ((with_reducible apply c_guard); (· simp [encE, so_t, so_k, so, setS_fr, setS_ob, newS_fr, newS_ob, refOf, kill_fr, kill_ob, init_fr, init_ob, mask_none, mask_some, upd_apply, killSV, killOb, *] <;> first | with_reducible exact rfl | with_reducible exact ⟨rfl, rfl⟩ | with_reducible exact ⟨by omega, rfl⟩))
        | ((with_reducible apply p_if); (· simp [encE, so_t, so_k, so, setS_fr, setS_ob, newS_fr, newS_ob, refOf, kill_fr, kill_ob, init_fr, init_ob, mask_none, mask_some, upd_apply, killSV, killOb, *] <;> first | with_reducible exact rfl | with_reducible exact ⟨rfl, rfl⟩ | with_reducible exact ⟨by omega, rfl⟩))
        | ((with_reducible apply g_split); all_goals (intro hb; try simp only [decide_eq_true_eq, decide_eq_false_iff_not, Bool.not_eq_true] at hb))
        | ((with_reducible apply k_split); all_goals (intro hb; try simp only [decide_eq_true_eq, decide_eq_false_iff_not, Bool.not_eq_true] at hb)))
      all_goals (refine fin_ret ?_; simp [resOf, allM, oneRes, packRes, close, nl1, so_t, so_k, so, setS_fr, setS_ob, newS_fr, newS_ob, refOf, kill_fr, kill_ob, init_fr, init_ob, mask_none, mask_some, upd_apply, killSV, killOb, *])

end WB
