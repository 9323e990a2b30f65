/-
  OWN TEXTS, MERGED (wip/merge.py): Pnm, Pfc, Pba, Pbs, Pbw, Pbt, Pbu, Pbv, Pbx, Pby, Pbz, Pfold, Pca, Pcb, Pcc, Pcd, Pce, RShelf. No condition of their own.
-/
import Derived.Test.YtjdplgafkjnopaaGreatDoorK5
import Derived.Shelf.SlMaps.Copy
import Derived.Shelf.Strings.Search1
import Derived.Shelf.Strings.Search2
import Derived.Test.YtjdplgafkjnopaaGreatDoorProg
set_option linter.unusedVariables false
set_option linter.unusedSimpArgs false
namespace WB
open Go Go.RowKit

theorem itL {S T : Type} {b : S → Option (S ⊕ T)} {s s' : S} (h : b s = some (.inl s')) : iter b s = iter b s' := by rw [iter_eq, h]; rfl
theorem itR {S T : Type} {b : S → Option (S ⊕ T)} {s : S} {t : T} (h : b s = some (.inr t)) : iter b s = some t := by rw [iter_eq, h]; rfl
theorem sAt_mid' {pre t : List UInt8} {b : UInt8} : sAt (pre ++ b :: t) (pre.length : Int) = some (b.toNat : Int) := sAt_nat (by simp)
/-- A byte of a name. -/
def okb (b : UInt8) : Bool := !((decide ((b.toNat : Int) < 97) || decide ((b.toNat : Int) > 122)) && (decide ((b.toNat : Int) < 48) || decide ((b.toNat : Int) > 57)) && ((b.toNat : Int) != 46) && ((b.toNat : Int) != 95) && ((b.toNat : Int) != 45))
/-- Is a text a name. -/
def nameB (s : List UInt8) : Bool := s.all okb && !(s == []) && !(s == [45]) && decide ((s.length : Int) ≤ 32)

theorem isName_step {pre t : List UInt8} {b : UInt8} {n : Int} (c : decide ((pre.length : Int) < n) = true) :
    fact_isName_loop1 (pre ++ b :: t, n, (pre.length : Int), ()) = some (if okb b = true then .inl (pre ++ b :: t, n, IntKind.i64.wrap ((pre.length : Int) + 1), ()) else .inr (.inr false)) := by
  unfold fact_isName_loop1
  dsimp only
  simp only [gPi, gSS, gPb, gPm, gPs, gM, gM2, gAnd, gOr, gAndI, gOrI, gAA, gAO, gOA, gOO, gAAf, gAOf, gOAf, gOOf, gAMf, gOMf, gId]
  simp only [gIn1, gIn2, gIn3, gIn4, gIn5, gIn6, gIn7, gIn8, gId, gIdF, gMb, gMm, gBm, gBb, bs, ms]
  simp only [c, if_true, sAt_mid', bs]
  unfold okb
  generalize decide ((b.toNat : Int) < 97) = q1
  generalize decide ((b.toNat : Int) > 122) = q2
  generalize decide ((b.toNat : Int) < 48) = q3
  generalize decide ((b.toNat : Int) > 57) = q4
  generalize ((b.toNat : Int) != 46) = q5
  generalize ((b.toNat : Int) != 95) = q6
  generalize ((b.toNat : Int) != 45) = q7
  cases q1 <;> cases q2 <;> cases q3 <;> cases q4 <;> cases q5 <;> cases q6 <;> cases q7 <;> rfl
theorem isName_loop : ∀ (t pre : List UInt8), pre.length + t.length ≤ 4611686018427387904 → iter fact_isName_loop1 (pre ++ t, ((pre ++ t).length : Int), (pre.length : Int), ()) = some (if t.all okb then .inl (pre ++ t, ()) else .inr false)
  | [], pre, h2 => by
    refine itR ?_
    unfold fact_isName_loop1
    dsimp only
    have c : decide ((pre.length : Int) < (((pre ++ []) : List UInt8).length : Int)) = false := decide_eq_false (by simp)
    simp only [c, Bool.false_eq_true, if_false, List.all_nil, if_true]
  | b :: t, pre, h2 => by
    simp only [List.length_cons] at h2
    have w1 : IntKind.i64.wrap ((pre.length : Int) + 1) = ((pre ++ [b]).length : Int) := by rw [w64' (by omega) (by omega)]; simp
    have c : decide ((pre.length : Int) < (((pre ++ b :: t) : List UInt8).length : Int)) = true := decide_eq_true (by simp; omega)
    by_cases hd : okb b = true
    · have e := isName_loop t (pre ++ [b]) (by simp; omega)
      rw [List.append_assoc, List.singleton_append] at e
      refine (itL (s' := (pre ++ b :: t, ((pre ++ b :: t).length : Int), ((pre ++ [b]).length : Int), ())) ?_).trans (e.trans ?_)
      · rw [isName_step c, if_pos hd, w1]
      · simp [hd]
    · refine (itR (t := Sum.inr false) ?_).trans ?_
      · rw [isName_step c, if_neg hd]
      · simp [hd]
theorem isName_eq {s : List UInt8} (h : s.length ≤ 4611686018427387904) : fact_isName s = some (nameB s) := by
  unfold fact_isName
  dsimp only
  simp only [gPi, gSS, gPb, gPm, gPs, gM, gM2, gAnd, gOr, gAndI, gOrI, gAA, gAO, gOA, gOO, gAAf, gAOf, gOAf, gOOf, gAMf, gOMf, gId]
  simp only [gIn1, gIn2, gIn3, gIn4, gIn5, gIn6, gIn7, gIn8, gId, gIdF, gMb, gMm, gBm, gBb, bs, ms]
  have := isName_loop s [] (by simpa using h)
  simp only [List.nil_append, List.length_nil] at this
  rw [show ((0 : Nat) : Int) = 0 from rfl] at this
  rw [this]
  unfold nameB
  cases hh : s.all okb with
  | true =>
    simp only [if_true, bs]
    cases s == [] <;> cases s == [45] <;> rfl
  | false => rfl

theorem refName_step {pre t : List UInt8} {b : UInt8} (c : decide ((pre.length : Int) < ((pre ++ b :: t : List UInt8).length : Int)) = true) :
    ref25_Name_loop1 (pre ++ b :: t, (pre.length : Int), ()) = some (if okb b = true then .inl (pre ++ b :: t, IntKind.i64.wrap ((pre.length : Int) + 1), ()) else .inr (.inr false)) := by
  unfold ref25_Name_loop1
  dsimp only
  simp only [gPi, gSS, gPb, gPm, gPs, gM, gM2, gAnd, gOr, gAndI, gOrI, gAA, gAO, gOA, gOO, gAAf, gAOf, gOAf, gOOf, gAMf, gOMf, gId]
  simp only [gIn1, gIn2, gIn3, gIn4, gIn5, gIn6, gIn7, gIn8, gId, gIdF, gMb, gMm, gBm, gBb, bs, ms]
  simp only [c, if_true, sAt_mid', bs]
  unfold okb
  have e1 : decide ((b.toNat : Int) ≥ 97) = !decide ((b.toNat : Int) < 97) := by by_cases h : (b.toNat : Int) < 97 <;> simp [h] <;> omega
  have e2 : decide ((b.toNat : Int) ≤ 122) = !decide ((b.toNat : Int) > 122) := by by_cases h : (b.toNat : Int) ≤ 122 <;> simp [h] <;> omega
  have e3 : decide ((b.toNat : Int) ≥ 48) = !decide ((b.toNat : Int) < 48) := by by_cases h : (b.toNat : Int) < 48 <;> simp [h] <;> omega
  have e4 : decide ((b.toNat : Int) ≤ 57) = !decide ((b.toNat : Int) > 57) := by by_cases h : (b.toNat : Int) ≤ 57 <;> simp [h] <;> omega
  have e5 : ((b.toNat : Int) == 46) = !((b.toNat : Int) != 46) := by simp [bne]
  have e6 : ((b.toNat : Int) == 95) = !((b.toNat : Int) != 95) := by simp [bne]
  have e7 : ((b.toNat : Int) == 45) = !((b.toNat : Int) != 45) := by simp [bne]
  rw [e1, e2, e3, e4, e5, e6, e7]
  generalize decide ((b.toNat : Int) < 97) = q1
  generalize decide ((b.toNat : Int) > 122) = q2
  generalize decide ((b.toNat : Int) < 48) = q3
  generalize decide ((b.toNat : Int) > 57) = q4
  generalize ((b.toNat : Int) != 46) = q5
  generalize ((b.toNat : Int) != 95) = q6
  generalize ((b.toNat : Int) != 45) = q7
  cases q1 <;> cases q2 <;> cases q3 <;> cases q4 <;> cases q5 <;> cases q6 <;> cases q7 <;> rfl
theorem refName_loop : ∀ (t pre : List UInt8), pre.length + t.length ≤ 4611686018427387904 → iter ref25_Name_loop1 (pre ++ t, (pre.length : Int), ()) = some (if t.all okb then .inl () else .inr false)
  | [], pre, h2 => by
    refine itR ?_
    unfold ref25_Name_loop1
    dsimp only
    have c : decide ((pre.length : Int) < (((pre ++ []) : List UInt8).length : Int)) = false := decide_eq_false (by simp)
    simp only [c, Bool.false_eq_true, if_false, List.all_nil, if_true]
  | b :: t, pre, h2 => by
    simp only [List.length_cons] at h2
    have w1 : IntKind.i64.wrap ((pre.length : Int) + 1) = ((pre ++ [b]).length : Int) := by rw [w64' (by omega) (by omega)]; simp
    have c : decide ((pre.length : Int) < (((pre ++ b :: t) : List UInt8).length : Int)) = true := decide_eq_true (by simp; omega)
    by_cases hd : okb b = true
    · have e := refName_loop t (pre ++ [b]) (by simp; omega)
      rw [List.append_assoc, List.singleton_append] at e
      refine (itL (s' := (pre ++ b :: t, ((pre ++ [b]).length : Int), ())) ?_).trans (e.trans ?_)
      · rw [refName_step c, if_pos hd, w1]
      · simp [hd]
    · refine (itR (t := Sum.inr false) ?_).trans ?_
      · rw [refName_step c, if_neg hd]
      · simp [hd]
theorem refName_eq (s : List UInt8) : ref25_Name s = some (nameB s) := by
  unfold ref25_Name
  dsimp only
  simp only [gPi, gSS, gPb, gPm, gPs, gM, gM2, gAnd, gOr, gAndI, gOrI, gAA, gAO, gOA, gOO, gAAf, gAOf, gOAf, gOOf, gAMf, gOMf, gId]
  simp only [gIn1, gIn2, gIn3, gIn4, gIn5, gIn6, gIn7, gIn8, gId, gIdF, gMb, gMm, gBm, gBb, bs, ms]
  unfold nameB
  by_cases h : (s.length : Int) ≤ 32
  · have h1 : decide ((s.length : Int) > 32) = false := decide_eq_false (by omega)
    have h2 : decide ((s.length : Int) ≤ 32) = true := decide_eq_true h
    have := refName_loop s [] (by simp; omega)
    simp only [List.nil_append, List.length_nil] at this
    rw [show ((0 : Nat) : Int) = 0 from rfl] at this
    rw [this, h1, h2]
    cases s.all okb <;> cases s == [] <;> cases s == [45] <;> rfl
  · have h1 : decide ((s.length : Int) > 32) = true := decide_eq_true (by omega)
    have h2 : decide ((s.length : Int) ≤ 32) = false := decide_eq_false h
    rw [h1, h2]
    cases s.all okb <;> cases s == [] <;> cases s == [45] <;> rfl
end WB
namespace WB
open Go Go.RowKit

theorem name_eq {s : List UInt8} : before_name s = some (nameB s) := by
  unfold before_name
  dsimp only
  have key : fact_Fact_Check (0, 1, 13, 0, 0, [], 0, s) = some (if nameB s = true then 0 else if decide ((s.length : Int) > 4096) = true then 4 else 3) := by
    unfold fact_Fact_Check
    dsimp only
    rw [show fact_known 13 = some true from rfl]
    rw [show fact_rules () = some _ from rfl]
    simp only [gPi, gSS, gPb, gPm, gPs, gM, gM2, gAnd, gOr, gAndI, gOrI, gAA, gAO, gOA, gOO, gAAf, gAOf, gOAf, gOOf, gAMf, gOMf, gId]
    simp only [gIn1, gIn2, gIn3, gIn4, gIn5, gIn6, gIn7, gIn8, gId, gIdF, gMb, gMm, gBm, gBb, bs, ms]
    rw [if_neg (by decide)]
    rw [show lAt _ (13 : Int) = some _ from lAt_nat (i := 13) rfl, bs]
    dsimp only
    rw [if_neg (by decide)]
    rw [show fact_Fact_days ((0, 1, 13, 0, 0, [], 0, s), [98, 97, 110, 107], false, true, Sum.inl (), 0, 0, Sum.inr (Sum.inr (Sum.inr (Sum.inr (Sum.inl ()))))) = some 0 from rfl, bs]
    rw [if_neg (by decide)]
    rw [show fact_empty [] = some true from rfl, bs]
    rw [if_neg (by decide)]
    rw [show (if decide ((0 : Int) < 0) = true then some true else some (decide ((0 : Int) > 0))) = some false from rfl, bs]
    rw [if_neg (by decide)]
    by_cases h : (s.length : Int) > 4096
    · have d : decide ((s.length : Int) > 4096) = true := decide_eq_true h
      have e : nameB s = false := by
        have : decide ((s.length : Int) ≤ 32) = false := decide_eq_false (by omega)
        simp [nameB, this]
      rw [d, if_pos rfl, e, if_neg (by decide), if_pos rfl]
    · have d : decide ((s.length : Int) > 4096) = false := decide_eq_false h
      rw [d, if_neg (by decide)]
      unfold fact_rules_2
      dsimp only
      rw [isName_eq (by omega), bs, bs]
      cases nameB s <;> rfl
  rw [key, bs]
  by_cases h : nameB s = true
  · rw [if_pos h, h]; rfl
  · rw [if_neg h]
    have : nameB s = false := by simpa using h
    rw [this]
    split <;> rfl
end WB
namespace WB
open Go Go.RowKit

abbrev It := List UInt8 × Int
def afterL : Int → List It → List It × Int
  | left, [] => ([], left)
  | left, x :: l => if min x.2 left > 0 then ((x.1, min x.2 left) :: (afterL (left - min x.2 left) l).1, (afterL (left - min x.2 left) l).2) else afterL left l
def sumI (l : List It) : Int := (l.map (·.2)).sum

theorem afterL_none {left : Int} (h : left ≤ 0) : ∀ l : List It, afterL left l = ([], left)
  | [] => rfl
  | x :: l => by
    unfold afterL
    rw [if_neg (by omega), afterL_none h l]
theorem afterL_sum : ∀ (l : List It) (left : Int), (afterL left l).2 + sumI (afterL left l).1 = left ∧ (∀ x ∈ (afterL left l).1, 0 < x.2) ∧ (0 ≤ left → 0 ≤ (afterL left l).2) ∧ (afterL left l).1.length ≤ l.length
  | [], left => by simp [afterL, sumI]
  | x :: l, left => by
    unfold afterL
    by_cases hc : min x.2 left > 0
    · rw [if_pos hc]
      obtain ⟨h1, h2, h3, h4⟩ := afterL_sum l (left - min x.2 left)
      refine ⟨?_, ?_, fun h => h3 (by omega), by simp; omega⟩
      · simp only [sumI, List.map_cons, List.sum_cons] at h1 ⊢; omega
      · intro y hy
        rcases List.mem_cons.1 hy with rfl | hy
        · exact hc
        · exact h2 y hy
    · rw [if_neg hc]
      obtain ⟨h1, h2, h3, h4⟩ := afterL_sum l left
      exact ⟨h1, h2, h3, by simp; omega⟩

theorem lAt_mid {α : Type} {pre t : List α} {b : α} : lAt (pre ++ b :: t) (pre.length : Int) = some b := lAt_nat (by simp)
theorem appOk {α : Type} {xs : List α} {y : α} {k : Int} (hx : xs.length ≤ 1000000) (hk : 0 ≤ k ∧ k ≤ 1000) {β : Type} {f : Option β} :
    (if ((xs.length : Int) + (([y] : List α).length : Int)) * k ≤ 140737488355328 ∧ (xs.length : Int) + (([y] : List α).length : Int) ≤ 4611686018427387904 then f else none) = f := by
  rw [if_pos]
  have h1 : ((xs.length : Int) + (([y] : List α).length : Int)) * k ≤ 2000000 * 1000 := Int.mul_le_mul (by simp; omega) hk.2 hk.1 (by omega)
  refine ⟨by omega, by simp; omega⟩

def i64R (n : Int) : Prop := -9223372036854775808 ≤ n ∧ n ≤ 9223372036854775807

theorem After_loop : ∀ (l pre : List It) (left : Int) (acc : List It), i64R left → (∀ x ∈ l, i64R x.2) → acc.length ≤ pre.length → pre.length + l.length ≤ 100000 →
    iter before_After_loop1 (left, pre ++ l, ((pre ++ l).length : Int), (pre.length : Int), acc, (), ()) = some ((afterL left l).2, acc ++ (afterL left l).1, (), ())
  | [], pre, left, acc, hl, hx, ha, hn => by
    refine itR ?_
    unfold before_After_loop1
    dsimp only
    have c : decide ((pre.length : Int) < (((pre ++ []) : List It).length : Int)) = false := decide_eq_false (by simp)
    rw [c, if_neg (by decide)]
    simp [afterL]
  | x :: l, pre, left, acc, hl, hx, ha, hn => by
    simp only [List.length_cons] at hn
    have hx0 := hx x (by simp)
    have hx1 : ∀ y ∈ l, i64R y.2 := fun y hy => hx y (by simp [hy])
    have w1 : IntKind.i64.wrap ((pre.length : Int) + 1) = ((pre ++ [x]).length : Int) := by rw [w64' (by omega) (by omega)]; simp
    have c : decide ((pre.length : Int) < (((pre ++ x :: l) : List It).length : Int)) = true := decide_eq_true (by simp; omega)
    unfold i64R at *
    by_cases hc : min x.2 left > 0
    · have e := After_loop l (pre ++ [x]) (left - min x.2 left) (acc ++ [(x.1, min x.2 left)]) ⟨by omega, by omega⟩ hx1 (by simp; omega) (by simp; omega)
      rw [List.append_assoc, List.singleton_append] at e
      refine (itL (s' := (left - min x.2 left, pre ++ x :: l, ((pre ++ x :: l).length : Int), ((pre ++ [x]).length : Int), acc ++ [(x.1, min x.2 left)], (), ())) ?_).trans (e.trans ?_)
      · unfold before_After_loop1
        dsimp only
        simp only [gPi, gSS, gPb, gPm, gPs, gM, gM2, gAnd, gOr, gAndI, gOrI, gAA, gAO, gOA, gOO, gAAf, gAOf, gOAf, gOOf, gAMf, gOMf, gId]
        simp only [gIn1, gIn2, gIn3, gIn4, gIn5, gIn6, gIn7, gIn8, gId, gIdF, gMb, gMm, gBm, gBb, bs, ms]
        unfold cents_Least
        dsimp only
        have d : decide (min x.2 left > 0) = true := decide_eq_true hc
        have w2 : IntKind.i64.wrap (left - min x.2 left) = left - min x.2 left := w64' (by omega) (by omega)
        simp only [c, if_true, lAt_mid, bs, d]
        rw [appOk (by omega) (by decide), bs, w1, w2]
      · simp [afterL, hc]
    · have e := After_loop l (pre ++ [x]) left acc hl hx1 (by simp; omega) (by simp; omega)
      rw [List.append_assoc, List.singleton_append] at e
      refine (itL (s' := (left, pre ++ x :: l, ((pre ++ x :: l).length : Int), ((pre ++ [x]).length : Int), acc, (), ())) ?_).trans (e.trans ?_)
      · unfold before_After_loop1
        dsimp only
        simp only [gPi, gSS, gPb, gPm, gPs, gM, gM2, gAnd, gOr, gAndI, gOrI, gAA, gAO, gOA, gOO, gAAf, gAOf, gOAf, gOOf, gAMf, gOMf, gId]
        simp only [gIn1, gIn2, gIn3, gIn4, gIn5, gIn6, gIn7, gIn8, gId, gIdF, gMb, gMm, gBm, gBb, bs, ms]
        unfold cents_Least
        dsimp only
        have d : decide (min x.2 left > 0) = false := decide_eq_false hc
        simp only [c, if_true, lAt_mid, bs, d, Bool.false_eq_true, if_false, w1]
      · simp [afterL, hc]
theorem After_eq {left : Int} {l : List It} (hl : i64R left) (hx : ∀ x ∈ l, i64R x.2) (hn : l.length ≤ 100000) : before_After (left, l) = some ((afterL left l).1, (afterL left l).2) := by
  unfold before_After
  dsimp only
  have := After_loop l [] left [] hl hx (by simp) (by simpa using hn)
  simp only [List.nil_append, List.length_nil] at this
  rw [show ((0 : Nat) : Int) = 0 from rfl] at this
  rw [this]
  rfl
theorem rAfter_loop : ∀ (l pre : List It) (left : Int) (acc : List It), i64R left → (∀ x ∈ l, i64R x.2) → acc.length ≤ pre.length → pre.length + l.length ≤ 100000 →
    iter ref25_After_loop1 (left, pre ++ l, (pre.length : Int), acc, (), ()) = some ((afterL left l).2, acc ++ (afterL left l).1, (), ())
  | [], pre, left, acc, hl, hx, ha, hn => by
    refine itR ?_
    unfold ref25_After_loop1
    dsimp only
    have c : decide ((pre.length : Int) < (((pre ++ []) : List It).length : Int)) = false := decide_eq_false (by simp)
    rw [c, if_neg (by decide)]
    simp [afterL]
  | x :: l, pre, left, acc, hl, hx, ha, hn => by
    simp only [List.length_cons] at hn
    have hx0 := hx x (by simp)
    have hx1 : ∀ y ∈ l, i64R y.2 := fun y hy => hx y (by simp [hy])
    have w1 : IntKind.i64.wrap ((pre.length : Int) + 1) = ((pre ++ [x]).length : Int) := by rw [w64' (by omega) (by omega)]; simp
    have c : decide ((pre.length : Int) < (((pre ++ x :: l) : List It).length : Int)) = true := decide_eq_true (by simp; omega)
    unfold i64R at *
    by_cases hc : min x.2 left > 0
    · have e := rAfter_loop l (pre ++ [x]) (left - min x.2 left) (acc ++ [(x.1, min x.2 left)]) ⟨by omega, by omega⟩ hx1 (by simp; omega) (by simp; omega)
      rw [List.append_assoc, List.singleton_append] at e
      refine (itL (s' := (left - min x.2 left, pre ++ x :: l, ((pre ++ [x]).length : Int), acc ++ [(x.1, min x.2 left)], (), ())) ?_).trans (e.trans ?_)
      · unfold ref25_After_loop1
        dsimp only
        simp only [gPi, gSS, gPb, gPm, gPs, gM, gM2, gAnd, gOr, gAndI, gOrI, gAA, gAO, gOA, gOO, gAAf, gAOf, gOAf, gOOf, gAMf, gOMf, gId]
        simp only [gIn1, gIn2, gIn3, gIn4, gIn5, gIn6, gIn7, gIn8, gId, gIdF, gMb, gMm, gBm, gBb, bs, ms]
        have d : decide (min x.2 left > 0) = true := decide_eq_true hc
        have w2 : IntKind.i64.wrap (left - min x.2 left) = left - min x.2 left := w64' (by omega) (by omega)
        simp only [c, if_true, lAt_mid, bs, d]
        rw [appOk (by omega) (by decide), bs, w1, w2]
      · simp [afterL, hc]
    · have e := rAfter_loop l (pre ++ [x]) left acc hl hx1 (by simp; omega) (by simp; omega)
      rw [List.append_assoc, List.singleton_append] at e
      refine (itL (s' := (left, pre ++ x :: l, ((pre ++ [x]).length : Int), acc, (), ())) ?_).trans (e.trans ?_)
      · unfold ref25_After_loop1
        dsimp only
        simp only [gPi, gSS, gPb, gPm, gPs, gM, gM2, gAnd, gOr, gAndI, gOrI, gAA, gAO, gOA, gOO, gAAf, gAOf, gOAf, gOOf, gAMf, gOMf, gId]
        simp only [gIn1, gIn2, gIn3, gIn4, gIn5, gIn6, gIn7, gIn8, gId, gIdF, gMb, gMm, gBm, gBb, bs, ms]
        have d : decide (min x.2 left > 0) = false := decide_eq_false hc
        simp only [c, if_true, lAt_mid, bs, d, Bool.false_eq_true, if_false, w1]
      · simp [afterL, hc]
theorem rAfter_eq {left : Int} {l : List It} (hl : i64R left) (hx : ∀ x ∈ l, i64R x.2) (hn : l.length ≤ 100000) : ref25_After (left, l) = some ((afterL left l).1, (afterL left l).2) := by
  unfold ref25_After
  dsimp only
  have := rAfter_loop l [] left [] hl hx (by simp) (by simpa using hn)
  simp only [List.nil_append, List.length_nil] at this
  rw [show ((0 : Nat) : Int) = 0 from rfl] at this
  rw [this]
  rfl
/-- The same list is the same. -/
theorem Same_loop : ∀ (l pre : List It), pre.length + l.length ≤ 100000 → iter ref25_Same_loop1 (pre ++ l, pre ++ l, (pre.length : Int), ()) = some (.inl ())
  | [], pre, hn => by
    refine itR ?_
    unfold ref25_Same_loop1
    dsimp only
    have c : decide ((pre.length : Int) < (((pre ++ []) : List It).length : Int)) = false := decide_eq_false (by simp)
    rw [c, if_neg (by decide)]
  | x :: l, pre, hn => by
    simp only [List.length_cons] at hn
    have w1 : IntKind.i64.wrap ((pre.length : Int) + 1) = ((pre ++ [x]).length : Int) := by rw [w64' (by omega) (by omega)]; simp
    have c : decide ((pre.length : Int) < (((pre ++ x :: l) : List It).length : Int)) = true := decide_eq_true (by simp; omega)
    have e := Same_loop l (pre ++ [x]) (by simp; omega)
    rw [List.append_assoc, List.singleton_append] at e
    refine (itL (s' := (pre ++ x :: l, pre ++ x :: l, ((pre ++ [x]).length : Int), ())) ?_).trans e
    unfold ref25_Same_loop1
    dsimp only
    simp only [c, if_true, lAt_mid, bs, ms, beq_self_eq_true, Bool.and_self, Bool.not_true, Bool.false_eq_true, if_false, w1]
theorem Same_eq {l : List It} (hn : l.length ≤ 100000) : ref25_Same (l, l) = some true := by
  unfold ref25_Same
  dsimp only
  have := Same_loop l [] (by simpa using hn)
  simp only [List.nil_append, List.length_nil] at this
  rw [show ((0 : Nat) : Int) = 0 from rfl] at this
  rw [if_neg (by simp), this]
  rfl
theorem afterSum_loop {a : Int} {b q : Int} {d : List It} : ∀ (l pre : List It) (s : Int), i64R s → i64R (s + sumI l) → (∀ x ∈ l, 0 < x.2) → pre.length + l.length ≤ 100000 →
    iter law25_BeforeAfter_loop1 (pre ++ l, a, b, q, d, s, (pre.length : Int), ()) = some (pre ++ l, a, b, q, d, s + sumI l, ())
  | [], pre, s, h1, h2, hp, hn => by
    refine itR ?_
    unfold law25_BeforeAfter_loop1
    dsimp only
    have c : decide ((pre.length : Int) < (((pre ++ []) : List It).length : Int)) = false := decide_eq_false (by simp)
    rw [c, if_neg (by decide)]
    simp [sumI]
  | x :: l, pre, s, h1, h2, hp, hn => by
    simp only [List.length_cons] at hn
    have w1 : IntKind.i64.wrap ((pre.length : Int) + 1) = ((pre ++ [x]).length : Int) := by rw [w64' (by omega) (by omega)]; simp
    have c : decide ((pre.length : Int) < (((pre ++ x :: l) : List It).length : Int)) = true := decide_eq_true (by simp; omega)
    have hx := hp x (by simp)
    have hs : ∀ m : List It, (∀ y ∈ m, 0 < y.2) → 0 ≤ sumI m := by
      intro m
      induction m with
      | nil => intro _; simp [sumI]
      | cons y m ih =>
        intro h
        have h1 := h y (by simp)
        have h2 := ih fun z hz => h z (by simp [hz])
        simp only [sumI, List.map_cons, List.sum_cons] at h2 ⊢
        omega
    have hs0 := hs l fun y hy => hp y (by simp [hy])
    have e0 : sumI (x :: l) = x.2 + sumI l := by simp [sumI]
    rw [e0] at h2
    unfold i64R at *
    have e := afterSum_loop (a := a) (b := b) (q := q) (d := d) l (pre ++ [x]) (s + x.2) ⟨by omega, by omega⟩ ⟨by omega, by omega⟩ (fun y hy => hp y (by simp [hy])) (by simp; omega)
    rw [List.append_assoc, List.singleton_append] at e
    refine (itL (s' := (pre ++ x :: l, a, b, q, d, s + x.2, ((pre ++ [x]).length : Int), ())) ?_).trans (e.trans ?_)
    · unfold law25_BeforeAfter_loop1
      dsimp only
      have w2 : IntKind.i64.wrap (s + x.2) = s + x.2 := w64' (by omega) (by omega)
      simp only [c, if_true, lAt_mid, bs, ms, w1, w2]
    · rw [e0, Int.add_assoc]
theorem law_BeforeAfter (ha : law25_awake () = some true) {left : Int} {l : List It} (hl : i64R left) (hx : ∀ x ∈ l, i64R x.2) : law25_BeforeAfter (left, l) = some true := by
  unfold law25_BeforeAfter
  dsimp only
  simp only [gPi, gSS, gPb, gPm, gPs, gM, gM2, gAnd, gOr, gAndI, gOrI, gAA, gAO, gOA, gOO, gAAf, gAOf, gOAf, gOOf, gAMf, gOMf, gId]
  simp only [gIn1, gIn2, gIn3, gIn4, gIn5, gIn6, gIn7, gIn8, gId, gIdF, gMb, gMm, gBm, gBb, bs, ms]
  by_cases hn : (l.length : Int) > 80
  · rw [decide_eq_true hn, if_pos rfl]
    first | exact ha | (unfold law25_great; simp)
  · rw [decide_eq_false hn, if_neg (by decide), After_eq hl hx (by omega), bs]
    obtain ⟨h1, h2, h3, h4⟩ := afterL_sum l left
    have tail : ∀ (items : List It) (thn : Int), items = (afterL left l).1 → thn = (afterL left l).2 →
        ((iter law25_BeforeAfter_loop1 ((afterL left l).1, (afterL left l).2, left, thn, items, (afterL left l).2, 0, ())).bind fun o =>
            (ref25_Same (o.fst, o.snd.snd.snd.snd.fst)).bind fun x48 =>
              (if x48 = true then some (o.snd.fst == o.snd.snd.snd.fst) else some false).bind fun x53 =>
                (if x53 = true then some (o.snd.snd.snd.snd.snd.fst == o.snd.snd.fst) else some false).bind fun x58 =>
                  if x58 = true then law25_awake () else some false) = some true := by
      rintro _ _ rfl rfl
      have e := afterSum_loop (a := (afterL left l).2) (b := left) (q := (afterL left l).2) (d := (afterL left l).1) (afterL left l).1 [] (afterL left l).2 (by
        unfold i64R at *
        by_cases h0 : 0 ≤ left
        · have := h3 h0
          have hs : 0 ≤ sumI (afterL left l).1 := by
            have hs : ∀ m : List It, (∀ y ∈ m, 0 < y.2) → 0 ≤ sumI m := by
              intro m
              induction m with
              | nil => intro _; simp [sumI]
              | cons y m ih =>
                intro h
                have h1 := h y (by simp)
                have h2 := ih fun z hz => h z (by simp [hz])
                simp only [sumI, List.map_cons, List.sum_cons] at h2 ⊢
                omega
            exact hs _ h2
          exact ⟨by omega, by omega⟩
        · rw [afterL_none (by omega)]; exact hl) (by rw [h1]; exact hl) h2 (by simp; omega)
      simp only [List.nil_append, List.length_nil] at e
      rw [show ((0 : Nat) : Int) = 0 from rfl] at e
      rw [e, bs]
      dsimp only
      rw [Same_eq (by omega), bs, if_pos rfl, beq_self_eq_true, bs, if_pos rfl, h1, beq_self_eq_true, bs, if_pos rfl, ha]
    by_cases h0 : left > 0
    · rw [decide_eq_true h0, if_pos rfl, rAfter_eq hl hx (by omega), bs, bs]
      exact tail _ _ rfl rfl
    · rw [decide_eq_false h0, if_neg (by decide), bs]
      have := afterL_none (l := l) (left := left) (by omega)
      exact tail _ _ (by rw [this]) (by rw [this])
end WB
namespace WB
open Go Go.RowKit

def fitC (a : Int) : Bool := decide (-1125899906842624 ≤ a) && decide (a ≤ 1125899906842624)
def addS (a b : Int) : Int × Int := if (fitC a && fitC b) = true then (if fitC (a + b) = true then (a + b, 0) else (0, 9)) else (0, 2)
def sumS : Int → List Int → Int × Int
  | s, [] => (s, 0)
  | s, x :: l => if (addS s x).2 = 0 then sumS (addS s x).1 l else (0, (addS s x).2)

theorem Fits_eq (a : Int) : cents_Fits a = some (fitC a) := by
  unfold cents_Fits fitC
  dsimp only
  simp only [gPi, gSS, gPb, gPm, gPs, gM, gM2, gAnd, gOr, gAndI, gOrI, gAA, gAO, gOA, gOO, gAAf, gAOf, gOAf, gOOf, gAMf, gOMf, gId]
  simp only [gIn1, gIn2, gIn3, gIn4, gIn5, gIn6, gIn7, gIn8, gId, gIdF, gMb, gMm, gBm, gBb, bs, ms]
  by_cases h : a ≥ -1125899906842624
  · rw [decide_eq_true h, if_pos rfl]; rfl
  · rw [decide_eq_false h, if_neg (by decide)]; rfl
theorem Add_eq (a b : Int) : cents_Add (a, b) = some (addS a b) := by
  unfold cents_Add
  dsimp only
  have : cents_told (a, b, IntKind.i64.wrap (a + b)) = some (addS a b) := by
    unfold cents_told
    dsimp only
    simp only [gIn1, gIn2, gIn3, gIn4, gIn5, gIn6, gIn7, gIn8, gId, gIdF, gMb, gMm, gBm, gBb, bs, ms]
    rw [Fits_eq, bs]
    unfold addS
    cases ha : fitC a with
    | false => rfl
    | true =>
      simp only [Bool.not_true, Bool.false_eq_true, if_false, Bool.true_and]
      rw [Fits_eq, bs, bs]
      cases hb : fitC b with
      | false => rfl
      | true =>
        simp only [fitC, Bool.and_eq_true, decide_eq_true_eq] at ha hb
        have w : IntKind.i64.wrap (a + b) = a + b := w64' (by omega) (by omega)
        simp only [Bool.not_true, Bool.false_eq_true, if_false, if_true]
        rw [Fits_eq, bs, w]
        cases fitC (a + b) <;> rfl
  rw [this]
  rfl
theorem Sum_loop : ∀ (l pre : List Int) (s : Int), pre.length + l.length ≤ 100000 →
    iter cents_Sum_loop1 (s, pre ++ l, ((pre ++ l).length : Int), (pre.length : Int), ()) = some (if (sumS s l).2 = 0 then .inl ((sumS s l).1, ()) else .inr (0, (sumS s l).2))
  | [], pre, s, hn => by
    refine itR ?_
    unfold cents_Sum_loop1
    dsimp only
    have c : decide ((pre.length : Int) < (((pre ++ []) : List Int).length : Int)) = false := decide_eq_false (by simp)
    rw [c, if_neg (by decide)]
    simp [sumS]
  | x :: l, pre, s, hn => by
    simp only [List.length_cons] at hn
    have w1 : IntKind.i64.wrap ((pre.length : Int) + 1) = ((pre ++ [x]).length : Int) := by rw [w64' (by omega) (by omega)]; simp
    have c : decide ((pre.length : Int) < (((pre ++ x :: l) : List Int).length : Int)) = true := decide_eq_true (by simp; omega)
    have e := Sum_loop l (pre ++ [x]) (addS s x).1 (by simp; omega)
    rw [List.append_assoc, List.singleton_append] at e
    by_cases h0 : (addS s x).2 = 0
    · refine (itL (s' := ((addS s x).1, pre ++ x :: l, ((pre ++ x :: l).length : Int), ((pre ++ [x]).length : Int), ())) ?_).trans (e.trans ?_)
      · unfold cents_Sum_loop1
        dsimp only
        rw [c, if_pos rfl, lAt_mid]
        simp only [bs, ms, Add_eq]
        have d : ((addS s x).2 != 0) = false := by simp [h0]
        rw [d, if_neg (by decide), w1]
      · simp [sumS, h0]
    · refine (itR (t := Sum.inr (0, (addS s x).2)) ?_).trans ?_
      · unfold cents_Sum_loop1
        dsimp only
        rw [c, if_pos rfl, lAt_mid]
        simp only [bs, ms, Add_eq]
        have d : ((addS s x).2 != 0) = true := by simpa using h0
        rw [d, if_pos rfl]
      · simp [sumS, h0]
theorem sumS_err : ∀ (l : List Int) (s : Int), (sumS s l).2 ≠ 0 → (sumS s l).1 = 0
  | [], s, h => by simp [sumS] at h
  | x :: l, s, h => by
    unfold sumS at h ⊢
    by_cases h0 : (addS s x).2 = 0
    · rw [if_pos h0] at h ⊢; exact sumS_err l _ h
    · rw [if_neg h0]
theorem Sum_eq {l : List Int} (hn : l.length ≤ 100000) : cents_Sum l = some (sumS 0 l) := by
  unfold cents_Sum
  dsimp only
  have := Sum_loop l [] 0 (by simpa using hn)
  simp only [List.nil_append, List.length_nil] at this
  rw [show ((0 : Nat) : Int) = 0 from rfl] at this
  rw [this, bs]
  by_cases h : (sumS 0 l).2 = 0
  · rw [if_pos h]
    dsimp only
    exact congrArg some (Prod.ext rfl h.symm)
  · rw [if_neg h]
    dsimp only
    exact congrArg some (Prod.ext (sumS_err l 0 h).symm rfl)
theorem bSum_loop : ∀ (l pre : List It) (acc : List Int), acc.length ≤ pre.length → pre.length + l.length ≤ 100000 →
    iter before_Sum_loop1 (pre ++ l, ((pre ++ l).length : Int), (pre.length : Int), acc, (), ()) = some (acc ++ l.map (·.2), (), ())
  | [], pre, acc, ha, hn => by
    refine itR ?_
    unfold before_Sum_loop1
    dsimp only
    have c : decide ((pre.length : Int) < (((pre ++ []) : List It).length : Int)) = false := decide_eq_false (by simp)
    rw [c, if_neg (by decide)]
    simp
  | x :: l, pre, acc, ha, hn => by
    simp only [List.length_cons] at hn
    have w1 : IntKind.i64.wrap ((pre.length : Int) + 1) = ((pre ++ [x]).length : Int) := by rw [w64' (by omega) (by omega)]; simp
    have c : decide ((pre.length : Int) < (((pre ++ x :: l) : List It).length : Int)) = true := decide_eq_true (by simp; omega)
    have e := bSum_loop l (pre ++ [x]) (acc ++ [x.2]) (by simp; omega) (by simp; omega)
    rw [List.append_assoc, List.singleton_append] at e
    refine (itL (s' := (pre ++ x :: l, ((pre ++ x :: l).length : Int), ((pre ++ [x]).length : Int), acc ++ [x.2], (), ())) ?_).trans (e.trans ?_)
    · unfold before_Sum_loop1
      dsimp only
      simp only [c, if_true, lAt_mid, bs, ms]
      rw [appOk (by omega) (by decide), bs, w1]
    · simp
theorem bSum_eq {l : List It} (hn : l.length ≤ 100000) : before_Sum l = some (sumS 0 (l.map (·.2))) := by
  unfold before_Sum
  dsimp only
  have := bSum_loop l [] [] (by simp) (by simpa using hn)
  simp only [List.nil_append, List.length_nil] at this
  rw [show ((0 : Nat) : Int) = 0 from rfl] at this
  rw [this, bs]
  dsimp only
  rw [Sum_eq (by simpa using hn)]
  rfl
theorem lSum_loop : ∀ (l pre : List It) (acc : List Int), acc.length ≤ pre.length → pre.length + l.length ≤ 100000 →
    iter law25_BeforeSums_loop1 (pre ++ l, (pre.length : Int), acc, (), ()) = some (pre ++ l, acc ++ l.map (·.2), (), ())
  | [], pre, acc, ha, hn => by
    refine itR ?_
    unfold law25_BeforeSums_loop1
    dsimp only
    have c : decide ((pre.length : Int) < (((pre ++ []) : List It).length : Int)) = false := decide_eq_false (by simp)
    rw [c, if_neg (by decide)]
    simp
  | x :: l, pre, acc, ha, hn => by
    simp only [List.length_cons] at hn
    have w1 : IntKind.i64.wrap ((pre.length : Int) + 1) = ((pre ++ [x]).length : Int) := by rw [w64' (by omega) (by omega)]; simp
    have c : decide ((pre.length : Int) < (((pre ++ x :: l) : List It).length : Int)) = true := decide_eq_true (by simp; omega)
    have e := lSum_loop l (pre ++ [x]) (acc ++ [x.2]) (by simp; omega) (by simp; omega)
    rw [List.append_assoc, List.singleton_append] at e
    refine (itL (s' := (pre ++ x :: l, ((pre ++ [x]).length : Int), acc ++ [x.2], (), ())) ?_).trans (e.trans ?_)
    · unfold law25_BeforeSums_loop1
      dsimp only
      simp only [c, if_true, lAt_mid, bs, ms]
      rw [appOk (by omega) (by decide), bs, w1]
    · simp
theorem law_BeforeSums (ha : law25_awake () = some true) {l : List It} : law25_BeforeSums l = some true := by
  unfold law25_BeforeSums
  dsimp only
  simp only [gPi, gSS, gPb, gPm, gPs, gM, gM2, gAnd, gOr, gAndI, gOrI, gAA, gAO, gOA, gOO, gAAf, gAOf, gOAf, gOOf, gAMf, gOMf, gId]
  simp only [gIn1, gIn2, gIn3, gIn4, gIn5, gIn6, gIn7, gIn8, gId, gIdF, gMb, gMm, gBm, gBb, bs, ms]
  by_cases hn : (l.length : Int) > 200
  · rw [decide_eq_true hn, if_pos rfl]; exact ha
  · rw [decide_eq_false hn, if_neg (by decide)]
    have := lSum_loop l [] [] (by simp) (by simp; omega)
    simp only [List.nil_append, List.length_nil] at this
    rw [show ((0 : Nat) : Int) = 0 from rfl] at this
    rw [this, bs]
    dsimp only
    rw [bSum_eq (by omega), bs, Sum_eq (by simp; omega), bs]
    rw [beq_self_eq_true, if_pos rfl, beq_self_eq_true, bs, if_pos rfl, ha]
end WB
namespace WB
open Go Go.RowKit

def pensionS : List UInt8 := [112, 101, 110, 115, 105, 111, 110]
theorem bounds_aw : before_bounds [(pensionS, 100000, 0)] = some ([(pensionS, pensionS, 100000, 0)], 0) := by
  unfold before_bounds
  dsimp only
  rw [if_neg (by decide)]
  rw [itL (s' := ([(pensionS, 100000, 0)], 1, 1, [(pensionS, pensionS, 100000, 0)], (), ())), itR (t := Sum.inl ([(pensionS, pensionS, 100000, 0)], (), ()))]
  · rfl
  · rfl
  · unfold before_bounds_loop1
    dsimp only
    rw [if_pos (by decide), show lAt [(pensionS, (100000 : Int), (0 : Int))] 0 = some (pensionS, 100000, 0) from rfl]
    simp only [bs, ms, name_eq]
    rfl
theorem room_aw : before_room (100000, (pensionS, 100000, 0), 0, 0) = some 10000 := by
  unfold before_room
  dsimp only
  rw [rOf_eq (by decide) (by decide)]
  rfl
theorem Take_aw : before_Take (100000, [], [(pensionS, 30000)], [(pensionS, 100000, 0)]) = some ([(pensionS, 10000)], [(pensionS, 10000)], 0) := by
  unfold before_Take
  dsimp only
  rw [show cents_Fits 100000 = some true from rfl, bs, if_neg (by decide), bounds_aw, bs]
  dsimp only
  rw [if_neg (by decide), if_neg (by decide)]
  rw [show cents_Greatest (100000, 0) = some 100000 from rfl, bs, show mcopyP ([] : List (List UInt8 × Int)) [] = some [] from rfl, bs]
  rw [itL (s' := (100000, [], [(pensionS, pensionS, 100000, 0)], 90000, [(pensionS, 30000)], 1, 1, [(pensionS, 10000)], [(pensionS, 10000)], [(pensionS, 10000)], (), (), (), ())), itR (t := Sum.inl ([(pensionS, 10000)], [(pensionS, 10000)], (), (), ()))]
  · rfl
  · rfl
  · unfold before_Take_loop1
    dsimp only
    rw [if_pos (by decide), show lAt [(pensionS, (30000 : Int))] _ = some (pensionS, 30000) from rfl]
    simp only [bs, ms, name_eq]
    rw [if_neg (by decide)]
    rw [show before_right 30000 = some true from rfl, bs]
    rw [if_neg (by decide), show before_right (alGet (eqZ Ty.str) (zeroT (Ty.int IntKind.i64)) pensionS []).fst = some true from rfl, bs, bs]
    dsimp only
    rw [if_neg (by decide), show cents_Least (30000, 100000) = some 30000 from rfl, bs, if_pos (by rfl), show cents_Greatest (100000, 0) = some 100000 from rfl, bs]
    have hroom : ∀ y, y = (100000, (pensionS, 100000, 0), 0, 0) → before_room y = some 10000 := by rintro _ rfl; exact room_aw
    rw [hroom]
    · rfl
    · rfl
theorem awake_eq : law25_awake () = some true := by
  unfold law25_awake
  dsimp only
  rw [show before_Take (100000, [], [([112, 101, 110, 115, 105, 111, 110], 30000)], [([112, 101, 110, 115, 105, 111, 110], 100000, 0)]) = some ([(pensionS, 10000)], [(pensionS, 10000)], 0) from Take_aw, bs]
  rw [After_eq ⟨by decide, by decide⟩ (by
    intro x hx
    rcases List.mem_cons.1 hx with rfl | hx
    · exact ⟨by decide, by decide⟩
    · rw [List.mem_singleton.1 hx]; exact ⟨by decide, by decide⟩) (by decide), bs]
  rfl
end WB
namespace WB
open Go Go.RowKit

abbrev MI := List (List UInt8 × Int)
abbrev Lim := List UInt8 × Int × Int
theorem eqS (a b : List UInt8) : eqZ Ty.str a b = true ↔ a = b := beq_iff_eq
def getM (k : List UInt8) (m : MI) : Int := (alGet (eqZ Ty.str) (zeroT (Ty.int IntKind.i64)) k m).1
def putM (k : List UInt8) (v : Int) (m : MI) : MI := alPut (eqZ Ty.str) k v m
theorem getM_put (k k' : List UInt8) (v : Int) (m : MI) : getM k (putM k' v m) = if k = k' then v else getM k m := by
  unfold getM putM
  rw [alGet_put eqS]
  split <;> rfl
theorem getM_nil (k : List UInt8) : getM k [] = 0 := rfl
def rightB (c : Int) : Bool := decide (0 ≤ c) && decide (c ≤ 1125899906842624)
theorem right_eq' (c : Int) : before_right c = some (rightB c) := by
  unfold before_right rightB
  dsimp only
  simp only [gPi, gSS, gPb, gPm, gPs, gM, gM2, gAnd, gOr, gAndI, gOrI, gAA, gAO, gOA, gOO, gAAf, gAOf, gOAf, gOOf, gAMf, gOMf, gId]
  simp only [gIn1, gIn2, gIn3, gIn4, gIn5, gIn6, gIn7, gIn8, gId, gIdF, gMb, gMm, gBm, gBb, bs, ms]
  by_cases h : c ≥ 0
  · rw [decide_eq_true h, if_pos rfl]; rfl
  · rw [decide_eq_false h, if_neg (by decide)]; rfl
theorem rightB_iff {c : Int} : rightB c = true ↔ 0 ≤ c ∧ c ≤ 1125899906842624 := by simp [rightB]

/-- The room that a limit leaves. -/
def roomS (g : Int) (l : Lim) (now year : Int) : Int :=
  max (if l.2.2 ≠ 0 then min (if l.2.1 ≠ 1000000 then min g ((ofS g l.2.1 1).1 - now) else g) (l.2.2 - year) else (if l.2.1 ≠ 1000000 then min g ((ofS g l.2.1 1).1 - now) else g)) 0
theorem ofS_range (g r : Int) : -1125899906842624 ≤ (ofS g r 1).1 ∧ (ofS g r 1).1 ≤ 1125899906842624 := by
  unfold ofS
  split
  · unfold partS
    split
    · simp
    · split
      · simp
      · split
        · simp
        · split
          · simp
          · split
            · simp
            · dsimp only
              split <;> omega
  · simp
def limOk (l : Lim) : Bool := decide (0 ≤ l.2.1) && decide (l.2.1 ≤ 1000000) && rightB l.2.2
theorem room_eq {g : Int} {l : Lim} {now year : Int} (hg : 0 ≤ g ∧ g ≤ 1125899906842624) (hl : limOk l = true) (hn : 0 ≤ now ∧ now ≤ 1125899906842624) (hy : 0 ≤ year ∧ year ≤ 1125899906842624) :
    before_room (g, l, now, year) = some (roomS g l now year) := by
  obtain ⟨c, most, yearly⟩ := l
  simp only [limOk, Bool.and_eq_true, decide_eq_true_eq, rightB_iff] at hl
  obtain ⟨⟨m1, m2⟩, y1, y2⟩ := hl
  have hr := ofS_range g most
  unfold before_room roomS
  dsimp only
  rw [rOf_eq (by omega) (by omega)]
  unfold cents_Least cents_Greatest
  dsimp only
  have w1 : IntKind.i64.wrap ((ofS g most 1).1 - now) = (ofS g most 1).1 - now := w64' (by omega) (by omega)
  have w2 : IntKind.i64.wrap (yearly - year) = yearly - year := w64' (by omega) (by omega)
  by_cases hm : most = 1000000
  · have d : (most != 1000000) = false := by simp [hm]
    simp only [d, Bool.false_eq_true, if_false, bs]
    by_cases hz : yearly = 0
    · have d2 : (yearly != 0) = false := by simp [hz]
      simp only [d2, Bool.false_eq_true, if_false, bs]
      simp [hm, hz]
    · have d2 : (yearly != 0) = true := by simpa using hz
      simp only [d2, if_true, bs, w2, hm, ne_eq, not_true_eq_false, if_false, hz, not_false_eq_true]
  · have d : (most != 1000000) = true := by simpa using hm
    simp only [d, if_true, bs, w1]
    by_cases hz : yearly = 0
    · have d2 : (yearly != 0) = false := by simp [hz]
      simp only [d2, Bool.false_eq_true, if_false, bs]
      simp [hm, hz]
    · have d2 : (yearly != 0) = true := by simpa using hz
      simp only [d2, if_true, bs, w2, hm, ne_eq, not_false_eq_true, hz]

abbrev ByM := List (List UInt8 × Lim)
def byZ : Lim := zeroT (Ty.str.cons ((Ty.int IntKind.i64).cons (Ty.int IntKind.i64).one)).agg
def getB (k : List UInt8) (m : ByM) : Lim × Bool := alGet (eqZ Ty.str) byZ k m
/-- What is taken of an item. -/
def takenS (g : Int) (by_ : ByM) (left : Int) (now year : MI) (x : It) : Int :=
  if (getB x.1 by_).2 = true then min (min x.2 left) (roomS (max g 0) (getB x.1 by_).1 (getM x.1 now) (getM x.1 year)) else min x.2 left
def takeS (g : Int) (by_ : ByM) (was : MI) : Int → MI → MI → List It → List It → List It × MI × Int
  | _, _, year, out, [] => (out, year, 0)
  | left, now, year, out, x :: l =>
    if nameB x.1 = false then ([], [], 12)
    else if (rightB x.2 && rightB (getM x.1 was)) = false then ([], [], 2)
    else if rightB (getM x.1 year + takenS g by_ left now year x) = false then ([], [], 9)
    else takeS g by_ was (left - takenS g by_ left now year x) (putM x.1 (getM x.1 now + takenS g by_ left now year x) now) (putM x.1 (getM x.1 year + takenS g by_ left now year x) year)
      (if takenS g by_ left now year x > 0 then out ++ [(x.1, takenS g by_ left now year x)] else out) l

theorem bind2 {A B C : Type} {a : Option A} {v : A} {f : A → Option B} {g : B → Option C} (h : a = some v) : (a.bind f).bind g = (f v).bind g := by rw [h]; rfl
theorem fM (k : List UInt8) (m : MI) : (alGet (eqZ Ty.str) (zeroT (Ty.int IntKind.i64)) k m).1 = getM k m := rfl
theorem fB (k : List UInt8) (m : ByM) : alGet (eqZ Ty.str) (zeroT (Ty.str.cons ((Ty.int IntKind.i64).cons (Ty.int IntKind.i64).one)).agg) k m = getB k m := rfl
theorem fP (k : List UInt8) (v : Int) (m : MI) : alPut (eqZ Ty.str) k v m = putM k v m := rfl
structure TInv (g left : Int) (by_ : ByM) (was now year : MI) : Prop where
  gR : i64R g
  gG : max g 0 ≤ 1125899906842624
  l0 : 0 ≤ left
  lG : left ≤ max g 0
  nowI : ∀ k, 0 ≤ getM k now ∧ getM k now ≤ max g 0 - left
  yearI : ∀ k, getM k year = getM k was + getM k now ∧ (getM k now = 0 ∨ rightB (getM k year) = true)
  limI : ∀ k, (getB k by_).2 = true → limOk (getB k by_).1 = true

theorem taken_range {g left : Int} {by_ : ByM} {was now year : MI} (h : TInv g left by_ was now year) {x : It} (hx : 0 ≤ x.2) : 0 ≤ takenS g by_ left now year x ∧ takenS g by_ left now year x ≤ left ∧ takenS g by_ left now year x ≤ x.2 := by
  have h0 := h.l0
  unfold takenS
  split
  · have hr : 0 ≤ roomS (max g 0) (getB x.1 by_).1 (getM x.1 now) (getM x.1 year) := by unfold roomS; omega
    omega
  · omega
theorem year_right {g left : Int} {by_ : ByM} {was now year : MI} (h : TInv g left by_ was now year) {k : List UInt8} (hw : rightB (getM k was) = true) : rightB (getM k year) = true := by
  obtain ⟨h1, h2⟩ := h.yearI k
  rcases h2 with h2 | h2
  · rw [h1, h2, Int.add_zero]; exact hw
  · exact h2
theorem TInv.step {g left : Int} {by_ : ByM} {was now year : MI} (h : TInv g left by_ was now year) {x : It} {c : Int} (hc : 0 ≤ c ∧ c ≤ left) (hr : rightB (getM x.1 year + c) = true) :
    TInv g (left - c) by_ was (putM x.1 (getM x.1 now + c) now) (putM x.1 (getM x.1 year + c) year) := by
  refine ⟨h.gR, h.gG, by omega, by have := h.lG; omega, fun k => ?_, fun k => ?_, h.limI⟩
  · rw [getM_put]
    have h1 := h.nowI k
    have h2 := h.nowI x.1
    split
    · omega
    · omega
  · rw [getM_put, getM_put]
    have h1 := h.yearI k
    have h2 := h.yearI x.1
    split
    · rename_i e
      subst e
      exact ⟨by omega, .inr hr⟩
    · exact h1
theorem Take_loop {g : Int} {by_ : ByM} {was : MI} : ∀ (l pre : List It) (left : Int) (now year : MI) (out : List It), TInv g left by_ was now year → out.length ≤ pre.length → pre.length + l.length ≤ 1000 →
    iter before_Take_loop1 (g, was, by_, left, pre ++ l, ((pre ++ l).length : Int), (pre.length : Int), now, year, out, (), (), (), ()) =
      some (if (takeS g by_ was left now year out l).2.2 = 0 then .inl ((takeS g by_ was left now year out l).2.1, (takeS g by_ was left now year out l).1, (), (), ()) else .inr (takeS g by_ was left now year out l))
  | [], pre, left, now, year, out, h, ho, hn => by
    refine itR ?_
    unfold before_Take_loop1
    dsimp only
    have c : decide ((pre.length : Int) < (((pre ++ []) : List It).length : Int)) = false := decide_eq_false (by simp)
    rw [c, if_neg (by decide)]
    rfl
  | x :: l, pre, left, now, year, out, h, ho, hn => by
    simp only [List.length_cons] at hn
    have w1 : IntKind.i64.wrap ((pre.length : Int) + 1) = ((pre ++ [x]).length : Int) := by rw [w64' (by omega) (by omega)]; simp
    have c : decide ((pre.length : Int) < (((pre ++ x :: l) : List It).length : Int)) = true := decide_eq_true (by simp; omega)
    by_cases hname : nameB x.1 = true
    · by_cases hright : (rightB x.2 && rightB (getM x.1 was)) = true
      · have hr2 := hright
        simp only [Bool.and_eq_true] at hr2
        obtain ⟨r1, r2⟩ := hr2
        have hyr := year_right h r2
        have hx0 := rightB_iff.1 r1
        have hy0 := rightB_iff.1 hyr
        have hc := taken_range h hx0.1
        have hG := h.gG
        have hlG := h.lG
        -- what is taken, in the code's words
        have hbody : before_Take_loop1 (g, was, by_, left, pre ++ x :: l, ((pre ++ x :: l).length : Int), (pre.length : Int), now, year, out, (), (), (), ()) =
            if rightB (getM x.1 year + takenS g by_ left now year x) = true then
              some (.inl (g, was, by_, left - takenS g by_ left now year x, pre ++ x :: l, ((pre ++ x :: l).length : Int), ((pre ++ [x]).length : Int), putM x.1 (getM x.1 now + takenS g by_ left now year x) now, putM x.1 (getM x.1 year + takenS g by_ left now year x) year,
                if takenS g by_ left now year x > 0 then out ++ [(x.1, takenS g by_ left now year x)] else out, (), (), (), ()))
            else some (.inr (.inr ([], [], 9))) := by
          unfold before_Take_loop1
          dsimp only
          simp only [gPi, gSS, gPb, gPm, gPs, gM, gM2, gAnd, gOr, gAndI, gOrI, gAA, gAO, gOA, gOO, gAAf, gAOf, gOAf, gOOf, gAMf, gOMf, gId]
          simp only [gIn1, gIn2, gIn3, gIn4, gIn5, gIn6, gIn7, gIn8, gId, gIdF, gMb, gMm, gBm, gBb, bs, ms]
          rw [c, if_pos rfl, lAt_mid, bs, name_eq, bs, hname, if_neg (by decide), right_eq', bs, r1, if_neg (by decide), right_eq', fM, r2]
          simp only [bs, Bool.not_true, Bool.false_eq_true, if_false, cents_Least, cents_Greatest]
          refine (bind2 (v := (g, was, by_, left, takenS g by_ left now year x, pre ++ x :: l, ((pre ++ x :: l).length : Int), (pre.length : Int), x.1, x.2, now, year, out, (), (), (), (), (), ())) ?_).trans ?_
          · change (if (getB x.1 by_).2 = true then (before_room (max g 0, (getB x.1 by_).1, getM x.1 now, getM x.1 year)).bind fun x91 => some (g, was, by_, left, min (min x.2 left) x91, pre ++ x :: l, ((pre ++ x :: l).length : Int), (pre.length : Int), x.1, x.2, now, year, out, (), (), (), (), (), ())
              else some (g, was, by_, left, min x.2 left, pre ++ x :: l, ((pre ++ x :: l).length : Int), (pre.length : Int), x.1, x.2, now, year, out, (), (), (), (), (), ())) = _
            unfold takenS
            by_cases hb : (getB x.1 by_).2 = true
            · have hn1 := h.nowI x.1
              have hl0 := h.l0
              rw [if_pos hb, if_pos hb, room_eq ⟨by omega, hG⟩ (h.limI _ hb) ⟨hn1.1, by omega⟩ hy0, bs]
            · rw [if_neg hb, if_neg hb]
          · generalize takenS g by_ left now year x = T at *
            have hn1 := h.nowI x.1
            have hl0 := h.l0
            have hgR := h.gR
            have wy : IntKind.i64.wrap (getM x.1 year + T) = getM x.1 year + T := w64' (by omega) (by omega)
            have wn : IntKind.i64.wrap (getM x.1 now + T) = getM x.1 now + T := w64' (by omega) (by omega)
            have wl : IntKind.i64.wrap (left - T) = left - T := w64' (by omega) (by omega)
            dsimp only
            simp only [right_eq', bs]
            change Option.bind (if (!rightB (IntKind.i64.wrap (getM x.1 year + T))) = true then _ else _) _ = _
            rw [wy]
            cases hq : rightB (getM x.1 year + T) with
            | false => rfl
            | true =>
              rw [if_neg (by decide), if_pos rfl]
              by_cases hp : T > 0
              · rw [decide_eq_true hp, if_pos rfl, if_pos hp, appOk (by omega) (by decide), bs]
                dsimp only
                change some (Sum.inl (g, was, by_, IntKind.i64.wrap (left - T), pre ++ x :: l, ((pre ++ x :: l).length : Int), IntKind.i64.wrap ((pre.length : Int) + 1), putM x.1 (IntKind.i64.wrap (getM x.1 now + T)) now, putM x.1 (IntKind.i64.wrap (getM x.1 year + T)) year, out ++ [(x.1, T)], (), (), (), ())) = _
                rw [wl, w1, wn, wy]
              · rw [decide_eq_false hp, if_neg (by decide), if_neg hp, bs]
                dsimp only
                change some (Sum.inl (g, was, by_, IntKind.i64.wrap (left - T), pre ++ x :: l, ((pre ++ x :: l).length : Int), IntKind.i64.wrap ((pre.length : Int) + 1), putM x.1 (IntKind.i64.wrap (getM x.1 now + T)) now, putM x.1 (IntKind.i64.wrap (getM x.1 year + T)) year, out, (), (), (), ())) = _
                rw [wl, w1, wn, wy]
        by_cases hr9 : rightB (getM x.1 year + takenS g by_ left now year x) = true
        · rw [if_pos hr9] at hbody
          have e := Take_loop (g := g) (by_ := by_) (was := was) l (pre ++ [x]) (left - takenS g by_ left now year x) (putM x.1 (getM x.1 now + takenS g by_ left now year x) now) (putM x.1 (getM x.1 year + takenS g by_ left now year x) year)
            (if takenS g by_ left now year x > 0 then out ++ [(x.1, takenS g by_ left now year x)] else out) (h.step ⟨hc.1, hc.2.1⟩ hr9) (by split <;> simp <;> omega) (by simp; omega)
          rw [List.append_assoc, List.singleton_append] at e
          rw [itL hbody, e]
          have e2 : takeS g by_ was left now year out (x :: l) = takeS g by_ was (left - takenS g by_ left now year x) (putM x.1 (getM x.1 now + takenS g by_ left now year x) now) (putM x.1 (getM x.1 year + takenS g by_ left now year x) year) (if takenS g by_ left now year x > 0 then out ++ [(x.1, takenS g by_ left now year x)] else out) l := by
            rw [takeS, if_neg (by simp [hname]), if_neg (by simp [hright]), if_neg (by simp [hr9])]
          rw [e2]
        · rw [if_neg hr9] at hbody
          rw [itR hbody]
          have e2 : takeS g by_ was left now year out (x :: l) = ([], [], 9) := by
            rw [takeS, if_neg (by simp [hname]), if_neg (by simp [hright]), if_pos (by simpa using hr9)]
          rw [e2]; rfl
      · have e2 : takeS g by_ was left now year out (x :: l) = ([], [], 2) := by
          rw [takeS, if_neg (by simp [hname]), if_pos (by simpa using hright)]
        rw [e2]
        refine itR ?_
        unfold before_Take_loop1
        dsimp only
        simp only [gPi, gSS, gPb, gPm, gPs, gM, gM2, gAnd, gOr, gAndI, gOrI, gAA, gAO, gOA, gOO, gAAf, gAOf, gOAf, gOOf, gAMf, gOMf, gId]
        simp only [gIn1, gIn2, gIn3, gIn4, gIn5, gIn6, gIn7, gIn8, gId, gIdF, gMb, gMm, gBm, gBb, bs, ms]
        rw [c, if_pos rfl, lAt_mid, bs, name_eq, bs, hname, if_neg (by decide), right_eq', bs]
        cases r1 : rightB x.2 with
        | false => rfl
        | true =>
          rw [if_neg (by decide), right_eq', fM]
          cases r2 : rightB (getM x.1 was) with
          | false => rfl
          | true => exact absurd (by rw [r1, r2]; rfl) hright
    · have e2 : takeS g by_ was left now year out (x :: l) = ([], [], 12) := by
        rw [takeS, if_pos (by simpa using hname)]
      rw [e2]
      refine itR ?_
      unfold before_Take_loop1
      dsimp only
      rw [c, if_pos rfl, lAt_mid]
      simp only [bs, ms, name_eq]
      have hf : nameB x.1 = false := by simpa using hname
      rw [hf]
      rfl
end WB
namespace WB
open Go Go.RowKit

def putB (k : List UInt8) (v : Lim) (m : ByM) : ByM := alPut (eqZ Ty.str) k v m
theorem getB_put (k k' : List UInt8) (v : Lim) (m : ByM) : getB k (putB k' v m) = if k = k' then (v, true) else getB k m := by
  unfold getB putB
  exact alGet_put eqS byZ k k' v m
/-- Limits by their codes, and the error's number. -/
def bndS : ByM → List Lim → ByM × Int
  | m, [] => (m, 0)
  | m, x :: l => if nameB x.1 = false then ([], 12) else if (getB x.1 m).2 = true then ([], 7) else if limOk x = false then ([], 2) else bndS (putB x.1 x m) l
theorem bnd_loop : ∀ (l pre : List Lim) (m : ByM), pre.length + l.length ≤ 1000 →
    iter before_bounds_loop1 (pre ++ l, ((pre ++ l).length : Int), (pre.length : Int), m, (), ()) = some (if (bndS m l).2 = 0 then .inl ((bndS m l).1, (), ()) else .inr (bndS m l))
  | [], pre, m, hn => by
    refine itR ?_
    unfold before_bounds_loop1
    dsimp only
    have c : decide ((pre.length : Int) < (((pre ++ []) : List Lim).length : Int)) = false := decide_eq_false (by simp)
    rw [c, if_neg (by decide)]
    rfl
  | x :: l, pre, m, hn => by
    simp only [List.length_cons] at hn
    have w1 : IntKind.i64.wrap ((pre.length : Int) + 1) = ((pre ++ [x]).length : Int) := by rw [w64' (by omega) (by omega)]; simp
    have c : decide ((pre.length : Int) < (((pre ++ x :: l) : List Lim).length : Int)) = true := decide_eq_true (by simp; omega)
    have body : before_bounds_loop1 (pre ++ x :: l, ((pre ++ x :: l).length : Int), (pre.length : Int), m, (), ()) =
        if nameB x.1 = false then some (.inr (.inr ([], 12))) else if (getB x.1 m).2 = true then some (.inr (.inr ([], 7))) else if limOk x = false then some (.inr (.inr ([], 2)))
        else some (.inl (pre ++ x :: l, ((pre ++ x :: l).length : Int), ((pre ++ [x]).length : Int), putB x.1 x m, (), ())) := by
      obtain ⟨x1, x2, x3⟩ := x
      unfold before_bounds_loop1
      dsimp only
      simp only [gPi, gSS, gPb, gPm, gPs, gM, gM2, gAnd, gOr, gAndI, gOrI, gAA, gAO, gOA, gOO, gAAf, gAOf, gOAf, gOOf, gAMf, gOMf, gId]
      rw [c, if_pos rfl, lAt_mid, bs, name_eq, bs]
      cases hname : nameB x1 with
      | false => rfl
      | true =>
        rw [if_neg (show ¬ ((!true) = true) by decide), if_neg (show ¬ (true = false) by decide)]
        dsimp only
        change (if (getB x1 m).2 = true then _ else _) = _
        cases ht : (getB x1 m).2 with
        | true => rfl
        | false =>
          rw [if_neg (show ¬ (false = true) by decide), if_neg (show ¬ (false = true) by decide)]
          unfold limOk
          dsimp only
          simp only [right_eq', bs]
          by_cases h1 : x2 < 0
          · have e1 : decide (0 ≤ x2) = false := decide_eq_false (by omega)
            rw [decide_eq_true h1, if_pos rfl, e1]
            rfl
          · have e1 : decide (0 ≤ x2) = true := decide_eq_true (by omega)
            rw [decide_eq_false h1, if_neg (by decide), e1]
            by_cases h2 : x2 > 1000000
            · have e2 : decide (x2 ≤ 1000000) = false := decide_eq_false (by omega)
              rw [decide_eq_true h2, if_pos rfl, e2]
              rfl
            · have e2 : decide (x2 ≤ 1000000) = true := decide_eq_true (by omega)
              rw [decide_eq_false h2, if_neg (by decide), e2]
              cases rightB x3 with
              | false => rfl
              | true =>
                rw [if_neg (by decide), bs]
                dsimp only
                rw [if_neg (by decide), w1]
                rfl
    by_cases hname : nameB x.1 = false
    · rw [if_pos hname] at body
      rw [itR body]
      have : bndS m (x :: l) = ([], 12) := by rw [bndS, if_pos hname]
      rw [this]; rfl
    · rw [if_neg hname] at body
      by_cases ht : (getB x.1 m).2 = true
      · rw [if_pos ht] at body
        rw [itR body]
        have : bndS m (x :: l) = ([], 7) := by rw [bndS, if_neg hname, if_pos ht]
        rw [this]; rfl
      · rw [if_neg ht] at body
        by_cases hl : limOk x = false
        · rw [if_pos hl] at body
          rw [itR body]
          have : bndS m (x :: l) = ([], 2) := by rw [bndS, if_neg hname, if_neg ht, if_pos hl]
          rw [this]; rfl
        · rw [if_neg hl] at body
          have e := bnd_loop l (pre ++ [x]) (putB x.1 x m) (by simp; omega)
          rw [List.append_assoc, List.singleton_append] at e
          rw [itL body, e]
          have : bndS m (x :: l) = bndS (putB x.1 x m) l := by rw [bndS, if_neg hname, if_neg ht, if_neg hl]
          rw [this]
theorem bnd_lim : ∀ (l : List Lim) (m : ByM), (∀ k, (getB k m).2 = true → limOk (getB k m).1 = true) → (bndS m l).2 = 0 → ∀ k, (getB k (bndS m l).1).2 = true → limOk (getB k (bndS m l).1).1 = true
  | [], m, h, _ => h
  | x :: l, m, h, h0 => by
    unfold bndS at h0 ⊢
    split at h0
    · cases h0
    · rename_i hname
      split at h0
      · cases h0
      · rename_i ht
        split at h0
        · cases h0
        · rename_i hl
          rw [if_neg hname, if_neg ht, if_neg hl]
          refine bnd_lim l _ (fun k => ?_) h0
          rw [getB_put]
          split
          · intro _; simpa using hl
          · exact h k
/-- Limits by their codes, where they are not too many. -/
def bndA (l : List Lim) : ByM × Int := if (l.length : Int) > 64 then ([], 5) else bndS [] l
theorem bndA_lim {l : List Lim} (h : (bndA l).2 = 0) : ∀ k, (getB k (bndA l).1).2 = true → limOk (getB k (bndA l).1).1 = true := by
  unfold bndA at h ⊢
  by_cases hn : (l.length : Int) > 64
  · rw [if_pos hn] at h; cases h
  · rw [if_neg hn] at h ⊢
    exact bnd_lim l [] (fun k hk => by cases hk) h
theorem bounds_eq (l : List Lim) : before_bounds l = some (bndA l) := by
  unfold before_bounds bndA
  dsimp only
  by_cases hn : (l.length : Int) > 64
  · rw [decide_eq_true hn, if_pos rfl, if_pos hn]
  · rw [decide_eq_false hn, if_neg (by decide), if_neg hn]
    have := bnd_loop l [] [] (by simp; omega)
    simp only [List.nil_append, List.length_nil] at this
    rw [show ((0 : Nat) : Int) = 0 from rfl] at this
    rw [this, bs]
    by_cases h0 : (bndS [] l).2 = 0
    · rw [if_pos h0]
      exact congrArg some (Prod.ext rfl h0.symm)
    · rw [if_neg h0]
/-- What Take tells. -/
def takeAll (g : Int) (was : MI) (wanted : List It) (lims : List Lim) : List It × MI × Int :=
  if fitC g = false then ([], [], 2)
  else if (bndA lims).2 ≠ 0 then ([], [], (bndA lims).2)
  else if (wanted.length : Int) > 64 then ([], [], 5)
  else takeS g (bndA lims).1 was (max g 0) [] was [] wanted
theorem start_inv {g : Int} {was : MI} {lims : List Lim} (hg : i64R g) (hf : fitC g = true) (h0 : (bndA lims).2 = 0) : TInv g (max g 0) (bndA lims).1 was [] was := by
  simp only [fitC, Bool.and_eq_true, decide_eq_true_eq] at hf
  exact ⟨hg, by omega, by omega, by omega, fun k => ⟨by rw [getM_nil]; omega, by rw [getM_nil]; omega⟩, fun k => ⟨by rw [getM_nil]; omega, .inl (getM_nil k)⟩, bndA_lim h0⟩
theorem Take_eq {g : Int} {was : MI} {wanted : List It} {lims : List Lim} (hg : i64R g) (hk : ∀ p ∈ was, p.1.length ≤ 9223372036854775807) (hw : was.length ≤ 9223372036854775807) : before_Take (g, was, wanted, lims) = some (takeAll g was wanted lims) := by
  unfold before_Take takeAll
  dsimp only
  rw [Fits_eq, bs]
  cases hf : fitC g with
  | false => rfl
  | true =>
    rw [if_neg (by decide), if_neg (by decide), bounds_eq, bs]
    by_cases h0 : (bndA lims).2 = 0
    · have d0 : ((bndA lims).2 != 0) = false := by simp [h0]
      rw [d0, if_neg (by decide), if_neg (show ¬ ((bndA lims).2 ≠ 0) by simp [h0])]
      by_cases hn : (wanted.length : Int) > 64
      · rw [decide_eq_true hn, if_pos rfl, if_pos hn]
      · rw [decide_eq_false hn, if_neg (by decide), if_neg hn]
        have hm : mcopyP ([] : MI) was = some was := by
          unfold mcopyP
          rw [if_pos]
          exact ⟨rfl, List.all_eq_true.2 fun p hp => decide_eq_true (hk p hp), hw⟩
        unfold cents_Greatest
        dsimp only
        rw [bs, hm, bs]
        have := Take_loop (g := g) (by_ := (bndA lims).1) (was := was) wanted [] (max g 0) [] was [] (start_inv hg hf h0) (by simp) (by simp; omega)
        simp only [List.nil_append, List.length_nil] at this
        rw [show ((0 : Nat) : Int) = 0 from rfl] at this
        rw [this, bs]
        by_cases h1 : (takeS g (bndA lims).1 was (max g 0) [] was [] wanted).2.2 = 0
        · rw [if_pos h1]
          exact congrArg some (Prod.ext rfl (Prod.ext rfl h1.symm))
        · rw [if_neg h1]
    · have d0 : ((bndA lims).2 != 0) = true := by simpa using h0
      rw [d0, if_pos rfl, if_pos h0]
end WB
namespace WB
open Go Go.RowKit

theorem sumI_nonneg : ∀ {m : List It}, (∀ y ∈ m, 0 ≤ y.2) → 0 ≤ sumI m
  | [], _ => by simp [sumI]
  | y :: m, h => by
    have h1 := h y (by simp)
    have h2 := sumI_nonneg (m := m) fun z hz => h z (by simp [hz])
    simp only [sumI, List.map_cons, List.sum_cons] at h2 ⊢
    omega
theorem sumI_cons (x : It) (l : List It) : sumI (x :: l) = x.2 + sumI l := by simp [sumI]
theorem sumI_app (a b : List It) : sumI (a ++ b) = sumI a + sumI b := by simp [sumI]
theorem sumS_pos : ∀ (l : List Int) (s : Int), 0 ≤ s → (∀ x ∈ l, 0 ≤ x) → s + l.sum ≤ 1125899906842624 → sumS s l = (s + l.sum, 0)
  | [], s, _, _, _ => by simp [sumS]
  | x :: l, s, h0, hx, hs => by
    have h1 := hx x (by simp)
    have hl : 0 ≤ l.sum := by
      have : ∀ m : List Int, (∀ y ∈ m, 0 ≤ y) → 0 ≤ m.sum := by
        intro m
        induction m with
        | nil => intro _; simp
        | cons y m ih => intro h; have := h y (by simp); have := ih fun z hz => h z (by simp [hz]); simp only [List.sum_cons]; omega
      exact this l fun y hy => hx y (by simp [hy])
    simp only [List.sum_cons] at hs
    have ha : addS s x = (s + x, 0) := by
      unfold addS fitC
      have e1 : decide (-1125899906842624 ≤ s) = true := decide_eq_true (by omega)
      have e2 : decide (s ≤ 1125899906842624) = true := decide_eq_true (by omega)
      have e3 : decide (-1125899906842624 ≤ x) = true := decide_eq_true (by omega)
      have e4 : decide (x ≤ 1125899906842624) = true := decide_eq_true (by omega)
      have e5 : decide (-1125899906842624 ≤ s + x) = true := decide_eq_true (by omega)
      have e6 : decide (s + x ≤ 1125899906842624) = true := decide_eq_true (by omega)
      rw [e1, e2, e3, e4, e5, e6]
      rfl
    unfold sumS
    rw [ha, if_pos rfl, sumS_pos l (s + x) (by omega) (fun y hy => hx y (by simp [hy])) (by omega)]
    simp only [List.sum_cons]
    rw [Int.add_assoc]

/-- What is taken in all lies within what is left. -/
theorem takeS_some {g : Int} {by_ : ByM} {was : MI} : ∀ (l : List It) (left : Int) (now year : MI) (out : List It), TInv g left by_ was now year → (takeS g by_ was left now year out l).2.2 = 0 →
    (∀ x ∈ l, nameB x.1 = true ∧ rightB x.2 = true) ∧ sumI out ≤ sumI (takeS g by_ was left now year out l).1 ∧ sumI (takeS g by_ was left now year out l).1 ≤ sumI out + left ∧
      (∀ y ∈ (takeS g by_ was left now year out l).1, y ∈ out ∨ 0 < y.2) ∧ (takeS g by_ was left now year out l).1.length ≤ out.length + l.length ∧
      (by_ = [] → sumI (takeS g by_ was left now year out l).1 = sumI out + min left (sumI l))
  | [], left, now, year, out, h, h0 => by
    have := h.l0
    refine ⟨(fun _ h => by cases h), Int.le_refl _, by simp only [takeS]; omega, fun y hy => .inl hy, by simp [takeS], fun _ => ?_⟩
    simp only [takeS, sumI, List.map_nil, List.sum_nil]; omega
  | x :: l, left, now, year, out, h, h0 => by
    unfold takeS at h0 ⊢
    split at h0
    · cases h0
    · rename_i hname
      split at h0
      · cases h0
      · rename_i hright
        split at h0
        · cases h0
        · rename_i hr9
          rw [if_neg hname, if_neg hright, if_neg hr9]
          have hr := hright
          simp only [Bool.not_eq_false, Bool.and_eq_true] at hr hr9 hname
          have hc := taken_range h (rightB_iff.1 hr.1).1
          have st := h.step ⟨hc.1, hc.2.1⟩ hr9
          obtain ⟨q1, q2, q3, q4, q5, q6⟩ := takeS_some l _ _ _ _ st h0
          have ho : sumI (if takenS g by_ left now year x > 0 then out ++ [(x.1, takenS g by_ left now year x)] else out) = sumI out + takenS g by_ left now year x := by
            split
            · rw [sumI_app]; simp [sumI]
            · omega
          have hol : (if takenS g by_ left now year x > 0 then out ++ [(x.1, takenS g by_ left now year x)] else out).length ≤ out.length + 1 := by split <;> simp
          rw [ho] at q2 q3
          refine ⟨?_, by omega, by omega, ?_, by simp only [List.length_cons]; omega, fun hb => ?_⟩
          · intro y hy
            rcases List.mem_cons.1 hy with rfl | hy
            · exact ⟨hname, hr.1⟩
            · exact q1 y hy
          · intro y hy
            rcases q4 y hy with hy | hy
            · split at hy
              · rename_i hp
                rcases List.mem_append.1 hy with hy | hy
                · exact .inl hy
                · rw [List.mem_singleton.1 hy]; exact .inr hp
              · exact .inl hy
            · exact .inr hy
          · rw [q6 hb, ho, sumI_cons]
            have hl : 0 ≤ sumI l := sumI_nonneg fun y hy => (rightB_iff.1 (q1 y hy).2).1
            have hx := (rightB_iff.1 hr.1).1
            have hl0 := h.l0
            have e : takenS g by_ left now year x = min x.2 left := by
              subst hb
              unfold takenS
              rw [if_neg (show ¬ (getB x.1 []).2 = true from fun h => by cases h)]
            rw [e]
            omega
theorem takeAll_some {g : Int} {was : MI} {wanted : List It} {lims : List Lim} (hg : i64R g) (h0 : (takeAll g was wanted lims).2.2 = 0) :
    fitC g = true ∧ wanted.length ≤ 64 ∧ (∀ x ∈ wanted, nameB x.1 = true ∧ rightB x.2 = true) ∧ 0 ≤ sumI (takeAll g was wanted lims).1 ∧ sumI (takeAll g was wanted lims).1 ≤ max g 0 ∧ (∀ y ∈ (takeAll g was wanted lims).1, 0 < y.2) ∧ (takeAll g was wanted lims).1.length ≤ 64 ∧
      (lims = [] → sumI (takeAll g was wanted lims).1 = min (max g 0) (sumI wanted)) := by
  unfold takeAll at h0 ⊢
  by_cases hf : fitC g = false
  · rw [if_pos hf] at h0; cases h0
  · rw [if_neg hf] at h0 ⊢
    by_cases hb : (bndA lims).2 ≠ 0
    · rw [if_pos hb] at h0; exact absurd h0 hb
    · rw [if_neg hb] at h0 ⊢
      by_cases hn : (wanted.length : Int) > 64
      · rw [if_pos hn] at h0; cases h0
      · rw [if_neg hn] at h0 ⊢
        simp only [Bool.not_eq_false] at hf
        rw [ne_eq, Decidable.not_not] at hb
        obtain ⟨q1, q2, q3, q4, q5, q6⟩ := takeS_some wanted _ _ _ _ (start_inv hg hf hb) h0
        have e0 : sumI ([] : List It) = 0 := rfl
        rw [e0] at q2 q3 q6
        refine ⟨hf, by omega, q1, q2, by omega, fun y hy => (q4 y hy).resolve_left (by simp), by simp at q5; omega, fun hl => ?_⟩
        subst hl
        rw [q6 rfl, Int.zero_add]
theorem bSum_pos {l : List It} (hn : l.length ≤ 64) (hp : ∀ y ∈ l, 0 < y.2) (hs : sumI l ≤ 1125899906842624) : before_Sum l = some (sumI l, 0) := by
  rw [bSum_eq (by omega), sumS_pos _ 0 (by omega) (fun x hx => by
    obtain ⟨y, hy, rfl⟩ := List.mem_map.1 hx
    have := hp y hy
    omega) (by simpa [sumI] using hs)]
  simp [sumI]
def sumMax (l : List It) : Int := (l.map fun x => max 0 x.2).sum
theorem all_loop {g : Int} : ∀ (l pre : List It) (s : Int), (∀ x ∈ l, x.2 ≤ 1099511627776) → 0 ≤ s → s ≤ 1099511627776 * pre.length → pre.length + l.length ≤ 60 →
    iter law25_BeforeAll_loop1 (g, pre ++ l, s, (pre.length : Int), ()) = some (.inl (g, pre ++ l, s + sumMax l, ()))
  | [], pre, s, hx, h1, h2, hn => by
    refine itR ?_
    unfold law25_BeforeAll_loop1
    dsimp only
    have c : decide ((pre.length : Int) < (((pre ++ []) : List It).length : Int)) = false := decide_eq_false (by simp)
    rw [c, if_neg (by decide)]
    simp [sumMax]
  | x :: l, pre, s, hx, h1, h2, hn => by
    simp only [List.length_cons] at hn
    have w1 : IntKind.i64.wrap ((pre.length : Int) + 1) = ((pre ++ [x]).length : Int) := by rw [w64' (by omega) (by omega)]; simp
    have c : decide ((pre.length : Int) < (((pre ++ x :: l) : List It).length : Int)) = true := decide_eq_true (by simp; omega)
    have hx0 := hx x (by simp)
    have w2 : IntKind.i64.wrap (s + max 0 x.2) = s + max 0 x.2 := w64' (by omega) (by omega)
    have e := all_loop (g := g) l (pre ++ [x]) (s + max 0 x.2) (fun y hy => hx y (by simp [hy])) (by omega) (by simp; omega) (by simp; omega)
    rw [List.append_assoc, List.singleton_append] at e
    refine (itL (s' := (g, pre ++ x :: l, s + max 0 x.2, ((pre ++ [x]).length : Int), ())) ?_).trans (e.trans ?_)
    · unfold law25_BeforeAll_loop1
      dsimp only
      simp only [gPi, gSS, gPb, gPm, gPs, gM, gM2, gAnd, gOr, gAndI, gOrI, gAA, gAO, gOA, gOO, gAAf, gAOf, gOAf, gOOf, gAMf, gOMf, gId]
      try simp only [gIn1, gIn2, gIn3, gIn4, gIn5, gIn6, gIn7, gIn8, gId, gIdF, gMb, gMm, gBm, gBb, bs, ms]
      rw [c, if_pos rfl, lAt_mid, bs, decide_eq_false (show ¬ x.2 > 1099511627776 by omega), if_neg (by decide)]
      simp only [lAt_mid, bs, ms, w1, w2]
    · simp only [sumMax, List.map_cons, List.sum_cons]
      rw [Int.add_assoc]
theorem all_loop_big {g : Int} : ∀ (l pre : List It) (s : Int), (∃ x ∈ l, x.2 > 1099511627776) → 0 ≤ s → s ≤ 1099511627776 * pre.length → pre.length + l.length ≤ 60 →
    iter law25_BeforeAll_loop1 (g, pre ++ l, s, (pre.length : Int), ()) = some (.inr true)
  | [], pre, s, hx, h1, h2, hn => by obtain ⟨x, hx, _⟩ := hx; cases hx
  | x :: l, pre, s, hx, h1, h2, hn => by
    simp only [List.length_cons] at hn
    have w1 : IntKind.i64.wrap ((pre.length : Int) + 1) = ((pre ++ [x]).length : Int) := by rw [w64' (by omega) (by omega)]; simp
    have c : decide ((pre.length : Int) < (((pre ++ x :: l) : List It).length : Int)) = true := decide_eq_true (by simp; omega)
    by_cases hb : x.2 > 1099511627776
    · refine itR ?_
      unfold law25_BeforeAll_loop1
      dsimp only
      simp only [gPi, gSS, gPb, gPm, gPs, gM, gM2, gAnd, gOr, gAndI, gOrI, gAA, gAO, gOA, gOO, gAAf, gAOf, gOAf, gOOf, gAMf, gOMf, gId]
      try simp only [gIn1, gIn2, gIn3, gIn4, gIn5, gIn6, gIn7, gIn8, gId, gIdF, gMb, gMm, gBm, gBb, bs, ms]
      rw [c, if_pos rfl, lAt_mid, bs, decide_eq_true hb, if_pos rfl, awake_eq]
      rfl
    · have hx' : ∃ y ∈ l, y.2 > 1099511627776 := by
        obtain ⟨y, hy, hy2⟩ := hx
        rcases List.mem_cons.1 hy with rfl | hy
        · exact absurd hy2 hb
        · exact ⟨y, hy, hy2⟩
      have w2 : IntKind.i64.wrap (s + max 0 x.2) = s + max 0 x.2 := w64' (by omega) (by omega)
      have e := all_loop_big (g := g) l (pre ++ [x]) (s + max 0 x.2) hx' (by omega) (by simp; omega) (by simp; omega)
      rw [List.append_assoc, List.singleton_append] at e
      refine (itL (s' := (g, pre ++ x :: l, s + max 0 x.2, ((pre ++ [x]).length : Int), ())) ?_).trans e
      unfold law25_BeforeAll_loop1
      dsimp only
      simp only [gPi, gSS, gPb, gPm, gPs, gM, gM2, gAnd, gOr, gAndI, gOrI, gAA, gAO, gOA, gOO, gAAf, gAOf, gOAf, gOOf, gAMf, gOMf, gId]
      try simp only [gIn1, gIn2, gIn3, gIn4, gIn5, gIn6, gIn7, gIn8, gId, gIdF, gMb, gMm, gBm, gBb, bs, ms]
      rw [c, if_pos rfl, lAt_mid, bs, decide_eq_false hb, if_neg (by decide)]
      simp only [lAt_mid, bs, ms, w1, w2]
theorem law_BeforeAll {g : Int} {l : List It} (hg : i64R g) : law25_BeforeAll (g, l) = some true := by
  unfold law25_BeforeAll
  dsimp only
  simp only [gPi, gSS, gPb, gPm, gPs, gM, gM2, gAnd, gOr, gAndI, gOrI, gAA, gAO, gOA, gOO, gAAf, gAOf, gOAf, gOOf, gAMf, gOMf, gId]
  simp only [gIn1, gIn2, gIn3, gIn4, gIn5, gIn6, gIn7, gIn8, gId, gIdF, gMb, gMm, gBm, gBb, bs, ms]
  by_cases hn : (l.length : Int) > 60
  · rw [decide_eq_true hn, if_pos rfl]; exact awake_eq
  · rw [decide_eq_false hn, if_neg (by decide)]
    by_cases hb : ∃ x ∈ l, x.2 > 1099511627776
    · have := all_loop_big (g := g) l [] 0 hb (by omega) (by simp) (by simp; omega)
      simp only [List.nil_append, List.length_nil] at this
      rw [show ((0 : Nat) : Int) = 0 from rfl] at this
      rw [this]
      rfl
    · have hle : ∀ x ∈ l, x.2 ≤ 1099511627776 := fun x hx => by
        apply Decidable.byContradiction
        intro h
        exact hb ⟨x, hx, by omega⟩
      have := all_loop (g := g) l [] 0 hle (by omega) (by simp) (by simp; omega)
      simp only [List.nil_append, List.length_nil] at this
      rw [show ((0 : Nat) : Int) = 0 from rfl] at this
      rw [this, bs]
      dsimp only
      rw [Take_eq hg (fun p hp => by cases hp) (by simp), bs]
      by_cases h0 : (takeAll g [] l []).2.2 = 0
      · obtain ⟨q1, q2, q3, q4, q5, q6, q7, q8⟩ := takeAll_some hg h0
        have d : ((takeAll g [] l []).2.2 != 0) = false := by simp [h0]
        simp only [fitC, Bool.and_eq_true, decide_eq_true_eq] at q1
        rw [d, if_neg (by decide), bSum_pos q7 q6 (by omega), bs]
        dsimp only
        rw [if_pos (show ((0 : Int) == 0) = true from rfl), q8 rfl]
        have es : sumMax l = sumI l := by
          unfold sumMax sumI
          congr 1
          apply List.map_congr_left
          intro x hx
          have := (rightB_iff.1 (q3 x hx).2).1
          omega
        have e2 : (min (max g 0) (sumI l) == min (max 0 g) (0 + sumMax l)) = true := by
          rw [es, beq_iff_eq]; omega
        rw [e2, bs, if_pos rfl, awake_eq]
      · have d : ((takeAll g [] l []).2.2 != 0) = true := by simpa using h0
        rw [d, if_pos rfl, awake_eq]
end WB
namespace WB
open Go Go.RowKit

theorem half_eq {n d : Nat} (hd : 0 < d) : sizeS false n d 1 = (2 * n + d) / (2 * d) := by
  have h1 := Nat.div_add_mod n d
  have h2 := Nat.mod_lt n hd
  unfold sizeS upS
  simp only [show ¬ ((1 : Int) = 4) by decide, show ¬ ((1 : Int) = 3) by decide, show ¬ ((1 : Int) = 2) by decide, if_false, if_true, decide_eq_true_eq]
  generalize hq : n / d = q at *
  generalize hr : n % d = r at *
  have e1 : q * (2 * d) = 2 * (d * q) := by rw [Nat.mul_left_comm, Nat.mul_comm q d]
  have e2 : (q + 1) * (2 * d) = 2 * (d * q) + 2 * d := by rw [Nat.add_mul, e1]; omega
  have e3 : (q + 1 + 1) * (2 * d) = 2 * (d * q) + 2 * d + 2 * d := by rw [Nat.add_mul, e2]; omega
  by_cases h : d - r ≤ r
  · rw [if_pos h]
    exact (Nat.div_eq_of_lt_le (by rw [e2]; omega) (by rw [e3]; omega)).symm
  · rw [if_neg h]
    exact (Nat.div_eq_of_lt_le (by rw [Nat.add_zero, e1]; omega) (by rw [Nat.add_zero, e2]; omega)).symm
/-- So many millionths of an amount, to the nearest. -/
def partN (g m : Nat) : Nat := (2 * (g * m) + 1000000) / 2000000
theorem partN_le {g m : Nat} (h : m ≤ 1000000) : partN g m ≤ g := by
  unfold partN
  have := Nat.mul_le_mul_left g h
  omega
theorem partN_mono {g m m' : Nat} (h : m ≤ m') : partN g m ≤ partN g m' := by
  unfold partN
  have := Nat.mul_le_mul_left g h
  omega
theorem ofS_part {g m : Int} (hg : 0 ≤ g ∧ g ≤ 1125899906842624) (hm : 0 ≤ m ∧ m ≤ 1000000) : (ofS g m 1).1 = (partN g.toNat m.toNat : Int) := by
  have hle := partN_le (g := g.toNat) (m := m.toNat) (by omega)
  have hn : negS g m = false := by
    unfold negS
    rw [decide_eq_false (show ¬ g < 0 by omega), decide_eq_false (show ¬ m < 0 by omega)]
    rfl
  have hs : sizeS (negS g m) (g.natAbs * m.natAbs) (1000000 : Int).toNat 1 = partN g.toNat m.toNat := by
    rw [hn, show (1000000 : Int).toNat = 1000000 from rfl, half_eq (by decide), show g.natAbs = g.toNat by omega, show m.natAbs = m.toNat by omega]
    rfl
  unfold ofS
  rw [if_pos ⟨by omega, by omega⟩]
  unfold partS
  rw [if_neg (show ¬ ¬ (-1125899906842624 ≤ g ∧ g ≤ 1125899906842624) by omega), if_neg (show ¬ ((1000000 : Int) = 0) by decide), if_neg (show ¬ ((1000000 : Int) < 0) by decide), if_neg (show ¬ ((1 : Int) < 0 ∨ 4 < (1 : Int)) by decide)]
  rw [hs, hn, if_neg (show ¬ (1125899906842624 < partN g.toNat m.toNat) by omega)]
  rfl
theorem room_mono {g : Int} {x : List UInt8} {m m' : Int} (hg : 0 ≤ g ∧ g ≤ 1125899906842624) (h0 : 0 ≤ m) (h : m ≤ m') (h1 : m' ≤ 1000000) :
    roomS g (x, m, 0) 0 0 ≤ roomS g (x, m', 0) 0 0 ∧ roomS g (x, m', 0) 0 0 ≤ g ∧ 0 ≤ roomS g (x, m, 0) 0 0 := by
  have hp := partN_mono (g := g.toNat) (m := m.toNat) (m' := m'.toNat) (by omega)
  unfold roomS
  simp only [ne_eq, not_true_eq_false, if_false]
  rw [ofS_part hg ⟨h0, by omega⟩, ofS_part hg ⟨by omega, h1⟩]
  by_cases e1 : m = 1000000
  · by_cases e2 : m' = 1000000
    · rw [if_neg (by simp [e1]), if_neg (by simp [e2])]; omega
    · omega
  · rw [if_pos e1]
    by_cases e2 : m' = 1000000
    · rw [if_neg (by simp [e2])]; omega
    · rw [if_pos e2]; omega

def xS : List UInt8 := [120]
def limsS : Option Int → List Lim
  | none => []
  | some k => [(xS, k, 0)]
def limsM : Option Int → ByM
  | none => []
  | some k => [(xS, xS, k, 0)]
/-- What is taken of the only one that is wanted. -/
def onlyS (g w : Int) : Option Int → Int
  | none => min w (max g 0)
  | some m => min (min w (max g 0)) (roomS (max g 0) (xS, m, 0) 0 0)
theorem nilSum : before_Sum [] = some (0, 0) := bSum_eq (l := []) (by decide)
theorem one_take {g w : Int} {m : Option Int} (hg : i64R g) (hm : ∀ k, m = some k → 0 ≤ k ∧ k ≤ 1000000) :
    (takeAll g [] [(xS, w)] (limsS m)).2.2 = (if (fitC g && rightB w) = true then 0 else 2) ∧ before_Sum (takeAll g [] [(xS, w)] (limsS m)).1 = some (if (fitC g && rightB w) = true then onlyS g w m else 0, 0) := by
  have hb : (bndA (limsS m)).2 = 0 ∧ (bndA (limsS m)).1 = (limsM m) := by
    cases m with
    | none => exact ⟨rfl, rfl⟩
    | some k =>
      obtain ⟨k1, k2⟩ := hm k rfl
      have hl : limOk (xS, k, 0) = true := by
        unfold limOk
        dsimp only
        rw [decide_eq_true k1, decide_eq_true k2]
        rfl
      have : bndA [(xS, k, 0)] = ([(xS, xS, k, 0)], 0) := by
        unfold bndA
        rw [if_neg (by simp)]
        unfold bndS
        rw [if_neg (show ¬ (nameB xS = false) by decide), if_neg (show ¬ ((getB xS []).2 = true) from fun h => by cases h), if_neg (by rw [hl]; decide)]
        rfl
      exact ⟨by rw [limsS, this], by rw [limsS, this]; rfl⟩
  cases hf : fitC g with
  | false =>
    have : takeAll g [] [(xS, w)] (limsS m) = ([], [], 2) := by
      unfold takeAll
      rw [if_pos hf]
    rw [this]
    exact ⟨rfl, nilSum⟩
  | true =>
    have inv := start_inv (was := []) hg hf hb.1
    have e1 : takeAll g [] [(xS, w)] (limsS m) = takeS g (bndA (limsS m)).1 [] (max g 0) [] [] [] [(xS, w)] := by
      unfold takeAll
      rw [if_neg (by rw [hf]; decide), if_neg (by rw [hb.1]; decide), if_neg (show ¬ ((([(xS, w)] : List It).length : Int) > 64) by simp)]
    rw [e1]
    cases hw : rightB w with
    | false =>
      have e2 : takeS g (bndA (limsS m)).1 [] (max g 0) [] [] [] [(xS, w)] = ([], [], 2) := by
        rw [takeS, if_neg (show ¬ (nameB xS = false) by decide), if_pos (by rw [hw]; rfl)]
      rw [e2]
      exact ⟨rfl, nilSum⟩
    | true =>
      have hw2 := rightB_iff.1 hw
      have hc := taken_range inv (x := (xS, w)) hw2.1
      have ht : takenS g (bndA (limsS m)).1 (max g 0) [] [] (xS, w) = onlyS g w m := by
        rw [hb.2]
        cases m with
        | none => rfl
        | some k => rfl
      rw [ht] at hc
      simp only at hc
      have e2 : takeS g (bndA (limsS m)).1 [] (max g 0) [] [] [] [(xS, w)] =
          (if onlyS g w m > 0 then [(xS, onlyS g w m)] else [], putM xS (getM xS [] + onlyS g w m) [], 0) := by
        rw [takeS, if_neg (show ¬ (nameB xS = false) by decide), if_neg (by rw [show rightB (xS, w).2 = true from hw]; show ¬ ((true && rightB (getM xS [])) = false); decide), ht, if_neg (by
          have : rightB (getM xS [] + onlyS g w m) = true := rightB_iff.2 ⟨by rw [getM_nil]; omega, by rw [getM_nil]; omega⟩
          simp only
          rw [this]; decide), takeS]
        rfl
      rw [e2]
      refine ⟨rfl, ?_⟩
      simp only [Bool.and_self, if_true]
      by_cases hp : onlyS g w m > 0
      · rw [if_pos hp, bSum_pos (by simp) (by intro y hy; rw [List.mem_singleton.1 hy]; exact hp) (by simp [sumI]; omega)]
        simp [sumI]
      · rw [if_neg hp, show onlyS g w m = 0 by omega]
        exact nilSum
theorem law_BeforeLess {g w a b : Int} (hg : i64R g) (ha : 0 ≤ a ∧ a ≤ 4294967295) (hb : 0 ≤ b ∧ b ≤ 4294967295) : law25_BeforeLess (g, w, a, b) = some true := by
  unfold law25_BeforeLess
  dsimp only
  simp only [gPi, gSS, gPb, gPm, gPs, gM, gM2, gAnd, gOr, gAndI, gOrI, gAA, gAO, gOA, gOO, gAAf, gAOf, gOAf, gOOf, gAMf, gOMf, gId]
  simp only [gIn1, gIn2, gIn3, gIn4, gIn5, gIn6, gIn7, gIn8, gId, gIdF, gMb, gMm, gBm, gBb, bs, ms]
  rw [if_pos (by decide), show ([a, b] : List Int)[Int.toNat 0]? = some a from rfl, bs, if_neg (by decide), bs, if_pos (by decide), show ([a, b] : List Int)[Int.toNat 1]? = some b from rfl, bs, if_neg (by decide), bs]
  have a1 : 0 ≤ a.tmod 1000001 ∧ a.tmod 1000001 ≤ 1000000 := by
    rw [Int.tmod_eq_emod_of_nonneg ha.1]; omega
  have b1 : 0 ≤ b.tmod 1000001 ∧ b.tmod 1000001 ≤ 1000000 := by
    rw [Int.tmod_eq_emod_of_nonneg hb.1]; omega
  rw [w64' (n := a.tmod 1000001) (by omega) (by omega), w64' (n := b.tmod 1000001) (by omega) (by omega)]
  generalize a.tmod 1000001 = p at *
  generalize b.tmod 1000001 = q at *
  rw [Take_eq hg (fun p hp => by cases hp) (by simp), bs, Take_eq hg (fun p hp => by cases hp) (by simp), bs, Take_eq hg (fun p hp => by cases hp) (by simp), bs]
  obtain ⟨e1, s1⟩ := one_take (w := w) (m := some (min p q)) hg (fun k hk => by cases hk; omega)
  obtain ⟨e2, s2⟩ := one_take (w := w) (m := some (max p q)) hg (fun k hk => by cases hk; omega)
  obtain ⟨e3, s3⟩ := one_take (w := w) (m := none) hg (fun k hk => by cases hk)
  simp only [limsS] at e1 e2 e3 s1 s2 s3
  change (if ((takeAll g [] [(xS, w)] [(xS, min p q, 0)]).2.2 != (takeAll g [] [(xS, w)] [(xS, max p q, 0)]).2.2) = true then _ else some ((takeAll g [] [(xS, w)] [(xS, max p q, 0)]).2.2 != (takeAll g [] [(xS, w)] []).2.2)).bind _ = _
  rw [e1, e2, e3]
  have d : ((if (fitC g && rightB w) = true then (0 : Int) else 2) != (if (fitC g && rightB w) = true then (0 : Int) else 2)) = false := by simp
  rw [d, if_neg (by decide), bs, if_neg (by decide)]
  change (before_Sum (takeAll g [] [(xS, w)] [(xS, min p q, 0)]).1).bind _ = _
  rw [s1, bs]
  change (before_Sum (takeAll g [] [(xS, w)] [(xS, max p q, 0)]).1).bind _ = _
  rw [s2, bs]
  change (before_Sum (takeAll g [] [(xS, w)] []).1).bind _ = _
  rw [s3, bs]
  dsimp only
  have fin : (if (fitC g && rightB w) = true then onlyS g w (some (min p q)) else 0) ≤ (if (fitC g && rightB w) = true then onlyS g w (some (max p q)) else 0) ∧
      (if (fitC g && rightB w) = true then onlyS g w (some (max p q)) else 0) ≤ (if (fitC g && rightB w) = true then onlyS g w none else 0) ∧
      (if (fitC g && rightB w) = true then onlyS g w none else 0) ≤ max 0 g := by
    by_cases h : (fitC g && rightB w) = true
    · rw [if_pos h, if_pos h, if_pos h]
      simp only [Bool.and_eq_true] at h
      have hf := h.1
      simp only [fitC, Bool.and_eq_true, decide_eq_true_eq] at hf
      obtain ⟨r1, r2, r3⟩ := room_mono (g := max g 0) (x := xS) (m := min p q) (m' := max p q) ⟨by omega, by omega⟩ (by omega) (by omega) (by omega)
      unfold onlyS
      dsimp only
      omega
    · rw [if_neg h, if_neg h, if_neg h]; omega
  rw [decide_eq_true fin.1, if_pos rfl, decide_eq_true fin.2.1, bs, if_pos rfl, decide_eq_true fin.2.2, bs, if_pos rfl, awake_eq]
end WB
namespace WB
open Go Go.RowKit

/-- What is taken so far of the one code. -/
def oneM (m : MI) (s : Int) : Prop := (m = [] ∧ s = 0) ∨ m = [(xS, s)]
theorem oneM_get {m : MI} {s : Int} (h : oneM m s) : getM xS m = s := by
  rcases h with ⟨rfl, rfl⟩ | rfl
  · rfl
  · rfl
theorem oneM_put {m : MI} {s v : Int} (h : oneM m s) : oneM (putM xS v m) v := by
  rcases h with ⟨rfl, rfl⟩ | rfl
  · exact .inr rfl
  · exact .inr rfl
theorem year_take {g w y s : Int} {m : MI} (hg : 0 ≤ g ∧ g ≤ 4294967295) (hw : 0 ≤ w ∧ w ≤ 4294967295) (hy : 0 ≤ y ∧ y ≤ 4294967295) (hs : 0 ≤ s ∧ s ≤ 4294967295 * 60) (hm : oneM m s) :
    ∃ c, c = min (min w g) (if y ≠ 0 then max (min g (y - s)) 0 else g) ∧
      before_Take (g, m, [(xS, w)], [(xS, 1000000, y)]) = some (if c > 0 then [(xS, c)] else [], putM xS (s + c) m, 0) := by
  refine ⟨_, rfl, ?_⟩
  rw [Take_eq ⟨by omega, by omega⟩ (by
    rcases hm with ⟨rfl, _⟩ | rfl
    · intro p hp; cases hp
    · intro p hp; rw [List.mem_singleton.1 hp]; show (1 : Nat) ≤ _; omega) (by rcases hm with ⟨rfl, _⟩ | rfl <;> simp)]
  have hf : fitC g = true := by
    unfold fitC
    rw [decide_eq_true (show -1125899906842624 ≤ g by omega), decide_eq_true (show g ≤ 1125899906842624 by omega)]; rfl
  have hl : limOk (xS, 1000000, y) = true := by
    unfold limOk
    dsimp only
    rw [show rightB y = true from rightB_iff.2 ⟨by omega, by omega⟩]
    rfl
  have hb : bndA [(xS, 1000000, y)] = ([(xS, xS, 1000000, y)], 0) := by
    unfold bndA
    rw [if_neg (by simp)]
    unfold bndS
    rw [if_neg (show ¬ (nameB xS = false) by decide), if_neg (show ¬ ((getB xS []).2 = true) from fun h => by cases h), if_neg (by rw [hl]; decide)]
    rfl
  have hgs := oneM_get hm
  have ht : takenS g [(xS, xS, 1000000, y)] (max g 0) [] m (xS, w) = min (min w g) (if y ≠ 0 then max (min g (y - s)) 0 else g) := by
    have e : takenS g [(xS, xS, 1000000, y)] (max g 0) [] m (xS, w) = min (min w (max g 0)) (roomS (max g 0) (xS, 1000000, y) 0 (getM xS m)) := rfl
    rw [e, hgs]
    unfold roomS
    dsimp only
    rw [if_neg (show ¬ ((1000000 : Int) ≠ 1000000) by decide)]
    split <;> omega
  unfold takeAll
  rw [if_neg (by rw [hf]; decide), hb, if_neg (show ¬ ((([(xS, xS, 1000000, y)], 0) : ByM × Int).2 ≠ 0) by simp), if_neg (show ¬ ((([(xS, w)] : List It).length : Int) > 64) by simp)]
  dsimp only
  rw [takeS, if_neg (show ¬ (nameB xS = false) by decide), if_neg (by
    rw [show rightB (xS, w).2 = true from rightB_iff.2 ⟨by simp only; omega, by simp only; omega⟩]
    rw [show getM (xS, w).1 m = s from hgs, show rightB s = true from rightB_iff.2 ⟨by omega, by omega⟩]; decide), ht]
  rw [show getM (xS, w).1 m = s from hgs]
  generalize hc : min (min w g) (if y ≠ 0 then max (min g (y - s)) 0 else g) = c
  have hcr : 0 ≤ c ∧ c ≤ g := by
    rw [← hc]
    split <;> omega
  rw [if_neg (by rw [show rightB (s + c) = true from rightB_iff.2 ⟨by omega, by omega⟩]; decide), takeS]
  rfl
theorem ysum_loop {G : List Int} {w y room i : Int} {m : MI} {s c : Int} (hs : i64R s) (hsc : i64R (s + c)) (hc : 0 ≤ c) :
    iter law25_BeforeYears_loop1 (G, w, y, m, s, room, i, (if c > 0 then [(xS, c)] else []), 0, ()) = some (G, w, y, m, s + c, room, i, ()) := by
  by_cases hp : c > 0
  · rw [if_pos hp]
    rw [itL (s' := (G, w, y, m, s + c, room, i, [(xS, c)], 1, ())), itR (t := (G, w, y, m, s + c, room, i, ()))]
    · unfold law25_BeforeYears_loop1
      dsimp only
      rw [if_neg (by simp)]
    · unfold law25_BeforeYears_loop1
      dsimp only
      rw [if_pos (by simp), show lAt [(xS, c)] 0 = some (xS, c) from rfl]
      simp only [bs, ms]
      unfold i64R at hsc
      rw [w64' (n := s + c) hsc.1 hsc.2]
      rfl
  · rw [if_neg hp]
    have : c = 0 := by omega
    subst this
    rw [itR (t := (G, w, y, m, s + 0, room, i, ()))]
    unfold law25_BeforeYears_loop1
    dsimp only
    rw [if_neg (by simp), Int.add_zero]
theorem years_loop {w y : Int} (hw : 0 ≤ w ∧ w ≤ 4294967295) (hy : 0 ≤ y ∧ y ≤ 4294967295) : ∀ (l pre : List Int) (m : MI) (s room : Int), (∀ g ∈ l, 0 ≤ g ∧ g ≤ 4294967295) → oneM m s → 0 ≤ room → room ≤ 4294967295 * pre.length →
    s = (if y > 0 then min room y else room) → pre.length + l.length ≤ 60 → iter law25_BeforeYears_loop2 (pre ++ l, w, y, m, s, room, (pre.length : Int), ()) = some (.inl ())
  | [], pre, m, s, room, hg, hm, h0, h1, h2, hn => by
    refine itR ?_
    unfold law25_BeforeYears_loop2
    dsimp only
    have c : decide ((pre.length : Int) < (((pre ++ []) : List Int).length : Int)) = false := decide_eq_false (by simp)
    rw [c, if_neg (by decide)]
  | g :: l, pre, m, s, room, hg, hm, h0, h1, h2, hn => by
    simp only [List.length_cons] at hn
    have w1 : IntKind.i64.wrap ((pre.length : Int) + 1) = ((pre ++ [g]).length : Int) := by rw [w64' (by omega) (by omega)]; simp
    have c : decide ((pre.length : Int) < (((pre ++ g :: l) : List Int).length : Int)) = true := decide_eq_true (by simp; omega)
    have hg0 := hg g (by simp)
    have hs : 0 ≤ s ∧ s ≤ 4294967295 * 60 := by rw [h2]; split <;> omega
    obtain ⟨t, ht, hT⟩ := year_take hg0 hw hy hs hm
    have ht0 : 0 ≤ t ∧ t ≤ g := by rw [ht]; split <;> omega
    have hnew : s + t = (if y > 0 then min (room + min g w) y else room + min g w) := by
      rw [ht, h2]
      by_cases hp : y > 0
      · rw [if_pos hp, if_pos hp, if_pos (by omega)]; omega
      · rw [if_neg hp, if_neg hp, if_neg (by omega)]; omega
    have e := years_loop hw hy l (pre ++ [g]) (putM xS (s + t) m) (s + t) (room + min g w) (fun x hx => hg x (by simp [hx])) (oneM_put hm) (by omega) (by simp; omega) hnew (by simp; omega)
    rw [List.append_assoc, List.singleton_append] at e
    refine (itL (s' := (pre ++ g :: l, w, y, putM xS (s + t) m, s + t, room + min g w, ((pre ++ [g]).length : Int), ())) ?_).trans e
    unfold law25_BeforeYears_loop2
    dsimp only
    simp only [gPi, gSS, gPb, gPm, gPs, gM, gM2, gAnd, gOr, gAndI, gOrI, gAA, gAO, gOA, gOO, gAAf, gAOf, gOAf, gOOf, gAMf, gOMf, gId]
    try simp only [gIn1, gIn2, gIn3, gIn4, gIn5, gIn6, gIn7, gIn8, gId, gIdF, gMb, gMm, gBm, gBb, bs, ms]
    rw [c, if_pos rfl, lAt_mid, bs]
    rw [w64' (n := g) (by omega) (by omega), w64' (n := w) (by omega) (by omega), w64' (n := y) (by omega) (by omega)]
    change (before_Take (g, m, [(xS, w)], [(xS, 1000000, y)])).bind _ = _
    rw [hT, bs]
    dsimp only
    rw [if_neg (by decide), ysum_loop ⟨by omega, by omega⟩ ⟨by omega, by omega⟩ ht0.1, bs]
    dsimp only
    rw [lAt_mid, bs, w64' (n := g) (by omega) (by omega), w64' (n := w) (by omega) (by omega), w64' (n := room + min g w) (by omega) (by omega), w64' (n := y) (by omega) (by omega)]
    have hget : (alGet (eqZ Ty.str) (zeroT (Ty.int IntKind.i64)) [120] (putM xS (s + t) m)).1 = s + t := oneM_get (oneM_put hm)
    by_cases hp : y > 0
    · rw [decide_eq_true hp, if_pos rfl, bs]
      dsimp only
      rw [if_pos hp] at hnew
      rw [← hnew, hget]
      simp only [bne_self_eq_false, Bool.false_eq_true, if_false, bs, w1]
    · rw [decide_eq_false hp, if_neg (by decide), bs]
      dsimp only
      rw [if_neg hp] at hnew
      rw [← hnew, hget]
      simp only [bne_self_eq_false, Bool.false_eq_true, if_false, bs, w1]
theorem law_BeforeYears {l : List Int} {w y : Int} (hl : ∀ g ∈ l, 0 ≤ g ∧ g ≤ 4294967295) (hw : 0 ≤ w ∧ w ≤ 4294967295) (hy : 0 ≤ y ∧ y ≤ 4294967295) : law25_BeforeYears (l, w, y) = some true := by
  unfold law25_BeforeYears
  dsimp only
  by_cases hn : (l.length : Int) > 60
  · rw [decide_eq_true hn, if_pos rfl, awake_eq]
    rfl
  · rw [decide_eq_false hn, if_neg (by decide)]
    have := years_loop hw hy l [] [] 0 0 hl (.inl ⟨rfl, rfl⟩) (by omega) (by simp) (by split <;> omega) (by simp; omega)
    simp only [List.nil_append, List.length_nil] at this
    rw [show ((0 : Nat) : Int) = 0 from rfl] at this
    rw [this, bs]
    dsimp only
    rw [awake_eq]
    rfl
end WB
namespace WB
open Go Go.RowKit

theorem getM_cons (k : List UInt8) (p : It) (l : MI) : getM k (p :: l) = if p.1 = k then p.2 else getM k l := by
  by_cases h : p.1 = k
  · rw [if_pos h]
    exact congrArg Prod.fst (if_pos ((eqS k p.1).2 h.symm))
  · rw [if_neg h]
    exact congrArg Prod.fst (if_neg (fun e => h ((eqS k p.1).1 e).symm))
theorem At_loop {k : List UInt8} : ∀ (l pre : MI), pre.length + l.length ≤ 1000000 → iter ref25_At_loop1 (pre ++ l, k, (pre.length : Int), ()) = some (if (alGet (eqZ Ty.str) (0 : Int) k l).2 = true then .inr (getM k l) else .inl ())
  | [], pre, hn => by
    refine itR ?_
    unfold ref25_At_loop1
    dsimp only
    have c : decide ((pre.length : Int) < (((pre ++ []) : MI).length : Int)) = false := decide_eq_false (by simp)
    rw [c, if_neg (by decide)]
    rfl
  | x :: l, pre, hn => by
    simp only [List.length_cons] at hn
    have w1 : IntKind.i64.wrap ((pre.length : Int) + 1) = ((pre ++ [x]).length : Int) := by rw [w64' (by omega) (by omega)]; simp
    have c : decide ((pre.length : Int) < (((pre ++ x :: l) : MI).length : Int)) = true := decide_eq_true (by simp; omega)
    by_cases h : x.1 = k
    · refine (itR (t := Sum.inr x.2) ?_).trans ?_
      · unfold ref25_At_loop1
        dsimp only
        rw [c, if_pos rfl, lAt_mid]
        simp only [bs, ms, lAt_mid]
        have : (x.1 == k) = true := by simpa using h
        rw [this, if_pos rfl]
      · rw [getM_cons, if_pos h]
        unfold alGet
        rw [if_pos ((eqS k x.1).2 h.symm)]
        rfl
    · have e := At_loop (k := k) l (pre ++ [x]) (by simp; omega)
      rw [List.append_assoc, List.singleton_append] at e
      refine (itL (s' := (pre ++ x :: l, k, ((pre ++ [x]).length : Int), ())) ?_).trans (e.trans ?_)
      · unfold ref25_At_loop1
        dsimp only
        rw [c, if_pos rfl, lAt_mid]
        simp only [bs, ms, lAt_mid]
        have : (x.1 == k) = false := by simpa using h
        rw [this, if_neg (by decide), w1]
      · rw [getM_cons, if_neg h]
        rw [show alGet (eqZ Ty.str) (0 : Int) k (x :: l) = alGet (eqZ Ty.str) (0 : Int) k l from if_neg (fun e => h ((eqS k x.1).1 e).symm)]
theorem At_eq {l : MI} {k : List UInt8} (hn : l.length ≤ 1000000) : ref25_At (l, k) = some (getM k l) := by
  unfold ref25_At
  dsimp only
  have := At_loop (k := k) l [] (by simpa using hn)
  simp only [List.nil_append, List.length_nil] at this
  rw [show ((0 : Nat) : Int) = 0 from rfl] at this
  rw [this, bs]
  by_cases h : (alGet (eqZ Ty.str) (0 : Int) k l).2 = true
  · rw [if_pos h]
  · rw [if_neg h]
    have : ∀ l : MI, (alGet (eqZ Ty.str) (0 : Int) k l).2 ≠ true → getM k l = 0 := by
      intro l
      induction l with
      | nil => intro _; rfl
      | cons x l ih =>
        intro h
        by_cases e : x.1 = k
        · exact absurd (by unfold alGet; rw [if_pos ((eqS k x.1).2 e.symm)]) h
        · rw [getM_cons, if_neg e]
          refine ih ?_
          rwa [show alGet (eqZ Ty.str) (0 : Int) k (x :: l) = alGet (eqZ Ty.str) (0 : Int) k l from if_neg (fun q => e ((eqS k x.1).1 q).symm)] at h
    rw [this l h]
/-- A table with a code's. -/
def setL (l : MI) (k : List UInt8) (v : Int) : MI := l.filter (fun p => !(p.1 == k)) ++ [(k, v)]
theorem Set_loop {k : List UInt8} {v : Int} : ∀ (l pre acc : MI), acc.length ≤ pre.length → pre.length + l.length ≤ 100000 →
    iter ref25_Set_loop1 (pre ++ l, k, v, (pre.length : Int), acc, (), ()) = some (k, v, acc ++ l.filter (fun p => !(p.1 == k)), (), ())
  | [], pre, acc, ha, hn => by
    refine itR ?_
    unfold ref25_Set_loop1
    dsimp only
    have c : decide ((pre.length : Int) < (((pre ++ []) : MI).length : Int)) = false := decide_eq_false (by simp)
    rw [c, if_neg (by decide)]
    simp
  | x :: l, pre, acc, ha, hn => by
    simp only [List.length_cons] at hn
    have w1 : IntKind.i64.wrap ((pre.length : Int) + 1) = ((pre ++ [x]).length : Int) := by rw [w64' (by omega) (by omega)]; simp
    have c : decide ((pre.length : Int) < (((pre ++ x :: l) : MI).length : Int)) = true := decide_eq_true (by simp; omega)
    by_cases h : x.1 = k
    · have e := Set_loop (k := k) (v := v) l (pre ++ [x]) acc (by simp; omega) (by simp; omega)
      rw [List.append_assoc, List.singleton_append] at e
      refine (itL (s' := (pre ++ x :: l, k, v, ((pre ++ [x]).length : Int), acc, (), ())) ?_).trans (e.trans ?_)
      · unfold ref25_Set_loop1
        dsimp only
        simp only [gPi, gSS, gPb, gPm, gPs, gM, gM2, gAnd, gOr, gAndI, gOrI, gAA, gAO, gOA, gOO, gAAf, gAOf, gOAf, gOOf, gAMf, gOMf, gId]
        try simp only [gIn1, gIn2, gIn3, gIn4, gIn5, gIn6, gIn7, gIn8, gId, gIdF, gMb, gMm, gBm, gBb, bs, ms]
        have hb : (!(x.1 == k)) = false := by simpa using h
        simp only [c, if_true, lAt_mid, bs, ms, hb, Bool.false_eq_true, if_false, w1]
      · simp [h]
    · have e := Set_loop (k := k) (v := v) l (pre ++ [x]) (acc ++ [x]) (by simp; omega) (by simp; omega)
      rw [List.append_assoc, List.singleton_append] at e
      refine (itL (s' := (pre ++ x :: l, k, v, ((pre ++ [x]).length : Int), acc ++ [x], (), ())) ?_).trans (e.trans ?_)
      · unfold ref25_Set_loop1
        dsimp only
        simp only [gPi, gSS, gPb, gPm, gPs, gM, gM2, gAnd, gOr, gAndI, gOrI, gAA, gAO, gOA, gOO, gAAf, gAOf, gOAf, gOOf, gAMf, gOMf, gId]
        try simp only [gIn1, gIn2, gIn3, gIn4, gIn5, gIn6, gIn7, gIn8, gId, gIdF, gMb, gMm, gBm, gBb, bs, ms]
        have hb : (!(x.1 == k)) = true := by simpa using h
        simp only [c, if_true, lAt_mid, bs, ms, hb]
        rw [appOk (by omega) (by decide), bs, w1]
      · simp [h]
theorem Set_eq {l : MI} {k : List UInt8} {v : Int} (hn : l.length ≤ 100000) : ref25_Set (l, k, v) = some (setL l k v) := by
  unfold ref25_Set
  dsimp only
  have := Set_loop (k := k) (v := v) l [] [] (by simp) (by simpa using hn)
  simp only [List.nil_append, List.length_nil] at this
  rw [show ((0 : Nat) : Int) = 0 from rfl] at this
  rw [this, bs]
  dsimp only
  have hl : (l.filter fun p => !(p.1 == k)).length ≤ l.length := List.length_filter_le _ _
  rw [appOk (by omega) (by decide)]
  rfl
theorem getM_filter {k k' : List UInt8} (h : k' ≠ k) : ∀ l : MI, getM k' (l.filter fun p => !(p.1 == k)) = getM k' l
  | [] => rfl
  | x :: l => by
    by_cases e : x.1 = k
    · rw [List.filter_cons_of_neg (by simpa using e), getM_filter h l, getM_cons, if_neg (fun q => h (q.symm.trans e))]
    · rw [List.filter_cons_of_pos (by simpa using e), getM_cons, getM_cons, getM_filter h l]
theorem getM_app {k : List UInt8} : ∀ (l m : MI), (∀ p ∈ l, p.1 ≠ k) → getM k (l ++ m) = getM k m
  | [], m, _ => rfl
  | x :: l, m, h => by rw [List.cons_append, getM_cons, if_neg (h x (by simp)), getM_app l m fun p hp => h p (by simp [hp])]
theorem getM_snoc {k k' : List UInt8} {v : Int} (h : k' ≠ k) : ∀ l : MI, getM k' (l ++ [(k, v)]) = getM k' l
  | [] => by rw [List.nil_append, getM_cons, if_neg (fun e => h e.symm)]
  | x :: l => by rw [List.cons_append, getM_cons, getM_cons, getM_snoc h l]
theorem getM_set (k k' : List UInt8) (v : Int) (l : MI) : getM k' (setL l k v) = if k' = k then v else getM k' l := by
  unfold setL
  by_cases h : k' = k
  · subst h
    rw [if_pos rfl, getM_app _ _ (fun p hp => by have := (List.mem_filter.1 hp).2; simpa using this), getM_cons, if_pos rfl]
  · rw [if_neg h, getM_snoc h, getM_filter h]
theorem keys_set (k : List UInt8) (v : Int) {l : MI} (hn : (l.map (·.1)).Nodup) : ((setL l k v).map (·.1)).Nodup ∧ ∀ q, q ∈ (setL l k v).map (·.1) ↔ q = k ∨ q ∈ l.map (·.1) := by
  unfold setL
  rw [List.map_append]
  refine ⟨?_, fun q => ?_⟩
  · rw [List.nodup_append]
    refine ⟨(List.filter_sublist.map _).nodup hn, by simp, fun a ha b hb => ?_⟩
    obtain ⟨p, hp, rfl⟩ := List.mem_map.1 ha
    have := (List.mem_filter.1 hp).2
    simp only [List.map_cons, List.map_nil, List.mem_singleton] at hb
    subst hb
    simpa using this
  · simp only [List.mem_append, List.mem_map, List.mem_filter, List.map_cons, List.map_nil, List.mem_singleton]
    constructor
    · rintro (⟨p, ⟨hp, _⟩, rfl⟩ | rfl)
      · exact .inr ⟨p, hp, rfl⟩
      · exact .inl rfl
    · rintro (rfl | ⟨p, hp, rfl⟩)
      · exact .inr rfl
      · by_cases e : p.1 = k
        · exact .inr e
        · exact .inl ⟨p, ⟨hp, by simpa using e⟩, rfl⟩
/-- Is a code there. -/
def hasM (k : List UInt8) (m : MI) : Bool := (alGet (eqZ Ty.str) (zeroT (Ty.int IntKind.i64)) k m).2
theorem hasM_cons (k : List UInt8) (p : It) (l : MI) : hasM k (p :: l) = if p.1 = k then true else hasM k l := by
  by_cases h : p.1 = k
  · rw [if_pos h]
    exact congrArg Prod.snd (if_pos ((eqS k p.1).2 h.symm))
  · rw [if_neg h]
    exact congrArg Prod.snd (if_neg (fun e => h ((eqS k p.1).1 e).symm))
theorem hasM_iff {k : List UInt8} : ∀ {l : MI}, hasM k l = true ↔ k ∈ l.map (·.1)
  | [] => by simp [hasM, alGet]
  | p :: l => by
    rw [hasM_cons]
    by_cases h : p.1 = k
    · simp [h]
    · rw [if_neg h, hasM_iff (l := l)]
      simp only [List.map_cons, List.mem_cons]
      exact ⟨.inr, fun q => q.resolve_left fun e => h e.symm⟩
theorem putM_new {k : List UInt8} {v : Int} : ∀ {l : MI}, hasM k l = false → putM k v l = l ++ [(k, v)]
  | [], _ => rfl
  | p :: l, h => by
    rw [hasM_cons] at h
    by_cases e : p.1 = k
    · rw [if_pos e] at h; cases h
    · rw [if_neg e] at h
      rw [List.cons_append, ← putM_new h]
      exact if_neg (fun q => e ((eqS k p.1).1 q).symm)
/-- A list's codes, the first of each. -/
def tabS : MI → MI → MI
  | m, [] => m
  | m, x :: l => if hasM x.1 m = true then tabS m l else tabS (m ++ [(x.1, x.2)]) l
theorem table_loop : ∀ (l pre : MI) (m : MI), m.length ≤ pre.length → pre.length + l.length ≤ 100000 →
    iter law25_table_loop1 (pre ++ l, (pre.length : Int), m, m, (), (), ()) = some (tabS m l, tabS m l, (), (), ())
  | [], pre, m, ha, hn => by
    refine itR ?_
    unfold law25_table_loop1
    dsimp only
    have c : decide ((pre.length : Int) < (((pre ++ []) : MI).length : Int)) = false := decide_eq_false (by simp)
    rw [c, if_neg (by decide)]
    rfl
  | x :: l, pre, m, ha, hn => by
    simp only [List.length_cons] at hn
    have w1 : IntKind.i64.wrap ((pre.length : Int) + 1) = ((pre ++ [x]).length : Int) := by rw [w64' (by omega) (by omega)]; simp
    have c : decide ((pre.length : Int) < (((pre ++ x :: l) : MI).length : Int)) = true := decide_eq_true (by simp; omega)
    by_cases h : hasM x.1 m = true
    · have e := table_loop l (pre ++ [x]) m (by simp; omega) (by simp; omega)
      rw [List.append_assoc, List.singleton_append] at e
      refine (itL (s' := (pre ++ x :: l, ((pre ++ [x]).length : Int), m, m, (), (), ())) ?_).trans (e.trans ?_)
      · unfold law25_table_loop1
        dsimp only
        simp only [gPi, gSS, gPb, gPm, gPs, gM, gM2, gAnd, gOr, gAndI, gOrI, gAA, gAO, gOA, gOO, gAAf, gAOf, gOAf, gOOf, gAMf, gOMf, gId]
        try simp only [gIn1, gIn2, gIn3, gIn4, gIn5, gIn6, gIn7, gIn8, gId, gIdF, gMb, gMm, gBm, gBb, bs, ms]
        rw [c, if_pos rfl, lAt_mid]
        simp only [bs, ms]
        change Option.bind (if (!hasM x.1 m) = true then _ else _) _ = _
        rw [h, if_neg (by decide), bs]
        dsimp only
        rw [w1]
      · rw [tabS, if_pos h]
    · have hf : hasM x.1 m = false := by simpa using h
      have e := table_loop l (pre ++ [x]) (m ++ [(x.1, x.2)]) (by simp; omega) (by simp; omega)
      rw [List.append_assoc, List.singleton_append] at e
      refine (itL (s' := (pre ++ x :: l, ((pre ++ [x]).length : Int), m ++ [(x.1, x.2)], m ++ [(x.1, x.2)], (), (), ())) ?_).trans (e.trans ?_)
      · unfold law25_table_loop1
        dsimp only
        simp only [gPi, gSS, gPb, gPm, gPs, gM, gM2, gAnd, gOr, gAndI, gOrI, gAA, gAO, gOA, gOO, gAAf, gAOf, gOAf, gOOf, gAMf, gOMf, gId]
        try simp only [gIn1, gIn2, gIn3, gIn4, gIn5, gIn6, gIn7, gIn8, gId, gIdF, gMb, gMm, gBm, gBb, bs, ms]
        rw [c, if_pos rfl, lAt_mid]
        simp only [bs, ms, lAt_mid]
        change Option.bind (if (!hasM x.1 m) = true then _ else _) _ = _
        rw [hf, if_pos (by decide), appOk (by omega) (by decide), bs]
        dsimp only
        rw [w1]
        change some (Sum.inl (_, _, putM x.1 x.2 m, _, _, _, _)) = _
        rw [putM_new hf]
      · rw [tabS, if_neg h]
theorem table_eq {l : MI} (hn : l.length ≤ 100000) : law25_table l = some (tabS [] l, tabS [] l) := by
  unfold law25_table
  dsimp only
  have := table_loop l [] [] (by simp) (by simpa using hn)
  simp only [List.nil_append, List.length_nil] at this
  rw [show ((0 : Nat) : Int) = 0 from rfl] at this
  rw [this]
  rfl
theorem tabS_keys : ∀ (l m : MI), (m.map (·.1)).Nodup → ((tabS m l).map (·.1)).Nodup ∧ (tabS m l).length ≤ m.length + l.length ∧ ∀ p ∈ tabS m l, p ∈ m ∨ p ∈ l
  | [], m, h => ⟨h, by simp [tabS], fun p hp => .inl hp⟩
  | x :: l, m, h => by
    unfold tabS
    by_cases hx : hasM x.1 m = true
    · rw [if_pos hx]
      obtain ⟨h1, h2, h3⟩ := tabS_keys l m h
      exact ⟨h1, by simp only [List.length_cons]; omega, fun p hp => (h3 p hp).imp_right fun q => by simp [q]⟩
    · rw [if_neg hx]
      have hn : x.1 ∉ m.map (·.1) := fun q => hx (hasM_iff.2 q)
      obtain ⟨h1, h2, h3⟩ := tabS_keys l (m ++ [(x.1, x.2)]) (by
        rw [List.map_append, List.nodup_append]
        refine ⟨h, by simp, fun a ha b hb => ?_⟩
        simp only [List.map_cons, List.map_nil, List.mem_singleton] at hb
        subst hb
        exact fun e => hn (e ▸ ha))
      refine ⟨h1, by simp only [List.length_append, List.length_cons, List.length_nil] at h2 ⊢; omega, fun p hp => ?_⟩
      rcases h3 p hp with hp | hp
      · rcases List.mem_append.1 hp with hp | hp
        · exact .inl hp
        · rw [List.mem_singleton.1 hp]; exact .inr (by simp)
      · exact .inr (by simp [hp])
theorem alike_loop {m : MI} : ∀ (l pre : MI), (∀ p ∈ l, hasM p.1 m = true ∧ getM p.1 m = p.2) → pre.length + l.length ≤ 100000 → iter law25_alike_loop1 (m, pre ++ l, (pre.length : Int), ()) = some (.inl ())
  | [], pre, h, hn => by
    refine itR ?_
    unfold law25_alike_loop1
    dsimp only
    have c : decide ((pre.length : Int) < (((pre ++ []) : MI).length : Int)) = false := decide_eq_false (by simp)
    rw [c, if_neg (by decide)]
  | x :: l, pre, h, hn => by
    simp only [List.length_cons] at hn
    have w1 : IntKind.i64.wrap ((pre.length : Int) + 1) = ((pre ++ [x]).length : Int) := by rw [w64' (by omega) (by omega)]; simp
    have c : decide ((pre.length : Int) < (((pre ++ x :: l) : MI).length : Int)) = true := decide_eq_true (by simp; omega)
    obtain ⟨h1, h2⟩ := h x (by simp)
    have e := alike_loop (m := m) l (pre ++ [x]) (fun p hp => h p (by simp [hp])) (by simp; omega)
    rw [List.append_assoc, List.singleton_append] at e
    refine (itL (s' := (m, pre ++ x :: l, ((pre ++ [x]).length : Int), ())) ?_).trans e
    unfold law25_alike_loop1
    dsimp only
    simp only [gPi, gSS, gPb, gPm, gPs, gM, gM2, gAnd, gOr, gAndI, gOrI, gAA, gAO, gOA, gOO, gAAf, gAOf, gOAf, gOOf, gAMf, gOMf, gId]
    try simp only [gIn1, gIn2, gIn3, gIn4, gIn5, gIn6, gIn7, gIn8, gId, gIdF, gMb, gMm, gBm, gBb, bs, ms]
    rw [c, if_pos rfl, lAt_mid]
    simp only [bs, ms, lAt_mid]
    change Option.bind (if (!hasM x.1 m) = true then _ else some (getM x.1 m != x.2)) _ = _
    rw [h1, if_neg (by decide), h2, bs]
    simp only [bne_self_eq_false, Bool.false_eq_true, if_false, w1]
theorem alike_eq {m l : MI} (hl : m.length = l.length) (h : ∀ p ∈ l, hasM p.1 m = true ∧ getM p.1 m = p.2) (hn : l.length ≤ 100000) : law25_alike (m, l) = some true := by
  unfold law25_alike
  dsimp only
  have := alike_loop (m := m) l [] h (by simpa using hn)
  simp only [List.nil_append, List.length_nil] at this
  rw [show ((0 : Nat) : Int) = 0 from rfl] at this
  rw [if_neg (by simp [hl]), this]
  rfl
end WB
namespace WB
open Go Go.RowKit

/-- A fold that may end early. -/
def foldE {α A T : Type} (step : A → α → A ⊕ T) (fin : A → T) : A → List α → T
  | a, [] => fin a
  | a, x :: l => match step a x with
    | .inl a' => foldE step fin a' l
    | .inr t => t
/-- A turn's end, in the loop's words. -/
def turnE {S A T : Type} (mk : A → S) : A ⊕ T → S ⊕ T
  | .inl a => .inl (mk a)
  | .inr t => .inr t
theorem iter_fold {α S T A : Type} {b : S → Option (S ⊕ T)} (mk : Nat → A → S) (step : A → α → A ⊕ T) (fin : A → T) (I : Nat → A → Prop) (l0 : List α)
    (hs : ∀ i x a, l0[i]? = some x → I i a → b (mk i a) = some (turnE (mk (i + 1)) (step a x)))
    (hI : ∀ i x a a', l0[i]? = some x → I i a → step a x = .inl a' → I (i + 1) a')
    (he : ∀ a, I l0.length a → b (mk l0.length a) = some (.inr (fin a))) :
    ∀ (l : List α) (i : Nat) (a : A), l0.drop i = l → i ≤ l0.length → I i a → iter b (mk i a) = some (foldE step fin a l)
  | [], i, a, hd, hi, h => by
    have : i = l0.length := by
      have := congrArg List.length hd
      simp at this
      omega
    subst this
    rw [iter_eq, he a h]
    rfl
  | x :: l, i, a, hd, hi, h => by
    have hx : l0[i]? = some x := by
      have := congrArg (fun q => q[0]?) hd
      simpa using this
    have hlt : i < l0.length := (List.getElem?_eq_some_iff.1 hx).1
    rw [iter_eq, hs i x a hx h]
    cases hst : step a x with
    | inl a' =>
      have e := iter_fold mk step fin I l0 hs hI he l (i + 1) a' (by rw [← List.tail_drop, hd]; rfl) hlt (hI i x a a' hx h hst)
      show iter b (mk (i + 1) a') = _
      rw [e, foldE, hst]
    | inr t =>
      show some t = _
      rw [foldE, hst]
theorem iter_fold0 {α S T A : Type} {b : S → Option (S ⊕ T)} (mk : Nat → A → S) (step : A → α → A ⊕ T) (fin : A → T) (I : Nat → A → Prop) (l : List α) {a : A} (h : I 0 a)
    (hs : ∀ i x a, l[i]? = some x → I i a → b (mk i a) = some (turnE (mk (i + 1)) (step a x)))
    (hI : ∀ i x a a', l[i]? = some x → I i a → step a x = .inl a' → I (i + 1) a')
    (he : ∀ a, I l.length a → b (mk l.length a) = some (.inr (fin a))) : iter b (mk 0 a) = some (foldE step fin a l) :=
  iter_fold mk step fin I l hs hI he l 0 a rfl (by omega) h
theorem lt_len {α : Type} {l : List α} {i : Nat} {x : α} (h : l[i]? = some x) : decide ((i : Int) < (l.length : Int)) = true :=
  decide_eq_true (by have := (List.getElem?_eq_some_iff.1 h).1; omega)
theorem nlt_len {α : Type} (l : List α) : decide ((l.length : Int) < (l.length : Int)) = false := decide_eq_false (by omega)
theorem w_succ {i : Nat} (h : i < 9223372036854775807) : IntKind.i64.wrap ((i : Int) + 1) = ((i + 1 : Nat) : Int) := by
  rw [w64' (by omega) (by omega)]; simp
end WB
namespace WB
open Go Go.RowKit

theorem rpart_eq {g m : Int} (hg : 0 ≤ g ∧ g ≤ 1125899906842624) (hm : 0 ≤ m ∧ m ≤ 1000000) : ref25_part (g, m) = some (partN g.toNat m.toNat : Int) := by
  obtain ⟨n, rfl⟩ := Int.eq_ofNat_of_zero_le hg.1
  obtain ⟨k, rfl⟩ := Int.eq_ofNat_of_zero_le hm.1
  have hn : n ≤ 1125899906842624 := by omega
  have hk : k ≤ 1000000 := by omega
  have h1 := Nat.div_add_mod n 1000000
  have h2 := Nat.mod_lt n (show 0 < 1000000 by decide)
  have hq : n / 1000000 * k ≤ 1125899906842624 := by
    have : n / 1000000 * k ≤ n / 1000000 * 1000000 := Nat.mul_le_mul_left _ hk
    omega
  have hr : n % 1000000 * k ≤ 1000000 * 1000000 := Nat.mul_le_mul (by omega) hk
  have e1 : (n : Int).tdiv 1000000 = ((n / 1000000 : Nat) : Int) := by rw [Int.tdiv_eq_ediv_of_nonneg (by omega)]; rfl
  have e2 : (n : Int).tmod 1000000 = ((n % 1000000 : Nat) : Int) := by rw [Int.tmod_eq_emod_of_nonneg (by omega)]; rfl
  have hsum : n * k = 1000000 * (n / 1000000 * k) + n % 1000000 * k := by
    rw [← Nat.mul_assoc, ← Nat.add_mul, h1]
  unfold ref25_part partN
  dsimp only
  try simp only [gPi, gSS, gPb, gPm, gPs, gM, gM2, gAnd, gOr, gAndI, gOrI, gAA, gAO, gOA, gOO, gAAf, gAOf, gOAf, gOOf, gAMf, gOMf, gId]
  try simp only [gIn1, gIn2, gIn3, gIn4, gIn5, gIn6, gIn7, gIn8, gId, gIdF, gMb, gMm, gBm, gBb, bs, ms]
  simp only [show ¬ ((1000000 : Int) = 0) by decide, if_false, bs, e1, e2, Int.toNat_natCast]
  generalize hA : n / 1000000 * k = A at *
  generalize hB : n % 1000000 * k = B at *
  have m1 : ((n % 1000000 : Nat) : Int) * (k : Int) = (B : Int) := by rw [← hB]; exact (Int.natCast_mul _ _).symm
  have m2 : ((n / 1000000 : Nat) : Int) * (k : Int) = (A : Int) := by rw [← hA]; exact (Int.natCast_mul _ _).symm
  have d1 := Nat.div_add_mod B 1000000
  have d2 := Nat.mod_lt B (show 0 < 1000000 by decide)
  have e3 : (B : Int).tdiv 1000000 = ((B / 1000000 : Nat) : Int) := by rw [Int.tdiv_eq_ediv_of_nonneg (by omega)]; rfl
  have e4 : (B : Int).tmod 1000000 = ((B % 1000000 : Nat) : Int) := by rw [Int.tmod_eq_emod_of_nonneg (by omega)]; rfl
  rw [w64' (n := ((n / 1000000 : Nat) : Int)) (by omega) (by omega), m1, m2, w64' (n := (B : Int)) (by omega) (by omega), e3, e4, w64' (n := (A : Int)) (by omega) (by omega),
    w64' (n := ((B / 1000000 : Nat) : Int)) (by omega) (by omega), w64' (n := 2 * ((B % 1000000 : Nat) : Int)) (by omega) (by omega), w64' (n := (A : Int) + ((B / 1000000 : Nat) : Int)) (by omega) (by omega),
    w64' (n := (A : Int) + ((B / 1000000 : Nat) : Int) + 1) (by omega) (by omega), hsum]
  by_cases h : 2 * ((B % 1000000 : Nat) : Int) ≥ 1000000
  · rw [decide_eq_true h, if_pos rfl, bs]
    congr 1
    omega
  · rw [decide_eq_false h, if_neg (by decide), bs]
    congr 1
    omega

/-- The document's check, limit by limit: the codes ahead. -/
def chkStep (pre : List Lim) (x : Lim) : List Lim ⊕ (Unit ⊕ Int) :=
  if nameB x.1 = false then .inr (.inr 12) else if (pre.any fun y => y.1 == x.1) = true then .inr (.inr 7) else if limOk x = false then .inr (.inr 2) else .inl (pre ++ [x])
theorem chk_twice {L : List Lim} {i : Nat} (hi : i < 1000) (hL : i ≤ L.length) (a b : Int) (c : List UInt8) : iter ref25_Check_loop1 (L, (i : Int), 0, c, a, b, (), (), ()) =
    some (if ((L.take i).any fun y => y.1 == c) = true then .inr 7 else .inl (L, (i : Int), c, a, b, (), (), ())) := by
  have key := iter_fold0 (b := ref25_Check_loop1) (α := Lim) (A := Unit) (fun k _ => (L, (i : Int), (k : Int), c, a, b, (), (), ())) (fun _ y => if (y.1 == c) = true then .inr (.inr 7) else .inl ())
    (fun _ => .inl (L, (i : Int), c, a, b, (), (), ())) (fun _ _ => True) (L.take i) (a := ()) trivial (fun k y _ hy _ => by
      have hlt := (List.getElem?_eq_some_iff.1 hy).1
      have hk : k < i := by simp at hlt; omega
      have hy' : L[k]? = some y := by rw [List.getElem?_take_of_lt hk] at hy; exact hy
      unfold ref25_Check_loop1
      dsimp only
      rw [decide_eq_true (show (k : Int) < (i : Int) by omega), if_pos rfl, lAt_nat hy']
      simp only [ms, bs]
      cases h : (y.1 == c) with
      | true => rfl
      | false => rw [if_neg (by decide), if_neg (by decide), w_succ (by omega)]; rfl) (fun _ _ _ _ _ _ _ => trivial) (fun _ _ => by
      unfold ref25_Check_loop1
      dsimp only
      rw [List.length_take, show min i L.length = i by omega, decide_eq_false (by omega), if_neg (by decide)])
  refine key.trans ?_
  congr 1
  generalize L.take i = M
  clear key
  induction M with
  | nil => rfl
  | cons y M ih =>
    rw [foldE]
    cases h : (y.1 == c) with
    | true => simp [h]
    | false => rw [if_neg (by decide)]; simp only [List.any_cons, h, Bool.false_or]; exact ih
theorem chk_bnd : ∀ (l pre : List Lim) (m : ByM), (∀ k, (getB k m).2 = pre.any fun y => y.1 == k) →
    foldE chkStep (fun _ => Sum.inl ()) pre l = if (bndS m l).2 = 0 then Sum.inl () else Sum.inr (bndS m l).2
  | [], pre, m, h => rfl
  | x :: l, pre, m, h => by
    rw [foldE]
    unfold chkStep bndS
    rw [← h x.1]
    by_cases hn : nameB x.1 = false
    · rw [if_pos hn, if_pos hn]; rfl
    · rw [if_neg hn, if_neg hn]
      by_cases ht : (getB x.1 m).2 = true
      · rw [if_pos ht, if_pos ht]; rfl
      · rw [if_neg ht, if_neg ht]
        by_cases hl : limOk x = false
        · rw [if_pos hl, if_pos hl]; rfl
        · rw [if_neg hl, if_neg hl]
          refine chk_bnd l (pre ++ [x]) (putB x.1 x m) fun k => ?_
          rw [getB_put, List.any_append, ← h k]
          by_cases e : k = x.1
          · simp [e]
          · have : (x.1 == k) = false := by simpa using fun q : x.1 = k => e q.symm
            simp [e, this]
theorem rCheck_eq (l : List Lim) : ref25_Check l = some (bndA l).2 := by
  unfold ref25_Check bndA
  dsimp only
  by_cases hn : (l.length : Int) > 64
  · rw [decide_eq_true hn, if_pos rfl, if_pos hn]
  · rw [decide_eq_false hn, if_neg (by decide), if_neg hn]
    have key := iter_fold0 (b := ref25_Check_loop2) (α := Lim) (A := List Lim) (fun k _ => (l, (k : Int), ())) chkStep
      (fun _ => .inl ()) (fun k pre => pre = l.take k) l (a := []) (by simp) (fun i x pre hx hp => by
      have hi := (List.getElem?_eq_some_iff.1 hx).1
      unfold ref25_Check_loop2 chkStep
      dsimp only
      simp only [gPi, gSS, gPb, gPm, gPs, gM, gM2, gAnd, gOr, gAndI, gOrI, gAA, gAO, gOA, gOO, gAAf, gAOf, gOAf, gOOf, gAMf, gOMf, gId]
      try simp only [gIn1, gIn2, gIn3, gIn4, gIn5, gIn6, gIn7, gIn8, gId, gIdF, gMb, gMm, gBm, gBb, bs, ms]
      rw [lt_len hx, if_pos rfl, lAt_nat hx]
      simp only [ms, bs]
      rw [refName_eq, bs]
      cases hnm : nameB x.1 with
      | false => rfl
      | true =>
        rw [if_neg (by decide), if_neg (by decide), chk_twice (by omega) (by omega), bs, ← hp]
        cases ht : (pre.any fun y => y.1 == x.1) with
        | true => rfl
        | false =>
          rw [if_neg (by decide), if_neg (by decide)]
          dsimp only
          have hl : limOk x = !(decide (x.2.1 < 0) || decide (x.2.1 > 1000000) || decide (x.2.2 < 0) || decide (x.2.2 > 1125899906842624)) := by
            unfold limOk rightB
            rw [Bool.eq_iff_iff]
            simp only [Bool.and_eq_true, decide_eq_true_eq, Bool.not_eq_true', Bool.or_eq_false_iff, decide_eq_false_iff_not]
            omega
          rw [hl]
          cases h1 : decide (x.2.1 < 0) with
          | true => rfl
          | false =>
            rw [if_neg (by decide), bs]
            cases h2 : decide (x.2.1 > 1000000) with
            | true => rfl
            | false =>
              rw [if_neg (by decide), bs]
              cases h3 : decide (x.2.2 < 0) with
              | true => rfl
              | false =>
                rw [if_neg (by decide), bs]
                cases h4 : decide (x.2.2 > 1125899906842624) with
                | true => rfl
                | false => rw [if_neg (by decide), if_neg (by decide), w_succ (by omega)]; rfl) (fun i x pre pre' hx hp hst => by
      unfold chkStep at hst
      have : pre' = pre ++ [x] := by
        split at hst
        · cases hst
        · split at hst
          · cases hst
          · split at hst
            · cases hst
            · cases hst; rfl
      rw [this, hp, List.take_add_one, hx]; rfl) (fun pre hp => by
      unfold ref25_Check_loop2
      dsimp only
      rw [nlt_len, if_neg (by decide)])
    rw [show (0 : Int) = ((0 : Nat) : Int) from rfl, key, bs, chk_bnd l [] [] (fun k => rfl)]
    by_cases h0 : (bndS [] l).2 = 0
    · rw [if_pos h0, h0]; rfl
    · rw [if_neg h0]
end WB
namespace WB
open Go Go.RowKit

def limC (g so now : Int) (x : Lim) (c : Int) : Int :=
  let c := if x.2.1 ≠ 1000000 then min c (max 0 ((partN (max 0 g).toNat x.2.1.toNat : Int) - now)) else c
  if x.2.2 ≠ 0 then min c (max 0 (x.2.2 - so - now)) else c
def limF (g so now : Int) (k : List UInt8) (c : Int) (x : Lim) : Int := if x.1 = k then limC g so now x c else c
theorem foldE_inl {α A T : Type} (f : A → α → A) (fin : A → T) : ∀ (l : List α) (a : A), foldE (fun a x => Sum.inl (f a x)) fin a l = fin (l.foldl f a)
  | [], _ => rfl
  | x :: l, a => by rw [foldE, List.foldl_cons]; exact foldE_inl f fin l (f a x)
theorem lim_loop {g so now left i cents : Int} {k : List UInt8} {was wanted here out : MI} {lims : List Lim} (hg : g ≤ 1125899906842624) (hl : lims.length ≤ 1000) (hok : ∀ y ∈ lims, limOk y = true) (hs : 0 ≤ so ∧ so ≤ 1125899906842624) (hn : 0 ≤ now ∧ now ≤ 1125899906842624) (c : Int) :
    iter ref25_Take_loop1 (g, was, wanted, lims, here, left, i, so, now, c, 0, k, cents, out, (), (), (), ()) = some (g, was, wanted, lims, here, left, i, so, now, lims.foldl (limF g so now k) c, k, cents, out, (), (), (), ()) := by
  have key := iter_fold0 (b := ref25_Take_loop1) (α := Lim) (A := Int) (fun j c => (g, was, wanted, lims, here, left, i, so, now, c, (j : Int), k, cents, out, (), (), (), ())) (fun c x => .inl (limF g so now k c x))
    (fun c => (g, was, wanted, lims, here, left, i, so, now, c, k, cents, out, (), (), (), ())) (fun _ _ => True) lims (a := c) trivial (fun j x c hx _ => by
      have hi := (List.getElem?_eq_some_iff.1 hx).1
      have hx0 := hok x (List.mem_of_getElem? hx)
      simp only [limOk, Bool.and_eq_true, decide_eq_true_eq, rightB_iff] at hx0
      obtain ⟨⟨m1, m2⟩, y1, y2⟩ := hx0
      have hp : partN (max 0 g).toNat x.2.1.toNat ≤ (max 0 g).toNat := partN_le (by omega)
      unfold ref25_Take_loop1 limF limC
      dsimp only
      simp only [gPi, gSS, gPb, gPm, gPs, gM, gM2, gAnd, gOr, gAndI, gOrI, gAA, gAO, gOA, gOO, gAAf, gAOf, gOAf, gOOf, gAMf, gOMf, gId]
      try simp only [gIn1, gIn2, gIn3, gIn4, gIn5, gIn6, gIn7, gIn8, gId, gIdF, gMb, gMm, gBm, gBb, bs, ms]
      simp only [lt_len hx, if_true, lAt_nat hx, ms, bs]
      rw [rpart_eq ⟨by omega, by omega⟩ ⟨m1, m2⟩]
      simp only [bs]
      rw [w64' (n := (partN (max 0 g).toNat x.2.1.toNat : Int) - now) (by omega) (by omega)]
      by_cases hk : x.1 = k
      · have d : (!(x.1 == k)) = false := by simp [hk]
        rw [d, if_neg (by decide), if_pos hk]
        by_cases hm : x.2.1 = 1000000
        · have d1 : (x.2.1 != 1000000) = false := by simp [hm]
          rw [d1, if_neg (by decide), bs, if_neg (show ¬ (x.2.1 ≠ 1000000) by simp [hm])]
          dsimp only
          simp only [lAt_nat hx, bs]
          by_cases hy : x.2.2 = 0
          · have d2 : (x.2.2 != 0) = false := by simp [hy]
            rw [d2, if_neg (by decide), if_neg (show ¬ (x.2.2 ≠ 0) by simp [hy])]
            simp only [bs]
            rw [w_succ (by omega)]; rfl
          · have d2 : (x.2.2 != 0) = true := by simpa using hy
            rw [d2, if_pos rfl, if_pos hy]
            simp only [bs]
            rw [w_succ (by omega), w64' (n := x.2.2 - so) (by omega) (by omega), w64' (n := x.2.2 - so - now) (by omega) (by omega)]; rfl
        · have d1 : (x.2.1 != 1000000) = true := by simpa using hm
          rw [d1, if_pos rfl, bs, if_pos hm]
          dsimp only
          simp only [lAt_nat hx, bs]
          by_cases hy : x.2.2 = 0
          · have d2 : (x.2.2 != 0) = false := by simp [hy]
            rw [d2, if_neg (by decide), if_neg (show ¬ (x.2.2 ≠ 0) by simp [hy])]
            simp only [bs]
            rw [w_succ (by omega)]; rfl
          · have d2 : (x.2.2 != 0) = true := by simpa using hy
            rw [d2, if_pos rfl, if_pos hy]
            simp only [bs]
            rw [w_succ (by omega), w64' (n := x.2.2 - so) (by omega) (by omega), w64' (n := x.2.2 - so - now) (by omega) (by omega)]; rfl
      · have d : (!(x.1 == k)) = true := by simpa using hk
        rw [d, if_pos rfl, bs, if_neg hk]
        dsimp only
        rw [w_succ (by omega)]; rfl) (fun _ _ _ _ _ _ _ => trivial) (fun c _ => by
      unfold ref25_Take_loop1
      dsimp only
      rw [nlt_len, if_neg (by decide)])
  refine key.trans ?_
  rw [foldE_inl]
/-- The limits of the list are those of the map. -/
theorem lim_map {g so now : Int} {k : List UInt8} : ∀ (l : List Lim) (m : ByM) (c : Int), (bndS m l).2 = 0 →
    ((getB k m).2 = true → l.foldl (limF g so now k) c = c ∧ getB k (bndS m l).1 = getB k m) ∧
    ((getB k m).2 ≠ true → l.foldl (limF g so now k) c = if (getB k (bndS m l).1).2 = true then limC g so now (getB k (bndS m l).1).1 c else c)
  | [], m, c, _ => ⟨fun _ => ⟨rfl, rfl⟩, fun h => by rw [show (bndS m []).1 = m from rfl, if_neg h]; rfl⟩
  | x :: l, m, c, h0 => by
    unfold bndS at h0 ⊢
    split at h0
    · cases h0
    · rename_i hname
      split at h0
      · cases h0
      · rename_i ht
        split at h0
        · cases h0
        · rename_i hl
          rw [if_neg hname, if_neg ht, if_neg hl, List.foldl_cons]
          obtain ⟨q1, q2⟩ := lim_map (g := g) (so := so) (now := now) (k := k) l (putB x.1 x m) (limF g so now k c x) h0
          rw [getB_put] at q1 q2
          by_cases e : k = x.1
          · rw [if_pos e] at q1 q2
            obtain ⟨r1, r2⟩ := q1 rfl
            refine ⟨fun h => absurd (e ▸ h) ht, fun _ => ?_⟩
            rw [r1, r2, if_pos rfl]
            unfold limF
            rw [if_pos e.symm]
          · rw [if_neg e] at q1 q2
            have e2 : limF g so now k c x = c := by unfold limF; rw [if_neg fun q => e q.symm]
            rw [e2] at q1 q2
            exact ⟨fun h => by
              rw [e2]; exact q1 h, fun h => by rw [e2]; exact q2 h⟩
theorem lim_ok : ∀ (l : List Lim) (m : ByM), (bndS m l).2 = 0 → ∀ y ∈ l, limOk y = true
  | [], m, _, y, hy => by cases hy
  | x :: l, m, h0, y, hy => by
    unfold bndS at h0
    split at h0
    · cases h0
    · split at h0
      · cases h0
      · split at h0
        · cases h0
        · rename_i hl
          rcases List.mem_cons.1 hy with rfl | hy
          · simpa using hl
          · exact lim_ok l _ h0 y hy
theorem limC_taken {g left so now : Int} {l : Lim} {w : Int} (hl : limOk l = true) (hg : g ≤ 1125899906842624) (h0 : 0 ≤ left) (hG : left ≤ max g 0) (hw : 0 ≤ w) :
    limC g so now l (max 0 (min w left)) = min (min w left) (roomS (max g 0) l now (so + now)) := by
  simp only [limOk, Bool.and_eq_true, decide_eq_true_eq, rightB_iff] at hl
  obtain ⟨⟨m1, m2⟩, y1, y2⟩ := hl
  unfold limC roomS
  dsimp only
  rw [ofS_part ⟨by omega, by omega⟩ ⟨m1, m2⟩, show max 0 g = max g 0 by omega]
  generalize (partN (max g 0).toNat l.2.1.toNat : Int) = P
  split <;> split <;> omega
end WB
namespace WB
open Go Go.RowKit

theorem hasM_set (k k' : List UInt8) (v : Int) (l : MI) (hn : (l.map (·.1)).Nodup) : hasM k' (setL l k v) = (decide (k' = k) || hasM k' l) := by
  rw [Bool.eq_iff_iff, hasM_iff, (keys_set k v hn).2]
  simp [hasM_iff]
theorem hasM_put (k k' : List UInt8) (v : Int) (m : MI) : hasM k (putM k' v m) = (decide (k = k') || hasM k m) := by
  unfold hasM putM
  rw [alGet_put eqS]
  split
  · rename_i h; simp [h]
  · rename_i h; simp [h]
theorem keys_put (k : List UInt8) (v : Int) : ∀ {m : MI}, (m.map (·.1)).Nodup → ((putM k v m).map (·.1)).Nodup := by
  intro m hm
  by_cases h : hasM k m = true
  · have : (putM k v m).map (·.1) = m.map (·.1) := by
      clear hm
      induction m with
      | nil => cases h
      | cons p m ih =>
        by_cases e : p.1 = k
        · have : ∃ q, q.1 = k ∧ putM k v (p :: m) = q :: m := by
            unfold putM alPut
            rw [if_pos ((eqS k p.1).2 e.symm)]
            first | exact ⟨(p.1, v), e, rfl⟩ | exact ⟨(k, v), rfl, rfl⟩
          obtain ⟨q, hq, this⟩ := this
          rw [this]; simp [e, hq]
        · have : putM k v (p :: m) = p :: putM k v m := if_neg (fun q => e ((eqS k p.1).1 q).symm)
          rw [this]
          rw [hasM_cons, if_neg e] at h
          simp only [List.map_cons, ih h]
    rw [this]; exact hm
  · have h' : hasM k m = false := by simpa using h
    rw [putM_new h', List.map_append, List.nodup_append]
    refine ⟨hm, by simp, fun a ha b hb => ?_⟩
    simp only [List.map_cons, List.map_nil, List.mem_singleton] at hb
    subst hb
    exact fun e => h (hasM_iff.2 (e ▸ ha))
/-- The document's table of this call, beside the code's. -/
structure TRel (was here now year : MI) : Prop where
  hN : (here.map (·.1)).Nodup
  yN : (year.map (·.1)).Nodup
  get : ∀ k, getM k here = getM k now
  has : ∀ k, hasM k year = (hasM k was || hasM k here)
theorem TRel.step {was here now year : MI} (h : TRel was here now year) (k : List UInt8) (v v' : Int) : TRel was (setL here k v) (putM k v now) (putM k v' year) :=
  ⟨(keys_set k v h.hN).1, keys_put k v' h.yN, fun q => by rw [getM_set, getM_put, h.get], fun q => by
    rw [hasM_put, hasM_set _ _ _ _ h.hN, h.has]
    cases decide (q = k) <;> cases hasM q was <;> cases hasM q here <;> rfl⟩
theorem rTake_loop {g : Int} {lims : List Lim} {was : MI} (hgl : -1125899906842624 ≤ g) (hb : (bndS [] lims).2 = 0) (hl : lims.length ≤ 64) (hwl : was.length ≤ 1000) : ∀ (l pre : List It) (left left' : Int) (here now year : MI) (out : List It),
    TInv g left (bndS [] lims).1 was now year → TRel was here now year → left' = left + min g 0 → out.length ≤ pre.length → here.length ≤ pre.length → pre.length + l.length ≤ 1000 →
    (if (takeS g (bndS [] lims).1 was left now year out l).2.2 = 0 then ∃ here' now', iter ref25_Take_loop3 (g, was, pre ++ l, lims, here, left', (pre.length : Int), out, (), ()) = some (.inl (was, here', (takeS g (bndS [] lims).1 was left now year out l).1, (), ())) ∧
        TRel was here' now' (takeS g (bndS [] lims).1 was left now year out l).2.1 ∧ (∀ k, getM k (takeS g (bndS [] lims).1 was left now year out l).2.1 = getM k was + getM k now' ∧ (getM k now' = 0 ∨ rightB (getM k (takeS g (bndS [] lims).1 was left now year out l).2.1) = true)) ∧ here'.length ≤ 1000
      else iter ref25_Take_loop3 (g, was, pre ++ l, lims, here, left', (pre.length : Int), out, (), ()) = some (.inr (takeS g (bndS [] lims).1 was left now year out l)))
  | [], pre, left, left', here, now, year, out, h, hr, hle, ho, hh, hn => by
    rw [if_pos (show (takeS g (bndS [] lims).1 was left now year out []).2.2 = 0 from rfl)]
    refine ⟨here, now, ?_, hr, h.yearI, by simp at hn; omega⟩
    refine itR ?_
    unfold ref25_Take_loop3
    dsimp only
    have c : decide ((pre.length : Int) < (((pre ++ []) : List It).length : Int)) = false := decide_eq_false (by simp)
    rw [c, if_neg (by decide)]
    rfl
  | x :: l, pre, left, left', here, now, year, out, h, hr, hle, ho, hh, hn => by
    simp only [List.length_cons] at hn
    have w1 : IntKind.i64.wrap ((pre.length : Int) + 1) = ((pre ++ [x]).length : Int) := by rw [w64' (by omega) (by omega)]; simp
    have c : decide ((pre.length : Int) < (((pre ++ x :: l) : List It).length : Int)) = true := decide_eq_true (by simp; omega)
    have hG := h.gG
    have hl0 := h.l0
    have hlG := h.lG
    have hn1 := h.nowI x.1
    have hgR := h.gR
    have body : ref25_Take_loop3 (g, was, pre ++ x :: l, lims, here, left', (pre.length : Int), out, (), ()) =
        if nameB x.1 = false then some (.inr (.inr ([], [], 12)))
        else if (rightB x.2 && rightB (getM x.1 was)) = false then some (.inr (.inr ([], [], 2)))
        else if rightB (getM x.1 year + takenS g (bndS [] lims).1 left now year x) = false then some (.inr (.inr ([], [], 9)))
        else some (.inl (g, was, pre ++ x :: l, lims, setL here x.1 (getM x.1 now + takenS g (bndS [] lims).1 left now year x), left' - takenS g (bndS [] lims).1 left now year x, ((pre ++ [x]).length : Int), (if takenS g (bndS [] lims).1 left now year x > 0 then out ++ [(x.1, takenS g (bndS [] lims).1 left now year x)] else out), (), ())) := by
      unfold ref25_Take_loop3
      dsimp only
      simp only [gPi, gSS, gPb, gPm, gPs, gM, gM2, gAnd, gOr, gAndI, gOrI, gAA, gAO, gOA, gOO, gAAf, gAOf, gOAf, gOOf, gAMf, gOMf, gId]
      try simp only [gIn1, gIn2, gIn3, gIn4, gIn5, gIn6, gIn7, gIn8, gId, gIdF, gMb, gMm, gBm, gBb, bs, ms]
      simp only [c, if_true, lAt_mid, ms, bs]
      rw [At_eq (by omega), bs, refName_eq, bs]
      cases hname : nameB x.1 with
      | false => rfl
      | true =>
        rw [if_neg (by decide), if_neg (show ¬ (true = false) by decide)]
        have hrb : rightB x.2 = true ∧ rightB (getM x.1 was) = true ↔ ¬ (x.2 < 0) ∧ ¬ (x.2 > 1125899906842624) ∧ ¬ (getM x.1 was < 0) ∧ ¬ (getM x.1 was > 1125899906842624) := by
          rw [rightB_iff, rightB_iff]; omega
        have hbad : ¬ (¬ (x.2 < 0) ∧ ¬ (x.2 > 1125899906842624) ∧ ¬ (getM x.1 was < 0) ∧ ¬ (getM x.1 was > 1125899906842624)) → (rightB x.2 && rightB (getM x.1 was)) = false := fun q => by
          rw [← hrb] at q
          simpa using q
        by_cases h1 : x.2 < 0
        · rw [decide_eq_true h1, hbad (by omega)]; rfl
        rw [decide_eq_false h1, if_neg (by decide), bs]
        by_cases h2 : x.2 > 1125899906842624
        · rw [decide_eq_true h2, hbad (by omega)]; rfl
        rw [decide_eq_false h2, if_neg (by decide), bs]
        by_cases h3 : getM x.1 was < 0
        · rw [decide_eq_true h3, hbad (by omega)]; rfl
        rw [decide_eq_false h3, if_neg (by decide), bs]
        by_cases h4 : getM x.1 was > 1125899906842624
        · rw [decide_eq_true h4, hbad (by omega)]; rfl
        have hgood : (rightB x.2 && rightB (getM x.1 was)) = true := by
          rw [Bool.and_eq_true]; exact hrb.2 ⟨h1, h2, h3, h4⟩
        rw [decide_eq_false h4, hgood, if_neg (by decide), if_neg (show ¬ (true = false) by decide), At_eq (by omega), bs]
        have hgr := hr.get x.1
        have hT := taken_range h (x := x) (by omega)
        rw [lim_loop (by omega) (by omega) (lim_ok lims [] hb) ⟨by omega, by omega⟩ ⟨by omega, by omega⟩, bs]
        have hfold : lims.foldl (limF g (getM x.1 was) (getM x.1 here) x.1) (max 0 (min x.2 left')) = takenS g (bndS [] lims).1 left now year x := by
          have hc : max 0 (min x.2 left') = max 0 (min x.2 left) := by omega
          obtain ⟨_, q2⟩ := lim_map (g := g) (so := getM x.1 was) (now := getM x.1 here) (k := x.1) lims [] (max 0 (min x.2 left')) hb
          rw [q2 (fun q => by cases q), hc]
          unfold takenS
          by_cases hm : (getB x.1 (bndS [] lims).1).2 = true
          · rw [if_pos hm, if_pos hm, limC_taken (h.limI _ hm) (by omega) hl0 hlG (by omega), (h.yearI x.1).1, hgr]
          · rw [if_neg hm, if_neg hm]; omega
        dsimp only
        rw [hfold]
        generalize takenS g (bndS [] lims).1 left now year x = T at *
        rw [hgr, w64' (n := 1125899906842624 - getM x.1 now) (by omega) (by omega), w64' (n := 1125899906842624 - getM x.1 now - T) (by omega) (by omega)]
        have hy := (h.yearI x.1).1
        have hr9 : rightB (getM x.1 year + T) = !decide (T > 1125899906842624 - getM x.1 was - getM x.1 now) := by
          unfold rightB
          rw [Bool.eq_iff_iff]
          simp only [Bool.and_eq_true, decide_eq_true_eq, Bool.not_eq_true', decide_eq_false_iff_not]
          omega
        rw [hr9]
        by_cases h5 : getM x.1 was > 1125899906842624 - getM x.1 now - T
        · rw [decide_eq_true h5, decide_eq_true (show T > 1125899906842624 - getM x.1 was - getM x.1 now by omega)]; rfl
        · rw [decide_eq_false h5, decide_eq_false (show ¬ (T > 1125899906842624 - getM x.1 was - getM x.1 now) by omega), if_neg (by decide), if_neg (by decide), w64' (n := getM x.1 now + T) (by omega) (by omega), Set_eq (by omega), bs, w64' (n := left' - T) (by omega) (by omega)]
          by_cases hp : T > 0
          · rw [decide_eq_true hp, if_pos rfl, if_pos hp, appOk (by omega) (by decide), bs]
            dsimp only
            rw [w1]
          · rw [decide_eq_false hp, if_neg (by decide), if_neg hp, bs]
            dsimp only
            rw [w1]
    unfold takeS
    by_cases hname : nameB x.1 = false
    · rw [if_pos hname] at body ⊢
      rw [if_neg (by decide)]
      exact itR body
    · rw [if_neg hname] at body ⊢
      by_cases hright : (rightB x.2 && rightB (getM x.1 was)) = false
      · rw [if_pos hright] at body ⊢
        rw [if_neg (by decide)]
        exact itR body
      · rw [if_neg hright] at body ⊢
        by_cases h9 : rightB (getM x.1 year + takenS g (bndS [] lims).1 left now year x) = false
        · rw [if_pos h9] at body ⊢
          rw [if_neg (by decide)]
          exact itR body
        · rw [if_neg h9] at body ⊢
          simp only [Bool.not_eq_false, Bool.and_eq_true] at hright h9
          have hT := taken_range h (x := x) (rightB_iff.1 hright.1).1
          have e := rTake_loop hgl hb hl hwl l (pre ++ [x]) (left - takenS g (bndS [] lims).1 left now year x) (left' - takenS g (bndS [] lims).1 left now year x) (setL here x.1 (getM x.1 now + takenS g (bndS [] lims).1 left now year x))
            (putM x.1 (getM x.1 now + takenS g (bndS [] lims).1 left now year x) now) (putM x.1 (getM x.1 year + takenS g (bndS [] lims).1 left now year x) year) (if takenS g (bndS [] lims).1 left now year x > 0 then out ++ [(x.1, takenS g (bndS [] lims).1 left now year x)] else out)
            (h.step ⟨hT.1, hT.2.1⟩ h9) (hr.step _ _ _) (by omega) (by split <;> simp <;> omega) (by rw [setL, List.length_append, List.length_append]; exact Nat.add_le_add (Nat.le_trans (List.length_filter_le _ _) hh) (Nat.le_refl 1)) (by simp; omega)
          rw [List.append_assoc, List.singleton_append] at e
          rw [itL body]
          exact e
/-- What was so far, with this call's: the document's last loop. -/
theorem sum_loop {out : MI} : ∀ (l pre was : MI), was.length + l.length ≤ 10000 → pre.length + l.length ≤ 10000 → (∀ p ∈ l, i64R (getM p.1 was + p.2)) → (l.map (·.1)).Nodup →
    ∃ w, iter ref25_Take_loop2 (was, pre ++ l, (pre.length : Int), out, (), ()) = some (w, out, (), ()) ∧
      (∀ k, getM k w = getM k was + getM k l) ∧ ((was.map (·.1)).Nodup → (w.map (·.1)).Nodup ∧ ∀ k, hasM k w = (hasM k was || hasM k l)) ∧ w.length ≤ was.length + l.length
  | [], pre, was, h1, h2, h3, h4 => by
    refine ⟨was, ?_, fun k => by rw [getM_nil, Int.add_zero], fun h => ⟨h, fun k => by rw [show hasM k [] = false from rfl, Bool.or_false]⟩, by simp⟩
    refine itR ?_
    unfold ref25_Take_loop2
    dsimp only
    have c : decide ((pre.length : Int) < (((pre ++ []) : MI).length : Int)) = false := decide_eq_false (by simp)
    rw [c, if_neg (by decide)]
  | x :: l, pre, was, h1, h2, h3, h4 => by
    simp only [List.length_cons] at h1 h2
    rw [List.map_cons, List.nodup_cons] at h4
    have w1 : IntKind.i64.wrap ((pre.length : Int) + 1) = ((pre ++ [x]).length : Int) := by rw [w64' (by omega) (by omega)]; simp
    have c : decide ((pre.length : Int) < (((pre ++ x :: l) : MI).length : Int)) = true := decide_eq_true (by simp; omega)
    have hx := h3 x (by simp)
    have hne : ∀ p ∈ l, p.1 ≠ x.1 := fun p hp e => h4.1 (e ▸ List.mem_map_of_mem hp)
    have hlen : (setL was x.1 (getM x.1 was + x.2)).length ≤ was.length + 1 := by
      rw [setL, List.length_append]; exact Nat.add_le_add (List.length_filter_le _ _) (Nat.le_refl 1)
    obtain ⟨w, e1, e2, e3, e4⟩ := sum_loop (out := out) l (pre ++ [x]) (setL was x.1 (getM x.1 was + x.2)) (by omega) (by simp; omega) (fun p hp => by
      rw [getM_set, if_neg (hne p hp)]; exact h3 p (by simp [hp])) h4.2
    rw [List.append_assoc, List.singleton_append] at e1
    refine ⟨w, (itL (s' := (setL was x.1 (getM x.1 was + x.2), pre ++ x :: l, ((pre ++ [x]).length : Int), out, (), ())) ?_).trans e1, fun k => ?_, fun h => ?_, by simp only [List.length_cons]; omega⟩
    · unfold ref25_Take_loop2
      dsimp only
      simp only [c, if_true, lAt_mid, bs, ms]
      rw [At_eq (by omega), bs, w64' hx.1 hx.2, Set_eq (by omega), bs, w1]
    · rw [e2, getM_set, getM_cons]
      by_cases hk : k = x.1
      · rw [if_pos hk, if_pos hk.symm, hk]
        have : getM x.1 l = 0 := by
          have := getM_app (k := x.1) l [] hne
          rw [List.append_nil] at this
          rw [this]; rfl
        rw [this]; omega
      · rw [if_neg hk, if_neg (fun q => hk q.symm)]
    · obtain ⟨q1, q2⟩ := e3 (keys_set _ _ h).1
      refine ⟨q1, fun k => ?_⟩
      rw [q2, hasM_set _ _ _ _ h, hasM_cons]
      by_cases hk : k = x.1
      · simp [hk]
      · rw [if_neg (fun q => hk q.symm)]; simp [hk]
end WB
namespace WB
open Go Go.RowKit

theorem takeS_err {g : Int} {by_ : ByM} {was : MI} : ∀ (l : List It) (left : Int) (now year : MI) (out : List It), (takeS g by_ was left now year out l).2.2 ≠ 0 → takeS g by_ was left now year out l = ([], [], (takeS g by_ was left now year out l).2.2)
  | [], left, now, year, out, h => absurd rfl h
  | x :: l, left, now, year, out, h => by
    unfold takeS at h ⊢
    by_cases h1 : nameB x.1 = false
    · rw [if_pos h1]
    · rw [if_neg h1] at h ⊢
      by_cases h2 : (rightB x.2 && rightB (getM x.1 was)) = false
      · rw [if_pos h2]
      · rw [if_neg h2] at h ⊢
        by_cases h3 : rightB (getM x.1 year + takenS g by_ left now year x) = false
        · rw [if_pos h3]
        · rw [if_neg h3] at h ⊢
          exact takeS_err l _ _ _ _ h
theorem takeAll_err {g : Int} {was : MI} {wanted : List It} {lims : List Lim} (h : (takeAll g was wanted lims).2.2 ≠ 0) : takeAll g was wanted lims = ([], [], (takeAll g was wanted lims).2.2) := by
  unfold takeAll at h ⊢
  by_cases h1 : fitC g = false
  · rw [if_pos h1]
  · rw [if_neg h1] at h ⊢
    by_cases h2 : (bndA lims).2 ≠ 0
    · rw [if_pos h2]
    · rw [if_neg h2] at h ⊢
      by_cases h3 : (wanted.length : Int) > 64
      · rw [if_pos h3]
      · rw [if_neg h3] at h ⊢
        exact takeS_err _ _ _ _ _ h
/-- Two tables alike. -/
def AlikeM (m l : MI) : Prop := (m.map (·.1)).Nodup ∧ (l.map (·.1)).Nodup ∧ (∀ k, hasM k m = hasM k l) ∧ ∀ k, getM k m = getM k l
theorem alike_of {m l : MI} (h : AlikeM m l) (hn : l.length ≤ 100000) : law25_alike (m, l) = some true := by
  obtain ⟨h1, h2, h3, h4⟩ := h
  have hp : (m.map (·.1)).Perm (l.map (·.1)) := (List.perm_ext_iff_of_nodup h1 h2).2 fun k => by rw [← hasM_iff, ← hasM_iff, h3]
  refine alike_eq (by simpa using hp.length_eq) (fun p hpl => ?_) hn
  rw [h3, h4, hasM_iff]
  refine ⟨List.mem_map_of_mem hpl, ?_⟩
  clear h1 h3 h4 hp hn
  induction l with
  | nil => cases hpl
  | cons x l ih =>
    rw [List.map_cons, List.nodup_cons] at h2
    rw [getM_cons]
    rcases List.mem_cons.1 hpl with rfl | hpl
    · rw [if_pos rfl]
    · rw [if_neg (fun e : x.1 = p.1 => h2.1 (by rw [e]; exact List.mem_map_of_mem hpl))]
      exact ih h2.2 hpl
theorem rTake_eq {g : Int} {was : MI} {wanted : List It} {lims : List Lim} (hg : i64R g) (hw : was.length ≤ 1000) (hwN : (was.map (·.1)).Nodup) (hwR : ∀ k, i64R (getM k was)) :
    ∃ w, ref25_Take (g, was, wanted, lims) = some ((takeAll g was wanted lims).1, w, (takeAll g was wanted lims).2.2) ∧ ((takeAll g was wanted lims).2.2 = 0 → AlikeM (takeAll g was wanted lims).2.1 w ∧ w.length ≤ 2000) := by
  unfold ref25_Take takeAll
  dsimp only
  simp only [gPi, gSS, gPb, gPm, gPs, gM, gM2, gAnd, gOr, gAndI, gOrI, gAA, gAO, gOA, gOO, gAAf, gAOf, gOAf, gOOf, gAMf, gOMf, gId]
  try simp only [gIn1, gIn2, gIn3, gIn4, gIn5, gIn6, gIn7, gIn8, gId, gIdF, gMb, gMm, gBm, gBb, bs, ms]
  have hfit : fitC g = true ↔ ¬ (g > 1125899906842624) ∧ ¬ (g < -1125899906842624) := by
    simp only [fitC, Bool.and_eq_true, decide_eq_true_eq]; omega
  by_cases h1 : g > 1125899906842624
  · have hf : fitC g = false := by rw [← Bool.not_eq_true]; rw [hfit]; omega
    rw [decide_eq_true h1, if_pos rfl, bs, if_pos rfl, if_pos hf]
    exact ⟨[], rfl, fun h => by cases h⟩
  · rw [decide_eq_false h1, if_neg (by decide), bs]
    by_cases h2 : g < -1125899906842624
    · have hf : fitC g = false := by rw [← Bool.not_eq_true]; rw [hfit]; omega
      rw [decide_eq_true h2, if_pos rfl, if_pos hf]
      exact ⟨[], rfl, fun h => by cases h⟩
    · have hf : fitC g = true := hfit.2 ⟨h1, h2⟩
      rw [decide_eq_false h2, if_neg (by decide), hf, if_neg (show ¬ (true = false) by decide), rCheck_eq, bs]
      by_cases h0 : (bndA lims).2 = 0
      · have d0 : ((bndA lims).2 != 0) = false := by simp [h0]
        rw [d0, if_neg (by decide), if_neg (show ¬ ((bndA lims).2 ≠ 0) by simp [h0])]
        by_cases hn : (wanted.length : Int) > 64
        · rw [decide_eq_true hn, if_pos rfl, if_pos hn]
          exact ⟨[], rfl, fun h => by cases h⟩
        · rw [decide_eq_false hn, if_neg (by decide), if_neg hn]
          have inv := start_inv (was := was) hg hf h0
          have hb0 := h0
          unfold bndA at inv h0 ⊢
          by_cases hl : (lims.length : Int) > 64
          · rw [if_pos hl] at h0; cases h0
          · rw [if_neg hl] at inv h0 ⊢
            have key := rTake_loop (g := g) (lims := lims) (was := was) (by omega) h0 (by omega) hw wanted [] (max g 0) g [] [] was [] inv
              ⟨by simp, hwN, fun k => rfl, fun k => by rw [show hasM k [] = false from rfl, Bool.or_false]⟩ (by omega) (by simp) (by simp) (by simp; omega)
            simp only [List.nil_append, List.length_nil] at key
            rw [show ((0 : Nat) : Int) = 0 from rfl] at key
            by_cases hz : (takeS g (bndS [] lims).1 was (max g 0) [] was [] wanted).2.2 = 0
            · rw [if_pos hz] at key
              obtain ⟨here, now, k1, k2, k3, k4⟩ := key
              have hh : ∀ p ∈ here, getM p.1 here = p.2 := by
                have hN := k2.hN
                clear k1 k2 k3 k4
                intro p hpl
                induction here with
                | nil => cases hpl
                | cons x l ih =>
                  rw [List.map_cons, List.nodup_cons] at hN
                  rw [getM_cons]
                  rcases List.mem_cons.1 hpl with rfl | hpl
                  · rw [if_pos rfl]
                  · rw [if_neg (fun e : x.1 = p.1 => hN.1 (by rw [e]; exact List.mem_map_of_mem hpl))]
                    exact ih hN.2 hpl
              obtain ⟨w, q1, q2, q3, q4⟩ := sum_loop (out := (takeS g (bndS [] lims).1 was (max g 0) [] was [] wanted).1) here [] was (by omega) (by simp; omega) (fun p hp => by
                obtain ⟨r1, r2⟩ := k3 p.1
                rw [← hh p hp, k2.get]
                rcases r2 with r2 | r2
                · rw [r2, Int.add_zero]; exact hwR _
                · rw [← r1]
                  have := rightB_iff.1 r2
                  exact ⟨by omega, by omega⟩) k2.hN
              obtain ⟨q5, q6⟩ := q3 hwN
              simp only [List.nil_append, List.length_nil] at q1
              rw [show ((0 : Nat) : Int) = 0 from rfl] at q1
              refine ⟨w, ?_, fun _ => ⟨⟨k2.yN, q5, fun k => by rw [k2.has, q6], fun k => by rw [(k3 k).1, q2, k2.get]⟩, by omega⟩⟩
              rw [k1, bs]
              dsimp only
              rw [q1, bs, hz]
            · rw [if_neg hz] at key
              refine ⟨[], ?_, fun h => absurd h hz⟩
              rw [key, bs]
              dsimp only
              have e := takeS_err _ _ _ _ _ hz
              rw [e]
      · have d0 : ((bndA lims).2 != 0) = true := by simpa using h0
        rw [d0, if_pos rfl, if_pos h0]
        exact ⟨[], rfl, fun h => absurd h h0⟩
theorem law_BeforeTakes {g : Int} {was : MI} {wanted : List It} {lims : List Lim} (hg : i64R g) (hk : ∀ p ∈ was, p.1.length ≤ 9223372036854775807) (hwR : ∀ p ∈ was, i64R p.2) : law25_BeforeTakes (g, was, wanted, lims) = some true := by
  unfold law25_BeforeTakes law25_great
  dsimp only
  simp only [gPi, gSS, gPb, gPm, gPs, gM, gM2, gAnd, gOr, gAndI, gOrI, gAA, gAO, gOA, gOO, gAAf, gAOf, gOAf, gOOf, gAMf, gOMf, gId]
  try simp only [gIn1, gIn2, gIn3, gIn4, gIn5, gIn6, gIn7, gIn8, gId, gIdF, gMb, gMm, gBm, gBb, bs, ms]
  by_cases h1 : (was.length : Int) > 80
  · rw [decide_eq_true h1]
    simp only [if_true, bs, awake_eq]
  · rw [decide_eq_false h1, if_neg (by decide), bs]
    by_cases h2 : (wanted.length : Int) > 80
    · rw [decide_eq_true h2]
      simp only [if_true, bs, awake_eq]
    · rw [decide_eq_false h2, if_neg (by decide), bs]
      by_cases h3 : (lims.length : Int) > 80
      · rw [decide_eq_true h3]
        simp only [if_true, awake_eq]
      · rw [decide_eq_false h3, if_neg (by decide), table_eq (by omega), bs]
        obtain ⟨t1, t2, t3⟩ := tabS_keys was [] (by simp)
        simp only [List.length_nil, Nat.zero_add] at t2
        have t3' : ∀ p ∈ tabS [] was, p ∈ was := fun p hp => (t3 p hp).resolve_left (by simp)
        generalize tabS [] was = m at *
        have hmR : ∀ k, i64R (getM k m) := fun k => by
          have : ∀ l : MI, (∀ p ∈ l, i64R p.2) → i64R (getM k l) := by
            intro l
            induction l with
            | nil => intro _; exact ⟨by rw [getM_nil]; omega, by rw [getM_nil]; omega⟩
            | cons x l ih =>
              intro h
              rw [getM_cons]
              split
              · exact h x (by simp)
              · exact ih fun p hp => h p (by simp [hp])
          exact this m fun p hp => hwR p (t3' p hp)
        have hal : AlikeM m m := ⟨t1, t1, fun _ => rfl, fun _ => rfl⟩
        obtain ⟨w, r1, r2⟩ := rTake_eq (g := g) (was := m) (wanted := wanted) (lims := lims) hg (by omega) t1 hmR
        dsimp only
        rw [Take_eq hg (fun p hp => hk p (t3' p hp)) (by omega), bs, r1, bs]
        simp only [bne_self_eq_false, Bool.false_eq_true, if_false]
        have hlen : (takeAll g m wanted lims).1.length ≤ 1000 := by
          by_cases hz : (takeAll g m wanted lims).2.2 = 0
          · have := (takeAll_some hg hz).2.2.2.2.2.2.1
            omega
          · rw [takeAll_err hz]; simp
        rw [Same_eq (by omega), bs]
        simp only [bs, Bool.not_true, Bool.false_eq_true, if_false]
        rw [alike_of hal (by omega)]
        simp only [bs, Bool.not_true, Bool.false_eq_true, if_false]
        by_cases hz : (takeAll g m wanted lims).2.2 = 0
        · obtain ⟨a1, a2⟩ := r2 hz
          rw [hz]
          simp only [bne_self_eq_false, Bool.false_eq_true, if_false, bs, beq_self_eq_true, if_true]
          rw [alike_of a1 (by omega)]
          simp only [bs, if_true, awake_eq]
        · have d : ((takeAll g m wanted lims).2.2 != 0) = true := by simpa using hz
          rw [d]
          have e := takeAll_err hz
          rw [e]
          simp only [if_true, bs, List.length_nil, awake_eq]
          rfl
end WB
namespace WB
open Go Go.RowKit

def addK (k : List UInt8) (f : Int → Int) (s : Int) (x : It) : Int := if x.1 = k then s + f x.2 else s
def sumK (k : List UInt8) (l : List It) : Int := l.foldl (addK k id) 0
def capW (w : Int) : Int := min w 2251799813685248
def wantK (k : List UInt8) (l : List It) : Int := l.foldl (addK k capW) 0
theorem addK_base {k : List UInt8} {f : Int → Int} : ∀ (l : List It) (s : Int), l.foldl (addK k f) s = s + l.foldl (addK k f) 0
  | [], s => by simp
  | x :: l, s => by
    rw [List.foldl_cons, List.foldl_cons, addK_base l, addK_base l (addK k f 0 x)]
    unfold addK
    split <;> omega
theorem sumK_snoc (k : List UInt8) (l : List It) (x : It) : sumK k (l ++ [x]) = sumK k l + if x.1 = k then x.2 else 0 := by
  unfold sumK
  rw [List.foldl_append, List.foldl_cons, List.foldl_nil]
  unfold addK
  split <;> simp
theorem wantK_cons (k : List UInt8) (l : List It) (x : It) : wantK k (x :: l) = (if x.1 = k then capW x.2 else 0) + wantK k l := by
  unfold wantK
  rw [List.foldl_cons, addK_base]
  unfold addK
  split <;> simp
theorem bnd_keep : ∀ (l : List Lim) (m : ByM) {k : List UInt8}, (bndS m l).2 = 0 → (getB k m).2 = true → getB k (bndS m l).1 = getB k m := fun l m k h h2 => ((lim_map (g := 0) (so := 0) (now := 0) (k := k) l m 0 h).1 h2).2
theorem bnd_mem : ∀ (l : List Lim) (m : ByM), (bndS m l).2 = 0 → ∀ y ∈ l, getB y.1 (bndS m l).1 = (y, true)
  | [], m, _, y, hy => by cases hy
  | x :: l, m, h0, y, hy => by
    unfold bndS at h0 ⊢
    split at h0
    · cases h0
    · rename_i hname
      split at h0
      · cases h0
      · rename_i ht
        split at h0
        · cases h0
        · rename_i hl
          rw [if_neg hname, if_neg ht, if_neg hl]
          rcases List.mem_cons.1 hy with rfl | hy
          · rw [bnd_keep l _ h0 (by rw [getB_put, if_pos rfl]), getB_put, if_pos rfl]
          · exact bnd_mem l _ h0 y hy
theorem partN_zero (g : Nat) : partN g 0 = 0 := by unfold partN; rw [Nat.mul_zero]
theorem takeS_bounds {g : Int} {by_ : ByM} {was : MI} : ∀ (l : List It) (left : Int) (now year : MI) (out : List It), TInv g left by_ was now year → (takeS g by_ was left now year out l).2.2 = 0 →
    ∀ k, (sumK k (takeS g by_ was left now year out l).1 + getM k year = sumK k out + getM k (takeS g by_ was left now year out l).2.1) ∧ (sumK k (takeS g by_ was left now year out l).1 ≤ sumK k out + wantK k l) ∧
      ∀ y, getB k by_ = (y, true) → (0 < y.2.2 → (0 < sumK k out → getM k year ≤ y.2.2) → 0 < sumK k (takeS g by_ was left now year out l).1 → getM k (takeS g by_ was left now year out l).2.1 ≤ y.2.2) ∧
        (y.2.1 = 0 → sumK k out = 0 → sumK k (takeS g by_ was left now year out l).1 = 0)
  | [], left, now, year, out, h, h0 => fun k => ⟨rfl, by simp [takeS, wantK], fun y hy => ⟨fun _ q => q, fun _ q => q⟩⟩
  | x :: l, left, now, year, out, h, h0 => fun k => by
    unfold takeS at h0 ⊢
    split at h0
    · cases h0
    · rename_i hname
      split at h0
      · cases h0
      · rename_i hright
        split at h0
        · cases h0
        · rename_i hr9
          rw [if_neg hname, if_neg hright, if_neg hr9]
          simp only [Bool.not_eq_false, Bool.and_eq_true] at hright hr9
          have hx := rightB_iff.1 hright.1
          have hc := taken_range h hx.1
          have st := h.step ⟨hc.1, hc.2.1⟩ hr9
          obtain ⟨q1, q2, q3⟩ := takeS_bounds l _ _ _ _ st h0 k
          have hroom : ∀ y, getB x.1 by_ = (y, true) → takenS g by_ left now year x ≤ roomS (max g 0) y (getM x.1 now) (getM x.1 year) := fun y hy => by
            unfold takenS
            rw [hy, if_pos rfl]
            dsimp only
            omega
          have hnow := (h.nowI x.1).1
          have hgG := h.gG
          have hl0 := h.l0
          have hlG := h.lG
          generalize takenS g by_ left now year x = T at *
          have ho : ∀ k, sumK k (if T > 0 then out ++ [(x.1, T)] else out) = sumK k out + if x.1 = k then T else 0 := fun k => by
            split
            · rw [sumK_snoc]
            · have : T = 0 := by omega
              rw [this]; simp
          rw [ho] at q1 q2 q3
          rw [getM_put] at q1 q3
          rw [wantK_cons]
          by_cases e : k = x.1
          · subst e
            rw [if_pos rfl, if_pos rfl] at q1 q3
            rw [if_pos rfl] at q2 ⊢
            refine ⟨by omega, by unfold capW; omega, fun y hy => ?_⟩
            have hl := h.limI x.1 (by rw [hy])
            rw [hy] at hl
            simp only [limOk, Bool.and_eq_true, decide_eq_true_eq, rightB_iff] at hl
            obtain ⟨⟨m1, m2⟩, y1, y2⟩ := hl
            have hrm := hroom y hy
            have hof := ofS_range (max g 0) y.2.1
            obtain ⟨r1, r2⟩ := q3 y hy
            refine ⟨fun hp hq hR => r1 hp (fun hs => ?_) hR, fun hz hs => r2 hz ?_⟩
            · unfold roomS at hrm
              rw [if_pos (show y.2.2 ≠ 0 by omega)] at hrm
              by_cases hT : T = 0
              · have := hq (by omega); omega
              · split at hrm <;> omega
            · have hT : T = 0 := by
                have : roomS (max g 0) y (getM x.1 now) (getM x.1 year) = 0 := by
                  unfold roomS
                  rw [ofS_part ⟨by omega, by omega⟩ ⟨m1, m2⟩, hz, if_pos (show (0 : Int) ≠ 1000000 by decide), show (0 : Int).toNat = 0 from rfl, partN_zero]
                  split <;> omega
                omega
              omega
          · have e' : ¬ x.1 = k := fun q => e q.symm
            rw [if_neg e, if_neg e'] at q1 q3
            rw [if_neg e'] at q2 ⊢
            rw [Int.add_zero] at q1 q2 q3
            exact ⟨q1, by omega, q3⟩
theorem takeS_inv {g : Int} {by_ : ByM} {was : MI} : ∀ (l : List It) (left : Int) (now year : MI) (out : List It), TInv g left by_ was now year → (takeS g by_ was left now year out l).2.2 = 0 →
    ∃ left' now', TInv g left' by_ was now' (takeS g by_ was left now year out l).2.1
  | [], left, now, year, out, h, h0 => ⟨left, now, h⟩
  | x :: l, left, now, year, out, h, h0 => by
    unfold takeS at h0 ⊢
    split at h0
    · cases h0
    · rename_i hname
      split at h0
      · cases h0
      · rename_i hright
        split at h0
        · cases h0
        · rename_i hr9
          rw [if_neg hname, if_neg hright, if_neg hr9]
          simp only [Bool.not_eq_false, Bool.and_eq_true] at hright hr9
          have hc := taken_range h (rightB_iff.1 hright.1).1
          exact takeS_inv l _ _ _ _ (h.step ⟨hc.1, hc.2.1⟩ hr9) h0
theorem wantK_range {k : List UInt8} : ∀ {l : List It}, (∀ x ∈ l, rightB x.2 = true) → 0 ≤ wantK k l ∧ wantK k l ≤ 2251799813685248 * l.length
  | [], _ => ⟨by simp [wantK], by simp [wantK]⟩
  | x :: l, h => by
    have h1 := rightB_iff.1 (h x (by simp))
    obtain ⟨h2, h3⟩ := wantK_range (k := k) (l := l) fun y hy => h y (by simp [hy])
    rw [wantK_cons, List.length_cons]
    have : 0 ≤ capW x.2 ∧ capW x.2 ≤ 2251799813685248 := by unfold capW; omega
    split <;> constructor <;> omega
/-- What is taken of a code: the law's inner loops. -/
theorem taken_loop {m got year wanted was : MI} {i g : Int} {k : List UInt8} {lims : List Lim} {w j0 : Int} : ∀ (l pre : List It) (s : Int), pre ++ l = got → (∀ x ∈ l, 0 ≤ x.2 ∧ x.2 ≤ 1125899906842624) → 0 ≤ s → s ≤ 1125899906842624 * pre.length → pre.length + l.length ≤ 1000 →
    iter law25_BeforeBounds_loop3 (m, got, year, i, k, s, w, (pre.length : Int), g, was, wanted, lims, (), (), ()) = some (m, got, year, i, k, l.foldl (addK k id) s, w, g, was, wanted, lims, (), (), ())
  | [], pre, s, he, hx, h1, h2, hn => by
    subst he
    refine itR ?_
    unfold law25_BeforeBounds_loop3
    dsimp only
    have c : decide ((pre.length : Int) < (((pre ++ []) : List It).length : Int)) = false := decide_eq_false (by simp)
    rw [c, if_neg (by decide)]
    rfl
  | x :: l, pre, s, he, hx, h1, h2, hn => by
    subst he
    simp only [List.length_cons] at hn
    have w1 : IntKind.i64.wrap ((pre.length : Int) + 1) = ((pre ++ [x]).length : Int) := by rw [w64' (by omega) (by omega)]; simp
    have c : decide ((pre.length : Int) < (((pre ++ x :: l) : List It).length : Int)) = true := decide_eq_true (by simp; omega)
    have hx0 := hx x (by simp)
    have hs : 0 ≤ addK k id s x ∧ addK k id s x ≤ 1125899906842624 * ((pre ++ [x]).length : Int) := by
      unfold addK
      simp only [id_eq, List.length_append, List.length_cons, List.length_nil]
      split <;> constructor <;> omega
    have e := taken_loop (m := m) (got := pre ++ x :: l) (year := year) (wanted := wanted) (was := was) (i := i) (g := g) (k := k) (lims := lims) (w := w) (j0 := j0) l (pre ++ [x]) (addK k id s x) (by simp) (fun y hy => hx y (by simp [hy])) hs.1 hs.2 (by simp; omega)
    refine (itL (s' := (m, pre ++ x :: l, year, i, k, addK k id s x, w, ((pre ++ [x]).length : Int), g, was, wanted, lims, (), (), ())) ?_).trans e
    unfold law25_BeforeBounds_loop3
    dsimp only
    simp only [gPi, gSS, gPb, gPm, gPs, gM, gM2, gAnd, gOr, gAndI, gOrI, gAA, gAO, gOA, gOO, gAAf, gAOf, gOAf, gOOf, gAMf, gOMf, gId]
    try simp only [gIn1, gIn2, gIn3, gIn4, gIn5, gIn6, gIn7, gIn8, gId, gIdF, gMb, gMm, gBm, gBb, bs, ms]
    simp only [c, if_true, lAt_mid, ms, bs]
    by_cases h : x.1 = k
    · have d : (x.1 == k) = true := by simpa using h
      rw [d, if_pos rfl, bs]
      dsimp only
      rw [w1, w64' (n := s + x.2) (by omega) (by omega)]
      unfold addK
      rw [if_pos h]; rfl
    · have d : (x.1 == k) = false := by simpa using h
      rw [d, if_neg (by decide), bs]
      dsimp only
      rw [w1]
      unfold addK
      rw [if_neg h]
theorem want_loop {m got year wanted was : MI} {i g : Int} {k : List UInt8} {lims : List Lim} {t : Int} : ∀ (l pre : List It) (s : Int), pre ++ l = wanted → (∀ x ∈ l, 0 ≤ x.2 ∧ x.2 ≤ 1125899906842624) → 0 ≤ s → s ≤ 2251799813685248 * pre.length → pre.length + l.length ≤ 1000 →
    iter law25_BeforeBounds_loop2 (m, got, year, i, k, t, s, (pre.length : Int), g, was, wanted, lims, (), (), ()) = some (m, got, year, i, k, t, l.foldl (addK k capW) s, g, was, wanted, lims, (), (), ())
  | [], pre, s, he, hx, h1, h2, hn => by
    subst he
    refine itR ?_
    unfold law25_BeforeBounds_loop2
    dsimp only
    have c : decide ((pre.length : Int) < (((pre ++ []) : List It).length : Int)) = false := decide_eq_false (by simp)
    rw [c, if_neg (by decide)]
    rfl
  | x :: l, pre, s, he, hx, h1, h2, hn => by
    subst he
    simp only [List.length_cons] at hn
    have w1 : IntKind.i64.wrap ((pre.length : Int) + 1) = ((pre ++ [x]).length : Int) := by rw [w64' (by omega) (by omega)]; simp
    have c : decide ((pre.length : Int) < (((pre ++ x :: l) : List It).length : Int)) = true := decide_eq_true (by simp; omega)
    have hx0 := hx x (by simp)
    have hcap : 0 ≤ capW x.2 ∧ capW x.2 ≤ 2251799813685248 := by unfold capW; omega
    have hs : 0 ≤ addK k capW s x ∧ addK k capW s x ≤ 2251799813685248 * ((pre ++ [x]).length : Int) := by
      unfold addK
      simp only [List.length_append, List.length_cons, List.length_nil]
      split <;> constructor <;> omega
    have e := want_loop (m := m) (got := got) (year := year) (wanted := pre ++ x :: l) (was := was) (i := i) (g := g) (k := k) (lims := lims) (t := t) l (pre ++ [x]) (addK k capW s x) (by simp) (fun y hy => hx y (by simp [hy])) hs.1 hs.2 (by simp; omega)
    refine (itL (s' := (m, got, year, i, k, t, addK k capW s x, ((pre ++ [x]).length : Int), g, was, pre ++ x :: l, lims, (), (), ())) ?_).trans e
    unfold law25_BeforeBounds_loop2
    dsimp only
    simp only [gPi, gSS, gPb, gPm, gPs, gM, gM2, gAnd, gOr, gAndI, gOrI, gAA, gAO, gOA, gOO, gAAf, gAOf, gOAf, gOOf, gAMf, gOMf, gId]
    try simp only [gIn1, gIn2, gIn3, gIn4, gIn5, gIn6, gIn7, gIn8, gId, gIdF, gMb, gMm, gBm, gBb, bs, ms]
    simp only [c, if_true, lAt_mid, ms, bs]
    by_cases h : x.1 = k
    · have d : (x.1 == k) = true := by simpa using h
      rw [d, if_pos rfl, bs]
      dsimp only
      rw [w1]
      unfold addK
      rw [if_pos h]
      unfold capW at hcap ⊢
      rw [w64' (n := s + min x.2 2251799813685248) (by omega) (by omega)]
    · have d : (x.1 == k) = false := by simpa using h
      rw [d, if_neg (by decide), bs]
      dsimp only
      rw [w1]
      unfold addK
      rw [if_neg h]
theorem lims_loop {m got year wanted was : MI} {i g t : Int} {k : List UInt8} {lims : List Lim} : ∀ (l pre : List Lim), pre ++ l = lims → (∀ y ∈ l, y.1 = k → (0 < y.2.2 → 0 < t → getM k year ≤ y.2.2) ∧ (y.2.1 = 0 → t ≤ 0)) → pre.length + l.length ≤ 1000 →
    iter law25_BeforeBounds_loop1 (m, got, year, i, k, t, (pre.length : Int), g, was, wanted, lims, (), (), ()) = some (.inl (m, got, year, i, g, was, wanted, lims, (), (), ()))
  | [], pre, he, hx, hn => by
    subst he
    refine itR ?_
    unfold law25_BeforeBounds_loop1
    dsimp only
    have c : decide ((pre.length : Int) < (((pre ++ []) : List Lim).length : Int)) = false := decide_eq_false (by simp)
    rw [c, if_neg (by decide)]
  | x :: l, pre, he, hx, hn => by
    subst he
    simp only [List.length_cons] at hn
    have w1 : IntKind.i64.wrap ((pre.length : Int) + 1) = ((pre ++ [x]).length : Int) := by rw [w64' (by omega) (by omega)]; simp
    have c : decide ((pre.length : Int) < (((pre ++ x :: l) : List Lim).length : Int)) = true := decide_eq_true (by simp; omega)
    have e := lims_loop (m := m) (got := got) (year := year) (wanted := wanted) (was := was) (i := i) (g := g) (t := t) (k := k) (lims := pre ++ x :: l) l (pre ++ [x]) (by simp) (fun y hy => hx y (by simp [hy])) (by simp; omega)
    refine (itL (s' := (m, got, year, i, k, t, ((pre ++ [x]).length : Int), g, was, wanted, pre ++ x :: l, (), (), ())) ?_).trans e
    unfold law25_BeforeBounds_loop1
    dsimp only
    simp only [gPi, gSS, gPb, gPm, gPs, gM, gM2, gAnd, gOr, gAndI, gOrI, gAA, gAO, gOA, gOO, gAAf, gAOf, gOAf, gOOf, gAMf, gOMf, gId]
    try simp only [gIn1, gIn2, gIn3, gIn4, gIn5, gIn6, gIn7, gIn8, gId, gIdF, gMb, gMm, gBm, gBb, bs, ms]
    simp only [c, if_true, lAt_mid, ms, bs, fM]
    by_cases h : x.1 = k
    · have d : (!(x.1 == k)) = false := by simp [h]
      obtain ⟨h1, h2⟩ := hx x (by simp) h
      rw [d, if_neg (by decide)]
      by_cases hy : x.2.2 > 0
      · rw [decide_eq_true hy, if_pos rfl]
        by_cases ht : t > 0
        · have hle := h1 hy ht
          have hm : (x.2.1 == 0) = false := by
            have : x.2.1 ≠ 0 := fun q => by have := h2 q; omega
            simpa using this
          rw [decide_eq_true ht, bs, if_pos rfl, decide_eq_false (show ¬ ((alGet (eqZ Ty.str) (zeroT (Ty.int IntKind.i64)) k year).fst > x.2.2) from fun q => absurd (show getM k year > x.2.2 from q) (by omega)), bs, if_neg (by decide), hm, if_neg (by decide), bs, if_neg (by decide), bs]
          dsimp only
          rw [w1]
        · rw [decide_eq_false ht, bs, if_neg (by decide), bs, if_neg (by decide), ite_self, bs, if_neg (by decide), bs]
          dsimp only
          rw [w1]
      · rw [decide_eq_false hy, if_neg (by decide), bs, if_neg (by decide), bs, if_neg (by decide)]
        by_cases ht : t > 0
        · have hm : (x.2.1 == 0) = false := by
            have : x.2.1 ≠ 0 := fun q => by have := h2 q; omega
            simpa using this
          rw [hm, if_neg (by decide), bs, if_neg (by decide), bs]
          dsimp only
          rw [w1]
        · rw [decide_eq_false ht, ite_self, bs, if_neg (by decide), bs]
          dsimp only
          rw [w1]
    · have d : (!(x.1 == k)) = true := by simpa using h
      rw [d, if_pos rfl, bs]
      dsimp only
      rw [w1]
/-- What the law asks of a code. -/
structure BndK (m got year : MI) (wanted : List It) (lims : List Lim) (k : List UInt8) : Prop where
  le : sumK k got ≤ wantK k wanted
  eq : getM k year = getM k m + sumK k got
  r : i64R (getM k year)
  lim : ∀ y ∈ lims, y.1 = k → (0 < y.2.2 → 0 < sumK k got → getM k year ≤ y.2.2) ∧ (y.2.1 = 0 → sumK k got ≤ 0)
theorem outer_loop {m got year wanted was : MI} {g : Int} {lims : List Lim} (hg : ∀ x ∈ got, 0 ≤ x.2 ∧ x.2 ≤ 1125899906842624) (hgl : got.length ≤ 1000) (hw : ∀ x ∈ wanted, 0 ≤ x.2 ∧ x.2 ≤ 1125899906842624) (hwl : wanted.length ≤ 1000) (hll : lims.length ≤ 1000) (hml : m.length ≤ 1000)
    (hB : ∀ k, BndK m got year wanted lims k) : ∀ (l pre : List It), pre ++ l = wanted →
    iter law25_BeforeBounds_loop4 (m, got, year, (pre.length : Int), g, was, wanted, lims, (), (), ()) = some (.inl ())
  | [], pre, he => by
    subst he
    refine itR ?_
    unfold law25_BeforeBounds_loop4
    dsimp only
    have c : decide ((pre.length : Int) < (((pre ++ []) : List It).length : Int)) = false := decide_eq_false (by simp)
    rw [c, if_neg (by decide)]
  | x :: l, pre, he => by
    have hlen : pre.length + l.length + 1 = wanted.length := by rw [← he]; simp; omega
    have w1 : IntKind.i64.wrap ((pre.length : Int) + 1) = ((pre ++ [x]).length : Int) := by rw [w64' (by omega) (by omega)]; simp
    have c : decide ((pre.length : Int) < (wanted.length : Int)) = true := decide_eq_true (by omega)
    have e := outer_loop (was := was) (g := g) hg hgl hw hwl hll hml hB l (pre ++ [x]) (by rw [← he]; simp)
    have hx : lAt wanted (pre.length : Int) = some x := by rw [← he]; exact lAt_mid
    refine (itL (s' := (m, got, year, ((pre ++ [x]).length : Int), g, was, wanted, lims, (), (), ())) ?_).trans e
    have hb := hB x.1
    have hbr := hb.r
    have l3 := taken_loop (m := m) (got := got) (year := year) (wanted := wanted) (was := was) (i := (pre.length : Int)) (g := g) (k := x.1) (lims := lims) (w := 0) (j0 := 0) got [] 0 rfl hg (by omega) (by simp) (by simpa using hgl)
    have l2 := want_loop (m := m) (got := got) (year := year) (wanted := wanted) (was := was) (i := (pre.length : Int)) (g := g) (k := x.1) (lims := lims) (t := sumK x.1 got) wanted [] 0 rfl hw (by omega) (by simp) (by simpa using hwl)
    have l1 := lims_loop (m := m) (got := got) (year := year) (wanted := wanted) (was := was) (i := (pre.length : Int)) (g := g) (k := x.1) (lims := lims) (t := sumK x.1 got) lims [] rfl hb.lim (by simpa using hll)
    simp only [List.length_nil] at l3 l2 l1
    rw [show ((0 : Nat) : Int) = 0 from rfl] at l3 l2 l1
    rw [show got.foldl (addK x.1 id) 0 = sumK x.1 got from rfl] at l3
    rw [show wanted.foldl (addK x.1 capW) 0 = wantK x.1 wanted from rfl] at l2
    unfold law25_BeforeBounds_loop4
    dsimp only
    simp only [gPi, gSS, gPb, gPm, gPs, gM, gM2, gAnd, gOr, gAndI, gOrI, gAA, gAO, gOA, gOO, gAAf, gAOf, gOAf, gOOf, gAMf, gOMf, gId]
    try simp only [gIn1, gIn2, gIn3, gIn4, gIn5, gIn6, gIn7, gIn8, gId, gIdF, gMb, gMm, gBm, gBb, bs, ms]
    simp only [c, if_true, hx, ms, bs]
    rw [l3, bs]
    dsimp only
    rw [l2, bs]
    dsimp only
    rw [decide_eq_false (by have := hb.le; omega), if_neg (by decide), At_eq (by omega), bs, fM, ← hb.eq, w64' hbr.1 hbr.2, bne_self_eq_false, bs, if_neg (by decide), l1, bs]
    dsimp only
    rw [w1]
theorem law_BeforeBounds {g : Int} {was : MI} {wanted : List It} {lims : List Lim} (hg : i64R g) (hk : ∀ p ∈ was, p.1.length ≤ 9223372036854775807) (hwR : ∀ p ∈ was, i64R p.2) : law25_BeforeBounds (g, was, wanted, lims) = some true := by
  unfold law25_BeforeBounds law25_great
  dsimp only
  simp only [gPi, gSS, gPb, gPm, gPs, gM, gM2, gAnd, gOr, gAndI, gOrI, gAA, gAO, gOA, gOO, gAAf, gAOf, gOAf, gOOf, gAMf, gOMf, gId]
  try simp only [gIn1, gIn2, gIn3, gIn4, gIn5, gIn6, gIn7, gIn8, gId, gIdF, gMb, gMm, gBm, gBb, bs, ms]
  by_cases h1 : (was.length : Int) > 80
  · rw [decide_eq_true h1]
    simp only [if_true, bs, awake_eq]
  · rw [decide_eq_false h1, if_neg (by decide), bs]
    by_cases h2 : (wanted.length : Int) > 80
    · rw [decide_eq_true h2]
      simp only [if_true, bs, awake_eq]
    · rw [decide_eq_false h2, if_neg (by decide), bs]
      by_cases h3 : (lims.length : Int) > 80
      · rw [decide_eq_true h3]
        simp only [if_true, awake_eq]
      · rw [decide_eq_false h3, if_neg (by decide), table_eq (by omega), bs]
        obtain ⟨t1, t2, t3⟩ := tabS_keys was [] (by simp)
        simp only [List.length_nil, Nat.zero_add] at t2
        have t3' : ∀ p ∈ tabS [] was, p ∈ was := fun p hp => (t3 p hp).resolve_left (by simp)
        generalize tabS [] was = m at *
        have hmR : ∀ k, i64R (getM k m) := fun k => by
          have : ∀ l : MI, (∀ p ∈ l, i64R p.2) → i64R (getM k l) := by
            intro l
            induction l with
            | nil => intro _; exact ⟨by rw [getM_nil]; omega, by rw [getM_nil]; omega⟩
            | cons x l ih =>
              intro h
              rw [getM_cons]
              split
              · exact h x (by simp)
              · exact ih fun p hp => h p (by simp [hp])
          exact this m fun p hp => hwR p (t3' p hp)
        dsimp only
        rw [Take_eq hg (fun p hp => hk p (t3' p hp)) (by omega), bs]
        by_cases hz : (takeAll g m wanted lims).2.2 = 0
        · have d : ((takeAll g m wanted lims).2.2 != 0) = false := by simp [hz]
          obtain ⟨s1, s2, s3, s4, s5, s6, s7, _⟩ := takeAll_some hg hz
          have s1' := s1
          simp only [fitC, Bool.and_eq_true, decide_eq_true_eq] at s1'
          rw [d, if_neg (by decide), bSum_pos s7 s6 (by omega), bs]
          dsimp only
          rw [show ((0 : Int) != 0) = false from rfl, if_neg (by decide), bs, decide_eq_false (by omega), if_neg (by decide)]
          have hgot : ∀ x ∈ (takeAll g m wanted lims).1, 0 ≤ x.2 ∧ x.2 ≤ 1125899906842624 := by
            have : ∀ l : List It, (∀ y ∈ l, 0 < y.2) → ∀ x ∈ l, x.2 ≤ sumI l := by
              intro l
              induction l with
              | nil => intro _ x hx; cases hx
              | cons y l ih =>
                intro h x hx
                have hp := h y (by simp)
                have hn := sumI_nonneg (m := l) fun z hz => by have := h z (by simp [hz]); omega
                rw [sumI_cons]
                rcases List.mem_cons.1 hx with rfl | hx
                · omega
                · have := ih (fun z hz => h z (by simp [hz])) x hx
                  omega
            intro x hx
            have a := this _ s6 x hx
            have b := s6 x hx
            omega
          have hB : ∀ k, BndK m (takeAll g m wanted lims).1 (takeAll g m wanted lims).2.1 wanted lims k := by
            intro k
            have hz' := hz
            unfold takeAll at hz' ⊢
            rw [if_neg (by rw [s1]; decide)] at hz' ⊢
            by_cases hb : (bndA lims).2 ≠ 0
            · rw [if_pos hb] at hz'; exact absurd hz' hb
            · rw [if_neg hb] at hz' ⊢
              rw [if_neg (by omega)] at hz' ⊢
              rw [ne_eq, Decidable.not_not] at hb
              have inv := start_inv (was := m) hg s1 hb
              obtain ⟨q1, q2, q3⟩ := takeS_bounds wanted _ _ _ _ inv hz' k
              rw [show sumK k [] = 0 from rfl] at q1 q2 q3
              have hyear : i64R (getM k (takeS g (bndA lims).1 m (max g 0) [] m [] wanted).2.1) := by
                obtain ⟨left', now', st⟩ := takeS_inv wanted _ _ _ _ inv hz'
                obtain ⟨a1, a2⟩ := st.yearI k
                rcases a2 with a2 | a2
                · rw [a1, a2, Int.add_zero]; exact hmR k
                · have := rightB_iff.1 a2
                  exact ⟨by omega, by omega⟩
              refine ⟨by omega, by omega, hyear, fun y hy hyk => ?_⟩
              have hget : getB k (bndA lims).1 = (y, true) := by
                unfold bndA at hb ⊢
                by_cases hl : (lims.length : Int) > 64
                · rw [if_pos hl] at hb; cases hb
                · rw [if_neg hl] at hb ⊢
                  rw [← hyk]
                  exact bnd_mem lims [] hb y hy
              obtain ⟨r1, r2⟩ := q3 y hget
              exact ⟨fun a b => r1 a (fun c => by omega) b, fun a => by have := r2 a rfl; omega⟩
          have e := outer_loop (m := m) (was := was) (g := g) hgot (by omega) (fun x hx => rightB_iff.1 (s3 x hx).2) (by omega) (by omega) (by omega) hB wanted [] rfl
          simp only [List.length_nil] at e
          rw [show ((0 : Nat) : Int) = 0 from rfl] at e
          rw [e, bs]
          exact awake_eq
        · have d : ((takeAll g m wanted lims).2.2 != 0) = true := by simpa using hz
          rw [d, if_pos rfl, awake_eq]
end WB
namespace Go.Proofs
open Go.Shelf
def Tryz.laysX25_ren : Go.Shelf.Ren := ⟨fun | 5 => 25 | n => n, fun | 23 => 30 | 24 => 30 | 26 => 9 | 27 => 22 | 0 => 0 | 4 => 4 | n => n, fun | n => n⟩
theorem Tryz.copyK : Tryz.prog.underlying (Tryz.laysX25_ren.t 26) = some .string := by kernel_rfl
theorem Tryz.laysX25 : Go.Proofs.SlLaysX.n5 Tryz.prog Tryz.laysX25_ren := {
  mixed := by kernel_rfl
  f5 := ⟨Tryz.f25.name, by decide, Tryz.func25.trans (congrArg some (by kernel_rfl))⟩
  t0 := Tryz.underlying0
  a0 := Tryz.isAgg0
  z0 := Tryz.sizeOf0
  v0 := Tryz.zeroValue0
  t4 := Tryz.underlying4
  a4 := Tryz.isAgg4
  z4 := Tryz.sizeOf4
  v4 := Tryz.zeroValue4
  t23 := Tryz.underlying30
  a23 := Tryz.isAgg30
  z23 := Tryz.sizeOf30
  v23 := Tryz.zeroValue30
  t24 := Tryz.underlying30
  a24 := Tryz.isAgg30
  z24 := Tryz.sizeOf30
  v24 := Tryz.zeroValue30
  a26 := Tryz.isAgg9
  z26 := Tryz.sizeOf9
  a27 := Tryz.isAgg22
  z27 := Tryz.sizeOf22 }
theorem Tryz.copyC {H : Type} (R : Value → Option (DataW H × List MemPlace)) (bd nd : Nat) (ps : Option Nat) (Dd Ds : DataW H) (w : World) (hd : w.ownsMap Tryz.prog (Tryz.laysX25_ren.t 26) R bd nd Dd) (hs : SrcOf Tryz.prog (Tryz.laysX25_ren.t 26) R w ps Ds) (hne : ps ≠ some bd) (hroom : nd + Maps.size Ds ≤ maxLen) :
    Calls Tryz.prog 25 #[.map (some bd), .map ps] w fun e w' => e = .returned (.tuple #[]) ∧ w'.ownsMap Tryz.prog (Tryz.laysX25_ren.t 26) R bd (nd + Maps.size Ds) (Lib.mergeD Dd Ds) ∧ w.grownBy w' (some bd) := AnyX.maps_Copy_opt Tryz.laysX25 (Maps.string_keyed Tryz.copyK) R bd nd ps Dd Ds w hd hs hne hroom
def Tryz.lays219_ren : Go.Shelf.Ren := ⟨fun | 219 => 85 | 217 => 95 | 225 => 96 | 224 => 97 | 267 => 98 | 266 => 109 | 314 => 110 | n => n, fun | 9 => 9 | 3 => 3 | 4 => 4 | 5 => 5 | 46 => 122 | 146 => 139 | 51 => 41 | n => n, fun | 1 => 2 | n => n⟩
theorem Tryz.lays219 : Go.Proofs.Lays.n219 Tryz.prog Tryz.lays219_ren := {
  mixed := by kernel_rfl
  f217 := Tryz.func95.trans (congrArg some (by kernel_rfl))
  f219 := Tryz.func85.trans (congrArg some (by kernel_rfl))
  f224 := Tryz.func97.trans (congrArg some (by kernel_rfl))
  f225 := Tryz.func96.trans (congrArg some (by kernel_rfl))
  f266 := Tryz.func109.trans (congrArg some (by kernel_rfl))
  f267 := Tryz.func98.trans (congrArg some (by kernel_rfl))
  f314 := Tryz.func110.trans (congrArg some (by kernel_rfl))
  t3 := Tryz.underlying3
  a3 := Tryz.isAgg3
  z3 := Tryz.sizeOf3
  v3 := Tryz.zeroValue3
  t4 := Tryz.underlying4
  a4 := Tryz.isAgg4
  z4 := Tryz.sizeOf4
  v4 := Tryz.zeroValue4
  t5 := Tryz.underlying5
  a5 := Tryz.isAgg5
  z5 := Tryz.sizeOf5
  v5 := Tryz.zeroValue5
  t9 := Tryz.underlying9
  a9 := Tryz.isAgg9
  z9 := Tryz.sizeOf9
  v9 := Tryz.zeroValue9
  t46 := Tryz.underlying122
  a46 := Tryz.isAgg122
  z46 := Tryz.sizeOf122
  v46 := Tryz.zeroValue122
  t51 := Tryz.underlying41
  a51 := Tryz.isAgg41
  z51 := Tryz.sizeOf41
  v51 := Tryz.zeroValue41
  t146 := Tryz.underlying139
  a146 := Tryz.isAgg139
  z146 := Tryz.sizeOf139
  v146 := Tryz.zeroValue139
  g1 := by kernel_rfl }
open Go.RowKit Go.Lib in
/-- internal/stringslite.Index (what strings.Index calls) AT A substr OF ONE BYTE c: IT RETURNS 'Lib.indexByte s c'; the world is as it was. (LAID: no walk: one application.) -/
theorem Tryz.stringslite_Index_one (s : ByteArray) (c : UInt8) (w : World) :
    Calls Tryz.prog 85 #[.string s, .string ⟨#[c]⟩] w fun e w' => e = .returned (.int .i64 (Lib.indexByte s.data.toList c)) ∧ w' = w := Any.stringslite_Index_one Tryz.lays219 s c w

end Go.Proofs
