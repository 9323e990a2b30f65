/-
 OWN TEXTS, MERGED (wip/merge.py): Pnm, Psl, Pbx, Pbz, Ppo, Ppd, Ppr, Ppe, Pnu, Pct, Pspl, Pxa, Pxb, Pxd. No condition of their own.
-/
import Derived.Test.YtpkakpifnjiebaaGreatDoorK8
import Derived.Test.YtpkakpifnjiebaaGreatDoorK6
import Derived.KernelRfl
import Derived.Lib.AtoiAll
import Derived.Lib.ParseIntB
set_option linter.unusedVariables false
set_option linter.unusedSimpArgs false
namespace WB
open Go Go.RowKit
theorem itL {S T : Type} {b : S → Option (S ⊕ T)} {s s' : S} (h : b s = some (.inl s')) : iter b s = iter b s' := by rw [iter_eq, h]; rfl
theorem itR {S T : Type} {b : S → Option (S ⊕ T)} {s : S} {t : T} (h : b s = some (.inr t)) : iter b s = some t := by rw [iter_eq, h]; rfl
theorem sAt_mid' {pre t : List UInt8} {b : UInt8} : sAt (pre ++ b :: t) (pre.length : Int) = some (b.toNat : Int) := sAt_nat (by simp)
def okb (b : UInt8) : Bool := !((decide ((b.toNat : Int) < 97) || decide ((b.toNat : Int) > 122)) && (decide ((b.toNat : Int) < 48) || decide ((b.toNat : Int) > 57)) && ((b.toNat : Int) != 46) && ((b.toNat : Int) != 95) && ((b.toNat : Int) != 45))
def nameB (s : List UInt8) : Bool := s.all okb && !(s == []) && !(s == [45]) && decide ((s.length : Int) ≤ 32)
theorem refName_step {pre t : List UInt8} {b : UInt8} (c : decide ((pre.length : Int) < ((pre ++ b :: t : List UInt8).length : Int)) = true) :
  ref25_Name_loop1 (pre ++ b :: t, (pre.length : Int), ()) = some (if okb b = true then .inl (pre ++ b :: t, IntKind.i64.wrap ((pre.length : Int) + 1), ()) else .inr (.inr false)) := by
 unfold ref25_Name_loop1
 dsimp only
 simp only [gPi, gSS, gPb, gPm, gPs, gM, gM2, gAnd, gOr, gAndI, gOrI, gAA, gAO, gOA, gOO, gAAf, gAOf, gOAf, gOOf, gAMf, gOMf, gId]
 simp only [gIn1, gIn2, gIn3, gIn4, gIn5, gIn6, gIn7, gIn8, gId, gIdF, gMb, gMm, gBm, gBb, bs, ms]
 simp only [c, if_true, sAt_mid', bs]
 unfold okb
 have e1 : decide ((b.toNat : Int) ≥ 97) = !decide ((b.toNat : Int) < 97) := by by_cases h : (b.toNat : Int) < 97 <;> simp [h] <;> omega
 have e2 : decide ((b.toNat : Int) ≤ 122) = !decide ((b.toNat : Int) > 122) := by by_cases h : (b.toNat : Int) ≤ 122 <;> simp [h] <;> omega
 have e3 : decide ((b.toNat : Int) ≥ 48) = !decide ((b.toNat : Int) < 48) := by by_cases h : (b.toNat : Int) < 48 <;> simp [h] <;> omega
 have e4 : decide ((b.toNat : Int) ≤ 57) = !decide ((b.toNat : Int) > 57) := by by_cases h : (b.toNat : Int) ≤ 57 <;> simp [h] <;> omega
 have e5 : ((b.toNat : Int) == 46) = !((b.toNat : Int) != 46) := by simp [bne]
 have e6 : ((b.toNat : Int) == 95) = !((b.toNat : Int) != 95) := by simp [bne]
 have e7 : ((b.toNat : Int) == 45) = !((b.toNat : Int) != 45) := by simp [bne]
 rw [e1, e2, e3, e4, e5, e6, e7]
 generalize decide ((b.toNat : Int) < 97) = q1
 generalize decide ((b.toNat : Int) > 122) = q2
 generalize decide ((b.toNat : Int) < 48) = q3
 generalize decide ((b.toNat : Int) > 57) = q4
 generalize ((b.toNat : Int) != 46) = q5
 generalize ((b.toNat : Int) != 95) = q6
 generalize ((b.toNat : Int) != 45) = q7
 cases q1 <;> cases q2 <;> cases q3 <;> cases q4 <;> cases q5 <;> cases q6 <;> cases q7 <;> rfl
theorem refName_loop : ∀ (t pre : List UInt8), pre.length + t.length ≤ 4611686018427387904 → iter ref25_Name_loop1 (pre ++ t, (pre.length : Int), ()) = some (if t.all okb then .inl () else .inr false)
 | [], pre, h2 => by
  refine itR ?_
  unfold ref25_Name_loop1
  dsimp only
  have c : decide ((pre.length : Int) < (((pre ++ []) : List UInt8).length : Int)) = false := decide_eq_false (by simp)
  simp only [c, Bool.false_eq_true, if_false, List.all_nil, if_true]
 | b :: t, pre, h2 => by
  simp only [List.length_cons] at h2
  have w1 : IntKind.i64.wrap ((pre.length : Int) + 1) = ((pre ++ [b]).length : Int) := by rw [w64' (by omega) (by omega)]; simp
  have c : decide ((pre.length : Int) < (((pre ++ b :: t) : List UInt8).length : Int)) = true := decide_eq_true (by simp; omega)
  by_cases hd : okb b = true
  ·have e := refName_loop t (pre ++ [b]) (by simp; omega)
   rw [List.append_assoc, List.singleton_append] at e
   refine (itL (s' := (pre ++ b :: t, ((pre ++ [b]).length : Int), ())) ?_).trans (e.trans ?_)
   ·rw [refName_step c, if_pos hd, w1]
   ·simp [hd]
  ·refine (itR (t := Sum.inr false) ?_).trans ?_
   ·rw [refName_step c, if_neg hd]
   ·simp [hd]
theorem refName_eq (s : List UInt8) : ref25_Name s = some (nameB s) := by
 unfold ref25_Name
 dsimp only
 simp only [gPi, gSS, gPb, gPm, gPs, gM, gM2, gAnd, gOr, gAndI, gOrI, gAA, gAO, gOA, gOO, gAAf, gAOf, gOAf, gOOf, gAMf, gOMf, gId]
 simp only [gIn1, gIn2, gIn3, gIn4, gIn5, gIn6, gIn7, gIn8, gId, gIdF, gMb, gMm, gBm, gBb, bs, ms]
 unfold nameB
 by_cases h : (s.length : Int) ≤ 32
 ·have h1 : decide ((s.length : Int) > 32) = false := decide_eq_false (by omega)
  have h2 : decide ((s.length : Int) ≤ 32) = true := decide_eq_true h
  have := refName_loop s [] (by simp; omega)
  simp only [List.nil_append, List.length_nil] at this
  rw [show ((0 : Nat) : Int) = 0 from rfl] at this
  rw [this, h1, h2]
  cases s.all okb <;> cases s == [] <;> cases s == [45] <;> rfl
 ·have h1 : decide ((s.length : Int) > 32) = true := decide_eq_true (by omega)
  have h2 : decide ((s.length : Int) ≤ 32) = false := decide_eq_false h
  rw [h1, h2]
  cases s.all okb <;> cases s == [] <;> cases s == [45] <;> rfl
end WB
namespace WB
open Go Go.RowKit
abbrev Ln := Int × List UInt8 × Int
def fitD (a : Int) : Bool := decide (-1125899906842624 ≤ a) && decide (a ≤ 1125899906842624)
theorem fitD_iff {a : Int} : fitD a = true ↔ -1125899906842624 ≤ a ∧ a ≤ 1125899906842624 := by simp [fitD]
theorem Fits_eq' (a : Int) : cents_Fits a = some (fitD a) := by
 unfold cents_Fits fitD
 dsimp only
 simp only [gPi, gSS, gPb, gPm, gPs, gM, gM2, gAnd, gOr, gAndI, gOrI, gAA, gAO, gOA, gOO, gAAf, gAOf, gOAf, gOOf, gAMf, gOMf, gId]
 try simp only [gIn1, gIn2, gIn3, gIn4, gIn5, gIn6, gIn7, gIn8, gId, gIdF, gMb, gMm, gBm, gBb, bs, ms]
 by_cases h : a ≥ -1125899906842624
 ·rw [show decide (a ≥ -1125899906842624) = true from decide_eq_true h, if_pos rfl, Bool.true_and]
 ·rw [show decide (a ≥ -1125899906842624) = false from decide_eq_false h, if_neg (by decide), Bool.false_and]
theorem scode_eq (s : List UInt8) : slip_code s = some (nameB s) := by
 unfold slip_code nameB
 dsimp only
 simp only [gPi, gSS, gPb, gPm, gPs, gM, gM2, gAnd, gOr, gAndI, gOrI, gAA, gAO, gOA, gOO, gAAf, gAOf, gOAf, gOOf, gAMf, gOMf, gId]
 try simp only [gIn1, gIn2, gIn3, gIn4, gIn5, gIn6, gIn7, gIn8, gId, gIdF, gMb, gMm, gBm, gBb, bs, ms]
 by_cases h1 : s = []
 ·subst h1; rfl
 ·have d1 : (s == []) = false := by simpa using h1
  rw [d1, if_neg (by decide), bs]
  by_cases h2 : s = [45]
  ·subst h2; rfl
  ·have d2 : (s == [45]) = false := by simpa using h2
   rw [d2, if_neg (by decide)]
   by_cases h3 : (s.length : Int) > 32
   ·rw [decide_eq_true h3, bs, if_pos rfl, decide_eq_false (show ¬ ((s.length : Int) ≤ 32) by omega), Bool.and_false]
   ·rw [decide_eq_false h3, bs, if_neg (by decide), decide_eq_true (show (s.length : Int) ≤ 32 by omega)]
    have key := iter_fold0 (b := slip_code_loop1) (α := Int) (A := Unit) (fun k _ => (s.map fun b => (b.toNat : Int), ((s.map fun b => (b.toNat : Int)).length : Int), (k : Int), ()))
     (fun _ x => if (!((decide (x < 97) || decide (x > 122)) && (decide (x < 48) || decide (x > 57)) && (x != 46) && (x != 95) && (x != 45))) = true then .inl () else .inr (.inr false)) (fun _ => .inl ()) (fun _ _ => True) (s.map fun b => (b.toNat : Int)) (a := ()) trivial (fun k x _ hx _ => by
     have hk := (List.getElem?_eq_some_iff.1 hx).1
     rw [List.length_map] at hk
     unfold slip_code_loop1
     dsimp only
     simp only [gPi, gSS, gPb, gPm, gPs, gM, gM2, gAnd, gOr, gAndI, gOrI, gAA, gAO, gOA, gOO, gAAf, gAOf, gOAf, gOOf, gAMf, gOMf, gId]
     try simp only [gIn1, gIn2, gIn3, gIn4, gIn5, gIn6, gIn7, gIn8, gId, gIdF, gMb, gMm, gBm, gBb, bs, ms]
     rw [lt_len hx, if_pos rfl, lAt_nat hx, bs]
     have hw := w_succ (i := k) (by omega)
     have e1 : decide (x < 97) = !decide (x ≥ 97) := by rw [Bool.eq_iff_iff]; simp
     have e2 : decide (x > 122) = !decide (x ≤ 122) := by rw [Bool.eq_iff_iff]; simp
     have e3 : decide (x < 48) = !decide (x ≥ 48) := by rw [Bool.eq_iff_iff]; simp
     have e4 : decide (x > 57) = !decide (x ≤ 57) := by rw [Bool.eq_iff_iff]; simp
     rw [e1, e2, e3, e4]
     simp only [bne]
     generalize decide (x ≥ 97) = a1
     generalize decide (x ≤ 122) = a2
     generalize decide (x ≥ 48) = a3
     generalize decide (x ≤ 57) = a4
     obtain ⟨a5, h5⟩ : ∃ b, (x == 46) = b := ⟨_, rfl⟩
     obtain ⟨a6, h6⟩ : ∃ b, (x == 95) = b := ⟨_, rfl⟩
     obtain ⟨a7, h7⟩ : ∃ b, (x == 45) = b := ⟨_, rfl⟩
     simp only [h5, h6, h7]
     cases a1 <;> cases a2 <;> cases a3 <;> cases a4 <;> cases a5 <;> cases a6 <;> cases a7 <;> first | rfl | exact congrArg (fun q => some (Sum.inl (_, _, q, ()))) hw) (fun _ _ _ _ _ _ _ => trivial) (fun _ _ => by
     unfold slip_code_loop1
     dsimp only
     rw [nlt_len, if_neg (by decide)])
    rw [if_pos (show s.length ≤ 70368744177664 by omega), show (0 : Int) = ((0 : Nat) : Int) from rfl, key, bs]
    have hf : ∀ m : List UInt8, foldE (fun (_ : Unit) (x : Int) => if (!((decide (x < 97) || decide (x > 122)) && (decide (x < 48) || decide (x > 57)) && (x != 46) && (x != 95) && (x != 45))) = true then Sum.inl () else Sum.inr (Sum.inr false : Unit ⊕ Bool)) (fun _ => Sum.inl ()) () (m.map fun b => (b.toNat : Int)) = if m.all okb = true then .inl () else .inr false := by
     intro m
     induction m with
     | nil => rfl
     | cons b m ih =>
      rw [List.map_cons, foldE, List.all_cons]
      cases hb : okb b with
      | true =>
       have : (!((decide ((b.toNat : Int) < 97) || decide ((b.toNat : Int) > 122)) && (decide ((b.toNat : Int) < 48) || decide ((b.toNat : Int) > 57)) && ((b.toNat : Int) != 46) && ((b.toNat : Int) != 95) && ((b.toNat : Int) != 45))) = true := hb
       rw [if_pos this]
       simp only [Bool.true_and]
       exact ih
      | false =>
       have : ¬ (!((decide ((b.toNat : Int) < 97) || decide ((b.toNat : Int) > 122)) && (decide ((b.toNat : Int) < 48) || decide ((b.toNat : Int) > 57)) && ((b.toNat : Int) != 46) && ((b.toNat : Int) != 95) && ((b.toNat : Int) != 45))) = true := by
        have h' : (!((decide ((b.toNat : Int) < 97) || decide ((b.toNat : Int) > 122)) && (decide ((b.toNat : Int) < 48) || decide ((b.toNat : Int) > 57)) && ((b.toNat : Int) != 46) && ((b.toNat : Int) != 95) && ((b.toNat : Int) != 45))) = false := hb
        rw [h']; decide
       rw [if_neg this]
       rfl
    rw [hf]
    cases s.all okb <;> rfl
def lineS (l : Ln) : Int := if l.1 < 0 ∨ l.1 ≥ 7 then 11 else if nameB l.2.1 = false then 12 else if l.2.2 = 0 then 22 else if fitD l.2.2 = false then 9 else 0
theorem line_eq (l : Ln) : slip_line l = some (lineS l) := by
 obtain ⟨p, c, x⟩ := l
 unfold slip_line lineS
 dsimp only
 simp only [gPi, gSS, gPb, gPm, gPs, gM, gM2, gAnd, gOr, gAndI, gOrI, gAA, gAO, gOA, gOO, gAAf, gAOf, gOAf, gOOf, gAMf, gOMf, gId]
 try simp only [gIn1, gIn2, gIn3, gIn4, gIn5, gIn6, gIn7, gIn8, gId, gIdF, gMb, gMm, gBm, gBb, bs, ms]
 by_cases h1 : p < 0
 ·rw [decide_eq_true h1, if_pos rfl, bs, if_pos rfl, if_pos (.inl h1)]
 ·rw [decide_eq_false h1, if_neg (by decide)]
  by_cases h2 : p ≥ 7
  ·rw [decide_eq_true h2, bs, if_pos rfl, if_pos (.inr h2)]
  ·rw [decide_eq_false h2, bs, if_neg (by decide), if_neg (show ¬ (p < 0 ∨ p ≥ 7) by omega), scode_eq, bs]
   cases hn : nameB c with
   | false => rfl
   | true =>
    rw [if_neg (show ¬ ((!true) = true) by decide), if_neg (show ¬ (true = false) by decide)]
    by_cases h3 : x = 0
    ·have d : (x == 0) = true := by simpa using h3
     rw [d, if_pos rfl, if_pos h3]
    ·have d : (x == 0) = false := by simpa using h3
     rw [d, if_neg (by decide), if_neg h3, Fits_eq', bs]
     cases fitD x <;> rfl
def lessS (p x : Ln) : Bool := decide (p.1 < x.1) || (p.1 == x.1 && sLess p.2.1 x.2.1)
theorem less_eq (p x : Ln) : slip_less (p, x) = some (lessS p x) := by
 obtain ⟨a, b, c⟩ := p
 obtain ⟨a', b', c'⟩ := x
 unfold slip_less lessS
 dsimp only
 simp only [gPi, gSS, gPb, gPm, gPs, gM, gM2, gAnd, gOr, gAndI, gOrI, gAA, gAO, gOA, gOO, gAAf, gAOf, gOAf, gOOf, gAMf, gOMf, gId]
 try simp only [gIn1, gIn2, gIn3, gIn4, gIn5, gIn6, gIn7, gIn8, gId, gIdF, gMb, gMm, gBm, gBb, bs, ms]
 by_cases h : a < a'
 ·rw [decide_eq_true h, if_pos rfl]; rfl
 ·rw [decide_eq_false h, if_neg (by decide)]
  cases h2 : (a == a') <;> simp
def chkStep' (pr : Option Ln) (x : Ln) : Option Ln ⊕ (Unit ⊕ Int) :=
 if lineS x ≠ 0 then .inr (.inr (lineS x)) else match pr with
  | none => .inl (some x)
  | some p => if (p.1 == x.1 && p.2.1 == x.2.1) = true then .inr (.inr 7) else if lessS p x = false then .inr (.inr 8) else .inl (some x)
def slipS (s : Int × Int × List Ln) : Int := if s.1 < 1900 ∨ s.1 > 2199 ∨ s.2.1 < 1 ∨ s.2.1 > 400 then 2 else if (s.2.2.length : Int) > 448 then 5 else match foldE chkStep' (fun _ => Sum.inl ()) none s.2.2 with
 | .inl _ => 0
 | .inr e => e
theorem slip_eq (s : Int × Int × List Ln) : slip_Check s = some (slipS s) := by
 obtain ⟨y, ix, L⟩ := s
 unfold slip_Check slipS
 dsimp only
 simp only [gPi, gSS, gPb, gPm, gPs, gM, gM2, gAnd, gOr, gAndI, gOrI, gAA, gAO, gOA, gOO, gAAf, gAOf, gOAf, gOOf, gAMf, gOMf, gId]
 try simp only [gIn1, gIn2, gIn3, gIn4, gIn5, gIn6, gIn7, gIn8, gId, gIdF, gMb, gMm, gBm, gBb, bs, ms]
 by_cases h0 : y < 1900 ∨ y > 2199 ∨ ix < 1 ∨ ix > 400
 ·rw [if_pos h0]
  by_cases h1 : y < 1900
  ·rw [decide_eq_true h1]; rfl
  ·rw [decide_eq_false h1, if_neg (by decide), bs]
   by_cases h2 : y > 2199
   ·rw [decide_eq_true h2]; rfl
   ·rw [decide_eq_false h2, if_neg (by decide)]
    by_cases h3 : ix < 1
    ·rw [decide_eq_true h3]; rfl
    ·rw [decide_eq_false h3, if_neg (by decide), decide_eq_true (show ix > 400 by omega)]; rfl
 ·rw [if_neg h0, decide_eq_false (show ¬ (y < 1900) by omega), if_neg (by decide), bs, decide_eq_false (show ¬ (y > 2199) by omega), if_neg (by decide), decide_eq_false (show ¬ (ix < 1) by omega), if_neg (by decide), bs, decide_eq_false (show ¬ (ix > 400) by omega), bs]
  dsimp only
  rw [if_neg (show ¬ (false = true) by decide)]
  by_cases hn : (L.length : Int) > 448
  ·rw [decide_eq_true hn, if_pos rfl, if_pos hn]
  ·rw [decide_eq_false hn, if_neg (by decide), if_neg hn]
   have key := iter_fold0 (b := slip_Check_loop1) (α := Ln) (A := Option Ln) (fun k _ => (L, (L.length : Int), (k : Int), y, ix, L, (), (), ())) chkStep' (fun _ => Sum.inl ())
    (fun i pr => pr = if i = 0 then none else L[i - 1]?) L (a := none) rfl (fun i x pr hx hpr => by
    have hi := (List.getElem?_eq_some_iff.1 hx).1
    unfold slip_Check_loop1 chkStep'
    dsimp only
    simp only [gPi, gSS, gPb, gPm, gPs, gM, gM2, gAnd, gOr, gAndI, gOrI, gAA, gAO, gOA, gOO, gAAf, gAOf, gOAf, gOOf, gAMf, gOMf, gId]
    try simp only [gIn1, gIn2, gIn3, gIn4, gIn5, gIn6, gIn7, gIn8, gId, gIdF, gMb, gMm, gBm, gBb, bs, ms]
    rw [lt_len hx, if_pos rfl, lAt_nat hx, bs, line_eq, bs]
    by_cases hz : lineS x = 0
    ·have d : (lineS (x.1, x.2.1, x.2.2) != 0) = false := by simpa using hz
     rw [d, if_neg (show ¬ (false = true) by decide), if_neg (show ¬ (lineS x ≠ 0) by simpa using hz)]
     cases i with
     | zero =>
      rw [if_pos rfl] at hpr
      subst hpr
      rw [if_pos (show (((0 : Nat) : Int) == 0) = true from rfl), bs]
      dsimp only
      rw [w_succ (by omega)]
      rfl
     | succ i =>
      have hlt : i < L.length := by omega
      rw [if_neg (by omega), Nat.add_sub_cancel, List.getElem?_eq_getElem hlt] at hpr
      subst hpr
      rw [if_neg (show ¬ ((((i + 1 : Nat) : Int) == 0) = true) by simp; omega), show ((i + 1 : Nat) : Int) - 1 = (i : Int) by omega, w64' (n := (i : Int)) (by omega) (by omega), lAt_nat (List.getElem?_eq_getElem hlt), bs]
      have e1 : (if (L[i].1 == x.1) = true then some (L[i].2.1 == x.2.1) else some false) = some (L[i].1 == x.1 && L[i].2.1 == x.2.1) := by
       cases (L[i].1 == x.1) <;> rfl
      rw [e1, bs]
      dsimp only
      cases h7 : (L[i].1 == x.1 && L[i].2.1 == x.2.1) with
      | true => rfl
      | false =>
       rw [if_neg (show ¬ (false = true) by decide), if_neg (show ¬ (false = true) by decide), less_eq, bs]
       cases h8 : lessS L[i] x with
       | false =>
        rfl
       | true =>
        rw [if_neg (show ¬ ((!true) = true) by decide), bs, if_neg (show ¬ (true = false) by decide)]
        dsimp only
        rw [w_succ (by omega)]
        rfl
    ·have d : (lineS (x.1, x.2.1, x.2.2) != 0) = true := by simpa using hz
     rw [d, if_pos rfl, if_pos (show lineS x ≠ 0 from hz)]
     rfl) (fun i x pr pr' hx hpr hst => by
    rw [if_neg (by omega), Nat.add_sub_cancel, hx]
    unfold chkStep' at hst
    split at hst
    ·cases hst
    ·split at hst
     ·cases hst; rfl
     ·split at hst
      ·cases hst
      ·split at hst
       ·cases hst
       ·cases hst; rfl) (fun _ _ => by
    unfold slip_Check_loop1
    dsimp only
    rw [nlt_len, if_neg (by decide)])
   rw [show (0 : Int) = ((0 : Nat) : Int) from rfl, key, bs]
   cases foldE chkStep' (fun _ => Sum.inl ()) none L <;> rfl
structure LineOk (l : Ln) : Prop where
 p : 0 ≤ l.1 ∧ l.1 < 7
 nm : nameB l.2.1 = true
 ne : l.2.2 ≠ 0
 r : -1125899906842624 ≤ l.2.2 ∧ l.2.2 ≤ 1125899906842624
theorem lineS_ok {l : Ln} (h : lineS l = 0) : LineOk l := by
 unfold lineS at h
 by_cases h1 : l.1 < 0 ∨ l.1 ≥ 7
 ·rw [if_pos h1] at h; cases h
 ·rw [if_neg h1] at h
  by_cases h2 : nameB l.2.1 = false
  ·rw [if_pos h2] at h; cases h
  ·rw [if_neg h2] at h
   by_cases h3 : l.2.2 = 0
   ·rw [if_pos h3] at h; cases h
   ·rw [if_neg h3] at h
    by_cases h4 : fitD l.2.2 = false
    ·rw [if_pos h4] at h; cases h
    ·exact ⟨by omega, by simpa using h2, h3, fitD_iff.1 (by simpa using h4)⟩
theorem chk_lines : ∀ (L : List Ln) (pr : Option Ln), foldE chkStep' (fun _ => (Sum.inl () : Unit ⊕ Int)) pr L = .inl () ∨ ∃ e, e ≠ 0 ∧ foldE chkStep' (fun _ => (Sum.inl () : Unit ⊕ Int)) pr L = .inr e
 | [], _ => .inl rfl
 | x :: L, pr => by
  rw [foldE]
  unfold chkStep'
  by_cases h1 : lineS x ≠ 0
  ·rw [if_pos h1]; exact .inr ⟨_, h1, rfl⟩
  ·rw [if_neg h1]
   cases pr with
   | none => exact chk_lines L _
   | some p =>
    dsimp only
    by_cases h2 : (p.1 == x.1 && p.2.1 == x.2.1) = true
    ·rw [if_pos h2]; exact .inr ⟨7, by decide, rfl⟩
    ·rw [if_neg h2]
     by_cases h3 : lessS p x = false
     ·rw [if_pos h3]; exact .inr ⟨8, by decide, rfl⟩
     ·rw [if_neg h3]; exact chk_lines L _
theorem chk_all : ∀ (L : List Ln) (pr : Option Ln), foldE chkStep' (fun _ => (Sum.inl () : Unit ⊕ Int)) pr L = .inl () → ∀ x ∈ L, lineS x = 0
 | [], _, _, x, hx => by cases hx
 | y :: L, pr, h, x, hx => by
  rw [foldE] at h
  unfold chkStep' at h
  by_cases h1 : lineS y ≠ 0
  ·rw [if_pos h1] at h; cases h
  ·rw [if_neg h1] at h
   rcases List.mem_cons.1 hx with rfl | hx
   ·simpa using h1
   ·cases pr with
    | none => exact chk_all L _ h x hx
    | some p =>
     dsimp only at h
     by_cases h2 : (p.1 == y.1 && p.2.1 == y.2.1) = true
     ·rw [if_pos h2] at h; cases h
     ·rw [if_neg h2] at h
      by_cases h3 : lessS p y = false
      ·rw [if_pos h3] at h; cases h
      ·rw [if_neg h3] at h; exact chk_all L _ h x hx
theorem slipS_ok {s : Int × Int × List Ln} (h : slipS s = 0) : s.2.2.length ≤ 448 ∧ ∀ x ∈ s.2.2, LineOk x := by
 unfold slipS at h
 by_cases h0 : s.1 < 1900 ∨ s.1 > 2199 ∨ s.2.1 < 1 ∨ s.2.1 > 400
 ·rw [if_pos h0] at h; cases h
 ·rw [if_neg h0] at h
  by_cases h1 : (s.2.2.length : Int) > 448
  ·rw [if_pos h1] at h; cases h
  ·rw [if_neg h1] at h
   refine ⟨by omega, fun x hx => lineS_ok ?_⟩
   rcases chk_lines s.2.2 none with h2 | ⟨e, h2, h3⟩
   ·exact chk_all _ _ h2 x hx
   ·rw [h3] at h; exact absurd h h2
end WB
namespace WB
open Go Go.RowKit
abbrev It := List UInt8 × Int
def addW (a b : Int) : Int := IntKind.i64.wrap (a + b)
def Asc (l : List It) : Prop := l.Pairwise fun a b => a.1 < b.1
def atS : List It → List UInt8 → Option Int
 | [], _ => none
 | x :: xs, k => if x.1 = k then some x.2 else atS xs k
def putS : List It → It → List It
 | [], e => [e]
 | x :: xs, e => if e.1 < x.1 then e :: x :: xs else if x.1 = e.1 then (x.1, addW x.2 e.2) :: xs else x :: putS xs e
def canonS (es : List It) : List It := es.foldl putS []
theorem atS_none {l : List It} {k : List UInt8} : atS l k = none ↔ ∀ x ∈ l, x.1 ≠ k := by
 induction l with
 | nil => simp [atS]
 | cons x xs ih =>
  simp only [atS]
  split
  ·rename_i h; simp [h]
  ·rename_i h; simp [ih, h]
theorem atS_mem {l : List It} {k : List UInt8} {v : Int} (h : atS l k = some v) : (k, v) ∈ l := by
 induction l with
 | nil => cases h
 | cons x xs ih =>
  simp only [atS] at h
  split at h
  ·rename_i hx; cases h; subst hx; simp
  ·exact List.mem_cons_of_mem _ (ih h)
theorem atS_asc {l : List It} (hl : Asc l) {x : It} (hx : x ∈ l) : atS l x.1 = some x.2 := by
 induction l with
 | nil => cases hx
 | cons y ys ih =>
  obtain ⟨h1, h2⟩ := List.pairwise_cons.1 hl
  simp only [atS]
  rcases List.mem_cons.1 hx with e | e
  ·subst e; rw [if_pos rfl]
  ·have : y.1 ≠ x.1 := fun hh => List.lt_irrefl _ (hh ▸ h1 x e)
   rw [if_neg this, ih h2 e]
theorem asc_ext : ∀ {l l' : List It}, Asc l → Asc l' → (∀ k, atS l k = atS l' k) → l = l'
 | [], [], _, _, _ => rfl
 | [], y :: ys, _, h', he => by
  have := he y.1
  rw [atS_asc h' (by simp)] at this
  cases this
 | x :: xs, [], h, _, he => by
  have := he x.1
  rw [atS_asc h (by simp)] at this
  cases this
 | x :: xs, y :: ys, h, h', he => by
  have h1 := List.pairwise_cons.1 h
  have h2 := List.pairwise_cons.1 h'
  have hxy : x.1 = y.1 := by
   have e1 := he x.1
   rw [atS_asc h (by simp)] at e1
   have e2 := he y.1
   rw [atS_asc h' (x := y) (by simp)] at e2
   have m1 := atS_mem e1.symm
   have m2 := atS_mem e2
   rcases List.mem_cons.1 m1 with e | e
   ·exact congrArg Prod.fst e
   ·rcases List.mem_cons.1 m2 with e' | e'
    ·exact (congrArg Prod.fst e').symm
    ·exact absurd (List.lt_trans (h1.1 _ e') (h2.1 _ e)) (List.lt_irrefl _)
  have hv : x.2 = y.2 := by
   have e1 := he x.1
   rw [atS_asc h (by simp), hxy, atS_asc h' (x := y) (by simp)] at e1
   exact Option.some.inj e1
  have hx : x = y := Prod.ext hxy hv
  subst hx
  congr 1
  refine asc_ext h1.2 h2.2 fun k => ?_
  have e := he k
  simp only [atS] at e
  by_cases hk : x.1 = k
  ·subst hk
   rw [atS_none.2 (fun z hz hh => List.lt_irrefl _ (hh ▸ h1.1 z hz)), atS_none.2 (fun z hz hh => List.lt_irrefl _ (hh ▸ h2.1 z hz))]
  ·rw [if_neg hk, if_neg hk] at e
   exact e
theorem putS_keys {l : List It} {e y : It} (h : y ∈ putS l e) : y.1 = e.1 ∨ ∃ x ∈ l, x.1 = y.1 := by
 induction l with
 | nil => simp only [putS, List.mem_singleton] at h; subst h; exact .inl rfl
 | cons x xs ih =>
  simp only [putS] at h
  split at h
  ·rcases List.mem_cons.1 h with h | h
   ·subst h; exact .inl rfl
   ·exact .inr ⟨y, h, rfl⟩
  ·split at h
   ·rcases List.mem_cons.1 h with h | h
    ·subst h; exact .inr ⟨x, by simp, rfl⟩
    ·exact .inr ⟨y, by simp [h], rfl⟩
   ·rcases List.mem_cons.1 h with h | h
    ·subst h; exact .inr ⟨y, by simp, rfl⟩
    ·rcases ih h with h | ⟨z, hz, hz'⟩
     ·exact .inl h
     ·exact .inr ⟨z, by simp [hz], hz'⟩
theorem putS_asc {l : List It} {e : It} (hl : Asc l) : Asc (putS l e) := by
 induction l with
 | nil => simp [putS, Asc]
 | cons x xs ih =>
  obtain ⟨h1, h2⟩ := List.pairwise_cons.1 hl
  simp only [putS]
  split
  ·rename_i h
   exact List.pairwise_cons.2 ⟨fun y hy => by
    rcases List.mem_cons.1 hy with e' | e'
    ·subst e'; exact h
    ·exact List.lt_trans h (h1 y e'), hl⟩
  ·rename_i h
   split
   ·exact List.pairwise_cons.2 ⟨h1, h2⟩
   ·rename_i h'
    refine List.pairwise_cons.2 ⟨fun y hy => ?_, ih h2⟩
    rcases putS_keys hy with e' | ⟨z, hz, e'⟩
    ·rw [e']
     rcases List.le_iff_lt_or_eq.1 (List.not_lt.1 h) with g | g
     ·exact g
     ·exact absurd g h'
    ·rw [← e']; exact h1 z hz
theorem putS_at {l : List It} {e : It} (hl : Asc l) (k : List UInt8) : atS (putS l e) k = if e.1 = k then some (match atS l k with | some v => addW v e.2 | none => e.2) else atS l k := by
 induction l with
 | nil => simp only [putS, atS]
 | cons x xs ih =>
  obtain ⟨h1, h2⟩ := List.pairwise_cons.1 hl
  simp only [putS]
  split
  ·rename_i h
   by_cases hk : e.1 = k
   ·subst hk
    have : atS (x :: xs) e.1 = none := atS_none.2 fun z hz hh => by
     rcases List.mem_cons.1 hz with g | g
     ·subst g; rw [hh] at h; exact List.lt_irrefl _ h
     ·have := List.lt_trans h (h1 z g); rw [hh] at this; exact List.lt_irrefl _ this
    rw [if_pos rfl, this]
    simp [atS]
   ·rw [if_neg hk]
    simp [atS, hk]
  ·rename_i h
   split
   ·rename_i hx
    by_cases hk : e.1 = k
    ·subst hk
     simp [atS, hx]
    ·rw [if_neg hk]
     have : ¬ x.1 = k := fun hh => hk (by rw [← hx, hh])
     simp [atS, this]
   ·rename_i hx
    simp only [atS]
    rw [ih h2]
    by_cases hk : e.1 = k
    ·subst hk
     rw [if_neg hx, if_pos rfl, if_pos rfl, if_neg hx]
    ·rw [if_neg hk, if_neg hk]
theorem canon_asc (es : List It) : Asc (canonS es) := by
 unfold canonS
 suffices h : ∀ (es : List It) (l : List It), Asc l → Asc (es.foldl putS l) from h es [] List.Pairwise.nil
 intro es
 induction es with
 | nil => intro l hl; exact hl
 | cons e es ih => intro l hl; exact ih _ (putS_asc hl)
def totS (k : List UInt8) : Option Int → List It → Option Int
 | a, [] => a
 | a, e :: es => totS k (if e.1 = k then some (match a with | some v => addW v e.2 | none => e.2) else a) es
theorem canon_at (es : List It) (k : List UInt8) : atS (canonS es) k = totS k none es := by
 unfold canonS
 suffices h : ∀ (es : List It) (l : List It), Asc l → atS (es.foldl putS l) k = totS k (atS l k) es from h es [] List.Pairwise.nil
 intro es
 induction es with
 | nil => intro l hl; rfl
 | cons e es ih =>
  intro l hl
  simp only [List.foldl_cons, totS]
  rw [ih _ (putS_asc hl), putS_at hl]
theorem eqS (a b : List UInt8) : eqZ .str a b = true ↔ a = b := by
 show (a == b) = true ↔ a = b
 simp
def getM (m : List It) (k : List UInt8) : Int × Bool := alGet (eqZ .str) (0 : Int) k m
def sumM (m : List It) (e : It) : List It := alPut (eqZ .str) e.1 (addW (getM m e.1).1 e.2) m
def leK (x y : List UInt8) : Bool := decide (x ≤ y)
def sortK (m : List It) : List (List UInt8) := (m.map (·.1)).mergeSort leK
def boxesS (m : List It) : List It := (sortK m).map fun k => (k, (getM m k).1)
theorem getM_none {m : List It} {k : List UInt8} : (getM m k).2 = false ↔ k ∉ m.map (·.1) := by
 unfold getM
 induction m with
 | nil => simp [alGet]
 | cons p m ih =>
  simp only [alGet]
  by_cases h : eqZ .str k p.1 = true
  ·have := (eqS _ _).1 h
   rw [if_pos h]
   simp [this]
  ·have : ¬ k = p.1 := fun e => h ((eqS _ _).2 e)
   rw [if_neg h, ih]
   simp [this]
theorem put_keys {m : List It} {k : List UInt8} {v : Int} : (alPut (eqZ .str) k v m).map (·.1) = if (getM m k).2 = true then m.map (·.1) else m.map (·.1) ++ [k] := by
 unfold getM
 induction m with
 | nil => simp [alPut, alGet]
 | cons p m ih =>
  simp only [alPut, alGet]
  by_cases h : eqZ .str k p.1 = true
  ·simp [h]
  ·simp only [h, Bool.false_eq_true, if_false, List.map_cons, ih]
   split <;> simp
theorem sumM_nodup {m : List It} {e : It} (h : (m.map (·.1)).Nodup) : ((sumM m e).map (·.1)).Nodup := by
 unfold sumM
 rw [put_keys]
 split
 ·exact h
 ·rename_i hh
  rw [List.nodup_append]
  refine ⟨h, by simp, ?_⟩
  intro a ha b hb hab
  simp only [List.mem_singleton] at hb
  subst hb
  subst hab
  exact getM_none.1 (by simpa using hh) ha
def InW (c : Int) : Prop := -9223372036854775808 ≤ c ∧ c ≤ 9223372036854775807
theorem addW0 {c : Int} (h : InW c) : addW 0 c = c := by unfold addW; rw [Int.zero_add]; exact w64' h.1 h.2
def optM : Option Int → Int × Bool
 | some v => (v, true)
 | none => (0, false)
theorem sums_get : ∀ (es : List It) (m : List It) (a : List UInt8 → Option Int), (∀ e ∈ es, InW e.2) → (∀ k, getM m k = optM (a k)) → ∀ k, getM (es.foldl sumM m) k = optM (totS k (a k) es)
 | [], m, a, _, h, k => h k
 | e :: es, m, a, hi, h, k => by
  simp only [List.foldl_cons, totS]
  refine sums_get es (sumM m e) (fun k => if e.1 = k then some (match a k with | some v => addW v e.2 | none => e.2) else a k) (fun x hx => hi x (by simp [hx])) (fun k => ?_) k
  unfold sumM getM
  rw [alGet_put eqS]
  have hg : alGet (eqZ .str) 0 e.1 m = optM (a e.1) := h e.1
  by_cases hk : k = e.1
  ·subst hk
   rw [if_pos rfl, if_pos rfl]
   show (addW (alGet (eqZ .str) 0 e.1 m).1 e.2, true) = _
   rw [hg]
   cases a e.1 with
   | none => simp only [optM]; rw [addW0 (hi e (by simp))]
   | some v => rfl
  ·rw [if_neg hk, if_neg (Ne.symm hk)]
   exact h k
theorem sums_nodup : ∀ (es : List It) (m : List It), (m.map (·.1)).Nodup → ((es.foldl sumM m).map (·.1)).Nodup
 | [], _, h => h
 | e :: es, m, h => sums_nodup es (sumM m e) (sumM_nodup h)
theorem sortK_asc {m : List It} (h : (m.map (·.1)).Nodup) : (sortK m).Pairwise (· < ·) := by
 have h1 : (sortK m).Pairwise fun a b => leK a b = true := List.pairwise_mergeSort (fun a b c h1 h2 => by
  simp only [leK, decide_eq_true_eq] at *
  exact List.le_trans h1 h2) (fun a b => by
  simp only [leK, Bool.or_eq_true, decide_eq_true_eq]
  exact List.le_total a b) _
 have h2 : (sortK m).Nodup := (List.mergeSort_perm _ _).nodup_iff.2 h
 refine (h1.and h2).imp fun {a b} hab => ?_
 obtain ⟨g1, g2⟩ := hab
 simp only [leK, decide_eq_true_eq] at g1
 rcases List.le_iff_lt_or_eq.1 g1 with g | g
 ·exact g
 ·exact absurd g g2
theorem boxesS_asc {m : List It} (h : (m.map (·.1)).Nodup) : Asc (boxesS m) := by
 unfold Asc boxesS
 rw [List.pairwise_map]
 exact sortK_asc h
theorem boxesS_at {m : List It} (k : List UInt8) : atS (boxesS m) k = if (getM m k).2 = true then some (getM m k).1 else none := by
 have key : ∀ l : List (List UInt8), atS (l.map fun k => (k, (getM m k).1)) k = if k ∈ l then some (getM m k).1 else none := by
  intro l
  induction l with
  | nil => rfl
  | cons x l ih =>
   simp only [List.map_cons, atS, ih, List.mem_cons]
   by_cases h : x = k
   ·subst h; simp
   ·simp [h, Ne.symm h]
 unfold boxesS
 rw [key]
 have hm : k ∈ sortK m ↔ k ∈ m.map (·.1) := (List.mergeSort_perm _ _).mem_iff
 by_cases hk : (getM m k).2 = true
 ·have : k ∈ m.map (·.1) := by
   refine Classical.byContradiction fun hh => ?_
   rw [getM_none.2 hh] at hk
   cases hk
  rw [if_pos hk, if_pos (hm.2 this)]
 ·rw [if_neg hk, if_neg (fun hh => getM_none.1 (by simpa using hk) (hm.1 hh))]
theorem boxes_canon {es : List It} (h : ∀ e ∈ es, InW e.2) : boxesS (es.foldl sumM []) = canonS es := by
 refine asc_ext (boxesS_asc (sums_nodup es [] List.nodup_nil)) (canon_asc es) fun k => ?_
 rw [boxesS_at, canon_at, sums_get es [] (fun _ => none) h (fun _ => rfl)]
 cases totS k none es <;> rfl
end WB
namespace WB
open Go Go.RowKit
def fitB (c : Int) : Bool := decide (-1125899906842624 ≤ c) && decide (c ≤ 1125899906842624)
def allF (l : List It) : Bool := l.all fun x => fitB x.2
def fullS (l : List It) : Option (List It) := if allF l = true then some (l.filter fun x => x.2 != 0) else none
end WB
namespace WB
open Go Go.RowKit
abbrev Slp := Int × Int × List Ln
abbrev Ppr := Int × Int × List It × Int
theorem sLess_eq : ∀ (x y : List UInt8), sLess x y = decide (x < y)
 | [], [] => by simp [sLess, Op.bytesLess]
 | _ :: _, [] => by simp [sLess, Op.bytesLess]
 | [], _ :: _ => by simp [sLess, Op.bytesLess]
 | a :: x, b :: y => by
  have ih := sLess_eq x y
  unfold sLess at ih ⊢
  rw [Op.bytesLess, ih]
  simp only [List.cons_lt_cons_iff]
  by_cases h1 : a < b <;> by_cases h2 : a = b <;> by_cases h3 : x < y <;> simp [h1, h2, h3]
theorem foldE_inl {α A T : Type} (f : A → α → A) (fin : A → T) : ∀ (l : List α) (a : A), foldE (fun a x => Sum.inl (f a x)) fin a l = fin (l.foldl f a)
 | [], _ => rfl
 | x :: l, a => by rw [foldE]; exact foldE_inl f fin l (f a x)
theorem foldE_map {α β A T : Type} (g : α → β) (step : A → β → A ⊕ T) (fin : A → T) : ∀ (l : List α) (a : A), foldE (fun a x => step a (g x)) fin a l = foldE step fin a (l.map g)
 | [], _ => rfl
 | x :: l, a => by
  rw [foldE, List.map_cons, foldE]
  cases step a (g x) with
  | inl a' => exact foldE_map g step fin l a'
  | inr t => rfl
def datedS (w y : Int) : Int := if w < 1 ∨ y < 1900 ∨ y > 2199 then 2 else 0
theorem dated_eq (w y : Int) : paper_dated (w, y) = some (datedS w y) := by
 unfold paper_dated datedS
 dsimp only
 simp only [gPi, gSS, gPb, gPm, gPs, gM, gM2, gAnd, gOr, gAndI, gOrI, gAA, gAO, gOA, gOO, gAAf, gAOf, gOAf, gOOf, gAMf, gOMf, gId]
 try simp only [gIn1, gIn2, gIn3, gIn4, gIn5, gIn6, gIn7, gIn8, gId, gIdF, gMb, gMm, gBm, gBb, bs, ms]
 by_cases h1 : w < 1 <;> by_cases h2 : y < 1900 <;> by_cases h3 : y > 2199 <;> simp [h1, h2, h3]
def pStep (y : Int) (seen : List Int) (s : Slp) : List Int ⊕ (Unit ⊕ Int) :=
 if slipS s ≠ 0 then .inr (.inr (slipS s)) else if s.1 ≠ y then .inr (.inr 18) else if (seen.any fun z => z == s.2.1) = true then .inr (.inr 7) else .inl (seen ++ [s.2.1])
def checkP (y : Int) (l : List Slp) : Int := match foldE (pStep y) (fun _ => Sum.inl ()) [] l with
 | .inl _ => 0
 | .inr e => e
def seenN (seen : List Int) : List (Int × Bool) := seen.map fun k => (k, true)
theorem eqN' (a b : Int) : eqZ (Ty.int IntKind.i64) a b = (a == b) := rfl
theorem seenN_get (k : Int) : ∀ seen, (alGet (eqZ (Ty.int IntKind.i64)) (zeroT Ty.bool) k (seenN seen)).1 = seen.any fun y => y == k
 | [] => rfl
 | y :: seen => by
  show (if eqZ (Ty.int IntKind.i64) k y = true then (true, true) else alGet (eqZ (Ty.int IntKind.i64)) (zeroT Ty.bool) k (seenN seen)).1 = _
  rw [eqN', List.any_cons]
  by_cases h : k = y
  ·subst h; simp
  ·have h1 : (k == y) = false := by simpa using h
   have h2 : (y == k) = false := by simpa using fun e : y = k => h e.symm
   rw [h1, if_neg (by decide), h2, Bool.false_or]
   exact seenN_get k seen
theorem seenN_put (k : Int) : ∀ seen, (seen.any fun y => y == k) = false → alPut (eqZ (Ty.int IntKind.i64)) k true (seenN seen) = seenN (seen ++ [k])
 | [], _ => rfl
 | y :: seen, h => by
  rw [List.any_cons, Bool.or_eq_false_iff] at h
  have h1 : ¬ eqZ (Ty.int IntKind.i64) k y = true := by
   rw [eqN']
   intro e
   have : k = y := by simpa using e
   subst this
   simp at h
  show (if eqZ (Ty.int IntKind.i64) k y = true then _ else (y, true) :: alPut (eqZ (Ty.int IntKind.i64)) k true (seenN seen)) = _
  rw [if_neg h1, seenN_put k seen h.2]
  rfl
theorem pcheck_eq {y : Int} {l : List Slp} (hn : l.length ≤ 1000) : paper_check (y, l) = some (checkP y l) := by
 unfold paper_check checkP
 dsimp only
 have key := iter_fold0 (b := paper_check_loop1) (α := Slp) (A := List Int) (fun k seen => (y, l, (l.length : Int), (k : Int), seenN seen, (), ())) (pStep y) (fun _ => Sum.inl ()) (fun _ _ => True) l (a := []) trivial (fun i x seen hx _ => by
   have hi := (List.getElem?_eq_some_iff.1 hx).1
   unfold paper_check_loop1 pStep
   dsimp only
   try simp only [gPi, gSS, gPb, gPm, gPs, gM, gM2, gAnd, gOr, gAndI, gOrI, gAA, gAO, gOA, gOO, gAAf, gAOf, gOAf, gOOf, gAMf, gOMf, gId]
   try simp only [gIn1, gIn2, gIn3, gIn4, gIn5, gIn6, gIn7, gIn8, gId, gIdF, gMb, gMm, gBm, gBb, bs, ms]
   rw [lt_len hx, if_pos rfl, lAt_nat hx]
   simp only [bs, ms]
   rw [show slip_Check (x.1, x.2.1, x.2.2) = some (slipS x) from slip_eq x, bs]
   by_cases h0 : slipS x = 0
   ·have d : (slipS x != 0) = false := by simpa using h0
    rw [d, if_neg (by decide), if_neg (show ¬ (slipS x ≠ 0) by simpa using h0)]
    by_cases h1 : x.1 = y
    ·have d1 : (x.1 != y) = false := by simpa using h1
     rw [d1, if_neg (by decide), if_neg (show ¬ (x.1 ≠ y) by simpa using h1), seenN_get]
     cases h3 : (seen.any fun z => z == x.2.1) with
     | true => rfl
     | false => rw [if_neg (show ¬ (false = true) by decide), if_neg (show ¬ (false = true) by decide), seenN_put _ _ h3, w_succ (by omega)]; rfl
    ·have d1 : (x.1 != y) = true := by simpa using h1
     rw [d1, if_pos rfl, if_pos (show x.1 ≠ y from h1)]
     rfl
   ·have d : (slipS x != 0) = true := by simpa using h0
    rw [d, if_pos rfl, if_pos (show slipS x ≠ 0 from h0)]
    rfl) (fun _ _ _ _ _ _ _ => trivial) (fun _ _ => by
   unfold paper_check_loop1
   dsimp only
   rw [nlt_len, if_neg (by decide)])
 rw [show (0 : Int) = ((0 : Nat) : Int) from rfl]
 rw [show ([] : List (Int × Bool)) = seenN [] from rfl, key, bs]
 cases foldE (pStep y) (fun _ => Sum.inl ()) [] l <;> rfl
theorem pStep_pos (y : Int) : ∀ (l : List Slp) (seen : List Int), foldE (pStep y) (fun _ => (Sum.inl () : Unit ⊕ Int)) seen l = .inl () ∨ ∃ e, e ≠ 0 ∧ foldE (pStep y) (fun _ => (Sum.inl () : Unit ⊕ Int)) seen l = .inr e
 | [], seen => .inl rfl
 | s :: l, seen => by
  rw [foldE]
  unfold pStep
  by_cases h1 : slipS s ≠ 0
  ·rw [if_pos h1]; exact .inr ⟨_, h1, rfl⟩
  ·rw [if_neg h1]
   by_cases h2 : s.1 ≠ y
   ·rw [if_pos h2]; exact .inr ⟨18, by decide, rfl⟩
   ·rw [if_neg h2]
    by_cases h3 : (seen.any fun z => z == s.2.1) = true
    ·rw [if_pos h3]; exact .inr ⟨7, by decide, rfl⟩
    ·rw [if_neg h3]; exact pStep_pos y l _
theorem pStep_ok (y : Int) : ∀ (l : List Slp) (seen : List Int), foldE (pStep y) (fun _ => (Sum.inl () : Unit ⊕ Int)) seen l = .inl () ↔ (∀ s ∈ l, slipS s = 0 ∧ s.1 = y) ∧ (l.map (·.2.1)).Nodup ∧ ∀ s ∈ l, s.2.1 ∉ seen
 | [], seen => by simp [foldE]
 | s :: l, seen => by
  rw [foldE]
  unfold pStep
  by_cases h1 : slipS s ≠ 0
  ·rw [if_pos h1]
   constructor
   ·intro h; cases h
   ·intro h; exact absurd (h.1 s (by simp)).1 h1
  ·rw [if_neg h1]
   by_cases h2 : s.1 ≠ y
   ·rw [if_pos h2]
    constructor
    ·intro h; cases h
    ·intro h; exact absurd (h.1 s (by simp)).2 h2
   ·rw [if_neg h2]
    by_cases h3 : (seen.any fun z => z == s.2.1) = true
    ·rw [if_pos h3]
     constructor
     ·intro h; cases h
     ·intro h
      obtain ⟨z, hz, e⟩ := List.any_eq_true.1 h3
      exact absurd ((beq_iff_eq.1 e) ▸ hz) (h.2.2 s (by simp))
    ·rw [if_neg h3]
     have h3' : s.2.1 ∉ seen := fun hm => h3 (List.any_eq_true.2 ⟨_, hm, by simp⟩)
     have e := pStep_ok y l (seen ++ [s.2.1])
     unfold pStep at e
     refine e.trans ?_
     simp only [List.mem_cons, forall_eq_or_imp, List.map_cons, List.nodup_cons, List.mem_append, List.mem_singleton, not_or, List.mem_map, not_exists, not_and]
     constructor
     ·rintro ⟨a, b, c⟩
      exact ⟨⟨⟨by simpa using h1, by simpa using h2⟩, a⟩, ⟨fun x hx => (c x hx).2.1, b⟩, h3', fun x hx => (c x hx).1⟩
     ·rintro ⟨⟨_, a⟩, ⟨c, b⟩, _, d⟩
      exact ⟨a, b, fun x hx => ⟨d x hx, c x hx, List.not_mem_nil⟩⟩
theorem checkP_zero {y : Int} {l : List Slp} : checkP y l = 0 ↔ (∀ s ∈ l, slipS s = 0 ∧ s.1 = y) ∧ (l.map (·.2.1)).Nodup := by
 have e := pStep_ok y l []
 unfold checkP
 rcases pStep_pos y l [] with h | ⟨e', h1, h2⟩
 ·rw [h]
  exact ⟨fun _ => ⟨(e.1 h).1, (e.1 h).2.1⟩, fun _ => rfl⟩
 ·rw [h2]
  constructor
  ·intro h; exact absurd h h1
  ·intro h
   have := e.2 ⟨h.1, h.2, by simp⟩
   rw [h2] at this
   cases this
def boxK (l : Ln) : List UInt8 := paper_words.getD l.1.toNat [] ++ [47] ++ l.2.1
def ev (l : Ln) : It := (boxK l, l.2.2)
def evS (ss : List Slp) : List It := ss.flatMap fun s => s.2.2.map ev
theorem word_at {p : Int} (h : 0 ≤ p ∧ p < 7) : paper_words[p.toNat]? = some (paper_words.getD p.toNat []) ∧ (paper_words.getD p.toNat []).length ≤ 6 := by
 obtain ⟨n, rfl⟩ := Int.eq_ofNat_of_zero_le h.1
 have hn : n < 7 := by omega
 match n, hn with
 | 0, _ => exact ⟨rfl, by decide⟩
 | 1, _ => exact ⟨rfl, by decide⟩
 | 2, _ => exact ⟨rfl, by decide⟩
 | 3, _ => exact ⟨rfl, by decide⟩
 | 4, _ => exact ⟨rfl, by decide⟩
 | 5, _ => exact ⟨rfl, by decide⟩
 | 6, _ => exact ⟨rfl, by decide⟩
theorem nameB_len {s : List UInt8} (h : nameB s = true) : s.length ≤ 32 := by
 simp only [nameB, Bool.and_eq_true, decide_eq_true_eq] at h
 omega
theorem box_eq {l : Ln} (h : LineOk l) : paper_box (l.1, l.2.1) = some (boxK l) ∧ (boxK l).length ≤ 39 := by
 obtain ⟨h1, h2⟩ := word_at h.p
 have h3 := nameB_len h.nm
 have h4 : lAt paper_words l.1 = some (paper_words.getD l.1.toNat []) := by
  unfold lAt
  rw [if_pos ⟨h.p.1, by have := h.p.2; exact this⟩, h1]
 constructor
 ·unfold paper_box boxK
  dsimp only
  rw [show lAt ([([103, 114, 111, 115, 115] : List UInt8), ([98, 101, 102, 111, 114, 101] : List UInt8), ([119, 111, 114, 107, 101, 114] : List UInt8), ([116, 97, 120] : List UInt8), ([97, 102, 116, 101, 114] : List UInt8), ([111, 114, 100, 101, 114, 115] : List UInt8), ([102, 105, 114, 109] : List UInt8)] : List ((List UInt8))) l.1 = some (paper_words.getD l.1.toNat []) from h4, bs,
   if_pos (by simp only [List.length_cons, List.length_nil]; omega), bs, if_pos (by simp only [List.length_append, List.length_cons, List.length_nil]; omega), bs]
 ·unfold boxK
  simp only [List.length_append, List.length_cons, List.length_nil]
  omega
theorem ev_in {ss : List Slp} (h : ∀ s ∈ ss, ∀ x ∈ s.2.2, LineOk x) : ∀ e ∈ evS ss, (-1125899906842624 ≤ e.2 ∧ e.2 ≤ 1125899906842624) ∧ e.1.length ≤ 39 := by
 intro e he
 obtain ⟨s, hs, he⟩ := List.mem_flatMap.1 he
 obtain ⟨x, hx, rfl⟩ := List.mem_map.1 he
 exact ⟨(h s hs x hx).r, (box_eq (h s hs x hx)).2⟩
abbrev SM := List It
theorem Of1 {a b n j p q r : Int} {ss : List Slp} {L : List Ln} {m : SM} (hL : ∀ x ∈ L, LineOk x) (hn : L.length ≤ 1000) :
  iter paper_Of_loop1 (a, b, ss, n, j, L, (L.length : Int), 0, p, q, r, m, (), (), (), (), ()) = some (a, b, ss, n, j, p, q, r, (L.map ev).foldl sumM m, (), (), (), (), ()) := by
 have key := iter_fold0 (b := paper_Of_loop1) (α := Ln) (A := SM) (fun k m => (a, b, ss, n, j, L, (L.length : Int), (k : Int), p, q, r, m, (), (), (), (), ())) (fun m x => Sum.inl (sumM m (ev x))) (fun m => (a, b, ss, n, j, p, q, r, m, (), (), (), (), ())) (fun _ _ => True) L (a := m) trivial (fun i x m hx _ => by
   have hi := (List.getElem?_eq_some_iff.1 hx).1
   unfold paper_Of_loop1
   dsimp only
   rw [lt_len hx, if_pos rfl, lAt_nat hx]
   simp only [bs, ms]
   rw [(box_eq (hL x (List.mem_of_getElem? hx))).1, bs, w_succ (by omega)]
   rfl) (fun _ _ _ _ _ _ _ => trivial) (fun _ _ => by
   unfold paper_Of_loop1
   dsimp only
   rw [nlt_len, if_neg (by decide)])
 rw [show (0 : Int) = ((0 : Nat) : Int) from rfl, key, foldE_inl, List.foldl_map]
theorem Of2 {a b p q r : Int} {ss : List Slp} {m : SM} (hs : ∀ s ∈ ss, s.2.2.length ≤ 448 ∧ ∀ x ∈ s.2.2, LineOk x) (hn : ss.length ≤ 1000) :
  iter paper_Of_loop2 (a, b, ss, (ss.length : Int), 0, p, q, r, m, (), (), (), (), ()) = some (a, b, p, q, r, (evS ss).foldl sumM m, (), (), (), (), ()) := by
 have key := iter_fold0 (b := paper_Of_loop2) (α := Slp) (A := SM) (fun k m => (a, b, ss, (ss.length : Int), (k : Int), p, q, r, m, (), (), (), (), ())) (fun m s => Sum.inl ((s.2.2.map ev).foldl sumM m)) (fun m => (a, b, p, q, r, m, (), (), (), (), ())) (fun _ _ => True) ss (a := m) trivial (fun i s m hx _ => by
   have hi := (List.getElem?_eq_some_iff.1 hx).1
   have hs' := hs s (List.mem_of_getElem? hx)
   unfold paper_Of_loop2
   dsimp only
   rw [lt_len hx, if_pos rfl, lAt_nat hx]
   simp only [bs, ms]
   rw [Of1 hs'.2 (by omega), bs]
   dsimp only
   rw [w_succ (by omega)]
   rfl) (fun _ _ _ _ _ _ _ => trivial) (fun _ _ => by
   unfold paper_Of_loop2
   dsimp only
   rw [nlt_len, if_neg (by decide)])
 rw [show (0 : Int) = ((0 : Nat) : Int) from rfl, key, foldE_inl]
 congr 3
 unfold evS
 clear key hs hn
 induction ss generalizing m with
 | nil => rfl
 | cons s ss ih => rw [List.foldl_cons, ih, List.flatMap_cons, List.foldl_append]
def fullStep {T : Type} (err : T) (acc : List It) (x : It) : List It ⊕ T := if fitB x.2 = false then .inr err else if x.2 ≠ 0 then .inl (acc ++ [x]) else .inl acc
theorem full_fold {T : Type} (err : T) (fin : List It → T) : ∀ (l acc : List It), foldE (fullStep err) fin acc l = if allF l = true then fin (acc ++ l.filter fun x => x.2 != 0) else err
 | [], acc => by simp [foldE, allF]
 | x :: l, acc => by
  rw [foldE]
  unfold fullStep
  have ea : allF (x :: l) = (fitB x.2 && allF l) := by simp [allF]
  cases h1 : fitB x.2 with
  | false => rw [if_pos rfl, ea, h1, Bool.false_and, if_neg (by decide)]
  | true =>
   rw [if_neg (by decide), ea, h1, Bool.true_and]
   by_cases h2 : x.2 ≠ 0
   ·have d : (x.2 != 0) = true := by simpa using h2
    rw [if_pos h2, List.filter_cons_of_pos (by simpa using d)]
    have e := full_fold err fin l (acc ++ [x])
    unfold fullStep at e
    dsimp only
    rw [e, List.append_assoc, List.singleton_append]
   ·have d : (x.2 != 0) = false := by simpa using h2
    rw [if_neg h2, List.filter_cons_of_neg (by simp [d])]
    have e := full_fold err fin l acc
    unfold fullStep at e
    exact e
theorem fitD_B (a : Int) : fitD a = fitB a := rfl
def boxesO (l : List It) : List It × Int := match fullS l with
 | some bs => (bs, 0)
 | none => ([], 9)
theorem boxes_eq {m : SM} (h1 : m.length ≤ 100000) (h2 : ∀ x ∈ m, x.1.length ≤ 1000) : paper_boxes m = some (boxesO (boxesS m)) := by
 have hl : (sortK m).length = m.length := by unfold sortK; rw [List.length_mergeSort, List.length_map]
 have hs : slices_Sorted m = some (sortK m) := by
  unfold slices_Sorted
  rw [if_pos ⟨by omega, List.all_eq_true.2 fun x hx => decide_eq_true (by have := h2 x hx; omega)⟩]
  rfl
 unfold paper_boxes maps_Keys
 dsimp only
 rw [bs, hs, bs]
 have key := iter_fold0 (b := paper_boxes_loop1) (α := List UInt8) (A := List It) (fun k acc => (m, sortK m, ((sortK m).length : Int), (k : Int), acc, (), ())) (fun acc k => fullStep (Sum.inr ([], 9)) acc (k, (getM m k).1)) (fun acc => Sum.inl (acc, (), ())) (fun i acc => acc.length ≤ i) (sortK m) (a := []) (by simp) (fun i k acc hx ha => by
   have hi := (List.getElem?_eq_some_iff.1 hx).1
   unfold paper_boxes_loop1 fullStep
   dsimp only
   try simp only [gPi, gSS, gPb, gPm, gPs, gM, gM2, gAnd, gOr, gAndI, gOrI, gAA, gAO, gOA, gOO, gAAf, gAOf, gOAf, gOOf, gAMf, gOMf, gId]
   try simp only [gIn1, gIn2, gIn3, gIn4, gIn5, gIn6, gIn7, gIn8, gId, gIdF, gMb, gMm, gBm, gBb, bs, ms]
   rw [lt_len hx, if_pos rfl, lAt_nat hx]
   simp only [bs, ms]
   rw [show (alGet (eqZ Ty.str) (zeroT (Ty.int IntKind.i64)) k m).1 = (getM m k).1 from rfl, Fits_eq', bs, fitD_B]
   cases h : fitB (getM m k).1 with
   | false => rfl
   | true =>
    rw [if_neg (show ¬ ((!true) = true) by decide), if_neg (show ¬ (true = false) by decide)]
    by_cases hz : (getM m k).1 = 0
    ·have d : ((getM m k).1 != 0) = false := by simpa using hz
     rw [d, if_neg (by decide), if_neg (show ¬ ((getM m k).1 ≠ 0) by simpa using hz), bs]
     dsimp only
     rw [w_succ (by omega)]
     rfl
    ·have d : ((getM m k).1 != 0) = true := by simpa using hz
     rw [d, if_pos rfl, if_pos (show (getM m k).1 ≠ 0 from hz), appOk' (by simp; omega) (by decide), bs]
     dsimp only
     rw [w_succ (by omega)]
     rfl) (fun i k acc acc' _ ha hst => by
   unfold fullStep at hst
   split at hst
   ·cases hst
   ·split at hst
    ·cases hst; simp; exact ha
    ·cases hst; omega) (fun _ _ => by
   unfold paper_boxes_loop1
   dsimp only
   rw [nlt_len, if_neg (by decide)])
 rw [show (0 : Int) = ((0 : Nat) : Int) from rfl, key, bs, foldE_map (fun k => (k, (getM m k).1)) (fullStep (Sum.inr ([], 9))), full_fold]
 unfold boxesO fullS
 rw [show (sortK m).map (fun k => (k, (getM m k).1)) = boxesS m from rfl]
 by_cases h : allF (boxesS m) = true
 ·rw [if_pos h, if_pos h]; rfl
 ·rw [if_neg h, if_neg h]
theorem sums_keys {es : List It} : ∀ {m : SM} {x : It}, x ∈ es.foldl sumM m → (∃ e ∈ es, e.1 = x.1) ∨ ∃ y ∈ m, y.1 = x.1 := by
 induction es with
 | nil => intro m x h; exact .inr ⟨x, h, rfl⟩
 | cons e es ih =>
  intro m x h
  rcases ih (m := sumM m e) h with ⟨e', h1, h2⟩ | ⟨y, h1, h2⟩
  ·exact .inl ⟨e', by simp [h1], h2⟩
  ·have : y.1 ∈ (sumM m e).map (·.1) := List.mem_map.2 ⟨y, h1, rfl⟩
   unfold sumM at this
   rw [put_keys] at this
   split at this
   ·obtain ⟨z, hz, hz'⟩ := List.mem_map.1 this
    exact .inr ⟨z, hz, hz'.trans h2⟩
   ·rcases List.mem_append.1 this with g | g
    ·obtain ⟨z, hz, hz'⟩ := List.mem_map.1 g
     exact .inr ⟨z, hz, hz'.trans h2⟩
    ·exact .inl ⟨e, by simp, (List.mem_singleton.1 g).symm.trans h2⟩
theorem sumM_len (m : SM) (e : It) : (sumM m e).length ≤ m.length + 1 := by
 have h : ((sumM m e).map (·.1)).length ≤ m.length + 1 := by
  unfold sumM
  rw [put_keys]
  split <;> simp
 simpa using h
theorem sums_len : ∀ (es : List It) (m : SM), (es.foldl sumM m).length ≤ m.length + es.length
 | [], m => by simp
 | e :: es, m => by
  have h1 := sums_len es (sumM m e)
  have h2 := sumM_len m e
  simp only [List.foldl_cons, List.length_cons]
  omega
theorem boxes_es {es : List It} (h : ∀ e ∈ es, (-1125899906842624 ≤ e.2 ∧ e.2 ≤ 1125899906842624) ∧ e.1.length ≤ 1000) (hn : es.length ≤ 100000) : paper_boxes (es.foldl sumM []) = some (boxesO (canonS es)) := by
 rw [boxes_eq (by have := sums_len es []; simp at this; omega) (fun x hx => by
  rcases sums_keys hx with ⟨e, h1, h2⟩ | ⟨y, h1, h2⟩
  ·rw [← h2]; exact (h e h1).2
  ·cases h1), boxes_canon fun e he => by
  have := (h e he).1
  unfold InW
  omega]
def noP : Ppr := (0, 0, [], 0)
def ofR (w y : Int) (es : List It) : Ppr × Int := match fullS (canonS es) with
 | some l => if (l.length : Int) > 448 then (noP, 5) else ((w, y, l, 0), 0)
 | none => (noP, 9)
def ofS (w y : Int) (ss : List Slp) : Ppr × Int := if datedS w y ≠ 0 then (noP, datedS w y) else if (ss.length : Int) > 400 then (noP, 5) else if checkP y ss ≠ 0 then (noP, checkP y ss) else ofR w y (evS ss)
theorem ev_len {ss : List Slp} (hs : ∀ s ∈ ss, s.2.2.length ≤ 448) : (evS ss).length ≤ 448 * ss.length := by
 induction ss with
 | nil => simp [evS]
 | cons s ss ih =>
  have h1 := hs s (by simp)
  have h2 := ih fun x hx => hs x (by simp [hx])
  have e : (evS (s :: ss)).length = s.2.2.length + (evS ss).length := by simp [evS]
  rw [e, List.length_cons]
  omega
theorem Of_eq (w y : Int) {ss : List Slp} (hn : ss.length ≤ 200) : paper_Of (w, y, ss) = some (ofS w y ss) := by
 unfold paper_Of ofS
 dsimp only
 try simp only [gPi, gSS, gPb, gPm, gPs, gM, gM2, gAnd, gOr, gAndI, gOrI, gAA, gAO, gOA, gOO, gAAf, gAOf, gOAf, gOOf, gAMf, gOMf, gId]
 try simp only [gIn1, gIn2, gIn3, gIn4, gIn5, gIn6, gIn7, gIn8, gId, gIdF, gMb, gMm, gBm, gBb, bs, ms]
 rw [dated_eq, bs]
 by_cases h1 : datedS w y = 0
 ·have d : (datedS w y != 0) = false := by simpa using h1
  rw [d, if_neg (by decide), if_neg (show ¬ (datedS w y ≠ 0) by simpa using h1), decide_eq_false (show ¬ ((ss.length : Int) > 400) by omega), if_neg (by decide), if_neg (show ¬ ((ss.length : Int) > 400) by omega), pcheck_eq (by omega), bs]
  by_cases h2 : checkP y ss = 0
  ·have d2 : (checkP y ss != 0) = false := by simpa using h2
   have ok := fun s hs => slipS_ok ((checkP_zero.1 h2).1 s hs).1
   have hl := ev_len fun s hs => (ok s hs).1
   rw [d2, if_neg (by decide), if_neg (show ¬ (checkP y ss ≠ 0) by simpa using h2), Of2 ok (by omega), bs]
   dsimp only
   rw [boxes_es (fun e he => by
    have := ev_in (fun s hs => (ok s hs).2) e he
    exact ⟨this.1, by omega⟩) (by omega), bs]
   unfold ofR boxesO
   cases fullS (canonS (evS ss)) with
   | none => rfl
   | some l =>
    dsimp only
    rw [if_pos (show ((0 : Int) == 0) = true from rfl), bs]
    by_cases h3 : (l.length : Int) > 448
    ·rw [decide_eq_true h3, if_pos rfl, if_pos h3, bs]; rfl
    ·rw [decide_eq_false h3, if_neg (by decide), if_neg h3, bs]; rfl
  ·have d2 : (checkP y ss != 0) = true := by simpa using h2
   rw [d2, if_pos rfl, if_pos (show checkP y ss ≠ 0 from h2)]
   rfl
 ·have d : (datedS w y != 0) = true := by simpa using h1
  rw [d, if_pos rfl, if_pos (show datedS w y ≠ 0 from h1)]
  rfl
end WB
namespace WB
open Go Go.RowKit
theorem rword_eq {p : Int} (h : 0 ≤ p ∧ p < 7) : ref37_word p = some (paper_words.getD p.toNat []) := by
 have h1 := (word_at h).1
 unfold ref37_word
 dsimp only
 try simp only [gPi, gSS, gPb, gPm, gPs, gM, gM2, gAnd, gOr, gAndI, gOrI, gAA, gAO, gOA, gOO, gAAf, gAOf, gOAf, gOOf, gAMf, gOMf, gId]
 try simp only [gIn1, gIn2, gIn3, gIn4, gIn5, gIn6, gIn7, gIn8, gId, gIdF, gMb, gMm, gBm, gBb, bs, ms]
 rw [if_pos ⟨h.1, by have := h.2; exact this⟩]
 exact h1
theorem rFits_eq (a : Int) : ref01_Fits a = some (fitB a) := by
 unfold ref01_Fits fitB
 dsimp only
 try simp only [gPi, gSS, gPb, gPm, gPs, gM, gM2, gAnd, gOr, gAndI, gOrI, gAA, gAO, gOA, gOO, gAAf, gAOf, gOAf, gOOf, gAMf, gOMf, gId]
 try simp only [gIn1, gIn2, gIn3, gIn4, gIn5, gIn6, gIn7, gIn8, gId, gIdF, gMb, gMm, gBm, gBb, bs, ms]
 by_cases h1 : a ≤ 1125899906842624 <;> by_cases h2 : -1125899906842624 ≤ a <;> simp [h1, h2]
theorem same25 {l m : List It} (h : l = m) (hn : l.length ≤ 100000) : ref25_Same (l, m) = some true := by
 subst h
 unfold ref25_Same
 dsimp only
 have d : ((l.length : Int) != (l.length : Int)) = false := by simp
 rw [d, if_neg (by decide)]
 have key := iter_fold0 (b := ref25_Same_loop1) (α := It) (A := Unit) (fun k _ => (l, l, (k : Int), ())) (fun _ _ => (Sum.inl () : Unit ⊕ (Unit ⊕ Bool))) (fun _ => Sum.inl ()) (fun _ _ => True) l (a := ()) trivial (fun i x _ hx _ => by
   have hi := (List.getElem?_eq_some_iff.1 hx).1
   unfold ref25_Same_loop1
   dsimp only
   rw [lt_len hx, if_pos rfl, lAt_nat hx]
   simp only [ms, bs]
   have d1 : (!(x.1 == x.1 && x.2 == x.2)) = false := by simp
   rw [d1, if_neg (by decide), w_succ (by omega)]; rfl) (fun _ _ _ _ _ _ _ => trivial) (fun _ _ => by
   unfold ref25_Same_loop1
   dsimp only
   rw [nlt_len, if_neg (by decide)])
 rw [show (0 : Int) = ((0 : Nat) : Int) from rfl, key, foldE_inl]
 rfl
theorem psame {p q : Ppr} (h : p = q) (hn : p.2.2.1.length ≤ 100000) : law37_same (p, q) = some true := by
 subst h
 unfold law37_same
 dsimp only
 try simp only [gPi, gSS, gPb, gPm, gPs, gM, gM2, gAnd, gOr, gAndI, gOrI, gAA, gAO, gOA, gOO, gAAf, gAOf, gOAf, gOOf, gAMf, gOMf, gId]
 try simp only [gIn1, gIn2, gIn3, gIn4, gIn5, gIn6, gIn7, gIn8, gId, gIdF, gMb, gMm, gBm, gBb, bs, ms]
 have d1 : (p.1 == p.1) = true := by simp
 have d2 : (p.2.1 == p.2.1) = true := by simp
 have d3 : (p.2.2.2 == p.2.2.2) = true := by simp
 rw [d1, if_pos rfl, bs, d2, if_pos rfl, bs, d3, if_pos rfl, same25 rfl hn]
end WB
namespace WB
open Go Go.RowKit
def wB (s w : List UInt8) : Bool := (s.take (w.length + 1) == w ++ [47]) && nameB (s.drop (w.length + 1))
def codeB (s : List UInt8) : Bool := paper_words.any (wB s)
theorem idxN {l : List UInt8} {c : UInt8} (h : ∀ b ∈ l, b ≠ c) : Lib.indexByte l c = -1 := by
 induction l with
 | nil => rfl
 | cons b l ih =>
  have hb : (b == c) = false := by simpa using h b (by simp)
  simp [Lib.indexByte, hb, ih fun x hx => h x (by simp [hx])]
theorem idxA {l t : List UInt8} {c : UInt8} (h : ∀ b ∈ l, b ≠ c) : Lib.indexByte (l ++ c :: t) c = (l.length : Int) := by
 induction l with
 | nil => simp [Lib.indexByte]
 | cons b l ih =>
  have hb : (b == c) = false := by simpa using h b (by simp)
  have e := ih fun x hx => h x (by simp [hx])
  simp only [List.cons_append, Lib.indexByte, hb, e]
  have : ((l.length : Int) == -1) = false := by rw [beq_eq_false_iff_ne]; omega
  simp [this]
theorem cutAt : ∀ (s : List UInt8), (∀ b ∈ s, b ≠ 47) ∨ ∃ a t, s = a ++ 47 :: t ∧ ∀ b ∈ a, b ≠ 47
 | [] => .inl (by simp)
 | b :: s => by
  by_cases hb : b = 47
  ·exact .inr ⟨[], s, by rw [hb]; rfl, by simp⟩
  ·rcases cutAt s with h | ⟨a, t, h1, h2⟩
   ·exact .inl fun x hx => by
     rcases List.mem_cons.1 hx with rfl | hx
     ·exact hb
     ·exact h x hx
   ·exact .inr ⟨b :: a, t, by rw [h1]; rfl, fun x hx => by
     rcases List.mem_cons.1 hx with rfl | hx
     ·exact hb
     ·exact h2 x hx⟩
theorem split_uniq : ∀ {a w t u : List UInt8}, a ++ 47 :: t = w ++ 47 :: u → (∀ b ∈ a, b ≠ 47) → (∀ b ∈ w, b ≠ 47) → a = w ∧ t = u
 | [], [], t, u, h, _, _ => by simp at h; exact ⟨rfl, h⟩
 | [], y :: w, t, u, h, _, hw => by
  have := (List.cons.inj h).1
  exact absurd this.symm (hw y (by simp))
 | x :: a, [], t, u, h, ha, _ => by
  have := (List.cons.inj h).1
  exact absurd this (ha x (by simp))
 | x :: a, y :: w, t, u, h, ha, hw => by
  obtain ⟨h1, h2⟩ := List.cons.inj h
  obtain ⟨h3, h4⟩ := split_uniq h2 (fun b hb => ha b (by simp [hb])) (fun b hb => hw b (by simp [hb]))
  exact ⟨by rw [h1, h3], h4⟩
theorem words_no : ∀ w ∈ paper_words, ∀ b ∈ w, b ≠ (47 : UInt8) := by decide
theorem wB_split {s w : List UInt8} (h : wB s w = true) : s = w ++ 47 :: s.drop (w.length + 1) ∧ nameB (s.drop (w.length + 1)) = true := by
 unfold wB at h
 rw [Bool.and_eq_true, beq_iff_eq] at h
 refine ⟨?_, h.2⟩
 have := List.take_append_drop (w.length + 1) s
 rw [h.1] at this
 rw [List.append_assoc] at this
 exact this.symm
theorem wB_at {w t : List UInt8} : wB (w ++ 47 :: t) w = nameB t := by
 unfold wB
 have e1 : (w ++ 47 :: t).take (w.length + 1) = w ++ [47] := by rw [List.take_append, List.take_of_length_le (by omega)]; simp
 have e2 : (w ++ 47 :: t).drop (w.length + 1) = t := by simp [List.drop_append]
 rw [e1, e2]
 simp
theorem codeB_no {s : List UInt8} (h : ∀ b ∈ s, b ≠ 47) : codeB s = false := by
 rw [Bool.eq_false_iff]
 intro hc
 obtain ⟨w, hw, e⟩ := List.any_eq_true.1 hc
 have e1 := (wB_split e).1
 exact h 47 (by rw [e1]; simp) rfl
theorem codeB_at {a t : List UInt8} (ha : ∀ b ∈ a, b ≠ 47) : codeB (a ++ 47 :: t) = (decide (a ∈ paper_words) && nameB t) := by
 rw [Bool.eq_iff_iff, Bool.and_eq_true, decide_eq_true_eq]
 constructor
 ·intro hc
  obtain ⟨w, hw, e⟩ := List.any_eq_true.1 hc
  obtain ⟨e1, e2⟩ := wB_split e
  obtain ⟨h1, h2⟩ := split_uniq e1 ha (words_no w hw)
  rw [← h2] at e2
  exact ⟨h1 ▸ hw, e2⟩
 ·rintro ⟨h1, h2⟩
  exact List.any_eq_true.2 ⟨a, h1, by rw [wB_at]; exact h2⟩
def idxStep (a : List UInt8) (n : Nat) (w : List UInt8) : Nat ⊕ (Unit ⊕ Int) := if (a == w) = true then .inr (.inr (n : Int)) else .inl (n + 1)
theorem idx_fold (a : List UInt8) : ∀ (l : List (List UInt8)) (n : Nat), (a ∉ l → foldE (idxStep a) (fun _ => Sum.inl ()) n l = .inl ()) ∧ (a ∈ l → ∃ i : Nat, i < n + l.length ∧ foldE (idxStep a) (fun _ => Sum.inl ()) n l = .inr (i : Int))
 | [], n => ⟨fun _ => rfl, fun h => by cases h⟩
 | w :: l, n => by
  rw [foldE]
  unfold idxStep
  obtain ⟨h1, h2⟩ := idx_fold a l (n + 1)
  unfold idxStep at h1 h2
  by_cases h : a = w
  ·have d : (a == w) = true := by simpa using h
   rw [d, if_pos rfl]
   exact ⟨fun hn => absurd (by simp [h]) hn, fun _ => ⟨n, by simp, rfl⟩⟩
  ·have d : (a == w) = false := by simpa using h
   rw [d, if_neg (by decide)]
   constructor
   ·intro hn
    exact h1 fun hm => hn (by simp [hm])
   ·intro hm
    obtain ⟨i, hi, e⟩ := h2 ((List.mem_cons.1 hm).resolve_left h)
    exact ⟨i, by simp; omega, e⟩
theorem sIndex_eq (a : List UInt8) : (a ∉ paper_words → slices_Index (paper_words, a) = some (-1)) ∧ (a ∈ paper_words → ∃ i : Nat, i < 7 ∧ slices_Index (paper_words, a) = some (i : Int)) := by
 have key := iter_fold0 (b := slices_Index_loop1) (α := List UInt8) (A := Nat) (fun k _ => (paper_words, a, (paper_words.length : Int), (k : Int), ())) (idxStep a) (fun _ => Sum.inl ()) (fun i n => n = i) paper_words (a := 0) rfl (fun i w n hx hn => by
   have hi := (List.getElem?_eq_some_iff.1 hx).1
   subst hn
   unfold slices_Index_loop1 idxStep
   dsimp only
   rw [lt_len hx, if_pos rfl, lAt_nat hx]
   simp only [ms, bs]
   have : n < 7 := hi
   cases (a == w) with
   | true => rfl
   | false => rw [if_neg (by decide), if_neg (by decide), w_succ (by omega)]; rfl) (fun i w n n' _ hn hst => by
   unfold idxStep at hst
   split at hst
   ·cases hst
   ·cases hst; omega) (fun _ _ => by
   unfold slices_Index_loop1
   dsimp only
   rw [nlt_len, if_neg (by decide)])
 obtain ⟨h1, h2⟩ := idx_fold a paper_words 0
 unfold slices_Index
 dsimp only
 rw [show (0 : Int) = ((0 : Nat) : Int) from rfl, key, bs]
 constructor
 ·intro h; rw [h1 h]
 ·intro h
  obtain ⟨i, hi, e⟩ := h2 h
  exact ⟨i, by simpa [paper_words] using hi, by rw [e]⟩
theorem slip1 {i : Nat} (hi : i < 7) (t : List UInt8) : (slipS (1900, 1, [((i : Int), t, 1)]) == 0) = nameB t := by
 have h1 : slipS (1900, 1, [((i : Int), t, 1)]) = lineS ((i : Int), t, 1) := by
  unfold slipS
  rw [if_neg (by dsimp only; omega), if_neg (by simp)]
  rw [foldE]
  unfold chkStep'
  by_cases h : lineS ((i : Int), t, 1) = 0
  ·rw [if_neg (show ¬ (lineS ((i : Int), t, 1) ≠ 0) by simpa using h), h]
   rfl
  ·rw [if_pos (show lineS ((i : Int), t, 1) ≠ 0 from h)]
 rw [h1]
 unfold lineS
 rw [if_neg (by dsimp only; omega)]
 dsimp only
 cases nameB t with
 | false => rfl
 | true => rfl
theorem coded_eq {s : List UInt8} (hs : s.length ≤ 9223372036854775807) : paper_coded s = some (codeB s) := by
 unfold paper_coded strings_Cut internal_stringslite_Cut
 dsimp only
 unfold internal_stringslite_Index
 dsimp only
 rw [bs]
 rcases cutAt s with h | ⟨a, t, rfl, ha⟩
 ·rw [idxN h, if_neg (by decide), bs, bs]
  dsimp only
  rw [codeB_no h]
  by_cases hm : s ∈ paper_words
  ·obtain ⟨i, hi, e⟩ := (sIndex_eq s).2 hm
   rw [e, bs, if_pos (by omega), slip_eq, bs, slip1 hi]
   rfl
  ·rw [(sIndex_eq s).1 hm, bs, if_neg (by decide)]
 ·have hl : (a ++ 47 :: t).length = a.length + 1 + t.length := by simp; omega
  rw [hl] at hs
  rw [idxA ha, decide_eq_true (show (a.length : Int) ≥ 0 by omega), if_pos rfl, show (0 : Int) = ((0 : Nat) : Int) from rfl, lSub_nat (by omega) (by simp), bs]
  have w1 : IntKind.i64.wrap ((a.length : Int) + (([47] : List UInt8).length : Int)) = ((a.length + 1 : Nat) : Int) := by
   rw [w64' (by simp; omega) (by simp; omega)]; simp
  rw [w1, lSub_nat (by omega) (by simp), bs, List.take_of_length_le (Nat.le_refl _), List.drop_zero, List.take_left, bs, bs]
  have e2 : (a ++ 47 :: t).drop (a.length + 1) = t := by simp [List.drop_append]
  rw [e2, codeB_at ha]
  dsimp only
  by_cases hm : a ∈ paper_words
  ·obtain ⟨i, hi, e⟩ := (sIndex_eq a).2 hm
   rw [e, bs, if_pos (by omega), slip_eq, bs, decide_eq_true hm, Bool.true_and]
   exact congrArg some (slip1 hi t)
  ·rw [(sIndex_eq a).1 hm, bs, if_neg (by decide), decide_eq_false hm, Bool.false_and]
theorem rcode_eq (s : List UInt8) : ref37_code s = some (codeB s) := by
 have key := iter_fold0 (b := ref37_code_loop1) (α := List UInt8) (A := Unit) (fun k _ => (s, (k : Int), ())) (fun _ w => if wB s w = true then .inr (.inr true) else .inl ()) (fun _ => Sum.inl ()) (fun _ _ => True) paper_words (a := ()) trivial (fun i w _ hx _ => by
   have hi := (List.getElem?_eq_some_iff.1 hx).1
   have hi7 : i < 7 := hi
   have hw : w.length ≤ 6 := by
    have h1 := (word_at (p := (i : Int)) ⟨by omega, by omega⟩)
    rw [Int.toNat_natCast] at h1
    rw [h1.1] at hx
    cases hx
    exact h1.2
   have hr : ref37_word (i : Int) = some w := by
    rw [rword_eq ⟨by omega, by omega⟩]
    have h1 := (word_at (p := (i : Int)) ⟨by omega, by omega⟩).1
    rw [Int.toNat_natCast] at h1 ⊢
    rw [h1] at hx
    exact hx
   unfold ref37_code_loop1
   dsimp only
   try simp only [gPi, gSS, gPb, gPm, gPs, gM, gM2, gAnd, gOr, gAndI, gOrI, gAA, gAO, gOA, gOO, gAAf, gAOf, gOAf, gOOf, gAMf, gOMf, gId]
   try simp only [gIn1, gIn2, gIn3, gIn4, gIn5, gIn6, gIn7, gIn8, gId, gIdF, gMb, gMm, gBm, gBb, bs, ms]
   rw [decide_eq_true (show (i : Int) < 7 by omega), if_pos rfl, hr, bs, if_pos (by simp only [List.length_cons, List.length_nil]; omega)]
   have hwl : ((w ++ [47] : List UInt8).length) = w.length + 1 := by simp
   by_cases hlen : w.length + 1 < s.length
   ·rw [decide_eq_true (show (s.length : Int) > ((w ++ [47] : List UInt8).length : Int) by omega), if_pos rfl, show (0 : Int) = ((0 : Nat) : Int) from rfl, lSub_nat (by omega) (by omega), bs, bs, List.drop_zero, hwl]
    have hd : lSub s ((w.length + 1 : Nat) : Int) (s.length : Int) = some (s.drop (w.length + 1)) := by
     rw [lSub_nat (by omega) (Nat.le_refl _), List.take_of_length_le (Nat.le_refl _)]
    have e0 : wB s w = ((s.take (w.length + 1) == w ++ [47]) && nameB (s.drop (w.length + 1))) := rfl
    rw [e0]
    cases h1 : (s.take (w.length + 1) == w ++ [47]) with
    | false =>
     simp only [Bool.false_eq_true, if_false, bs, Bool.false_and]
     rw [w_succ (by omega)]
     rfl
    | true =>
     rw [if_pos rfl, hd, bs, bs, Bool.true_and]
     cases h2 : (s.drop (w.length + 1) == [45]) with
     | true =>
      have : nameB (s.drop (w.length + 1)) = false := by
       rw [beq_iff_eq.1 h2]; decide
      rw [this]
      simp only [Bool.not_true, Bool.false_eq_true, if_false, bs]
      rw [w_succ (by omega)]
      rfl
     | false =>
      simp only [Bool.not_false, if_true, bs, refName_eq]
      cases h3 : nameB (s.drop (w.length + 1)) with
      | true => rfl
      | false =>
       simp only [Bool.false_eq_true, if_false]
       rw [w_succ (by omega)]
       rfl
   ·have hf : wB s w = false := by
     have : s.drop (w.length + 1) = [] := List.drop_eq_nil_of_le (by omega)
     unfold wB
     rw [this]
     simp [nameB]
    rw [decide_eq_false (show ¬ ((s.length : Int) > ((w ++ [47] : List UInt8).length : Int)) by omega), if_neg (by decide), bs, if_neg (by decide), bs, if_neg (by decide), bs, if_neg (by decide), hf, if_neg (by decide), w_succ (by omega)]
    rfl) (fun _ _ _ _ _ _ _ => trivial) (fun _ _ => by
   unfold ref37_code_loop1
   dsimp only
   try simp only [gPi, gSS, gPb, gPm, gPs, gM, gM2, gAnd, gOr, gAndI, gOrI, gAA, gAO, gOA, gOO, gAAf, gAOf, gOAf, gOOf, gAMf, gOMf, gId]
   try simp only [gIn1, gIn2, gIn3, gIn4, gIn5, gIn6, gIn7, gIn8, gId, gIdF, gMb, gMm, gBm, gBb, bs, ms]
   rw [decide_eq_false (by decide), if_neg (by decide)])
 unfold ref37_code
 dsimp only
 rw [show (0 : Int) = ((0 : Nat) : Int) from rfl, key, bs]
 unfold codeB
 clear key
 generalize paper_words = M
 induction M with
 | nil => rfl
 | cons w M ih =>
  rw [foldE, List.any_cons]
  cases h : wB s w with
  | true => rfl
  | false => rw [if_neg (by decide), Bool.false_or]; exact ih
theorem code_len {s : List UInt8} (h : codeB s = true) : s.length ≤ 39 := by
 obtain ⟨w, hw, e⟩ := List.any_eq_true.1 h
 obtain ⟨e1, e2⟩ := wB_split e
 have h1 := nameB_len e2
 have h2 : ∀ w ∈ paper_words, w.length ≤ 6 := by decide
 have h3 := h2 w hw
 rw [List.length_drop] at h1
 omega
def rStep (pr : Option It) (x : It) : Option It ⊕ (Unit ⊕ Bool) := if codeB x.1 = false ∨ fitB x.2 = false ∨ x.2 = 0 then .inr (.inr false) else match pr with
 | none => .inl (some x)
 | some p => if p.1 < x.1 then .inl (some x) else .inr (.inr false)
def listR (l : List It) : Bool := match foldE rStep (fun _ => Sum.inl ()) none l with
 | .inl _ => true
 | .inr b => b
def rightS (p : Ppr) : Bool := decide (datedS p.1 p.2.1 = 0 ∧ p.2.2.1.length ≤ 448 ∧ 0 ≤ p.2.2.2 ∧ p.2.2.2 ≤ 4096) && listR p.2.2.1
theorem rStep_iff : ∀ (l : List It) (pr : Option It), (foldE rStep (fun _ => (Sum.inl () : Unit ⊕ Bool)) pr l = .inl () ∨ foldE rStep (fun _ => (Sum.inl () : Unit ⊕ Bool)) pr l = .inr false) ∧ (foldE rStep (fun _ => (Sum.inl () : Unit ⊕ Bool)) pr l = .inl () ↔ (∀ x ∈ l, codeB x.1 = true ∧ fitB x.2 = true ∧ x.2 ≠ 0) ∧ Asc l ∧ ∀ p, pr = some p → ∀ x ∈ l, p.1 < x.1)
 | [], pr => by simp [foldE, Asc]
 | x :: l, pr => by
  rw [foldE]
  unfold rStep
  by_cases h : codeB x.1 = false ∨ fitB x.2 = false ∨ x.2 = 0
  ·rw [if_pos h]
   refine ⟨.inr rfl, ⟨fun h => (by cases h), fun g => ?_⟩⟩
   have := g.1 x (by simp)
   rcases h with h | h | h
   ·rw [this.1] at h; cases h
   ·rw [this.2.1] at h; cases h
   ·exact absurd h this.2.2
  ·rw [if_neg h]
   have hx : codeB x.1 = true ∧ fitB x.2 = true ∧ x.2 ≠ 0 := by
    simp only [not_or, Bool.not_eq_false] at h
    exact h
   obtain ⟨i1, i2⟩ := rStep_iff l (some x)
   unfold rStep at i1 i2
   have asc : Asc (x :: l) ↔ (∀ y ∈ l, x.1 < y.1) ∧ Asc l := List.pairwise_cons
   cases pr with
   | none =>
    refine ⟨i1, i2.trans ?_⟩
    rw [asc]
    constructor
    ·rintro ⟨a, b, c⟩
     exact ⟨fun y hy => by rcases List.mem_cons.1 hy with rfl | hy; exact hx; exact a y hy, ⟨c x rfl, b⟩, fun p hp => by cases hp⟩
    ·rintro ⟨a, ⟨b, c⟩, _⟩
     exact ⟨fun y hy => a y (by simp [hy]), c, fun p hp => by cases hp; exact b⟩
   | some p =>
    dsimp only
    by_cases hp : p.1 < x.1
    ·rw [if_pos hp]
     refine ⟨i1, i2.trans ?_⟩
     rw [asc]
     constructor
     ·rintro ⟨a, b, c⟩
      refine ⟨fun y hy => by rcases List.mem_cons.1 hy with rfl | hy; exact hx; exact a y hy, ⟨c x rfl, b⟩, fun q hq => ?_⟩
      cases hq
      intro y hy
      rcases List.mem_cons.1 hy with rfl | hy
      ·exact hp
      ·exact List.lt_trans hp (c x rfl y hy)
     ·rintro ⟨a, ⟨b, c⟩, _⟩
      exact ⟨fun y hy => a y (by simp [hy]), c, fun p hp => by cases hp; exact b⟩
    ·rw [if_neg hp]
     refine ⟨.inr rfl, ⟨fun h => (by cases h), fun g => ?_⟩⟩
     exact absurd (g.2.2 p rfl x (by simp)) hp
theorem listR_iff {l : List It} : listR l = true ↔ (∀ x ∈ l, codeB x.1 = true ∧ fitB x.2 = true ∧ x.2 ≠ 0) ∧ Asc l := by
 obtain ⟨h1, h2⟩ := rStep_iff l none
 unfold listR
 rcases h1 with h | h
 ·rw [h]
  exact ⟨fun _ => ⟨(h2.1 h).1, (h2.1 h).2.1⟩, fun _ => rfl⟩
 ·rw [h]
  refine ⟨fun h => (by cases h), fun g => ?_⟩
  have := h2.2 ⟨g.1, g.2, fun p hp => by cases hp⟩
  rw [h] at this
  cases this
theorem right_eq {p : Ppr} (hs : ∀ x ∈ p.2.2.1, x.1.length ≤ 9223372036854775807) : paper_Paper_right p = some (rightS p) := by
 obtain ⟨w, y, l, n⟩ := p
 unfold paper_Paper_right rightS
 dsimp only at hs ⊢
 try simp only [gPi, gSS, gPb, gPm, gPs, gM, gM2, gAnd, gOr, gAndI, gOrI, gAA, gAO, gOA, gOO, gAAf, gAOf, gOAf, gOOf, gAMf, gOMf, gId]
 try simp only [gIn1, gIn2, gIn3, gIn4, gIn5, gIn6, gIn7, gIn8, gId, gIdF, gMb, gMm, gBm, gBb, bs, ms]
 rw [dated_eq, bs]
 by_cases h1 : datedS w y = 0 ∧ l.length ≤ 448 ∧ 0 ≤ n ∧ n ≤ 4096
 ·obtain ⟨a, b, c, d⟩ := h1
  have d1 : (datedS w y != 0) = false := by simpa using a
  rw [d1, if_neg (by decide), bs, decide_eq_false (show ¬ ((l.length : Int) > 448) by omega), if_neg (by decide), bs, decide_eq_false (show ¬ (n < 0) by omega), if_neg (by decide), bs, decide_eq_false (show ¬ (n > 4096) by omega), if_neg (by decide), decide_eq_true (show datedS w y = 0 ∧ l.length ≤ 448 ∧ 0 ≤ n ∧ n ≤ 4096 from ⟨a, b, c, d⟩), Bool.true_and]
  have key := iter_fold0 (b := paper_Paper_right_loop1) (α := It) (A := Option It) (fun k _ => (l, (l.length : Int), (k : Int), w, y, l, n, (), (), ())) rStep (fun _ => Sum.inl ())
   (fun i pr => pr = if i = 0 then none else l[i - 1]?) l (a := none) rfl (fun i x pr hx hpr => by
    have hi := (List.getElem?_eq_some_iff.1 hx).1
    unfold paper_Paper_right_loop1 rStep
    dsimp only
    simp only [gPi, gSS, gPb, gPm, gPs, gM, gM2, gAnd, gOr, gAndI, gOrI, gAA, gAO, gOA, gOO, gAAf, gAOf, gOAf, gOOf, gAMf, gOMf, gId]
    try simp only [gIn1, gIn2, gIn3, gIn4, gIn5, gIn6, gIn7, gIn8, gId, gIdF, gMb, gMm, gBm, gBb, bs, ms]
    rw [lt_len hx, if_pos rfl, lAt_nat hx, bs, coded_eq (hs x (List.mem_of_getElem? hx)), bs]
    cases h2 : codeB x.1 with
    | false => rfl
    | true =>
     rw [if_neg (by decide), Fits_eq', fitD_B, bs, bs]
     cases h3 : fitB x.2 with
     | false => rfl
     | true =>
      rw [if_neg (by decide), bs]
      by_cases h4 : x.2 = 0
      ·have d4 : (x.2 == 0) = true := by simpa using h4
       rw [d4, if_pos rfl, bs, if_pos rfl, if_pos (.inr (.inr h4))]
       rfl
      ·have d4 : (x.2 == 0) = false := by simpa using h4
       rw [d4, if_neg (by decide), if_neg (show ¬ (true = false ∨ true = false ∨ x.2 = 0) by simp [h4])]
       cases i with
       | zero =>
        rw [if_pos rfl] at hpr
        subst hpr
        rw [if_neg (by decide), bs]
        dsimp only
        rw [if_neg (by decide), w_succ (by omega)]
        rfl
       | succ i =>
        have hlt : i < l.length := by omega
        rw [if_neg (by omega), Nat.add_sub_cancel, List.getElem?_eq_getElem hlt] at hpr
        subst hpr
        rw [decide_eq_true (show ((i + 1 : Nat) : Int) > 0 by omega), if_pos rfl, show ((i + 1 : Nat) : Int) - 1 = (i : Int) by omega, w64' (n := (i : Int)) (by omega) (by omega), lAt_nat (List.getElem?_eq_getElem hlt), bs, bs, sLess_eq]
        dsimp only
        by_cases h5 : l[i].1 < x.1
        ·rw [decide_eq_true h5, if_neg (by decide), if_pos h5, show ((i + 1 : Nat) : Int) + 1 = ((i + 1 + 1 : Nat) : Int) by push_cast; rfl, w64' (by omega) (by omega)]
         rfl
        ·rw [decide_eq_false h5, if_neg h5]
         rfl) (fun i x pr pr' hx _ hst => by
    rw [if_neg (by omega), Nat.add_sub_cancel, hx]
    unfold rStep at hst
    split at hst
    ·cases hst
    ·split at hst
     ·cases hst; rfl
     ·split at hst
      ·cases hst; rfl
      ·cases hst) (fun _ _ => by
    unfold paper_Paper_right_loop1
    dsimp only
    rw [nlt_len, if_neg (by decide)])
  rw [show (0 : Int) = ((0 : Nat) : Int) from rfl, key, bs]
  unfold listR
  cases foldE rStep (fun _ => (Sum.inl () : Unit ⊕ Bool)) none l <;> rfl
 ·rw [decide_eq_false h1, Bool.false_and]
  by_cases g1 : datedS w y = 0
  ·have d1 : (datedS w y != 0) = false := by simpa using g1
   rw [d1, if_neg (by decide), bs]
   by_cases g2 : (l.length : Int) > 448
   ·rw [decide_eq_true g2]; rfl
   ·rw [decide_eq_false g2, if_neg (by decide), bs]
    by_cases g3 : n < 0
    ·rw [decide_eq_true g3]; rfl
    ·rw [decide_eq_false g3, if_neg (by decide), bs, decide_eq_true (show n > 4096 by omega)]; rfl
  ·have d1 : (datedS w y != 0) = true := by simpa using g1
   rw [d1]; rfl
theorem rightS_iff {p : Ppr} : rightS p = true ↔ (datedS p.1 p.2.1 = 0 ∧ p.2.2.1.length ≤ 448 ∧ 0 ≤ p.2.2.2 ∧ p.2.2.2 ≤ 4096) ∧ (∀ x ∈ p.2.2.1, codeB x.1 = true ∧ fitB x.2 = true ∧ x.2 ≠ 0) ∧ Asc p.2.2.1 := by
 unfold rightS
 rw [Bool.and_eq_true, decide_eq_true_eq, listR_iff]
end WB
namespace WB
open Go Go.RowKit
set_option maxRecDepth 100000
theorem rRight_eq (p : Ppr) : ref37_Right p = some (rightS p) := by
 obtain ⟨w, y, l, n⟩ := p
 unfold ref37_Right rightS
 dsimp only
 try simp only [gPi, gSS, gPb, gPm, gPs, gM, gM2, gAnd, gOr, gAndI, gOrI, gAA, gAO, gOA, gOO, gAAf, gAOf, gOAf, gOOf, gAMf, gOMf, gId]
 try simp only [gIn1, gIn2, gIn3, gIn4, gIn5, gIn6, gIn7, gIn8, gId, gIdF, gMb, gMm, gBm, gBb, bs, ms]
 have hd : datedS w y = 0 ↔ ¬ (w < 1) ∧ ¬ (y < 1900) ∧ ¬ (y > 2199) := by
  unfold datedS
  split
  ·rename_i h
   constructor
   ·intro h; cases h
   ·intro g; omega
  ·rename_i h
   constructor
   ·intro _; omega
   ·intro _; rfl
 by_cases h1 : datedS w y = 0 ∧ l.length ≤ 448 ∧ 0 ≤ n ∧ n ≤ 4096
 ·obtain ⟨a, b, c, d⟩ := h1
  have a' := hd.1 a
  rw [decide_eq_false a'.1, if_neg (by decide), bs, decide_eq_false a'.2.1, if_neg (by decide), bs, decide_eq_false a'.2.2, if_neg (by decide), bs, decide_eq_false (show ¬ ((l.length : Int) > 448) by omega), if_neg (by decide), bs, decide_eq_false (show ¬ (n < 0) by omega), if_neg (by decide), bs, decide_eq_false (show ¬ (n > 4096) by omega), if_neg (by decide), decide_eq_true (show datedS w y = 0 ∧ l.length ≤ 448 ∧ 0 ≤ n ∧ n ≤ 4096 from ⟨a, b, c, d⟩), Bool.true_and]
  have key := iter_fold0 (b := ref37_Right_loop1) (α := It) (A := Option It) (fun k _ => ((k : Int), w, y, l, n, (), (), ())) rStep (fun _ => Sum.inl ())
   (fun i pr => pr = if i = 0 then none else l[i - 1]?) l (a := none) rfl (fun i x pr hx hpr => by
    have hi := (List.getElem?_eq_some_iff.1 hx).1
    unfold ref37_Right_loop1 rStep
    dsimp only
    simp only [gPi, gSS, gPb, gPm, gPs, gM, gM2, gAnd, gOr, gAndI, gOrI, gAA, gAO, gOA, gOO, gAAf, gAOf, gOAf, gOOf, gAMf, gOMf, gId]
    try simp only [gIn1, gIn2, gIn3, gIn4, gIn5, gIn6, gIn7, gIn8, gId, gIdF, gMb, gMm, gBm, gBb, bs, ms]
    rw [lt_len hx, if_pos rfl, lAt_nat hx, bs, rcode_eq, bs]
    cases h2 : codeB x.1 with
    | false => rfl
    | true =>
     rw [if_neg (by decide), rFits_eq, bs, bs]
     cases h3 : fitB x.2 with
     | false => rfl
     | true =>
      rw [if_neg (by decide), bs]
      by_cases h4 : x.2 = 0
      ·have d4 : (x.2 == 0) = true := by simpa using h4
       rw [d4, if_pos rfl, bs, if_pos rfl, if_pos (.inr (.inr h4))]
       rfl
      ·have d4 : (x.2 == 0) = false := by simpa using h4
       rw [d4, if_neg (by decide), if_neg (show ¬ (true = false ∨ true = false ∨ x.2 = 0) by simp [h4])]
       cases i with
       | zero =>
        rw [if_pos rfl] at hpr
        subst hpr
        rw [if_neg (by decide), bs]
        dsimp only
        rw [if_neg (by decide), w_succ (by omega)]
        rfl
       | succ i =>
        have hlt : i < l.length := by omega
        rw [if_neg (by omega), Nat.add_sub_cancel, List.getElem?_eq_getElem hlt] at hpr
        subst hpr
        rw [decide_eq_true (show ((i + 1 : Nat) : Int) > 0 by omega), if_pos rfl, show ((i + 1 : Nat) : Int) - 1 = (i : Int) by omega, w64' (n := (i : Int)) (by omega) (by omega), lAt_nat (List.getElem?_eq_getElem hlt), bs, bs, sLess_eq]
        dsimp only
        by_cases h5 : l[i].1 < x.1
        ·have e1 : decide (x.1 < l[i].1) = false := decide_eq_false fun g => List.lt_irrefl _ (List.lt_trans g h5)
         have e2 : (x.1 == l[i].1) = false := by
          rw [beq_eq_false_iff_ne]; intro g; rw [g] at h5; exact List.lt_irrefl _ h5
         rw [e1, e2, Bool.or_false, if_neg (by decide), if_pos h5, show ((i + 1 : Nat) : Int) + 1 = ((i + 1 + 1 : Nat) : Int) by push_cast; rfl, w64' (by omega) (by omega)]
         rfl
        ·have e1 : (decide (x.1 < l[i].1) || x.1 == l[i].1) = true := by
          rcases List.le_iff_lt_or_eq.1 (List.not_lt.1 h5) with g | g
          ·rw [decide_eq_true g, Bool.true_or]
          ·rw [beq_iff_eq.2 g, Bool.or_true]
         rw [e1, if_neg h5]
         rfl) (fun i x pr pr' hx _ hst => by
    rw [if_neg (by omega), Nat.add_sub_cancel, hx]
    unfold rStep at hst
    split at hst
    ·cases hst
    ·split at hst
     ·cases hst; rfl
     ·split at hst
      ·cases hst; rfl
      ·cases hst) (fun _ _ => by
    unfold ref37_Right_loop1
    dsimp only
    rw [nlt_len, if_neg (by decide)])
  rw [show (0 : Int) = ((0 : Nat) : Int) from rfl, key, bs]
  unfold listR
  cases foldE rStep (fun _ => (Sum.inl () : Unit ⊕ Bool)) none l <;> rfl
 ·rw [decide_eq_false h1, Bool.false_and]
  by_cases g1 : datedS w y = 0
  ·have a' := hd.1 g1
   rw [decide_eq_false a'.1, if_neg (by decide), bs, decide_eq_false a'.2.1, if_neg (by decide), bs, decide_eq_false a'.2.2, if_neg (by decide), bs]
   by_cases g2 : (l.length : Int) > 448
   ·rw [decide_eq_true g2]; rfl
   ·rw [decide_eq_false g2, if_neg (by decide), bs]
    by_cases g3 : n < 0
    ·rw [decide_eq_true g3]; rfl
    ·rw [decide_eq_false g3, if_neg (by decide), bs, decide_eq_true (show n > 4096 by omega)]; rfl
  ·by_cases g2 : w < 1
   ·rw [decide_eq_true g2]; rfl
   ·rw [decide_eq_false g2, if_neg (by decide), bs]
    by_cases g3 : y < 1900
    ·rw [decide_eq_true g3]; rfl
    ·rw [decide_eq_false g3, if_neg (by decide), bs]
     have g4 : y > 2199 := by
      refine Classical.byContradiction fun g4 => g1 (hd.2 ⟨g2, g3, g4⟩)
     rw [decide_eq_true g4]; rfl
theorem iter_run {S T : Type} {b : S → Option (S ⊕ T)} {s : S} {t : T} (n : Nat) (h : iterN b n s = some t) : iter b s = some t := iter_some.2 ⟨n, h⟩
theorem bind_run {α β : Type} {x : Option α} {a : α} {f : α → Option β} {r : Option β} (h : x = some a) (h2 : f a = r) : x.bind f = r := by rw [h]; exact h2
def exS : List Slp := [(2024, 1, [(0, [115, 97, 108, 97, 114, 121], 10000), (3, [116, 97, 120], 2000)]), (2024, 2, [(0, [115, 97, 108, 97, 114, 121], 10000)])]
def exB : List It := [([103, 114, 111, 115, 115, 47, 115, 97, 108, 97, 114, 121], 20000), ([116, 97, 120, 47, 116, 97, 120], 2000)]
theorem exOfP : ofS 1 2024 exS = ((1, 2024, exB, 0), 0) := by kernel_rfl
theorem exRight : rightS (1, 2024, exB, 0) = true := by kernel_rfl
theorem exC1 : cents_Text 20000 = some [50, 48, 48, 46, 48, 48] := by
 unfold cents_Text cents_whole
 refine bind_run (a := true) (by rw [Fits_eq']; rfl) ?_
 dsimp only
 rw [if_neg (by decide)]
 refine bind_run (a := (20000, [], ())) rfl ?_
 refine bind_run (a := 0) rfl ?_
 refine bind_run (a := 200) rfl ?_
 refine bind_run (a := [50, 48, 48]) (by rw [iter_run (t := _) 5 rfl]; rfl) ?_
 refine bind_run (a := [50, 48, 48]) rfl ?_
 refine bind_run (a := [50, 48, 48, 46]) rfl ?_
 refine bind_run (a := 0) rfl ?_
 refine bind_run (a := [48]) (by rw [iter_run (t := _) 5 rfl]; rfl) ?_
 refine bind_run (a := [50, 48, 48, 46, 48]) rfl ?_
 refine bind_run (a := 0) rfl ?_
 refine bind_run (a := [48]) (by rw [iter_run (t := _) 5 rfl]; rfl) ?_
 rfl
theorem exC2 : cents_Text 2000 = some [50, 48, 46, 48, 48] := by
 unfold cents_Text cents_whole
 refine bind_run (a := true) (by rw [Fits_eq']; rfl) ?_
 dsimp only
 rw [if_neg (by decide)]
 refine bind_run (a := (2000, [], ())) rfl ?_
 refine bind_run (a := 0) rfl ?_
 refine bind_run (a := 20) rfl ?_
 refine bind_run (a := [50, 48]) (by rw [iter_run (t := _) 5 rfl]; rfl) ?_
 refine bind_run (a := [50, 48]) rfl ?_
 refine bind_run (a := [50, 48, 46]) rfl ?_
 refine bind_run (a := 0) rfl ?_
 refine bind_run (a := [48]) (by rw [iter_run (t := _) 5 rfl]; rfl) ?_
 refine bind_run (a := [50, 48, 46, 48]) rfl ?_
 refine bind_run (a := 0) rfl ?_
 refine bind_run (a := [48]) (by rw [iter_run (t := _) 5 rfl]; rfl) ?_
 rfl
theorem itoa1 : Lib.itoa 1 = [49] := by simp [Lib.itoa, Lib.decDigits]
theorem itoa0 : Lib.itoa 0 = [48] := by simp [Lib.itoa, Lib.decDigits]
theorem itoa2024 : Lib.itoa 2024 = [50, 48, 50, 52] := by simp [Lib.itoa, Lib.decDigits]
theorem exText : paper_Paper_Text (1, 2024, exB, 0) = some [112, 97, 112, 101, 114, 32, 49, 32, 50, 48, 50, 52, 32, 48, 10, 103, 114, 111, 115, 115, 47, 115, 97, 108, 97, 114, 121, 32, 50, 48, 48, 46, 48, 48, 10, 116, 97, 120, 47, 116, 97, 120, 32, 50, 48, 46, 48, 48, 10] := by
 unfold paper_Paper_Text
 dsimp only
 rw [right_eq (by decide), exRight, bs, if_pos rfl]
 have h1 : strconv_FormatUint (IntKind.u64.wrap 1, 10) = some [49] := by
  unfold strconv_FormatUint
  rw [show IntKind.u64.wrap 1 = 1 from rfl, if_pos ⟨rfl, by decide, by decide⟩, itoa1]
 have h2 : strconv_Itoa 2024 = some [50, 48, 50, 52] := by
  unfold strconv_Itoa
  rw [if_pos ⟨by decide, by decide⟩, itoa2024]
 have h3 : strconv_Itoa 0 = some [48] := by
  unfold strconv_Itoa
  rw [if_pos ⟨by decide, by decide⟩, itoa0]
 rw [h1, bs, h2, bs, h3, bs]
 unfold exB paper_Text_loop
 dsimp only
 rw [exC1, bs]
 unfold paper_Text_loop
 dsimp only
 rw [exC2, bs]
 unfold paper_Text_loop
 rw [bs, if_pos (by decide)]
 rfl
theorem awake_eq : law37_awake () = some true := by
 unfold law37_awake
 dsimp only
 try simp only [gPi, gSS, gPb, gPm, gPs, gM, gM2, gAnd, gOr, gAndI, gOrI, gAA, gAO, gOA, gOO, gAAf, gAOf, gOAf, gOOf, gAMf, gOMf, gId]
 try simp only [gIn1, gIn2, gIn3, gIn4, gIn5, gIn6, gIn7, gIn8, gId, gIdF, gMb, gMm, gBm, gBb, bs, ms]
 have h : paper_Of (1, 2024, exS) = some ((1, 2024, exB, 0), 0) := by rw [Of_eq 1 2024 (by decide), exOfP]
 unfold exS at h
 rw [h, bs]
 dsimp only
 rw [if_pos (show ((0 : Int) == 0) = true from rfl), exText]
 rfl
theorem sameNo : law37_same (noP, (0, 0, [], 0)) = some true := psame rfl (by decide)
end WB
namespace WB
open Go Go.RowKit
theorem puM_digits {M : Nat} (hM : M ≤ 4294967295) : ∀ (D : List UInt8) (a : Nat), D.all dgt = true → numV a D ≤ M → Lib.parseUintM M a D = .ok (numV a D)
 | [], a, _, _ => rfl
 | c :: D, a, h, hn => by
  rw [List.all_cons, Bool.and_eq_true] at h
  have hc := dgt_iff.1 h.1
  have e : numV a (c :: D) = numV (a * 10 + (c.toNat - 48)) D := rfl
  rw [e] at hn
  have h1 := numV_le D (a * 10 + (c.toNat - 48))
  rw [Lib.parseUintM, if_pos hc, if_neg (by omega), if_neg (by omega), e]
  exact puM_digits hM D _ h.2 hn
theorem puB_digits {n : Nat} (h : n ≤ 4294967295) : Lib.parseUintB 32 (Lib.decDigits n) = .ok n := by
 unfold Lib.parseUintB
 rw [if_neg (digits_ne n)]
 have e := puM_digits (M := 2 ^ 32 - 1) (by omega) (Lib.decDigits n) 0 (digits_all n) (by rw [digits_num]; omega)
 rw [e, digits_num]
theorem pu10_digits : ∀ (D : List UInt8) (a : Nat), D.all dgt = true → numV a D ≤ 1000000000000 → Lib.parseUint10 a D = .ok (numV a D)
 | [], a, _, _ => rfl
 | c :: D, a, h, hn => by
  rw [List.all_cons, Bool.and_eq_true] at h
  have hc := dgt_iff.1 h.1
  have e : numV a (c :: D) = numV (a * 10 + (c.toNat - 48)) D := rfl
  rw [e] at hn
  have h1 := numV_le D (a * 10 + (c.toNat - 48))
  rw [Lib.parseUint10, if_pos hc, if_neg (by omega), if_neg (by omega), e]
  exact pu10_digits D _ h.2 hn
theorem atoi_digits {n : Nat} (h : n ≤ 1000000000000) : Lib.atoiAll (Lib.decDigits n) = .ok (n : Int) := by
 have e := pu10_digits (Lib.decDigits n) 0 (digits_all n) (by rw [digits_num]; exact h)
 rw [digits_num] at e
 cases hD : Lib.decDigits n with
 | nil => exact absurd hD (digits_ne n)
 | cons c r =>
  have hc : dgt c = true := by
   have := digits_all n
   rw [hD, List.all_cons, Bool.and_eq_true] at this
   exact this.1
  have hc' := dgt_iff.1 hc
  unfold Lib.atoiAll
  dsimp only
  rw [if_neg (show ¬ (c.toNat = 43 ∨ c.toNat = 45) by omega)]
  unfold Lib.parseMag
  rw [if_neg (by simp), ← hD, e]
  dsimp only
  rw [if_neg (by omega), if_neg (by omega), if_neg (by omega)]
end WB
namespace WB
open Go Go.RowKit
set_option linter.unusedSimpArgs false
set_option linter.unusedVariables false
def mostC : Nat := 1125899906842624
def textN (n : Nat) : List UInt8 := Lib.decDigits (n / 100) ++ [46, dg9 (n / 10 % 10), dg9 (n % 10)]
def textC (c : Int) : List UInt8 := (if c < 0 then [45] else []) ++ textN c.natAbs
def IsC (s : List UInt8) (c : Int) : Prop := c.natAbs ≤ mostC ∧ textC c = s
instance (s : List UInt8) (c : Int) : Decidable (IsC s c) := inferInstanceAs (Decidable (_ ∧ _))
def bodyN (W : List UInt8) (a b : UInt8) : Nat := numV 0 (W ++ [a, b])
theorem bodyN_eq (W : List UInt8) (a b : UInt8) : bodyN W a b = (numV 0 W * 10 + (a.toNat - 48)) * 10 + (b.toNat - 48) := by simp [bodyN, numV]
theorem textN_form (n : Nat) : ∃ W a b, textN n = W ++ [46, a, b] ∧ canon W = true ∧ dgt a = true ∧ dgt b = true ∧ bodyN W a b = n := by
 refine ⟨Lib.decDigits (n / 100), dg9 (n / 10 % 10), dg9 (n % 10), rfl, canon_digits _, dgt_dg9 (Nat.mod_lt _ (by omega)), dgt_dg9 (Nat.mod_lt _ (by omega)), ?_⟩
 rw [bodyN_eq, digits_num, dg9_nat (Nat.mod_lt _ (by omega)), dg9_nat (Nat.mod_lt _ (by omega))]
 omega
theorem textN_of {W : List UInt8} {a b : UInt8} (h : canon W = true) (ha : dgt a = true) (hb : dgt b = true) : textN (bodyN W a b) = W ++ [46, a, b] := by
 have h1 := dgt_iff.1 ha
 have h2 := dgt_iff.1 hb
 have e1 : bodyN W a b / 100 = numV 0 W := by rw [bodyN_eq]; omega
 have e2 : bodyN W a b / 10 % 10 = a.toNat - 48 := by rw [bodyN_eq]; omega
 have e3 : bodyN W a b % 10 = b.toNat - 48 := by rw [bodyN_eq]; omega
 unfold textN
 rw [e1, e2, e3, digits_of h, dg9_byte ha, dg9_byte hb]
theorem canon_ne {W : List UInt8} (h : canon W = true) : W ≠ [] := by intro e; rw [e] at h; cases h
theorem canon_all {W : List UInt8} (h : canon W = true) : W.all dgt = true := by
 unfold canon at h
 simp only [Bool.and_eq_true] at h
 exact h.2
theorem canon_head {W X : List UInt8} (h : canon W = true) : (W ++ X).head? ≠ some 45 := by
 cases W with
 | nil => exact absurd rfl (canon_ne h)
 | cons c W =>
  have := canon_all h
  simp only [List.all_cons, Bool.and_eq_true] at this
  have h3 := dgt_iff.1 this.1
  simp only [List.cons_append, List.head?_cons, ne_eq, Option.some.injEq]
  intro e
  rw [e] at h3
  exact absurd h3.1 (by decide)
theorem isC_pos {W : List UInt8} {a b : UInt8} (h : canon W = true) (ha : dgt a = true) (hb : dgt b = true) (hn : bodyN W a b ≤ mostC) : IsC (W ++ [46, a, b]) (bodyN W a b : Int) := by
 refine ⟨by simpa using hn, ?_⟩
 unfold textC
 rw [if_neg (by omega), Int.natAbs_natCast, textN_of h ha hb]
 rfl
theorem isC_neg {W : List UInt8} {a b : UInt8} (h : canon W = true) (ha : dgt a = true) (hb : dgt b = true) (hn : bodyN W a b ≤ mostC) (h0 : bodyN W a b ≠ 0) : IsC (45 :: (W ++ [46, a, b])) (-(bodyN W a b : Int)) := by
 refine ⟨by simpa using hn, ?_⟩
 unfold textC
 rw [if_pos (by omega), Int.natAbs_neg, Int.natAbs_natCast, textN_of h ha hb]
 rfl
theorem isC_form {s : List UInt8} {c : Int} (h : IsC s c) : ∃ W a b, canon W = true ∧ dgt a = true ∧ dgt b = true ∧ bodyN W a b = c.natAbs ∧ bodyN W a b ≤ mostC ∧ s = (if c < 0 then [45] else []) ++ (W ++ [46, a, b]) := by
 obtain ⟨h1, h2⟩ := h
 obtain ⟨W, a, b, e, hW, ha, hb, hn⟩ := textN_form c.natAbs
 refine ⟨W, a, b, hW, ha, hb, hn, by omega, ?_⟩
 rw [← h2, textC, e]
theorem isC_inj {s : List UInt8} {c d : Int} (h : IsC s c) (k : IsC s d) : c = d := by
 obtain ⟨W, a, b, hW, ha, hb, hn, _, e⟩ := isC_form h
 obtain ⟨V, a', b', hV, ha', hb', hm, _, e'⟩ := isC_form k
 have key : ∀ {X Y : List UInt8} {x y x' y' : UInt8}, X ++ [46, x, y] = Y ++ [46, x', y'] → X = Y ∧ x = x' ∧ y = y' := by
  intro X Y x y x' y' hh
  obtain ⟨h1, h2⟩ := List.append_inj' hh rfl
  simp only [List.cons.injEq, and_true, true_and] at h2
  exact ⟨h1, h2.1, h2.2⟩
 rw [e] at e'
 by_cases h1 : c < 0 <;> by_cases h2 : d < 0
 ·rw [if_pos h1, if_pos h2] at e'
  obtain ⟨rfl, rfl, rfl⟩ := key (List.append_cancel_left e')
  omega
 ·rw [if_pos h1, if_neg h2] at e'
  exact absurd (by rw [List.nil_append] at e'; rw [← e']; rfl) (canon_head (X := [46, a', b']) hV)
 ·rw [if_neg h1, if_pos h2] at e'
  exact absurd (by rw [List.nil_append] at e'; rw [e']; rfl) (canon_head (X := [46, a, b]) hW)
 ·rw [if_neg h1, if_neg h2] at e'
  obtain ⟨rfl, rfl, rfl⟩ := key (List.append_cancel_left e')
  omega
theorem fits_eq (c : Int) : cents_Fits c = some (decide (c.natAbs ≤ mostC)) := by
 unfold cents_Fits mostC
 simp only [gPi, gSS, gPb, gPm, gPs, gM, gM2, gAnd, gOr, gAndI, gOrI, gAA, gAO, gOA, gOO, gAAf, gAOf, gOAf, gOOf, gAMf, gOMf, gId]
 by_cases h1 : c ≥ -1125899906842624 <;> by_cases h2 : c ≤ 1125899906842624 <;> simp [h1, h2] <;> omega
theorem rune_eq {d : Nat} (h : d < 10) : (Utf8.encode (IntKind.i32.wrap (IntKind.i64.wrap (48 + (d : Int))))).data.toList = [dg9 d] := by
 have : d = 0 ∨ d = 1 ∨ d = 2 ∨ d = 3 ∨ d = 4 ∨ d = 5 ∨ d = 6 ∨ d = 7 ∨ d = 8 ∨ d = 9 := by omega
 rcases this with rfl | rfl | rfl | rfl | rfl | rfl | rfl | rfl | rfl | rfl <;> rfl
theorem whole_loop : ∀ (n : Nat) (s : List UInt8), n ≤ 4611686018427387 → s.length + n ≤ 4611686018427387904 → ∃ (m : Nat) (t : List UInt8), iter cents_whole_loop1 ((n : Int), s, ()) = some ((m : Int), t, ()) ∧ m < 10 ∧ t.length ≤ s.length + n ∧ [dg9 m] ++ t = Lib.decDigits n ++ s := by
 intro n
 induction n using Nat.strongRecOn with
 | _ n ih =>
  intro s hn hs
  by_cases h : n < 10
  ·refine ⟨n, s, ?_, h, ?_, ?_⟩
   ·rw [iter_eq]
    unfold cents_whole_loop1
    dsimp only
    rw [decide_eq_false (show ¬ (n : Int) > 9 by omega)]
    rfl
   ·omega
   ·rw [digits_small h]
  ·obtain ⟨m, t, h1, h2, h3, h4⟩ := ih (n / 10) (by omega) ([dg9 (n % 10)] ++ s) (by omega) (by simp; omega)
   refine ⟨m, t, ?_, h2, by simp at h3; omega, ?_⟩
   ·rw [iter_eq]
    unfold cents_whole_loop1
    dsimp only
    rw [decide_eq_true (show (n : Int) > 9 by omega), if_pos rfl, if_neg (by decide), bs]
    have e1 : (n : Int).tmod 10 = ((n % 10 : Nat) : Int) := by rw [Int.tmod_eq_emod_of_nonneg (by omega)]; omega
    have e2 : IntKind.i64.wrap ((n : Int).tdiv 10) = ((n / 10 : Nat) : Int) := by rw [Int.tdiv_eq_ediv_of_nonneg (by omega), w64' (by omega) (by omega)]; omega
    rw [e1, rune_eq (Nat.mod_lt _ (by omega))]
    rw [if_pos (by simp; omega), bs, if_neg (by decide), bs, e2]
    exact h1
   ·rw [h4, digits_big h]; simp
theorem whole_eq {n : Nat} (h : n ≤ 4611686018427387) : cents_whole (n : Int) = some (Lib.decDigits n) := by
 obtain ⟨m, t, h1, h2, h3, h4⟩ := whole_loop n [] h (by simp; omega)
 unfold cents_whole
 dsimp only
 rw [h1, bs]
 dsimp only
 rw [rune_eq h2]
 simp only [List.length_nil, Nat.zero_add] at h3
 rw [if_pos (by simp; omega), h4]
 simp
theorem str_app {x y : List UInt8} (hx : x.length ≤ 1000000) (hy : y.length ≤ 1000000) {β : Type} (K : List UInt8 → Option β) : (if x.length + y.length ≤ 4611686018427387904 then K (x ++ y) else none) = K (x ++ y) := if_pos (by omega)
theorem cents_Text_eq {c : Int} (hc : c.natAbs ≤ 20000000000000000) : cents_Text c = some (if c.natAbs ≤ mostC then textC c else []) := by
 unfold cents_Text
 dsimp only
 simp only [gPi, gSS, gPb, gPm, gPs, gM, gM2, gAnd, gOr, gAndI, gOrI, gAA, gAO, gOA, gOO, gAAf, gAOf, gOAf, gOOf, gAMf, gOMf, gId]
 simp only [gIn1, gIn2, gIn3, gIn4, gIn5, gIn6, gIn7, gIn8, gId, gIdF, gMb, gMm, gBm, gBb, bs, ms]
 rw [fits_eq, bs]
 by_cases hf : c.natAbs ≤ mostC
 ·have hm : c.natAbs ≤ 1125899906842624 := hf
  rw [decide_eq_true hf, if_pos hf]
  simp only [Bool.not_true, Bool.false_eq_true, if_false]
  have e0 : (if decide (c < 0) = true then some (IntKind.i64.wrap (0 - c), ([45] : List UInt8), ()) else some (c, [], ())) = some ((c.natAbs : Int), (if c < 0 then [45] else []), ()) := by
   by_cases h : c < 0
   ·rw [decide_eq_true h, if_pos rfl, if_pos h, w64' (by omega) (by omega)]
    congr 2; omega
   ·rw [decide_eq_false h, if_neg (by decide), if_neg h]
    congr 2; omega
  rw [e0, bs, if_neg (by decide), bs]
  dsimp only
  have e1 : (c.natAbs : Int).tmod 100 = ((c.natAbs % 100 : Nat) : Int) := by rw [Int.tmod_eq_emod_of_nonneg (by omega)]; omega
  have e2 : IntKind.i64.wrap ((c.natAbs : Int).tdiv 100) = ((c.natAbs / 100 : Nat) : Int) := by rw [Int.tdiv_eq_ediv_of_nonneg (by omega), w64' (by omega) (by omega)]; omega
  have e3 : IntKind.i64.wrap (((c.natAbs % 100 : Nat) : Int).tdiv 10) = ((c.natAbs / 10 % 10 : Nat) : Int) := by rw [Int.tdiv_eq_ediv_of_nonneg (by omega), w64' (by omega) (by omega)]; omega
  have e4 : ((c.natAbs % 100 : Nat) : Int).tmod 10 = ((c.natAbs % 10 : Nat) : Int) := by rw [Int.tmod_eq_emod_of_nonneg (by omega)]; omega
  rw [if_neg (by decide), bs, e1, e2, whole_eq (by omega), bs]
  have hl : (Lib.decDigits (c.natAbs / 100)).length ≤ 20 := digits_len (by omega) (by omega)
  have hs : (if c < 0 then ([45] : List UInt8) else []).length ≤ 1 := by split <;> simp
  rw [str_app (by omega) (by omega) (fun x => if x.length + ([46] : List UInt8).length ≤ 4611686018427387904 then _ else _)]
  rw [if_pos (by simp only [List.length_append]; simp only [List.length_singleton]; omega)]
  rw [if_neg (by decide), bs, e3, whole_eq (by omega), bs, digits_small (Nat.mod_lt _ (by omega))]
  rw [if_pos (by simp only [List.length_append, List.length_singleton]; omega)]
  rw [if_neg (by decide), bs, e4, whole_eq (by omega), bs, digits_small (Nat.mod_lt _ (by omega))]
  rw [if_pos (by simp only [List.length_append, List.length_singleton]; omega)]
  simp [textC, textN]
 ·rw [decide_eq_false hf, if_neg hf]
  rfl
theorem text_len (c : Int) (h : c.natAbs ≤ mostC) : (textC c).length ≤ 20 := by
 have hm : c.natAbs ≤ 1125899906842624 := h
 have hl : (Lib.decDigits (c.natAbs / 100)).length ≤ 14 := digits_len (by omega) (by omega)
 unfold textC textN
 simp only [List.length_append, List.length_cons, List.length_nil]
 split <;> simp <;> omega
abbrev CA := Nat × Nat × Bool
def cstep (a : CA) (x : UInt8) : CA ⊕ ((List UInt8 × Int × Bool × Unit) ⊕ (Int × Int)) :=
 if a.1 = 0 ∧ x = 45 then .inl (a.1 + 1, a.2.1, true)
 else if x = 46 then .inl (a.1 + 1, a.2.1, a.2.2)
 else if dgt x = true ∧ a.2.1 ≤ mostC then .inl (a.1 + 1, a.2.1 * 10 + (x.toNat - 48), a.2.2) else .inr (.inr (0, 3))
theorem cents_loop {s : List UInt8} (h : s.length ≤ 1000000) : iter cents_Parse_loop1 (s, 0, false, (s.length : Int), 0, ()) = some (foldE cstep (fun a => .inl (s, (a.2.1 : Int), a.2.2, ())) (0, 0, false) s) := by
 have e := iter_fold0 (b := cents_Parse_loop1) (A := CA) (fun i a => (s, (a.2.1 : Int), a.2.2, (s.length : Int), (i : Int), ())) cstep (fun a => .inl (s, (a.2.1 : Int), a.2.2, ())) (fun i a => a.1 = i ∧ a.2.1 ≤ mostC * 10 + 9) s (a := (0, 0, false)) ⟨rfl, by simp⟩ ?_ ?_ ?_
 ·exact e
 ·rintro i x ⟨j, c, bl⟩ hx ⟨rfl, hc⟩
  dsimp only at hc ⊢
  have hm : mostC = 1125899906842624 := rfl
  have hi := (List.getElem?_eq_some_iff.1 hx).1
  have ws := w_succ (show j < 9223372036854775807 by omega)
  unfold cents_Parse_loop1
  dsimp only
  simp only [gPi, gSS, gPb, gPm, gPs, gM, gM2, gAnd, gOr, gAndI, gOrI, gAA, gAO, gOA, gOO, gAAf, gAOf, gOAf, gOOf, gAMf, gOMf, gId]
  simp only [gIn1, gIn2, gIn3, gIn4, gIn5, gIn6, gIn7, gIn8, gId, gIdF, gMb, gMm, gBm, gBb, bs, ms]
  simp only [lt_len hx, if_true, sAt_nat hx, bs]
  have e0 : (if ((j : Int) == 0) = true then some ((x.toNat : Int) == 45) else some false) = some (decide (j = 0 ∧ x = 45)) := by
   by_cases h0 : j = 0
   ·subst h0
    rw [show (((0 : Nat) : Int) == 0) = true from rfl, if_pos rfl]
    by_cases h1 : x = 45
    ·subst h1; rfl
    ·have : ¬ (x.toNat : Int) = 45 := fun hh => h1 (UInt8.toNat_inj.1 (by show x.toNat = 45; omega))
     simp [h1, this]
   ·have : ¬ (j : Int) = 0 := by omega
    simp [h0, this]
  have e1 : ((x.toNat : Int) == 46) = decide (x = 46) := by
   by_cases h1 : x = 46
   ·subst h1; rfl
   ·have : ¬ (x.toNat : Int) = 46 := fun hh => h1 (UInt8.toNat_inj.1 (by show x.toNat = 46; omega))
    simp [h1, this]
  have e2 : (if decide ((x.toNat : Int) < 48) = true then some true else some (decide ((x.toNat : Int) > 57))) = some (!dgt x) := by
   unfold dgt
   cases decide ((x.toNat : Int) < 48) <;> cases decide ((x.toNat : Int) > 57) <;> rfl
  simp only [e0, e1, e2, bs]
  unfold cstep
  by_cases q1 : j = 0 ∧ x = 45
  ·have r1 : (j = 0 ∧ x = 45) = True := eq_true q1
   simp only [r1, decide_true, if_true, bs, ws, turnE]
  ·have r1 : (j = 0 ∧ x = 45) = False := eq_false q1
   by_cases q2 : x = 46
   ·have r2 : (x = 46) = True := eq_true q2
    simp only [r1, r2, decide_true, decide_false, Bool.false_eq_true, if_false, if_true, bs, ws, turnE]
   ·have r2 : (x = 46) = False := eq_false q2
    by_cases q3 : dgt x = true
    ·have hd := dgt_iff.1 q3
     by_cases q4 : c ≤ mostC
     ·have c4 : decide ((c : Int) > 1125899906842624) = false := decide_eq_false (by omega)
      have q : (dgt x = true ∧ c ≤ mostC) = True := eq_true ⟨q3, q4⟩
      have w1 : IntKind.u8.wrap ((x.toNat : Int) - 48) = ((x.toNat - 48 : Nat) : Int) := by rw [IntKind.wrap_u8]; omega
      have w2 : IntKind.i64.wrap ((x.toNat - 48 : Nat) : Int) = ((x.toNat - 48 : Nat) : Int) := w64' (by omega) (by omega)
      have w3 : IntKind.i64.wrap (10 * (c : Int)) = 10 * (c : Int) := w64' (by omega) (by omega)
      have w4 : IntKind.i64.wrap (10 * (c : Int) + ((x.toNat - 48 : Nat) : Int)) = ((c * 10 + (x.toNat - 48) : Nat) : Int) := by rw [w64' (by omega) (by omega)]; omega
      simp only [r1, r2, decide_false, q3, Bool.not_true, Bool.false_eq_true, if_false, if_true, bs, c4, w1, w2, w3, w4, ws, turnE, q, q4, and_self]
     ·have c4 : decide ((c : Int) > 1125899906842624) = true := decide_eq_true (by omega)
      simp only [r1, r2, decide_false, q3, Bool.not_true, Bool.false_eq_true, if_false, if_true, bs, c4, turnE, q4, and_false]
    ·have q3' : dgt x = false := by simpa using q3
     simp only [r1, r2, decide_false, q3', Bool.not_false, if_true, Bool.false_eq_true, if_false, bs, turnE, false_and]
 ·rintro i x ⟨j, c, bl⟩ a' hx ⟨rfl, hc⟩ hst
  dsimp only at hc
  unfold cstep at hst
  dsimp only at hst
  split at hst
  ·cases hst; exact ⟨rfl, hc⟩
  ·split at hst
   ·cases hst; exact ⟨rfl, hc⟩
   ·split at hst
    ·rename_i hq
     cases hst
     have hd := dgt_iff.1 hq.1
     refine ⟨rfl, ?_⟩
     have := hq.2
     dsimp only
     omega
    ·cases hst
 ·rintro ⟨j, c, bl⟩ ⟨hj, hc⟩
  unfold cents_Parse_loop1
  dsimp only
  simp only [nlt_len, Bool.false_eq_true, if_false]
theorem cfold_digits (fin : CA → ((List UInt8 × Int × Bool × Unit) ⊕ (Int × Int))) : ∀ (D X : List UInt8) (j c : Nat) (bl : Bool), D.all dgt = true → numV c D ≤ mostC → foldE cstep fin (j, c, bl) (D ++ X) = foldE cstep fin (j + D.length, numV c D, bl) X
 | [], X, j, c, bl, _, _ => rfl
 | d :: D, X, j, c, bl, h, hn => by
  simp only [List.all_cons, Bool.and_eq_true] at h
  have hd := dgt_iff.1 h.1
  have e : numV c (d :: D) = numV (c * 10 + (d.toNat - 48)) D := rfl
  have h1 := numV_le D (c * 10 + (d.toNat - 48))
  rw [e] at hn ⊢
  have n1 : ¬ d = 45 := by intro hh; subst hh; exact absurd hd.1 (by decide)
  have n2 : ¬ d = 46 := by intro hh; subst hh; exact absurd hd.1 (by decide)
  rw [List.cons_append, foldE, cstep, if_neg (fun hh => n1 hh.2), if_neg n2, if_pos ⟨h.1, by show c ≤ mostC; omega⟩]
  dsimp only
  rw [cfold_digits fin D X (j + 1) _ bl h.2 hn]
  congr 2
  simp only [List.length_cons]
  omega
theorem cfold_text (fin : CA → ((List UInt8 × Int × Bool × Unit) ⊕ (Int × Int))) {W : List UInt8} {a b : UInt8} (hW : canon W = true) (ha : dgt a = true) (hb : dgt b = true) (hn : bodyN W a b ≤ mostC) (j : Nat) (bl : Bool) :
  ∃ k, foldE cstep fin (j, 0, bl) (W ++ [46, a, b]) = fin (k, bodyN W a b, bl) := by
 have hv : numV 0 W ≤ mostC := by rw [bodyN_eq] at hn; omega
 have e : bodyN W a b = numV (numV 0 W) [a, b] := by rw [bodyN_eq]; rfl
 have hpos : ∀ x : UInt8, dgt x = true → ¬ x = 45 ∧ ¬ x = 46 := by
  intro x hx
  have := dgt_iff.1 hx
  constructor <;> (intro hh; subst hh; exact absurd this.1 (by decide))
 refine ⟨j + W.length + 1 + [a, b].length, ?_⟩
 rw [cfold_digits fin W _ j 0 bl (canon_all hW) hv, foldE, cstep, if_neg (fun hh => absurd hh.2 (by decide)), if_pos rfl]
 dsimp only
 have := cfold_digits fin [a, b] [] (j + W.length + 1) (numV 0 W) bl (by simp [ha, hb]) (by rw [← e]; exact hn)
 rw [List.append_nil] at this
 rw [this, ← e]
 rfl
theorem cents_of {s : List UInt8} {c : Int} (hc : c.natAbs ≤ 20000000000000000) : (if (s == []) = true then some true else (cents_Text c).bind fun v => some (!v == s)) = some (decide (¬ IsC s c)) := by
 rw [cents_Text_eq hc, bs]
 by_cases h0 : s = []
 ·subst h0
  have : ¬ IsC [] c := by
   intro h
   obtain ⟨W, a, b, _, _, _, _, _, e⟩ := isC_form h
   have := congrArg List.length e
   simp at this
  simp [this]
 ·have e1 : (s == []) = false := by simpa using h0
  rw [e1]
  simp only [Bool.false_eq_true, if_false, Option.some.injEq]
  by_cases hf : c.natAbs ≤ mostC
  ·rw [if_pos hf]
   by_cases ht : textC c = s
   ·have : IsC s c := ⟨hf, ht⟩
    simp [this, ht]
   ·have : ¬ IsC s c := fun h => ht h.2
    simp [this, ht]
  ·rw [if_neg hf]
   have : ¬ IsC s c := fun h => hf h.1
   have h1 : ¬ [] = s := fun h => h0 h.symm
   simp [this, h1, h0]
theorem cents_Parse_eq {s : List UInt8} (h : s.length ≤ 1000000) : (∃ c, IsC s c ∧ cents_Parse s = some (c, 0)) ∨ ((∀ c, ¬ IsC s c) ∧ cents_Parse s = some (0, 3)) := by
 have hs := cents_loop h
 have hP : ∀ {o : (List UInt8 × Int × Bool × Unit) ⊕ (Int × Int)}, foldE cstep (fun a => .inl (s, (a.2.1 : Int), a.2.2, ())) (0, 0, false) s = o → cents_Parse s = (match o with
   | Sum.inl p190 => (if p190.2.2.1 = true then some (p190.1, IntKind.i64.wrap (0 - p190.2.1), ()) else some (p190.1, p190.2.1, ())).bind fun o =>
     (if (o.1 == []) = true then some true else (cents_Text o.2.1).bind fun v => some (!v == o.1)).bind fun x54 => if x54 = true then some (0, 3) else some (o.2.1, 0)
   | Sum.inr q191 => some q191) := by
  intro o ho
  unfold cents_Parse
  dsimp only
  simp only [gPi, gSS, gPb, gPm, gPs, gM, gM2, gAnd, gOr, gAndI, gOrI, gAA, gAO, gOA, gOO, gAAf, gAOf, gOAf, gOOf, gAMf, gOMf, gId]
  simp only [gIn1, gIn2, gIn3, gIn4, gIn5, gIn6, gIn7, gIn8, gId, gIdF, gMb, gMm, gBm, gBb, bs, ms]
  rw [hs, ho, bs]
  rfl
 have fin : ∀ {c : Nat} {bl : Bool}, c ≤ mostC * 10 + 9 → foldE cstep (fun a => .inl (s, (a.2.1 : Int), a.2.2, ())) (0, 0, false) s = .inl (s, (c : Int), bl, ()) → cents_Parse s = some (if IsC s (if bl then -(c : Int) else (c : Int)) then ((if bl then -(c : Int) else (c : Int)), 0) else (0, 3)) := by
  intro c bl hc ho
  have hm : mostC = 1125899906842624 := rfl
  rw [hP ho]
  dsimp only
  have e0 : (if bl = true then some (s, IntKind.i64.wrap (0 - (c : Int)), ()) else some (s, (c : Int), ())) = some (s, (if bl then -(c : Int) else (c : Int)), ()) := by
   cases bl
   ·rfl
   ·rw [if_pos rfl, w64' (by omega) (by omega)]
    congr 2
    simp
  rw [e0, bs]
  dsimp only
  have hb : (if bl then -(c : Int) else (c : Int)).natAbs ≤ 20000000000000000 := by cases bl <;> simp <;> omega
  rw [cents_of hb, bs]
  by_cases hI : IsC s (if bl then -(c : Int) else (c : Int))
  ·rw [if_pos hI, decide_eq_false (fun hh => hh hI), if_neg (by decide)]
  ·rw [if_neg hI, decide_eq_true hI, if_pos rfl]
 by_cases hI : ∃ c, IsC s c
 ·left
  obtain ⟨c, hc⟩ := hI
  refine ⟨c, hc, ?_⟩
  obtain ⟨W, a, b, hW, ha, hb, hn, hle, e⟩ := isC_form hc
  by_cases h0 : c < 0
  ·rw [if_pos h0] at e
   have e' : s = 45 :: (W ++ [46, a, b]) := e
   obtain ⟨k, hk⟩ := cfold_text (fun a => .inl (s, (a.2.1 : Int), a.2.2, ())) hW ha hb hle 1 true
   have hf : foldE cstep (fun a => .inl (s, (a.2.1 : Int), a.2.2, ())) (0, 0, false) s = .inl (s, (bodyN W a b : Int), true, ()) := by
    conv => lhs; rw [e']
    rw [foldE, cstep, if_pos ⟨rfl, rfl⟩]
    dsimp only
    rw [← e']
    exact hk
   rw [fin (by omega) hf]
   have : (if true = true then -(bodyN W a b : Int) else (bodyN W a b : Int)) = c := by rw [if_pos rfl]; omega
   rw [this, if_pos hc]
  ·rw [if_neg h0, List.nil_append] at e
   obtain ⟨k, hk⟩ := cfold_text (fun a => .inl (s, (a.2.1 : Int), a.2.2, ())) hW ha hb hle 0 false
   have hf : foldE cstep (fun a => .inl (s, (a.2.1 : Int), a.2.2, ())) (0, 0, false) s = .inl (s, (bodyN W a b : Int), false, ()) := by
    conv => lhs; rw [e]
    rw [← e]
    rw [← e] at hk
    exact hk
   rw [fin (by omega) hf]
   have : (if false = true then -(bodyN W a b : Int) else (bodyN W a b : Int)) = c := by rw [if_neg (by decide)]; omega
   rw [this, if_pos hc]
 ·right
  have hno : ∀ c, ¬ IsC s c := fun c hc => hI ⟨c, hc⟩
  refine ⟨hno, ?_⟩
  have key : ∀ (l : List UInt8) (a : CA), a.2.1 ≤ mostC * 10 + 9 → (∃ c bl, c ≤ mostC * 10 + 9 ∧ foldE cstep (fun a => .inl (s, (a.2.1 : Int), a.2.2, ())) a l = .inl (s, (c : Int), bl, ())) ∨ foldE cstep (fun a => .inl (s, (a.2.1 : Int), a.2.2, ())) a l = .inr (0, 3) := by
   intro l
   induction l with
   | nil => intro a ha; exact .inl ⟨a.2.1, a.2.2, ha, rfl⟩
   | cons x l ih =>
    intro a ha
    rw [foldE]
    unfold cstep
    split <;> rename_i q1
    ·split at q1
     ·cases q1; exact ih _ ha
     ·split at q1
      ·cases q1; exact ih _ ha
      ·split at q1
       ·rename_i q2
        cases q1
        have hd := dgt_iff.1 q2.1
        have := q2.2
        exact ih _ (by dsimp only; omega)
       ·cases q1
    ·split at q1
     ·cases q1
     ·split at q1
      ·cases q1
      ·split at q1
       ·cases q1
       ·cases q1; exact .inr rfl
  rcases key s (0, 0, false) (by simp) with ⟨c, bl, hc, ho⟩ | ho
  ·rw [fin hc ho, if_neg (hno _)]
  ·rw [hP ho]
theorem r01_loop (r : List UInt8) (neg : Bool) (h : r.length ≤ 17) (h4 : 4 ≤ r.length) {W : List UInt8} {p a b : UInt8} (hr : r = W ++ [p, a, b]) :
  iter ref01_Parse_loop1 (r, neg, 0, 0, ()) = some (if W.all dgt = true ∧ dgt a = true ∧ dgt b = true then .inl (r, neg, (bodyN W a b : Int), ()) else .inr (0, false)) := by
 have hlen : r.length = W.length + 3 := by rw [hr]; simp
 have w3 : IntKind.i64.wrap ((r.length : Int) - 3) = (W.length : Int) := by rw [w64' (by omega) (by omega)]; omega
 have byte : ∀ {i n : Nat} {x : UInt8}, r[i]? = some x → i ≠ W.length → n ≤ 1000000000000000000 - 9 → n * 10 ≤ 4611686018427387904 →
   ref01_Parse_loop1 (r, neg, (n : Int), (i : Int), ()) = some (if dgt x = true then .inl (r, neg, ((n * 10 + (x.toNat - 48) : Nat) : Int), ((i + 1 : Nat) : Int), ()) else .inr (.inr (0, false))) := by
  intro i n x hx hi hn hn'
  have hil := (List.getElem?_eq_some_iff.1 hx).1
  have ws := w_succ (show i < 9223372036854775807 by omega)
  have c0 : ((i : Int) == (W.length : Int)) = false := by
   have : ¬ (i : Int) = (W.length : Int) := by omega
   simpa using this
  have e2 : (if decide ((x.toNat : Int) < 48) = true then some true else some (decide ((x.toNat : Int) > 57))) = some (!dgt x) := by
   unfold dgt
   cases decide ((x.toNat : Int) < 48) <;> cases decide ((x.toNat : Int) > 57) <;> rfl
  unfold ref01_Parse_loop1
  dsimp only
  simp only [gPi, gSS, gPb, gPm, gPs, gM, gM2, gAnd, gOr, gAndI, gOrI, gAA, gAO, gOA, gOO, gAAf, gAOf, gOAf, gOOf, gAMf, gOMf, gId]
  simp only [gIn1, gIn2, gIn3, gIn4, gIn5, gIn6, gIn7, gIn8, gId, gIdF, gMb, gMm, gBm, gBb, bs, ms]
  simp only [lt_len hx, if_true, w3, c0, Bool.false_eq_true, if_false, sAt_nat hx, bs, e2]
  by_cases hd : dgt x = true
  ·have hd' := dgt_iff.1 hd
   have w1 : IntKind.u8.wrap ((x.toNat : Int) - 48) = ((x.toNat - 48 : Nat) : Int) := by rw [IntKind.wrap_u8]; omega
   have w2 : IntKind.i64.wrap ((x.toNat - 48 : Nat) : Int) = ((x.toNat - 48 : Nat) : Int) := w64' (by omega) (by omega)
   have w4 : IntKind.i64.wrap (10 * (n : Int)) = 10 * (n : Int) := w64' (by omega) (by omega)
   have w5 : IntKind.i64.wrap (10 * (n : Int) + ((x.toNat - 48 : Nat) : Int)) = ((n * 10 + (x.toNat - 48) : Nat) : Int) := by rw [w64' (by omega) (by omega)]; omega
   simp only [hd, Bool.not_true, Bool.false_eq_true, if_false, if_true, bs, w1, w2, w4, w5, ws]
  ·have hd' : dgt x = false := by simpa using hd
   simp only [hd', Bool.not_false, if_true, bs, Bool.false_eq_true, if_false]
 have bound : ∀ {l : List UInt8} {n m k : Nat}, l.all dgt = true → n < 10 ^ m → m + l.length ≤ k → numV n l < 10 ^ k := by
  intro l
  induction l with
  | nil => intro n m k _ hn hk; exact Nat.lt_of_lt_of_le hn (Nat.pow_le_pow_right (by omega) (by simpa using hk))
  | cons d l ih =>
   intro n m k hd hn hk
   simp only [List.all_cons, Bool.and_eq_true] at hd
   have hd' := dgt_iff.1 hd.1
   have e : numV n (d :: l) = numV (n * 10 + (d.toNat - 48)) l := rfl
   rw [e]
   refine ih (m := m + 1) hd.2 ?_ (by simp at hk; omega)
   rw [Nat.pow_succ]
   omega
 have go : ∀ (t pre : List UInt8) (n : Nat), W = pre ++ t → pre.all dgt = true → n = numV 0 pre → (t.all dgt = true → iter ref01_Parse_loop1 (r, neg, (n : Int), (pre.length : Int), ()) = iter ref01_Parse_loop1 (r, neg, (numV 0 W : Int), (W.length : Int), ())) ∧ (t.all dgt = false → iter ref01_Parse_loop1 (r, neg, (n : Int), (pre.length : Int), ()) = some (.inr (0, false))) := by
  intro t
  induction t with
  | nil =>
   intro pre n hW hp hn
   rw [List.append_nil] at hW
   subst hW
   subst hn
   exact ⟨fun _ => rfl, fun hh => by cases hh⟩
  | cons x t ih =>
   intro pre n hW hp hn
   have hx : r[pre.length]? = some x := by rw [hr, hW]; simp
   have hpl : pre.length + t.length + 1 = W.length := by rw [hW]; simp; omega
   have hnb : n < 10 ^ 14 := by rw [hn]; exact bound (m := 0) hp (by decide) (by omega)
   have hb := byte (n := n) hx (by omega) (by omega) (by omega)
   have ih' := ih (pre ++ [x]) (n * 10 + (x.toNat - 48)) (by rw [hW]; simp)
   constructor
   ·intro hd
    simp only [List.all_cons, Bool.and_eq_true] at hd
    rw [hd.1, if_pos rfl] at hb
    have := (ih' (by simp [hp, hd.1]) (by rw [hn, numV_app])).1 hd.2
    rw [List.length_append] at this
    rw [iter_eq, hb]
    exact this
   ·intro hd
    by_cases hd1 : dgt x = true
    ·rw [hd1, if_pos rfl] at hb
     have h2 : t.all dgt = false := by simpa [hd1] using hd
     have := (ih' (by simp [hp, hd1]) (by rw [hn, numV_app])).2 h2
     rw [List.length_append] at this
     rw [iter_eq, hb]
     exact this
    ·rw [if_neg hd1] at hb
     rw [iter_eq, hb]
     rfl
 obtain ⟨g1, g2⟩ := go W [] 0 rfl rfl rfl
 rw [show (([] : List UInt8).length : Int) = 0 from rfl, show ((0 : Nat) : Int) = 0 from rfl] at g1 g2
 cases hd : W.all dgt with
 | false =>
  rw [g2 hd, if_neg (fun hh => absurd hh.1 (by decide))]
 | true =>
  rw [g1 hd]
  have hnb : numV 0 W < 10 ^ 14 := bound (m := 0) hd (by decide) (by omega)
  have hx : r[W.length]? = some p := by rw [hr]; simp
  have hp : ref01_Parse_loop1 (r, neg, (numV 0 W : Int), (W.length : Int), ()) = some (.inl (r, neg, (numV 0 W : Int), ((W.length + 1 : Nat) : Int), ())) := by
   have ws := w_succ (show W.length < 9223372036854775807 by omega)
   unfold ref01_Parse_loop1
   dsimp only
   simp only [gPi, gSS, gPb, gPm, gPs, gM, gM2, gAnd, gOr, gAndI, gOrI, gAA, gAO, gOA, gOO, gAAf, gAOf, gOAf, gOOf, gAMf, gOMf, gId]
   simp only [gIn1, gIn2, gIn3, gIn4, gIn5, gIn6, gIn7, gIn8, gId, gIdF, gMb, gMm, gBm, gBb, bs, ms]
   have c0 : ((W.length : Int) == (W.length : Int)) = true := by simp
   simp only [lt_len hx, if_true, w3, c0, bs, ws]
  have ha : r[W.length + 1]? = some a := by rw [hr, List.getElem?_append_right (by omega), show W.length + 1 - W.length = 1 by omega]; rfl
  have hb : r[W.length + 1 + 1]? = some b := by rw [hr, List.getElem?_append_right (by omega), show W.length + 1 + 1 - W.length = 2 by omega]; rfl
  rw [iter_eq, hp]
  show iter ref01_Parse_loop1 (r, neg, (numV 0 W : Int), ((W.length + 1 : Nat) : Int), ()) = _
  rw [iter_eq, byte ha (by omega) (by omega) (by omega)]
  by_cases d1 : dgt a = true
  ·have d1' := dgt_iff.1 d1
   rw [if_pos d1]
   show iter ref01_Parse_loop1 (r, neg, ((numV 0 W * 10 + (a.toNat - 48) : Nat) : Int), ((W.length + 1 + 1 : Nat) : Int), ()) = _
   rw [iter_eq, byte hb (by omega) (by omega) (by omega)]
   by_cases d2 : dgt b = true
   ·rw [if_pos d2, if_pos ⟨rfl, d1, d2⟩]
    show iter ref01_Parse_loop1 (r, neg, (((numV 0 W * 10 + (a.toNat - 48)) * 10 + (b.toNat - 48) : Nat) : Int), ((W.length + 1 + 1 + 1 : Nat) : Int), ()) = _
    rw [← bodyN_eq, show W.length + 1 + 1 + 1 = r.length by omega]
    rw [iter_eq]
    unfold ref01_Parse_loop1
    dsimp only
    rw [nlt_len]
    rfl
   ·rw [if_neg d2, if_neg (fun hh => d2 hh.2.2)]
    rfl
  ·rw [if_neg d1, if_neg (fun hh => d1 hh.2.1)]
   rfl
def sgn (neg : Bool) (r : List UInt8) : List UInt8 := if neg = true then 45 :: r else r
def sgv (neg : Bool) (n : Nat) : Int := if neg = true then -(n : Int) else (n : Int)
theorem isC_split {r : List UInt8} {neg : Bool} {c : Int} (hn : neg = false → r.head? ≠ some 45) (h : IsC (sgn neg r) c) :
  ∃ W a b, r = W ++ [46, a, b] ∧ canon W = true ∧ dgt a = true ∧ dgt b = true ∧ bodyN W a b ≤ mostC ∧ (neg = true → bodyN W a b ≠ 0) ∧ c = (sgv neg (bodyN W a b)) ∧ 4 ≤ r.length ∧ r.length ≤ 17 := by
 obtain ⟨W, a, b, hW, ha, hb, hv, hle, e⟩ := isC_form h
 have hm : mostC = 1125899906842624 := rfl
 have hl : W.length ≤ 14 := by
  have : numV 0 W < 10 ^ 14 := by rw [bodyN_eq] at hle; omega
  rw [← digits_of hW]
  exact digits_len (by omega) this
 have hl0 : 0 < W.length := List.length_pos_iff.2 (canon_ne hW)
 have lens : r = W ++ [46, a, b] → 4 ≤ r.length ∧ r.length ≤ 17 := by
  intro hr
  rw [hr]
  simp
  omega
 unfold sgn at e
 unfold sgv
 cases neg with
 | true =>
  rw [if_pos rfl] at e
  by_cases hc : c < 0
  ·rw [if_pos hc] at e
   have hr : r = W ++ [46, a, b] := by simpa using e
   exact ⟨W, a, b, hr, hW, ha, hb, hle, fun _ => by omega, by rw [if_pos rfl]; omega, lens hr⟩
  ·rw [if_neg hc, List.nil_append] at e
   exact absurd (by rw [← e]; rfl) (canon_head (X := [46, a, b]) hW)
 | false =>
  rw [if_neg (by decide)] at e
  by_cases hc : c < 0
  ·rw [if_pos hc] at e
   exact absurd (by rw [e]; rfl) (hn rfl)
  ·rw [if_neg hc, List.nil_append] at e
   exact ⟨W, a, b, e, hW, ha, hb, hle, fun hh => (by cases hh), by rw [if_neg (by decide)]; omega, lens e⟩
theorem isC_join {r : List UInt8} {neg : Bool} {W : List UInt8} {a b : UInt8} (hr : r = W ++ [46, a, b]) (hW : canon W = true) (ha : dgt a = true) (hb : dgt b = true) (hle : bodyN W a b ≤ mostC) (h0 : neg = true → bodyN W a b ≠ 0) :
  IsC (sgn neg r) (sgv neg (bodyN W a b)) := by
 unfold sgn sgv
 cases neg with
 | true => rw [if_pos rfl, if_pos rfl, hr]; exact isC_neg hW ha hb hle (h0 rfl)
 | false => rw [if_neg (by decide), if_neg (by decide), hr]; exact isC_pos hW ha hb hle
theorem three {r : List UInt8} (h : 3 ≤ r.length) : ∃ W p a b, r = W ++ [p, a, b] := by
 have h1 : (r.drop (r.length - 3)).length = 3 := by simp; omega
 match hd : r.drop (r.length - 3), h1 with
 | [p, a, b], _ => exact ⟨r.take (r.length - 3), p, a, b, by rw [← hd, List.take_append_drop]⟩
theorem r01_body {r : List UInt8} {neg : Bool} (hn : neg = false → r.head? ≠ some 45) (hl : r.length ≤ 1000000) {K : Option (Int × Bool)} (hK : K = ((if decide ((r.length : Int) < 4) = true then some true else some (decide ((r.length : Int) > 17))).bind fun x25 =>
     (if x25 = true then some true else (sAt r (IntKind.i64.wrap ((r.length : Int) - 3))).bind fun v => some (v != 46)).bind fun x33 =>
      if x33 = true then some (0, false) else
       (iter ref01_Parse_loop1 (r, neg, 0, 0, ())).bind fun o =>
        match o with
        | Sum.inl p234 =>
         (sAt p234.1 0).bind fun x64 =>
          (if (x64 == 48) = true then some (decide ((p234.1.length : Int) > 4)) else some false).bind fun x70 =>
           (if x70 = true then some true else some (decide (p234.2.2.1 > 1125899906842624))).bind fun x74 =>
            (if x74 = true then some true else if p234.2.1 = true then some (p234.2.2.1 == 0) else some false).bind fun x81 =>
             if x81 = true then some (0, false)
             else if p234.2.1 = true then some (IntKind.i64.wrap (0 - p234.2.2.1), true) else some (p234.2.2.1, true)
        | Sum.inr q235 => some q235)) :
  (∃ c, IsC (sgn neg r) c ∧ K = some (c, true)) ∨ ((∀ c, ¬ IsC (sgn neg r) c) ∧ K = some (0, false)) := by
 have hm : mostC = 1125899906842624 := rfl
 subst hK
 by_cases h4 : r.length < 4
 ·refine .inr ⟨fun c hc => ?_, ?_⟩
  ·obtain ⟨_, _, _, _, _, _, _, _, _, _, h, _⟩ := isC_split hn hc
   omega
  ·rw [decide_eq_true (show (r.length : Int) < 4 by omega)]; rfl
 ·rw [decide_eq_false (show ¬ (r.length : Int) < 4 by omega)]
  by_cases h17 : 17 < r.length
  ·refine .inr ⟨fun c hc => ?_, ?_⟩
   ·obtain ⟨_, _, _, _, _, _, _, _, _, _, _, h⟩ := isC_split hn hc
    omega
   ·rw [decide_eq_true (show (r.length : Int) > 17 by omega)]; rfl
  ·rw [decide_eq_false (show ¬ (r.length : Int) > 17 by omega)]
   simp only [Bool.false_eq_true, if_false, bs]
   obtain ⟨W, p, a, b, hr⟩ := three (r := r) (by omega)
   have hlen : r.length = W.length + 3 := by rw [hr]; simp
   have w3 : IntKind.i64.wrap ((r.length : Int) - 3) = (W.length : Int) := by rw [w64' (by omega) (by omega)]; omega
   have hx : r[W.length]? = some p := by rw [hr]; simp
   rw [w3, sAt_nat hx, bs]
   by_cases hp : p = 46
   ·subst hp
    rw [show (((46 : UInt8).toNat : Int) != 46) = false from rfl, bs]
    simp only [Bool.false_eq_true, if_false]
    rw [r01_loop r neg (by omega) (by omega) hr]
    by_cases hd : W.all dgt = true ∧ dgt a = true ∧ dgt b = true
    ·rw [if_pos hd, bs]
     dsimp only
     obtain ⟨hd1, hd2, hd3⟩ := hd
     cases W with
     | nil => simp at hlen; omega
     | cons w W =>
      have hx0 : sAt r 0 = some (w.toNat : Int) := sAt_nat (i := 0) (by rw [hr]; rfl)
      rw [hx0, bs]
      have hc0 : (if ((w.toNat : Int) == 48) = true then some (decide ((r.length : Int) > 4)) else some false) = some (noughty (w :: W)) := by
       unfold noughty
       by_cases h : w = 48
       ·subst h
        rw [show (((48 : UInt8).toNat : Int) == 48) = true from rfl, if_pos rfl]
        have e1 : ((48 :: W).head? == some (48 : UInt8)) = true := rfl
        rw [e1, Bool.and_true]
        congr 1
        simp only [List.length_cons] at hlen ⊢
        apply decide_eq_decide.2
        omega
       ·have h1 : ((w.toNat : Int) == 48) = false := by
         have : ¬ (w.toNat : Int) = 48 := fun h' => h (UInt8.toNat_inj.1 (by show w.toNat = 48; omega))
         simpa using this
        have e1 : ((w :: W).head? == some (48 : UInt8)) = false := by simpa using h
        rw [h1, e1, Bool.and_false]; rfl
      rw [hc0, bs]
      have hcan : canon (w :: W) = !noughty (w :: W) := by rw [canon_of _ hd1]; rfl
      have other : ∀ c, IsC (sgn neg r) c → noughty (w :: W) = false ∧ bodyN (w :: W) a b ≤ mostC ∧ (neg = true → bodyN (w :: W) a b ≠ 0) := by
       intro c hc
       obtain ⟨V, a', b', e, hV, _, _, h2, h3, _, _⟩ := isC_split hn hc
       rw [hr] at e
       obtain ⟨e1, e2⟩ := List.append_inj' e rfl
       simp only [List.cons.injEq, and_true, true_and] at e2
       obtain ⟨rfl, rfl⟩ := e2
       subst e1
       rw [hcan] at hV
       exact ⟨by simpa using hV, h2, h3⟩
      cases hno : noughty (w :: W) with
      | true =>
       refine .inr ⟨fun c hc => ?_, rfl⟩
       have := (other c hc).1
       rw [hno] at this; cases this
      | false =>
       simp only [Bool.false_eq_true, if_false, bs]
       by_cases hbig : bodyN (w :: W) a b ≤ mostC
       ·rw [decide_eq_false (show ¬ (bodyN (w :: W) a b : Int) > 1125899906842624 by omega)]
        simp only [Bool.false_eq_true, if_false]
        cases neg with
        | true =>
         simp only [if_true, bs]
         by_cases h0 : bodyN (w :: W) a b = 0
         ·refine .inr ⟨fun c hc => (other c hc).2.2 rfl h0, ?_⟩
          rw [h0]; rfl
         ·refine .inl ⟨_, isC_join (neg := true) hr (by rw [hcan, hno]; rfl) hd2 hd3 hbig (fun _ => h0), ?_⟩
          have e0 : ((bodyN (w :: W) a b : Int) == 0) = false := by
           have : ¬ (bodyN (w :: W) a b : Int) = 0 := by omega
           simpa using this
          rw [e0, if_neg (by decide), w64' (by omega) (by omega)]
          simp [sgv]
        | false =>
         refine .inl ⟨_, isC_join (neg := false) hr (by rw [hcan, hno]; rfl) hd2 hd3 hbig (fun hh => (by cases hh)), rfl⟩
       ·rw [decide_eq_true (show (bodyN (w :: W) a b : Int) > 1125899906842624 by omega)]
        exact .inr ⟨fun c hc => hbig (other c hc).2.1, rfl⟩
    ·rw [if_neg hd]
     refine .inr ⟨fun c hc => ?_, rfl⟩
     obtain ⟨V, a', b', e, hV, h1, h2, _⟩ := isC_split hn hc
     rw [hr] at e
     obtain ⟨e1, e2⟩ := List.append_inj' e rfl
     simp only [List.cons.injEq, and_true, true_and] at e2
     obtain ⟨rfl, rfl⟩ := e2
     subst e1
     exact hd ⟨canon_all hV, h1, h2⟩
   ·have hb : ((p.toNat : Int) != 46) = true := by
     have : ¬ (p.toNat : Int) = 46 := fun h' => hp (UInt8.toNat_inj.1 (by show p.toNat = 46; omega))
     simpa using this
    rw [hb]
    refine .inr ⟨fun c hc => ?_, rfl⟩
    obtain ⟨V, a', b', e, _⟩ := isC_split hn hc
    rw [hr] at e
    obtain ⟨e1, e2⟩ := List.append_inj' e rfl
    simp only [List.cons.injEq] at e2
    exact hp e2.1
theorem ref01_Parse_eq {s : List UInt8} (h : s.length ≤ 1000000) : (∃ c, IsC s c ∧ ref01_Parse s = some (c, true)) ∨ ((∀ c, ¬ IsC s c) ∧ ref01_Parse s = some (0, false)) := by
 by_cases h45 : s.head? = some 45
 ·cases s with
  | nil => cases h45
  | cons x r =>
   simp only [List.head?_cons, Option.some.injEq] at h45
   subst h45
   refine r01_body (r := r) (neg := true) (fun hh => by cases hh) (by simp at h; omega) ?_
   unfold ref01_Parse
   dsimp only
   simp only [gPi, gSS, gPb, gPm, gPs, gM, gM2, gAnd, gOr, gAndI, gOrI, gAA, gAO, gOA, gOO, gAAf, gAOf, gOAf, gOOf, gAMf, gOMf, gId]
   simp only [gIn1, gIn2, gIn3, gIn4, gIn5, gIn6, gIn7, gIn8, gId, gIdF, gMb, gMm, gBm, gBb, bs, ms]
   have e1 : decide (((45 :: r : List UInt8).length : Int) > 0) = true := decide_eq_true (by simp)
   have e2 : sAt (45 :: r) 0 = some 45 := sAt_nat (i := 0) (b := 45) rfl
   have e3 : lSub (45 :: r) 1 ((45 :: r : List UInt8).length : Int) = some r := by
    rw [show (1 : Int) = ((1 : Nat) : Int) from rfl, lSub_nat (by simp) (Nat.le_refl _)]
    simp
   simp only [e1, if_true, e2, bs, show ((45 : Int) == 45) = true from rfl, e3]
   rfl
 ·refine r01_body (r := s) (neg := false) (fun _ => h45) h ?_
  unfold ref01_Parse
  dsimp only
  simp only [gPi, gSS, gPb, gPm, gPs, gM, gM2, gAnd, gOr, gAndI, gOrI, gAA, gAO, gOA, gOO, gAAf, gAOf, gOAf, gOOf, gAMf, gOMf, gId]
  simp only [gIn1, gIn2, gIn3, gIn4, gIn5, gIn6, gIn7, gIn8, gId, gIdF, gMb, gMm, gBm, gBb, bs, ms]
  have e1 : (if decide ((s.length : Int) > 0) = true then (sAt s 0).bind fun v => some (v == 45) else some false) = some false := by
   cases s with
   | nil => rfl
   | cons x r =>
    have e2 : sAt (x :: r) 0 = some (x.toNat : Int) := sAt_nat (i := 0) rfl
    rw [decide_eq_true (show ((x :: r : List UInt8).length : Int) > 0 by simp), if_pos rfl, e2, bs]
    have : ¬ (x.toNat : Int) = 45 := fun h' => h45 (by rw [List.head?_cons, UInt8.toNat_inj.1 (show x.toNat = (45 : UInt8).toNat by show x.toNat = 45; omega)])
    simp [this]
  simp only [e1, bs, Bool.false_eq_true, if_false]
  rfl
end WB
namespace WB
open Go Go.RowKit
set_option linter.unusedSimpArgs false
set_option linter.unusedVariables false
def splitU (c : UInt8) : List UInt8 → List UInt8 → List (List UInt8)
 | cur, [] => [cur]
 | cur, b :: t => if b = c then cur :: splitU c [] t else splitU c (cur ++ [b]) t
def splitB (c : UInt8) (s : List UInt8) : List (List UInt8) := splitU c [] s
def splitF (c : UInt8) : Nat → List UInt8 → List UInt8 → List (List UInt8)
 | _, cur, [] => [cur]
 | 0, cur, s => [cur ++ s]
 | k + 1, cur, b :: t => if b = c then cur :: splitF c k [] t else splitF c (k + 1) (cur ++ [b]) t
theorem splitF_cons (c : UInt8) (k : Nat) (cur : List UInt8) (b : UInt8) (t : List UInt8) : splitF c (k + 1) cur (b :: t) = if b = c then cur :: splitF c k [] t else splitF c (k + 1) (cur ++ [b]) t := rfl
theorem splitU_cons (c : UInt8) (cur : List UInt8) (b : UInt8) (t : List UInt8) : splitU c cur (b :: t) = if b = c then cur :: splitU c [] t else splitU c (cur ++ [b]) t := rfl
theorem splitF_U (c : UInt8) : ∀ (s cur : List UInt8) (k : Nat), s.count c ≤ k → splitF c k cur s = splitU c cur s
 | [], cur, 0, _ => rfl
 | [], cur, k + 1, _ => rfl
 | b :: t, cur, 0, h => by
  have hb : ¬ b = c := by intro e; subst e; simp at h
  have ht : t.count c ≤ 0 := by rw [List.count_cons] at h; omega
  have e := splitF_U c t (cur ++ [b]) 0 ht
  unfold splitU
  rw [if_neg hb, ← e]
  show [cur ++ b :: t] = _
  cases t with
  | nil => rfl
  | cons d t => show _ = [cur ++ [b] ++ d :: t]; simp
 | b :: t, cur, k + 1, h => by
  unfold splitF splitU
  by_cases hb : b = c
  ·subst hb
   rw [if_pos rfl, if_pos rfl, splitF_U b t [] k (by simp at h; omega)]
  ·rw [if_neg hb, if_neg hb, splitF_U c t (cur ++ [b]) (k + 1) (by rw [List.count_cons] at h; omega)]
theorem splitF_no (c : UInt8) : ∀ (s cur : List UInt8) (k : Nat), (∀ b ∈ s, b ≠ c) → splitF c k cur s = [cur ++ s]
 | [], cur, 0, _ => by unfold splitF; simp
 | [], cur, k + 1, _ => by unfold splitF; simp
 | b :: t, cur, 0, h => by unfold splitF; rfl
 | b :: t, cur, k + 1, h => by
  unfold splitF
  rw [if_neg (h b (by simp)), splitF_no c t _ _ fun x hx => h x (by simp [hx])]
  simp
theorem splitF_at (c : UInt8) : ∀ (l t cur : List UInt8) (k : Nat), (∀ b ∈ l, b ≠ c) → splitF c (k + 1) cur (l ++ c :: t) = (cur ++ l) :: splitF c k [] t
 | [], t, cur, k, _ => by rw [List.nil_append, splitF_cons, if_pos rfl]; simp
 | b :: l, t, cur, k, h => by
  rw [List.cons_append, splitF_cons, if_neg (h b (by simp)), splitF_at c l t _ _ fun x hx => h x (by simp [hx])]
  simp
theorem splitU_no (c : UInt8) : ∀ (s cur : List UInt8), (∀ b ∈ s, b ≠ c) → splitU c cur s = [cur ++ s]
 | [], cur, _ => by unfold splitU; simp
 | b :: t, cur, h => by
  unfold splitU
  rw [if_neg (h b (by simp)), splitU_no c t _ fun x hx => h x (by simp [hx])]
  simp
theorem splitU_at (c : UInt8) : ∀ (l t cur : List UInt8), (∀ b ∈ l, b ≠ c) → splitU c cur (l ++ c :: t) = (cur ++ l) :: splitU c [] t
 | [], t, cur, _ => by rw [List.nil_append, splitU_cons, if_pos rfl]; simp
 | b :: l, t, cur, h => by
  rw [List.cons_append, splitU_cons, if_neg (h b (by simp)), splitU_at c l t _ fun x hx => h x (by simp [hx])]
  simp
theorem byte_split (c : UInt8) (s : List UInt8) : (∀ x ∈ s, x ≠ c) ∨ ∃ l t, s = l ++ c :: t ∧ ∀ x ∈ l, x ≠ c := by
 induction s with
 | nil => exact .inl (by simp)
 | cons b s ih =>
  by_cases hb : b = c
  ·exact .inr ⟨[], s, by rw [hb]; rfl, by simp⟩
  ·rcases ih with h | ⟨l, t, rfl, h⟩
   ·exact .inl (by intro x hx; rcases List.mem_cons.1 hx with rfl | hx; exact hb; exact h x hx)
   ·exact .inr ⟨b :: l, t, rfl, by intro x hx; rcases List.mem_cons.1 hx with rfl | hx; exact hb; exact h x hx⟩
theorem splitU_ne (c : UInt8) : ∀ (s cur : List UInt8), splitU c cur s ≠ []
 | [], cur => by unfold splitU; simp
 | b :: t, cur => by unfold splitU; split; simp; exact splitU_ne c t _
theorem splitU_len (c : UInt8) : ∀ (s cur : List UInt8), (splitU c cur s).length = s.count c + 1
 | [], cur => rfl
 | b :: t, cur => by
  unfold splitU
  rw [List.count_cons]
  by_cases hb : b = c
  ·subst hb; rw [if_pos rfl, List.length_cons, splitU_len b t []]; simp
  ·rw [if_neg hb, splitU_len c t _]; simp [hb]
theorem splitU_word (c : UInt8) : ∀ (s cur : List UInt8), (∀ x ∈ cur, x ≠ c) → ∀ w ∈ splitU c cur s, (∀ x ∈ w, x ≠ c) ∧ w.length ≤ cur.length + s.length ∧ (∀ x ∈ w, x ∈ cur ∨ x ∈ s)
 | [], cur, h, w, hw => by unfold splitU at hw; simp at hw; subst hw; exact ⟨h, by simp, fun x hx => .inl hx⟩
 | b :: t, cur, h, w, hw => by
  unfold splitU at hw
  split at hw
  ·rcases List.mem_cons.1 hw with rfl | hw
   ·exact ⟨h, by simp, fun x hx => .inl hx⟩
   ·obtain ⟨h1, h2, h3⟩ := splitU_word c t [] (by simp) w hw
    exact ⟨h1, by simp at h2 ⊢; omega, fun x hx => by rcases h3 x hx with h4 | h4; cases h4; exact .inr (by simp [h4])⟩
  ·rename_i hb
   obtain ⟨h1, h2, h3⟩ := splitU_word c t (cur ++ [b]) (by intro x hx; rcases List.mem_append.1 hx with hx | hx; exact h x hx; simp at hx; subst hx; exact hb) w hw
   exact ⟨h1, by simp at h2 ⊢; omega, fun x hx => by
    rcases h3 x hx with h4 | h4
    ·rcases List.mem_append.1 h4 with h4 | h4
     ·exact .inl h4
     ·simp at h4; exact .inr (by simp [h4])
    ·exact .inr (by simp [h4])⟩
theorem idx_not {l : List UInt8} {c : UInt8} (h : ∀ b ∈ l, b ≠ c) : Lib.indexByte l c = -1 := by
 induction l with
 | nil => rfl
 | cons b t ih =>
  have hb : (b == c) = false := by simpa using h b (by simp)
  simp [Lib.indexByte, hb, ih fun x hx => h x (by simp [hx])]
theorem idx_at {l t : List UInt8} {c : UInt8} (h : ∀ b ∈ l, b ≠ c) : Lib.indexByte (l ++ c :: t) c = (l.length : Int) := by
 induction l with
 | nil => simp [Lib.indexByte]
 | cons b u ih =>
  have hb : (b == c) = false := by simpa using h b (by simp)
  have e := ih fun x hx => h x (by simp [hx])
  simp only [List.cons_append, Lib.indexByte, hb, e]
  have : (((u.length : Int)) == -1) = false := by simp
  simp [this]
theorem Index_eq (s : List UInt8) (c : UInt8) : strings_Index (s, [c]) = some (Lib.indexByte s c) := rfl
theorem gs_loop (c : UInt8) : ∀ (k : Nat) (done : List (List UInt8)) (s : List UInt8), s.length ≤ 1000000 → done.length + k ≤ 1000000 →
  ∃ (s' : List UInt8) (i : Nat) (a : List (List UInt8)), iter strings_genSplit_loop1 (s, [c], 0, ((done.length + k : Nat) : Int), (done.length : Int), done ++ List.replicate (k + 1) [], (), ()) = some (s', (i : Int), a, (), ()) ∧ i < a.length ∧ i ≤ 1000000 ∧ (a.set i s').take (i + 1) = done ++ splitF c k [] s := by
 intro k
 induction k with
 | zero =>
  intro done s hs hd
  refine ⟨s, done.length, done ++ List.replicate 1 [], ?_, by simp, by omega, ?_⟩
  ·rw [iter_eq]
   unfold strings_genSplit_loop1
   dsimp only
   rw [decide_eq_false (show ¬ (done.length : Int) < ((done.length + 0 : Nat) : Int) by omega)]
   rfl
  ·have e : (done ++ List.replicate 1 []).set done.length s = done ++ [s] := by simp
   rw [e]
   have : splitF c 0 [] s = [s] := by cases s <;> rfl
   rw [this, List.take_of_length_le (by simp)]
 | succ k ih =>
  intro done s hs hd
  have hlt : decide ((done.length : Int) < ((done.length + (k + 1) : Nat) : Int)) = true := decide_eq_true (by omega)
  rcases byte_split c s with h | ⟨l, t, rfl, h⟩
  ·refine ⟨s, done.length, done ++ List.replicate (k + 1 + 1) [], ?_, by simp, by omega, ?_⟩
   ·rw [iter_eq]
    unfold strings_genSplit_loop1
    dsimp only
    rw [hlt, if_pos rfl, Index_eq, idx_not h, bs]
    rfl
   ·have e : (done ++ List.replicate (k + 1 + 1) []).set done.length s = done ++ s :: List.replicate (k + 1) [] := by
     rw [List.replicate_succ]; simp
    rw [e, splitF_no c s [] (k + 1) h]
    rw [show done ++ s :: List.replicate (k + 1) [] = (done ++ [s]) ++ List.replicate (k + 1) [] by simp]
    rw [List.take_append_of_le_length (by simp), List.take_of_length_le (by simp)]
    rfl
  ·have hl : l.length + t.length + 1 ≤ 1000000 := by simp at hs; omega
   obtain ⟨s', i, a, h1, h2, h3, h4⟩ := ih (done ++ [l]) t (by omega) (by simp; omega)
   refine ⟨s', i, a, ?_, h2, h3, ?_⟩
   ·rw [iter_eq]
    unfold strings_genSplit_loop1
    dsimp only
    rw [hlt, if_pos rfl, Index_eq, idx_at h, bs]
    have c1 : decide ((l.length : Int) < 0) = false := decide_eq_false (by omega)
    rw [c1]
    simp only [Bool.false_eq_true, if_false]
    have w1 : IntKind.i64.wrap ((l.length : Int) + 0) = (l.length : Int) := by rw [w64' (by omega) (by omega)]; omega
    have l1 : lSub (l ++ c :: t) 0 (l.length : Int) = some l := by
     have := lSub_nat (xs := l ++ c :: t) (i := 0) (j := l.length) (by omega) (by simp)
     simpa using this
    have w2 : IntKind.i64.wrap ((l.length : Int) + (([c] : List UInt8).length : Int)) = ((l.length + 1 : Nat) : Int) := by
     rw [w64' (by omega) (by simp only [List.length_cons, List.length_nil]; omega)]; simp
    have l2 : lSub (l ++ c :: t) ((l.length + 1 : Nat) : Int) (((l ++ c :: t) : List UInt8).length : Int) = some t := by
     have := lSub_nat (xs := l ++ c :: t) (i := l.length + 1) (j := (l ++ c :: t).length) (by simp) (by omega)
     rw [this, List.take_length]
     simp
    have w3 : IntKind.i64.wrap ((done.length : Int) + 1) = (((done ++ [l]).length : Nat) : Int) := by rw [w64' (by omega) (by omega)]; simp
    have hin : 0 ≤ (done.length : Int) ∧ (done.length : Int) < ((done ++ List.replicate (k + 1 + 1) [] : List (List UInt8)).length : Int) := by simp; omega
    have hget : (done ++ List.replicate (k + 1 + 1) [])[(done.length : Int).toNat]? = some ([] : List UInt8) := by
     rw [Int.toNat_natCast, List.replicate_succ]; simp
    have hset : (done ++ List.replicate (k + 1 + 1) []).set (done.length : Int).toNat l = (done ++ [l]) ++ List.replicate (k + 1) [] := by
     rw [Int.toNat_natCast, List.replicate_succ]; simp
    rw [w1, l1, bs, if_pos hin, bs, hget, hset, ms, bs, w2, l2, bs, w3]
    have e1 : ((done ++ [l]).length + k : Nat) = done.length + (k + 1) := by simp; omega
    rw [e1] at h1
    exact h1
   ·rw [h4, splitF_at c l t [] k h]; simp
theorem genSplit_fin {c : UInt8} {s : List UInt8} {k : Nat} (hs : s.length ≤ 1000000) (hk : k ≤ 1000000) {n : Int} (hn : n = ((k + 1 : Nat) : Int)) :
  ((if 0 ≤ n ∧ n ≤ n ∧ n * (16 : Int) ≤ 140737488355328 ∧ n ≤ 4611686018427387904 then some (List.replicate n.toNat ([] : List UInt8)) else none).bind fun l31 =>
    Option.bind ((iter strings_genSplit_loop1 (s, [c], (0 : Int), IntKind.i64.wrap (n - (1 : Int)), (0 : Int), l31, (), ())).bind fun o => some (o.1, o.2.1, o.2.2.1, (), ())) fun o =>
    Option.bind (if 0 ≤ o.2.1 ∧ o.2.1 < (o.2.2.1.length : Int) then some o.2.1.toNat else none) fun x61 =>
    Option.bind ((o.2.2.1[x61]?).map (fun el18 => o.2.2.1.set x61 o.1)) fun l31 =>
    Option.bind (lSub l31 (0 : Int) (IntKind.i64.wrap (o.2.1 + (1 : Int)))) fun x65 => some x65) = some (splitF c k [] s) := by
 subst hn
 obtain ⟨s', i, a, h1, h2, h3, h4⟩ := gs_loop c k [] s hs (by simpa using hk)
 simp only [List.length_nil, Nat.zero_add, List.nil_append] at h1 h4
 rw [if_pos (by omega), bs, Int.toNat_natCast]
 have w1 : IntKind.i64.wrap (((k + 1 : Nat) : Int) - 1) = (k : Int) := by rw [w64' (by omega) (by omega)]; omega
 rw [w1]
 rw [show ((0 : Nat) : Int) = 0 from rfl] at h1
 rw [h1, bs, bs]
 dsimp only
 have hg : a[i]? = some (a[i]'h2) := List.getElem?_eq_getElem _
 rw [if_pos (by omega), bs, Int.toNat_natCast, hg, ms, bs]
 have w2 : IntKind.i64.wrap ((i : Int) + 1) = ((i + 1 : Nat) : Int) := by rw [w64' (by omega) (by omega)]; omega
 have := lSub_nat (xs := a.set i s') (i := 0) (j := i + 1) (by omega) (by simp; omega)
 rw [w2]
 rw [show (0 : Int) = ((0 : Nat) : Int) from rfl, this, bs]
 simp only [List.drop_zero]
 rw [h4]
theorem Split_eq {c : UInt8} {s : List UInt8} (hs : s.length ≤ 900000) : strings_Split (s, [c]) = some (splitB c s) := by
 unfold strings_Split strings_genSplit
 dsimp only
 have c1 : (([c] : List UInt8) == []) = false := rfl
 have c2 : ((-1 : Int) == 0) = false := rfl
 have c3 : decide ((-1 : Int) < 0) = true := rfl
 have hcnt : strings_Count (s, [c]) = some (s.count c : Int) := rfl
 have hle : s.count c ≤ s.length := List.count_le_length
 have w1 : IntKind.i64.wrap ((s.count c : Int) + 1) = ((s.count c + 1 : Nat) : Int) := by rw [w64' (by omega) (by omega)]; omega
 have w2 : IntKind.i64.wrap ((s.length : Int) + 1) = ((s.length + 1 : Nat) : Int) := by rw [w64' (by omega) (by omega)]; omega
 simp only [c1, c2, c3, Bool.false_eq_true, if_false, if_true, hcnt, bs, w1, w2]
 have hm : min (((s.count c + 1 : Nat)) : Int) ((s.length + 1 : Nat) : Int) = ((s.count c + 1 : Nat) : Int) := by omega
 rw [hm, genSplit_fin (k := s.count c) (by omega) (by omega) rfl, bs, splitF_U c s [] _ (Nat.le_refl _)]
 rfl
theorem Cut_not {l : List UInt8} {c : UInt8} (h : ∀ b ∈ l, b ≠ c) : strings_Cut (l, [c]) = some (l, [], false) := by
 have hi : internal_stringslite_Index (l, [c]) = some (-1) := congrArg some (idx_not h)
 unfold strings_Cut internal_stringslite_Cut
 dsimp only
 rw [hi, bs]
 rfl
theorem Cut_at {l t : List UInt8} {c : UInt8} (h : ∀ b ∈ l, b ≠ c) (hl : (l ++ c :: t).length ≤ 4611686018427387904) : strings_Cut (l ++ c :: t, [c]) = some (l, t, true) := by
 have hi : internal_stringslite_Index (l ++ c :: t, [c]) = some (l.length : Int) := congrArg some (idx_at h)
 unfold strings_Cut internal_stringslite_Cut
 dsimp only
 rw [hi, bs]
 have e : decide ((l.length : Int) ≥ 0) = true := decide_eq_true (by omega)
 have l1 : lSub (l ++ c :: t) 0 (l.length : Int) = some l := by
  have := lSub_nat (xs := l ++ c :: t) (i := 0) (j := l.length) (by omega) (by simp)
  simpa using this
 have w : IntKind.i64.wrap ((l.length : Int) + (([c] : List UInt8).length : Int)) = ((l.length + 1 : Nat) : Int) := by
  simp only [List.length_append, List.length_cons] at hl
  rw [w64' (by omega) (by simp only [List.length_cons, List.length_nil]; omega)]; simp
 have l2 : lSub (l ++ c :: t) ((l.length + 1 : Nat) : Int) (((l ++ c :: t) : List UInt8).length : Int) = some t := by
  have := lSub_nat (xs := l ++ c :: t) (i := l.length + 1) (j := (l ++ c :: t).length) (by simp) (by omega)
  rw [this, List.take_length]
  simp
 rw [e, if_pos rfl, l1, bs, w, l2, bs]
 rfl
end WB
namespace WB
open Go Go.RowKit
def headS (w y n : Int) : List UInt8 := [112, 97, 112, 101, 114] ++ 32 :: (Lib.itoa w ++ 32 :: (Lib.itoa y ++ 32 :: Lib.itoa n))
def lineT (x : It) : List UInt8 := x.1 ++ 32 :: textC x.2
def bodyS (l : List It) : List UInt8 := l.flatMap fun x => lineT x ++ [10]
def textS (p : Ppr) : List UInt8 := headS p.1 p.2.1 p.2.2.2 ++ 10 :: bodyS p.2.2.1
theorem fit_nat {c : Int} (h : fitB c = true) : c.natAbs ≤ mostC := by
 have := fitD_iff.1 h
 unfold mostC
 omega
theorem itoa_nat {n : Int} (h : 0 ≤ n) : Lib.itoa n = Lib.decDigits n.toNat := by unfold Lib.itoa; rw [if_neg (by omega)]
theorem dgt_no {b : UInt8} (h : dgt b = true) : b ≠ 10 ∧ b ≠ 32 := by
 have := dgt_iff.1 h
 constructor <;> (rintro rfl; revert this; decide)
theorem itoa_no {n : Int} (h : 0 ≤ n) : ∀ b ∈ Lib.itoa n, b ≠ 10 ∧ b ≠ 32 := by
 intro b hb
 rw [itoa_nat h] at hb
 exact dgt_no (List.all_eq_true.1 (digits_all n.toNat) b hb)
theorem textC_no (c : Int) : ∀ b ∈ textC c, b ≠ 10 ∧ b ≠ 32 := by
 intro b hb
 obtain ⟨W, x, y, h1, h2, h3, h4, _⟩ := textN_form c.natAbs
 unfold textC at hb
 rw [h1] at hb
 rcases List.mem_append.1 hb with hb | hb
 ·split at hb
  ·rw [List.mem_singleton.1 hb]; decide
  ·cases hb
 ·rcases List.mem_append.1 hb with hb | hb
  ·exact dgt_no (List.all_eq_true.1 (canon_all h2) b hb)
  ·simp only [List.mem_cons, List.not_mem_nil, or_false] at hb
   rcases hb with rfl | rfl | rfl
   ·decide
   ·exact dgt_no h3
   ·exact dgt_no h4
theorem okb_no {b : UInt8} (h : okb b = true) : b ≠ 10 ∧ b ≠ 32 := by
 constructor <;> (rintro rfl; revert h; decide)
theorem code_no {s : List UInt8} (h : codeB s = true) : ∀ b ∈ s, b ≠ 10 ∧ b ≠ 32 := by
 intro b hb
 obtain ⟨w, hw, e⟩ := List.any_eq_true.1 h
 obtain ⟨e1, e2⟩ := wB_split e
 rw [e1] at hb
 have hws : ∀ w ∈ paper_words, ∀ b ∈ w, b ≠ (10 : UInt8) ∧ b ≠ 32 := by decide
 rcases List.mem_append.1 hb with hb | hb
 ·exact hws w hw b hb
 ·rcases List.mem_cons.1 hb with rfl | hb
  ·decide
  ·have : (s.drop (w.length + 1)).all okb = true := by
    unfold nameB at e2
    simp only [Bool.and_eq_true] at e2
    exact e2.1.1.1
   exact okb_no (List.all_eq_true.1 this b hb)
structure Fine (p : Ppr) : Prop where
 r : rightS p = true
 u : 0 ≤ p.1 ∧ p.1 ≤ 4294967295
theorem Fine.f {p : Ppr} (h : Fine p) : (1 ≤ p.1 ∧ 1900 ≤ p.2.1 ∧ p.2.1 ≤ 2199) ∧ p.2.2.1.length ≤ 448 ∧ (0 ≤ p.2.2.2 ∧ p.2.2.2 ≤ 4096) ∧ ∀ x ∈ p.2.2.1, codeB x.1 = true ∧ fitB x.2 = true ∧ x.2 ≠ 0 := by
 obtain ⟨⟨h1, h2, h3⟩, h4, _⟩ := (rightS_iff.1 h.r)
 refine ⟨?_, h2, h3, h4⟩
 unfold datedS at h1
 split at h1
 ·cases h1
 ·omega
theorem lineT_len {x : It} (h1 : codeB x.1 = true) (h2 : fitB x.2 = true) : (lineT x).length ≤ 60 := by
 have a := code_len h1
 have b := text_len x.2 (fit_nat h2)
 unfold lineT
 simp only [List.length_append, List.length_cons]
 omega
theorem bodyS_len : ∀ {l : List It}, (∀ x ∈ l, codeB x.1 = true ∧ fitB x.2 = true ∧ x.2 ≠ 0) → (bodyS l).length ≤ 61 * l.length
 | [], _ => by simp [bodyS]
 | x :: l, h => by
  have h1 := h x (by simp)
  have h2 := lineT_len h1.1 h1.2.1
  have h3 := bodyS_len (l := l) fun y hy => h y (by simp [hy])
  have e : (bodyS (x :: l)).length = (lineT x).length + 1 + (bodyS l).length := by simp [bodyS]; omega
  rw [e, List.length_cons]
  omega
theorem itoa_len {n : Int} (h : 0 ≤ n ∧ n ≤ 4294967295) : (Lib.itoa n).length ≤ 10 := by
 rw [itoa_nat h.1]
 exact digits_len (by decide) (by omega)
theorem headS_len {w y n : Int} (h1 : 0 ≤ w ∧ w ≤ 4294967295) (h2 : 0 ≤ y ∧ y ≤ 4294967295) (h3 : 0 ≤ n ∧ n ≤ 4294967295) : (headS w y n).length ≤ 38 := by
 have a := itoa_len h1
 have b := itoa_len h2
 have c := itoa_len h3
 unfold headS
 simp only [List.length_append, List.length_cons, List.length_nil]
 omega
theorem textS_len {p : Ppr} (h : Fine p) : (textS p).length ≤ 39 + 61 * p.2.2.1.length := by
 obtain ⟨f1, f2, f3, f4⟩ := h.f
 have a := headS_len h.u (y := p.2.1) (n := p.2.2.2) ⟨by omega, by omega⟩ ⟨by omega, by omega⟩
 have b := bodyS_len f4
 unfold textS
 simp only [List.length_append, List.length_cons]
 omega
theorem ctext {c : Int} (h : fitB c = true) : cents_Text c = some (textC c) := by
 have h1 := fit_nat h
 rw [cents_Text_eq (by unfold mostC at h1; omega), if_pos h1]
theorem ptext_loop : ∀ {l : List It} {acc : List UInt8}, (∀ x ∈ l, fitB x.2 = true) → paper_Text_loop l acc = some (acc ++ bodyS l)
 | [], acc, _ => by simp [paper_Text_loop, bodyS]
 | x :: l, acc, h => by
  unfold paper_Text_loop
  rw [ctext (h x (by simp)), bs, ptext_loop fun y hy => h y (by simp [hy])]
  congr 1
  have e : bodyS (x :: l) = lineT x ++ [10] ++ bodyS l := rfl
  rw [e]
  simp [lineT]
theorem Text_eq {p : Ppr} (hs : ∀ x ∈ p.2.2.1, x.1.length ≤ 9223372036854775807) (hu : 0 ≤ p.1 ∧ p.1 ≤ 4294967295) : paper_Paper_Text p = some (if rightS p = true then textS p else []) := by
 unfold paper_Paper_Text
 rw [right_eq hs, bs]
 cases hr : rightS p with
 | false => rfl
 | true =>
  have hF : Fine p := ⟨hr, hu⟩
  obtain ⟨f1, f2, f3, f4⟩ := hF.f
  have hl := textS_len hF
  have h1 : strconv_FormatUint (IntKind.u64.wrap p.1, 10) = some (Lib.itoa p.1) := by
   unfold strconv_FormatUint
   have : IntKind.u64.wrap p.1 = p.1 := by
    rw [IntKind.wrap_u64]
    omega
   rw [this, if_pos ⟨rfl, by omega, by omega⟩]
  have h2 : strconv_Itoa p.2.1 = some (Lib.itoa p.2.1) := by
   unfold strconv_Itoa
   rw [if_pos ⟨by omega, by omega⟩]
  have h3 : strconv_Itoa p.2.2.2 = some (Lib.itoa p.2.2.2) := by
   unfold strconv_Itoa
   rw [if_pos ⟨by omega, by omega⟩]
  have e : ([112, 97, 112, 101, 114, 32] ++ Lib.itoa p.1 ++ [32] ++ Lib.itoa p.2.1 ++ [32] ++ Lib.itoa p.2.2.2 ++ [10] : List UInt8) ++ bodyS p.2.2.1 = textS p := by
   unfold textS headS
   simp
  rw [if_pos rfl, h1, bs, h2, bs, h3, bs, ptext_loop (fun x hx => (f4 x hx).2.1), bs, e, if_pos ⟨by omega, by omega⟩, if_pos rfl]
theorem headS_no {w y n : Int} (h1 : 0 ≤ w) (h2 : 0 ≤ y) (h3 : 0 ≤ n) : ∀ b ∈ headS w y n, b ≠ 10 := by
 intro b hb
 unfold headS at hb
 simp only [List.mem_append, List.mem_cons, List.not_mem_nil, or_false] at hb
 rcases hb with (rfl | rfl | rfl | rfl | rfl) | rfl | hb | rfl | hb | rfl | hb
 ·decide
 ·decide
 ·decide
 ·decide
 ·decide
 ·decide
 ·exact (itoa_no h1 b hb).1
 ·decide
 ·exact (itoa_no h2 b hb).1
 ·decide
 ·exact (itoa_no h3 b hb).1
theorem lineT_no {x : It} (h : ∀ b ∈ x.1, b ≠ 10 ∧ b ≠ 32) : ∀ b ∈ lineT x, b ≠ 10 := by
 intro b hb
 unfold lineT at hb
 rcases List.mem_append.1 hb with hb | hb
 ·exact (h b hb).1
 ·rcases List.mem_cons.1 hb with rfl | hb
  ·decide
  ·exact (textC_no x.2 b hb).1
theorem split_body : ∀ {l : List It}, (∀ x ∈ l, ∀ b ∈ x.1, b ≠ 10 ∧ b ≠ 32) → splitU 10 [] (bodyS l) = l.map lineT ++ [[]]
 | [], _ => rfl
 | x :: l, h => by
  have e : bodyS (x :: l) = lineT x ++ 10 :: bodyS l := by simp [bodyS]
  rw [e, splitU_at 10 _ _ _ (lineT_no (h x (by simp))), split_body fun y hy => h y (by simp [hy])]
  rfl
theorem split_text {p : Ppr} (h1 : 0 ≤ p.1) (h2 : 0 ≤ p.2.1) (h3 : 0 ≤ p.2.2.2) (h : ∀ x ∈ p.2.2.1, ∀ b ∈ x.1, b ≠ 10 ∧ b ≠ 32) : splitB 10 (textS p) = headS p.1 p.2.1 p.2.2.2 :: (p.2.2.1.map lineT ++ [[]]) := by
 unfold splitB textS
 rw [splitU_at 10 _ _ _ (headS_no h1 h2 h3), split_body h]
 rfl
theorem split_head {w y n : Int} (h1 : 0 ≤ w) (h2 : 0 ≤ y) (h3 : 0 ≤ n) : splitB 32 (headS w y n) = [[112, 97, 112, 101, 114], Lib.itoa w, Lib.itoa y, Lib.itoa n] := by
 unfold splitB headS
 rw [splitU_at 32 _ _ _ (by decide), splitU_at 32 _ _ _ (fun b hb => (itoa_no h1 b hb).2), splitU_at 32 _ _ _ (fun b hb => (itoa_no h2 b hb).2), splitU_no 32 _ _ (fun b hb => (itoa_no h3 b hb).2)]
 rfl
theorem split_line {x : It} (h : ∀ b ∈ x.1, b ≠ 10 ∧ b ≠ 32) : splitB 32 (lineT x) = [x.1, textC x.2] := by
 unfold splitB lineT
 rw [splitU_at 32 _ _ _ (fun b hb => (h b hb).2), splitU_no 32 _ _ (fun b hb => (textC_no x.2 b hb).2)]
 rfl
end WB
namespace WB
open Go Go.RowKit
theorem u32_in (x : Int) : 0 ≤ IntKind.u32.wrap x ∧ IntKind.u32.wrap x ≤ 4294967295 := by
 rw [IntKind.wrap_u32]
 omega
theorem head_tot {h : List UInt8} (hl : h.length ≤ 100000) : ∃ w y n ok, paper_head h = some ((w, y, (), n), ok) ∧ 0 ≤ w ∧ w ≤ 4294967295 := by
 unfold paper_head
 dsimp only
 try simp only [gPi, gSS, gPb, gPm, gPs, gM, gM2, gAnd, gOr, gAndI, gOrI, gAA, gAO, gOA, gOO, gAAf, gAOf, gOAf, gOOf, gAMf, gOMf, gId]
 try simp only [gIn1, gIn2, gIn3, gIn4, gIn5, gIn6, gIn7, gIn8, gId, gIdF, gMb, gMm, gBm, gBb, bs, ms]
 rw [Split_eq (by omega), bs]
 by_cases h4 : (splitB 32 h).length = 4
 ·have d : (((splitB 32 h).length : Int) != 4) = false := by simp [h4]
  rw [d, if_neg (by decide)]
  have hw := splitU_word 32 h [] (by simp)
  have hlen : ∀ x ∈ splitB 32 h, x.length ≤ 100000 := fun x hx => by
   have := (hw x hx).2.1
   simp at this
   omega
  match hm : splitB 32 h, h4 with
  | [a, b, c, e], _ =>
   have hb := hlen b (by rw [hm]; simp)
   have hc := hlen c (by rw [hm]; simp)
   have he := hlen e (by rw [hm]; simp)
   rw [show lAt [a, b, c, e] 1 = some b from lAt_nat (i := 1) rfl, bs, show lAt [a, b, c, e] 2 = some c from lAt_nat (i := 2) rfl, show lAt [a, b, c, e] 3 = some e from lAt_nat (i := 3) rfl]
   simp only [bs]
   obtain ⟨u, hu⟩ : ∃ u, strconv_ParseUint (b, 10, 32) = some u := by
    unfold strconv_ParseUint
    rw [if_pos ⟨rfl, rfl, by dsimp only; omega⟩]
    exact ⟨_, rfl⟩
   obtain ⟨v, hv⟩ : ∃ v, strconv_Atoi c = some v := by
    unfold strconv_Atoi
    rw [if_pos (by omega)]
    exact ⟨_, rfl⟩
   obtain ⟨z, hz⟩ : ∃ z, strconv_Atoi e = some z := by
    unfold strconv_Atoi
    rw [if_pos (by omega)]
    exact ⟨_, rfl⟩
   rw [hu, hv, hz]
   simp only [bs]
   obtain ⟨k, hk⟩ : ∃ k, (if u.2 = true then some v.2 else some false) = some k := by split <;> exact ⟨_, rfl⟩
   rw [hk, bs]
   obtain ⟨k2, hk2⟩ : ∃ k2, (if k = true then some z.2 else some false) = some k2 := by split <;> exact ⟨_, rfl⟩
   rw [hk2, bs]
   exact ⟨_, _, _, _, rfl, u32_in _⟩
 ·have d : (((splitB 32 h).length : Int) != 4) = true := by simp; omega
  rw [d, if_pos rfl]
  exact ⟨_, _, _, _, rfl, by decide, by decide⟩
theorem head_eq {w y n : Int} (h1 : 0 ≤ w ∧ w ≤ 4294967295) (h2 : 0 ≤ y ∧ y ≤ 4294967295) (h3 : 0 ≤ n ∧ n ≤ 4294967295) : paper_head (headS w y n) = some ((w, y, (), n), true) := by
 have hl := headS_len h1 h2 h3
 have l1 := itoa_len h1
 have l2 := itoa_len h2
 have l3 := itoa_len h3
 unfold paper_head
 dsimp only
 try simp only [gPi, gSS, gPb, gPm, gPs, gM, gM2, gAnd, gOr, gAndI, gOrI, gAA, gAO, gOA, gOO, gAAf, gAOf, gOAf, gOOf, gAMf, gOMf, gId]
 try simp only [gIn1, gIn2, gIn3, gIn4, gIn5, gIn6, gIn7, gIn8, gId, gIdF, gMb, gMm, gBm, gBb, bs, ms]
 rw [Split_eq (by omega), bs, split_head h1.1 h2.1 h3.1]
 rw [if_neg (by simp)]
 generalize hW : Lib.itoa w = W
 generalize hY : Lib.itoa y = Y
 generalize hN : Lib.itoa n = N
 rw [hW] at l1
 rw [hY] at l2
 rw [hN] at l3
 rw [show lAt [([112, 97, 112, 101, 114] : List UInt8), W, Y, N] 1 = some W from lAt_nat (i := 1) rfl, bs, show lAt [([112, 97, 112, 101, 114] : List UInt8), W, Y, N] 2 = some Y from lAt_nat (i := 2) rfl, show lAt [([112, 97, 112, 101, 114] : List UInt8), W, Y, N] 3 = some N from lAt_nat (i := 3) rfl]
 simp only [bs]
 have e1 : strconv_ParseUint (W, 10, 32) = some (w, true) := by
  unfold strconv_ParseUint
  rw [if_pos ⟨rfl, rfl, by dsimp only; omega⟩]
  dsimp only
  rw [← hW, itoa_nat h1.1, puB_digits (by omega)]
  dsimp only
  rw [Int.toNat_of_nonneg h1.1]
 have at_ : ∀ {k : Int} {K : List UInt8}, Lib.itoa k = K → K.length ≤ 10 → 0 ≤ k ∧ k ≤ 4294967295 → strconv_Atoi K = some (k, true) := by
  intro k K hK hKl hk
  unfold strconv_Atoi
  rw [if_pos (by omega), ← hK, itoa_nat hk.1, atoi_digits (by omega)]
  dsimp only
  rw [Int.toNat_of_nonneg hk.1]
 have e4 : IntKind.u32.wrap w = w := by rw [IntKind.wrap_u32]; omega
 rw [e1, at_ hY l2 h2, at_ hN l3 h3]
 simp only [bs, if_true, e4]
theorem cut_tot {x : List UInt8} (h : x.length ≤ 100000) : ∃ a b f, strings_Cut (x, [32]) = some (a, b, f) ∧ a.length ≤ x.length ∧ b.length ≤ x.length := by
 rcases byte_split 32 x with g | ⟨l, t, rfl, g⟩
 ·exact ⟨_, _, _, Cut_not g, by omega, by simp⟩
 ·exact ⟨_, _, _, Cut_at g (by omega), by simp, by simp; omega⟩
theorem plines_tot {s : List UInt8} {lines : List (List UInt8)} {w y n a b c : Int} (hx : ∀ x ∈ lines, x.length ≤ 100000) (hn : lines.length ≤ 100000) : ∀ (rest pre : List (List UInt8)) (acc : List It), lines = pre ++ rest → acc.length ≤ pre.length → (∀ e ∈ acc, e.1.length ≤ 100000) →
  iter paper_Parse_loop1 (s, lines, (lines.length : Int), (pre.length : Int), a, b, c, w, y, n, acc, (), (), (), (), (), (), ()) = some (.inr (noP, 3)) ∨
  ∃ bx : List It, (∀ e ∈ bx, e.1.length ≤ 100000) ∧ iter paper_Parse_loop1 (s, lines, (lines.length : Int), (pre.length : Int), a, b, c, w, y, n, acc, (), (), (), (), (), (), ()) = some (.inl (s, a, b, c, w, y, n, bx, (), (), (), (), (), (), ()))
 | [], pre, acc, hl, ha, he => by
  rw [List.append_nil] at hl
  subst hl
  refine .inr ⟨acc, he, itR ?_⟩
  unfold paper_Parse_loop1
  dsimp only
  rw [nlt_len, if_neg (by decide)]
 | x :: rest, pre, acc, hl, ha, he => by
  have hlen : lines.length = pre.length + 1 + rest.length := by rw [hl]; simp; omega
  have hat : lines[pre.length]? = some x := by rw [hl]; simp
  have hxl := hx x (List.mem_of_getElem? hat)
  obtain ⟨a', b', f, h1, h2, h3⟩ := cut_tot hxl
  rcases cents_Parse_eq (s := b') (by omega) with ⟨v, hv, e⟩ | ⟨_, e⟩
  ·have st : paper_Parse_loop1 (s, lines, (lines.length : Int), (pre.length : Int), a, b, c, w, y, n, acc, (), (), (), (), (), (), ()) = some (.inl (s, lines, (lines.length : Int), ((pre ++ [x]).length : Int), a, b, c, w, y, n, acc ++ [(a', v)], (), (), (), (), (), (), ())) := by
    unfold paper_Parse_loop1
    dsimp only
    try simp only [gPi, gSS, gPb, gPm, gPs, gM, gM2, gAnd, gOr, gAndI, gOrI, gAA, gAO, gOA, gOO, gAAf, gAOf, gOAf, gOOf, gAMf, gOMf, gId]
    try simp only [gIn1, gIn2, gIn3, gIn4, gIn5, gIn6, gIn7, gIn8, gId, gIdF, gMb, gMm, gBm, gBb, bs, ms]
    rw [lt_len hat, if_pos rfl, lAt_nat hat]
    simp only [bs, ms]
    rw [h1, bs]
    dsimp only
    rw [e, bs]
    dsimp only
    rw [if_neg (by decide), appOk' (by simp; omega) (by decide), w_succ (by omega)]
    simp
   rw [itL st]
   exact plines_tot hx hn rest (pre ++ [x]) (acc ++ [(a', v)]) (by rw [hl]; simp) (by simp; omega) (fun q hq => by
    rcases List.mem_append.1 hq with g | g
    ·exact he q g
    ·rw [List.mem_singleton.1 g]; dsimp only; omega)
  ·left
   refine itR ?_
   unfold paper_Parse_loop1
   dsimp only
   try simp only [gPi, gSS, gPb, gPm, gPs, gM, gM2, gAnd, gOr, gAndI, gOrI, gAA, gAO, gOA, gOO, gAAf, gAOf, gOAf, gOOf, gAMf, gOMf, gId]
   try simp only [gIn1, gIn2, gIn3, gIn4, gIn5, gIn6, gIn7, gIn8, gId, gIdF, gMb, gMm, gBm, gBb, bs, ms]
   rw [lt_len hat, if_pos rfl, lAt_nat hat]
   simp only [bs, ms]
   rw [h1, bs]
   dsimp only
   rw [e, bs]
   rfl
theorem Parse_tot {s : List UInt8} (hs : s.length ≤ 50000) : paper_Parse s = some (noP, 3) ∨ ∃ p, Fine p ∧ textS p = s ∧ paper_Parse s = some (p, 0) := by
 have hwd := splitU_word 10 s [] (by simp)
 have hlen : ∀ x ∈ splitB 10 s, x.length ≤ 50000 := fun x hx => by
  have := (hwd x hx).2.1
  simp at this
  omega
 have hcnt : (splitB 10 s).length ≤ 50001 := by
  have h1 := splitU_len 10 s []
  have h2 : s.count 10 ≤ s.length := List.count_le_length
  unfold splitB
  omega
 unfold paper_Parse
 dsimp only
 try simp only [gPi, gSS, gPb, gPm, gPs, gM, gM2, gAnd, gOr, gAndI, gOrI, gAA, gAO, gOA, gOO, gAAf, gAOf, gOAf, gOOf, gAMf, gOMf, gId]
 try simp only [gIn1, gIn2, gIn3, gIn4, gIn5, gIn6, gIn7, gIn8, gId, gIdF, gMb, gMm, gBm, gBb, bs, ms]
 rw [Split_eq (by omega), bs]
 cases hsp : splitB 10 s with
 | nil => exact absurd hsp (splitU_ne 10 s [])
 | cons h0 t0 =>
  rw [hsp] at hlen hcnt
  rw [show lAt (h0 :: t0) 0 = some h0 from lAt_nat (i := 0) rfl, bs]
  obtain ⟨w, y, n, ok, hh, hw⟩ := head_tot (h := h0) (by have := hlen h0 (by simp); omega)
  rw [hh, bs]
  dsimp only
  cases ok with
  | false => exact .inl rfl
  | true =>
   rw [if_neg (by decide), bs]
   by_cases hg : ((h0 :: t0).length : Int) > 450
   ·rw [decide_eq_true hg]; exact .inl rfl
   ·rw [decide_eq_false hg, if_neg (by decide)]
    have hl : (h0 :: t0).length = t0.length + 1 := rfl
    obtain ⟨mid, hmid, hsub, hml⟩ : ∃ mid, lSub (h0 :: t0) 1 (max 1 (IntKind.i64.wrap (((h0 :: t0).length : Int) - 1))) = some mid ∧ (∀ x ∈ mid, x ∈ h0 :: t0) ∧ mid.length ≤ t0.length := by
     have e : max 1 (IntKind.i64.wrap (((h0 :: t0).length : Int) - 1)) = ((max 1 t0.length : Nat) : Int) := by
      rw [w64' (by omega) (by omega)]
      omega
     rw [e, show (1 : Int) = ((1 : Nat) : Int) from rfl, lSub_nat (by omega) (by omega)]
     refine ⟨_, rfl, fun x hx => List.mem_of_mem_take (List.mem_of_mem_drop hx), ?_⟩
     rw [List.length_drop, List.length_take]
     omega
    rw [hmid, bs]
    rcases plines_tot (s := s) (lines := mid) (w := w) (y := y) (n := n) (a := 0) (b := 0) (c := 0) (fun x hx => by have := hlen x (hsub x hx); omega) (by omega) mid [] [] rfl (by simp) (by simp) with g | ⟨bx, hbx, g⟩
    ·rw [show ((([] : List (List UInt8)).length : Nat) : Int) = 0 from rfl] at g
     rw [g, bs]
     exact .inl rfl
    ·rw [show ((([] : List (List UInt8)).length : Nat) : Int) = 0 from rfl] at g
     rw [g, bs]
     dsimp only
     have hT : paper_Paper_Text (w, y, bx, n) = some (if rightS (w, y, bx, n) = true then textS (w, y, bx, n) else []) := Text_eq (p := (w, y, bx, n)) (fun x hx => by have := hbx x hx; omega) hw
     rw [hT, bs]
     cases hr : rightS (w, y, bx, n) with
     | false =>
      rw [if_neg (show ¬ (false = true) by decide), if_pos (show (([] : List UInt8) == []) = true from rfl), bs]
      exact .inl rfl
     | true =>
      rw [if_pos rfl]
      have hne : (textS (w, y, bx, n) == []) = false := rfl
      rw [hne, if_neg (by decide), bs, bs]
      by_cases he : textS (w, y, bx, n) = s
      ·have d : (!(textS (w, y, bx, n) == s)) = false := by simp [he]
       rw [d, if_neg (by decide)]
       exact .inr ⟨(w, y, bx, n), ⟨hr, hw⟩, he, rfl⟩
      ·have d : (!(textS (w, y, bx, n) == s)) = true := by simp [he]
       rw [d, if_pos rfl]
       exact .inl rfl
theorem Parse_text {p : Ppr} (h : Fine p) : paper_Parse (textS p) = some (p, 0) := by
 obtain ⟨f1, f2, f3, f4⟩ := h.f
 have hl := textS_len h
 have hno : ∀ x ∈ p.2.2.1, ∀ b ∈ x.1, b ≠ 10 ∧ b ≠ 32 := fun x hx => code_no (f4 x hx).1
 unfold paper_Parse
 dsimp only
 try simp only [gPi, gSS, gPb, gPm, gPs, gM, gM2, gAnd, gOr, gAndI, gOrI, gAA, gAO, gOA, gOO, gAAf, gAOf, gOAf, gOOf, gAMf, gOMf, gId]
 try simp only [gIn1, gIn2, gIn3, gIn4, gIn5, gIn6, gIn7, gIn8, gId, gIdF, gMb, gMm, gBm, gBb, bs, ms]
 rw [Split_eq (by omega), bs, split_text h.u.1 (by omega) f3.1 hno]
 generalize hS : textS p = s at hl
 rw [show lAt (headS p.1 p.2.1 p.2.2.2 :: (p.2.2.1.map lineT ++ [[]])) 0 = some (headS p.1 p.2.1 p.2.2.2) from lAt_nat (i := 0) rfl, bs, head_eq h.u ⟨by omega, by omega⟩ ⟨by omega, by omega⟩, bs]
 dsimp only
 have hlen : (headS p.1 p.2.1 p.2.2.2 :: (p.2.2.1.map lineT ++ [[]])).length = p.2.2.1.length + 2 := by simp
 rw [if_neg (by decide), bs, hlen, decide_eq_false (by omega), if_neg (by decide)]
 have e : max 1 (IntKind.i64.wrap (((p.2.2.1.length + 2 : Nat) : Int) - 1)) = ((p.2.2.1.length + 1 : Nat) : Int) := by
  rw [w64' (by omega) (by omega)]
  omega
 have esub : lSub (headS p.1 p.2.1 p.2.2.2 :: (p.2.2.1.map lineT ++ [[]])) 1 ((p.2.2.1.length + 1 : Nat) : Int) = some (p.2.2.1.map lineT) := by
  rw [show (1 : Int) = ((1 : Nat) : Int) from rfl, lSub_nat (by omega) (by omega)]
  congr 1
  rw [List.take_succ_cons, List.drop_one, List.tail_cons, List.take_append_of_le_length (by simp), List.take_of_length_le (by simp)]
 rw [e, esub, bs]
 have key := iter_fold0 (b := paper_Parse_loop1) (α := It) (A := List It) (fun k acc => (s, p.2.2.1.map lineT, ((p.2.2.1.map lineT).length : Int), (k : Int), 0, 0, 0, p.1, p.2.1, p.2.2.2, acc, (), (), (), (), (), (), ())) (fun acc x => Sum.inl (acc ++ [x])) (fun acc => Sum.inl (s, 0, 0, 0, p.1, p.2.1, p.2.2.2, acc, (), (), (), (), (), (), ())) (fun i acc => acc.length ≤ i) p.2.2.1 (a := []) (by simp) (fun i x acc hx ha => by
   have hi := (List.getElem?_eq_some_iff.1 hx).1
   have hm := List.mem_of_getElem? hx
   have hx' : (p.2.2.1.map lineT)[i]? = some (lineT x) := by rw [List.getElem?_map, hx]; rfl
   have hlx := lineT_len (f4 x hm).1 (f4 x hm).2.1
   have hcut : strings_Cut (lineT x, [32]) = some (x.1, textC x.2, true) := Cut_at (fun b hb => (hno x hm b hb).2) (by unfold lineT at hlx; omega)
   have hc : cents_Parse (textC x.2) = some (x.2, 0) := by
    have hI : IsC (textC x.2) x.2 := ⟨fit_nat (f4 x hm).2.1, rfl⟩
    rcases cents_Parse_eq (s := textC x.2) (by have := text_len x.2 (fit_nat (f4 x hm).2.1); omega) with ⟨v, hv, e⟩ | ⟨hn, _⟩
    ·rw [e, isC_inj hv hI]
    ·exact absurd hI (hn _)
   unfold paper_Parse_loop1
   dsimp only
   try simp only [gPi, gSS, gPb, gPm, gPs, gM, gM2, gAnd, gOr, gAndI, gOrI, gAA, gAO, gOA, gOO, gAAf, gAOf, gOAf, gOOf, gAMf, gOMf, gId]
   try simp only [gIn1, gIn2, gIn3, gIn4, gIn5, gIn6, gIn7, gIn8, gId, gIdF, gMb, gMm, gBm, gBb, bs, ms]
   rw [lt_len hx', if_pos rfl, lAt_nat hx']
   simp only [bs, ms]
   rw [hcut, bs]
   dsimp only
   rw [hc, bs]
   dsimp only
   rw [if_neg (by decide), appOk' (by simp; omega) (by decide), w_succ (by omega)]
   rfl) (fun i x acc acc' _ ha hst => by
   cases hst
   simp
   exact ha) (fun _ _ => by
   unfold paper_Parse_loop1
   dsimp only
   rw [show (p.2.2.1.length : Int) = ((p.2.2.1.map lineT).length : Int) by simp, nlt_len, if_neg (by decide)])
 have hfold : ∀ (l acc : List It), l.foldl (fun acc x => acc ++ [x]) acc = acc ++ l := by
  intro l
  induction l with
  | nil => intro acc; simp
  | cons x l ih => intro acc; rw [List.foldl_cons, ih]; simp
 rw [show ((0 : Nat) : Int) = (0 : Int) from rfl, foldE_inl, hfold, List.nil_append] at key
 rw [key, bs]
 dsimp only
 have hT : paper_Paper_Text (p.1, p.2.1, p.2.2.1, p.2.2.2) = some s := by
  rw [show paper_Paper_Text (p.1, p.2.1, p.2.2.1, p.2.2.2) = some (if rightS p = true then textS p else []) from Text_eq (p := p) (fun x hx => by have := code_len (f4 x hx).1; omega) h.u, if_pos h.r, hS]
 have hne : (s == []) = false := by rw [← hS]; rfl
 rw [hT, bs, hne, if_neg (by decide), bs, bs]
 have d : (!(s == s)) = false := by simp
 rw [d, if_neg (by decide)]
end WB
namespace WB
open Go Go.RowKit
def stepW (out : List (List UInt8)) (b : UInt8) : List (List UInt8) := if b = 32 then out ++ [[]] else out.dropLast ++ [out.getLast?.getD [] ++ [b]]
theorem splitU_snoc (b : UInt8) : ∀ (s cur : List UInt8) (X : List (List UInt8)) (y : List UInt8), splitU 32 cur s = X ++ [y] → splitU 32 cur (s ++ [b]) = if b = 32 then X ++ [y] ++ [[]] else X ++ [y ++ [b]]
 | [], cur, X, y, h => by
  have h' : [cur] = X ++ [y] := h
  cases X with
  | cons a X => simp at h'
  | nil =>
   simp only [List.nil_append, List.cons.injEq, and_true] at h'
   subst h'
   show (if b = 32 then cur :: splitU 32 [] [] else splitU 32 (cur ++ [b]) []) = _
   split <;> rfl
 | a :: s, cur, X, y, h => by
  rw [List.cons_append, splitU_cons]
  rw [splitU_cons] at h
  by_cases ha : a = 32
  ·rw [if_pos ha] at h ⊢
   cases X with
   | nil =>
    have := congrArg List.length h
    have h2 := splitU_ne 32 s []
    cases hs : splitU 32 [] s with
    | nil => exact absurd hs h2
    | cons _ _ => rw [hs] at this; simp at this
   | cons z X =>
    rw [List.cons_append] at h
    obtain ⟨h1, h2⟩ := List.cons.inj h
    rw [splitU_snoc b s [] X y h2]
    subst h1
    split <;> rfl
  ·rw [if_neg ha] at h ⊢
   exact splitU_snoc b s _ X y h
theorem split_step (s : List UInt8) (b : UInt8) : splitB 32 (s ++ [b]) = stepW (splitB 32 s) b := by
 unfold splitB stepW
 rcases List.eq_nil_or_concat (splitU 32 [] s) with h | ⟨X, y, h⟩
 ·exact absurd h (splitU_ne 32 s [])
 ·rw [List.concat_eq_append] at h
  rw [splitU_snoc b s [] X y h, h]
  simp
theorem stepW_all : ∀ (t s : List UInt8), t.foldl stepW (splitB 32 s) = splitB 32 (s ++ t)
 | [], s => by simp
 | b :: t, s => by rw [List.foldl_cons, ← split_step, stepW_all t (s ++ [b])]; simp
theorem rwords_eq {l : List UInt8} (hl : l.length ≤ 100000) : ref37_words l = some (splitB 32 l) := by
 have key := iter_fold0 (b := ref37_words_loop1) (α := UInt8) (A := List (List UInt8)) (fun k out => (l, (k : Int), out, (), ())) (fun out b => Sum.inl (stepW out b)) (fun out => (out, (), ())) (fun i out => out ≠ [] ∧ out.length ≤ i + 1 ∧ ∀ w ∈ out, w.length ≤ i) l (a := [[]]) ⟨by simp, by simp, by simp⟩ (fun i b out hx hI => by
   have hi := (List.getElem?_eq_some_iff.1 hx).1
   obtain ⟨h1, h2, h3⟩ := hI
   unfold ref37_words_loop1 stepW
   dsimp only
   try simp only [gPi, gSS, gPb, gPm, gPs, gM, gM2, gAnd, gOr, gAndI, gOrI, gAA, gAO, gOA, gOO, gAAf, gAOf, gOAf, gOOf, gAMf, gOMf, gId]
   try simp only [gIn1, gIn2, gIn3, gIn4, gIn5, gIn6, gIn7, gIn8, gId, gIdF, gMb, gMm, gBm, gBb, bs, ms]
   rw [lt_len hx, if_pos rfl, sAt_nat hx, bs]
   by_cases hb : b = 32
   ·subst hb
    rw [if_pos (show (((32 : UInt8).toNat : Int) == 32) = true from rfl), appOk' (by simp; omega) (by decide), bs]
    dsimp only
    rw [w_succ (by omega), if_pos rfl]
    rfl
   ·have d : ((b.toNat : Int) == 32) = false := by
     rw [beq_eq_false_iff_ne]
     intro e
     apply hb
     apply UInt8.toNat_inj.1
     have : (32 : UInt8).toNat = 32 := rfl
     omega
    rw [d, if_neg (by decide), if_neg hb]
    rcases List.eq_nil_or_concat out with h | ⟨X, y, h⟩
    ·exact absurd h h1
    ·rw [List.concat_eq_append] at h
     subst h
     have hlen : (X ++ [y]).length = X.length + 1 := by simp
     have hw : IntKind.i64.wrap (((X ++ [y]).length : Int) - 1) = (X.length : Int) := by rw [hlen, w64' (by omega) (by omega)]; omega
     have hat : (X ++ [y])[X.length]? = some y := by simp
     have hy := h3 y (by simp)
     have hsub : lSub l (i : Int) (IntKind.i64.wrap ((i : Int) + 1)) = some [b] := by
      rw [w_succ (by omega), lSub_nat (by omega) (by omega), List.take_add_one, hx]
      have hm : min i l.length = i := by omega
      simp [List.drop_append, hm]
     rw [hw, if_pos (by rw [hlen]; constructor <;> omega), Int.toNat_natCast, hat, bs, hsub, bs, if_pos (by simp only [List.length_cons, List.length_nil]; omega), if_pos (by rw [hlen]; constructor <;> omega), bs, bs]
     dsimp only
     rw [w_succ (by omega)]
     have e1 : (X ++ [y]).set X.length (y ++ [b]) = X ++ [y ++ [b]] := by rw [List.set_append_right _ _ (by omega), Nat.sub_self]; rfl
     rw [e1]
     simp [turnE]) (fun i b out out' hx hI hst => by
   cases hst
   obtain ⟨h1, h2, h3⟩ := hI
   unfold stepW
   by_cases hb : b = 32
   ·rw [if_pos hb]
    refine ⟨by simp, by simp; omega, fun w hw => ?_⟩
    rcases List.mem_append.1 hw with hw | hw
    ·have := h3 w hw; omega
    ·rw [List.mem_singleton.1 hw]; simp
   ·rw [if_neg hb]
    rcases List.eq_nil_or_concat out with h | ⟨X, y, h⟩
    ·exact absurd h h1
    ·rw [List.concat_eq_append] at h
     subst h
     rw [List.dropLast_concat, List.getLast?_concat]
     refine ⟨by simp, by simp at h2 ⊢; omega, fun w hw => ?_⟩
     rcases List.mem_append.1 hw with hw | hw
     ·have := h3 w (by simp [hw]); omega
     ·rw [List.mem_singleton.1 hw]
      have := h3 y (by simp)
      simp
      omega) (fun _ _ => by
   unfold ref37_words_loop1
   dsimp only
   rw [nlt_len, if_neg (by decide)])
 rw [foldE_inl] at key
 have e : l.foldl stepW [[]] = splitB 32 l := stepW_all l []
 rw [e] at key
 unfold ref37_words
 dsimp only
 rw [show (0 : Int) = ((0 : Nat) : Int) from rfl, key, bs]
def okN (w : List UInt8) : Bool := canon w && decide (w.length ≤ 10)
def nstep (n : Nat) (b : UInt8) : Nat ⊕ ((Int × Unit) ⊕ (Int × Bool)) := if dgt b = true then .inl (n * 10 + (b.toNat - 48)) else .inr (.inr (0, false))
theorem n_fold : ∀ (w : List UInt8) (n : Nat), foldE nstep (fun n => .inl ((n : Int), ())) n w = if w.all dgt = true then .inl ((numV n w : Int), ()) else .inr (0, false)
 | [], n => rfl
 | b :: w, n => by
  rw [foldE]
  unfold nstep
  have ih := fun n => n_fold w n
  unfold nstep at ih
  rw [List.all_cons]
  cases h : dgt b with
  | false => rw [if_neg (by decide), Bool.false_and, if_neg (by decide)]
  | true => rw [if_pos rfl, Bool.true_and]; exact ih _
theorem rnum_eq {w : List UInt8} (h : w.length ≤ 100000) : ref37_number w = some (if okN w = true then ((numV 0 w : Int), true) else (0, false)) := by
 unfold ref37_number okN
 dsimp only
 try simp only [gPi, gSS, gPb, gPm, gPs, gM, gM2, gAnd, gOr, gAndI, gOrI, gAA, gAO, gOA, gOO, gAAf, gAOf, gOAf, gOOf, gAMf, gOMf, gId]
 try simp only [gIn1, gIn2, gIn3, gIn4, gIn5, gIn6, gIn7, gIn8, gId, gIdF, gMb, gMm, gBm, gBb, bs, ms]
 cases w with
 | nil => rfl
 | cons c r =>
  have hl : (c :: r).length = r.length + 1 := rfl
  rw [decide_eq_false (show ¬ (((c :: r).length : Int) < 1) by omega), if_neg (by decide), bs]
  by_cases h10 : (c :: r).length ≤ 10
  ·rw [decide_eq_false (show ¬ (((c :: r).length : Int) > 10) by omega), if_neg (by decide), show sAt (c :: r) 0 = some (c.toNat : Int) from sAt_nat (i := 0) rfl, bs, decide_eq_true h10, Bool.and_true]
   have key := iter_fold0 (b := ref37_number_loop1) (α := UInt8) (A := Nat) (fun k n => (c :: r, (n : Int), (k : Int), ())) nstep (fun n => .inl ((n : Int), ())) (fun i n => n < 10 ^ i) (c :: r) (a := 0) (by decide) (fun i b n hx hn => by
     have hi := (List.getElem?_eq_some_iff.1 hx).1
     have hn' : n < 10 ^ 10 := Nat.lt_of_lt_of_le hn (Nat.pow_le_pow_right (by decide) (by omega))
     have hp : (10 : Nat) ^ 10 = 10000000000 := rfl
     unfold ref37_number_loop1 nstep
     dsimp only
     try simp only [gPi, gSS, gPb, gPm, gPs, gM, gM2, gAnd, gOr, gAndI, gOrI, gAA, gAO, gOA, gOO, gAAf, gAOf, gOAf, gOOf, gAMf, gOMf, gId]
     try simp only [gIn1, gIn2, gIn3, gIn4, gIn5, gIn6, gIn7, gIn8, gId, gIdF, gMb, gMm, gBm, gBb, bs, ms]
     rw [lt_len hx, if_pos rfl]
     simp only [sAt_nat hx, bs]
     by_cases hd : dgt b = true
     ·have hb := dgt_iff.1 hd
      rw [decide_eq_false (show ¬ ((b.toNat : Int) < 48) by omega), if_neg (by decide), bs, decide_eq_false (show ¬ ((b.toNat : Int) > 57) by omega), if_neg (by decide), if_pos hd]
      have u : IntKind.u8.wrap ((b.toNat : Int) - 48) = (b.toNat : Int) - 48 := by rw [IntKind.wrap_u8]; omega
      rw [u, w64' (n := (b.toNat : Int) - 48) (by omega) (by omega), w64' (n := 10 * (n : Int)) (by omega) (by omega), w64' (by omega) (by omega), w_succ (by omega)]
      have e : 10 * (n : Int) + ((b.toNat : Int) - 48) = ((n * 10 + (b.toNat - 48) : Nat) : Int) := by omega
      rw [e]
      rfl
     ·rw [if_neg hd]
      by_cases h1 : (b.toNat : Int) < 48
      ·rw [decide_eq_true h1]; rfl
      ·have h2 : (b.toNat : Int) > 57 := by
        refine Classical.byContradiction fun h2 => hd (dgt_iff.2 ⟨by omega, by omega⟩)
       rw [decide_eq_false h1, if_neg (by decide), bs, decide_eq_true h2]; rfl) (fun i b n n' _ hn hst => by
     unfold nstep at hst
     split at hst
     ·rename_i hd
      have hb := dgt_iff.1 hd
      cases hst
      rw [Nat.pow_succ]
      omega
     ·cases hst) (fun _ _ => by
     unfold ref37_number_loop1
     dsimp only
     rw [nlt_len, if_neg (by decide)])
   rw [n_fold] at key
   have hc48 : ((c.toNat : Int) == 48) = (some c == some (48 : UInt8)) := by
    rw [Bool.eq_iff_iff, beq_iff_eq, beq_iff_eq]
    constructor
    ·intro e
     have h48 : (48 : UInt8).toNat = 48 := rfl
     rw [UInt8.toNat_inj.1 (show c.toNat = (48 : UInt8).toNat by omega)]
    ·intro e
     rw [Option.some.inj e]; rfl
   rw [hc48]
   have hcan : canon (c :: r) = (!(decide (((c :: r).length : Int) > 1) && (some c == some (48 : UInt8))) && (c :: r).all dgt) := by
    unfold canon
    rfl
   rw [hcan]
   cases h48 : (some c == some (48 : UInt8)) with
   | false =>
    rw [if_neg (by decide), bs, if_neg (by decide), show (0 : Int) = ((0 : Nat) : Int) from rfl, key, bs, Bool.and_false, Bool.not_false, Bool.true_and]
    cases (c :: r).all dgt <;> rfl
   | true =>
    have hc : c = 48 := Option.some.inj (beq_iff_eq.1 h48)
    subst hc
    rw [if_pos rfl, bs]
    cases r with
    | nil =>
     rw [if_neg (by decide), show (0 : Int) = ((0 : Nat) : Int) from rfl, key, bs]
     rfl
    | cons a r =>
     rw [if_pos (show (!((48 : UInt8) :: a :: r == [48])) = true by simp), decide_eq_true (show (((48 : UInt8) :: a :: r).length : Int) > 1 by simp; omega)]
     rfl
  ·rw [decide_eq_true (show ((c :: r).length : Int) > 10 by omega), if_pos rfl, bs, if_pos rfl, decide_eq_false h10, Bool.and_false]
   rfl
abbrev Q4 := Int × Int × Int × List It
def paperW : List UInt8 := [112, 97, 112, 101, 114]
noncomputable def lineStep (n : Nat) (q : Q4) (l : List UInt8) : Option Q4 :=
 if n = 0 then (match splitB 32 l with
  | [a, b, c, d] => if (a == paperW && okN b && okN c && okN d && decide (numV 0 b ≤ 4294967295)) = true then some ((numV 0 b : Int), (numV 0 c : Int), (numV 0 d : Int), q.2.2.2) else none
  | _ => none)
 else (match splitB 32 l with
  | [a, b] => (match ref01_Parse b with
   | some (c, true) => some (q.1, q.2.1, q.2.2.1, q.2.2.2 ++ [(a, c)])
   | _ => none)
  | _ => none)
abbrev PS := List UInt8 × Int × Int × Int × Int × Int × Int × Int × Int × Int × List It × Unit × Unit × Unit × Unit × Unit × Unit × Unit
def pst (s : List UInt8) (fr n i : Nat) (q : Q4) : PS := (s, (fr : Int), (n : Int), (i : Int), 0, 0, 0, q.1, q.2.1, q.2.2.1, q.2.2.2, (), (), (), (), (), (), ())
theorem p_skip' {s : List UInt8} {fr n : Nat} {q : Q4} : ∀ (l pre t : List UInt8), s = pre ++ l ++ t → s.length ≤ 50000 → (∀ b ∈ l, b ≠ 10) → iter ref37_Parse_loop1 (pst s fr n pre.length q) = iter ref37_Parse_loop1 (pst s fr n (pre.length + l.length) q)
 | [], pre, t, _, _, _ => rfl
 | b :: l, pre, t, hs, hn, hb => by
  have hat : s[pre.length]? = some b := by rw [hs]; simp
  have hi := (List.getElem?_eq_some_iff.1 hat).1
  have d : ((b.toNat : Int) != 10) = true := by
   have := hb b (by simp)
   rw [bne_iff_ne]
   intro e
   apply this
   apply UInt8.toNat_inj.1
   have : (10 : UInt8).toNat = 10 := rfl
   omega
  have st : ref37_Parse_loop1 (pst s fr n pre.length q) = some (.inl (pst s fr n (pre ++ [b]).length q)) := by
   unfold ref37_Parse_loop1 pst
   dsimp only
   try simp only [gPi, gSS, gPb, gPm, gPs, gM, gM2, gAnd, gOr, gAndI, gOrI, gAA, gAO, gOA, gOO, gAAf, gAOf, gOAf, gOOf, gAMf, gOMf, gId]
   try simp only [gIn1, gIn2, gIn3, gIn4, gIn5, gIn6, gIn7, gIn8, gId, gIdF, gMb, gMm, gBm, gBb, bs, ms]
   rw [lt_len hat, if_pos rfl, sAt_nat hat, bs, d, if_pos rfl, bs]
   dsimp only
   rw [w_succ (by omega)]
   simp
  rw [itL st, p_skip' l (pre ++ [b]) t (by rw [hs]; simp) hn (fun x hx => hb x (by simp [hx]))]
  simp only [List.length_append, List.length_cons, List.length_nil]
  rw [show pre.length + (0 + 1) + l.length = pre.length + (l.length + 1) by omega]
theorem p_line {s pre l t : List UInt8} {n : Nat} {q : Q4} (hs : s = pre ++ l ++ 10 :: t) (hn : s.length ≤ 50000) (hk : n ≤ 50000) (hq : q.2.2.2.length ≤ 50000) :
  ref37_Parse_loop1 (pst s pre.length n (pre.length + l.length) q) = some (match lineStep n q l with | some q' => .inl (pst s (pre.length + l.length + 1) (n + 1) (pre.length + l.length + 1) q') | none => .inr (.inr (noP, false))) := by
 have hat : s[pre.length + l.length]? = some 10 := by
  rw [hs, ← List.length_append, List.getElem?_append_right (Nat.le_refl _)]
  simp
 have hi := (List.getElem?_eq_some_iff.1 hat).1
 have hsub : lSub s (pre.length : Int) ((pre.length + l.length : Nat) : Int) = some l := by
  rw [lSub_nat (by omega) (by omega), hs, ← List.length_append, List.take_left, List.drop_left]
 have hll : l.length ≤ 50000 := by omega
 have hwd := splitU_word 32 l [] (by simp)
 have hlen : ∀ x ∈ splitB 32 l, x.length ≤ 50000 := fun x hx => by
  have := (hwd x hx).2.1
  simp at this
  omega
 unfold ref37_Parse_loop1 pst
 dsimp only
 try simp only [gPi, gSS, gPb, gPm, gPs, gM, gM2, gAnd, gOr, gAndI, gOrI, gAA, gAO, gOA, gOO, gAAf, gAOf, gOAf, gOOf, gAMf, gOMf, gId]
 try simp only [gIn1, gIn2, gIn3, gIn4, gIn5, gIn6, gIn7, gIn8, gId, gIdF, gMb, gMm, gBm, gBb, bs, ms]
 rw [lt_len hat, if_pos rfl, sAt_nat hat, bs, if_neg (show ¬ ((((10 : UInt8).toNat : Int) != 10) = true) by decide), hsub, bs, rwords_eq (by omega), bs]
 have wn : IntKind.i64.wrap ((n : Int) + 1) = ((n + 1 : Nat) : Int) := w_succ (by omega)
 have wi : IntKind.i64.wrap (((pre.length + l.length : Nat) : Int) + 1) = ((pre.length + l.length + 1 : Nat) : Int) := w_succ (by omega)
 rw [wn, wi]
 unfold lineStep
 by_cases h0 : n = 0
 ·subst h0
  rw [if_pos (show (((0 + 1 : Nat) : Int) == 1) = true from rfl), if_pos rfl]
  by_cases h4 : (splitB 32 l).length = 4
  ·match hm : splitB 32 l, h4 with
   | [a, b, c, e], _ =>
    have hb := hlen b (by rw [hm]; simp)
    have hc := hlen c (by rw [hm]; simp)
    have he := hlen e (by rw [hm]; simp)
    dsimp only
    rw [if_neg (show ¬ (((([a, b, c, e] : List (List UInt8)).length : Int) != 4) = true) by simp), show lAt [a, b, c, e] 0 = some a from lAt_nat (i := 0) rfl, bs, bs]
    cases ha : (a == paperW) with
    | false =>
     have ha' : (a == [112, 97, 112, 101, 114]) = false := ha
     rw [ha', if_pos (show (!false) = true from rfl), bs]
     rfl
    | true =>
     have ha' : (a == [112, 97, 112, 101, 114]) = true := ha
     rw [ha', if_neg (show ¬ ((!true) = true) by decide), show lAt [a, b, c, e] 1 = some b from lAt_nat (i := 1) rfl, bs, rnum_eq (by omega), bs, show lAt [a, b, c, e] 2 = some c from lAt_nat (i := 2) rfl, bs, rnum_eq (by omega), bs, show lAt [a, b, c, e] 3 = some e from lAt_nat (i := 3) rfl, bs, rnum_eq (by omega), bs]
     cases hb1 : okN b with
     | false => rfl
     | true =>
      cases hc1 : okN c with
      | false => rfl
      | true =>
       cases he1 : okN e with
       | false => rfl
       | true =>
        simp only [if_true, Bool.not_true, Bool.false_eq_true, if_false, bs, Bool.true_and]
        by_cases hle : numV 0 b ≤ 4294967295
        ·rw [decide_eq_false (show ¬ ((numV 0 b : Int) > 4294967295) by omega), if_neg (by decide), decide_eq_true hle, if_pos rfl, bs]
         have e4 : IntKind.u32.wrap (numV 0 b : Int) = (numV 0 b : Int) := by rw [IntKind.wrap_u32]; omega
         rw [e4]
         dsimp only
         rw [wi]
        ·rw [decide_eq_true (show (numV 0 b : Int) > 4294967295 by omega), if_pos rfl, decide_eq_false hle, if_neg (by decide), bs]
         rfl
  ·have d : (((splitB 32 l).length : Int) != 4) = true := by simp; omega
   rw [d, if_pos rfl, bs, if_pos rfl, bs]
   have : (match splitB 32 l with
    | [a, b, c, d] => if (a == paperW && okN b && okN c && okN d && decide (numV 0 b ≤ 4294967295)) = true then some ((numV 0 b : Int), (numV 0 c : Int), (numV 0 d : Int), q.2.2.2) else none
    | _ => none) = none := by
    split
    ·rename_i h; rw [h] at h4; exact absurd rfl h4
    ·rfl
   rw [this]
   rfl
 ·have d1 : (((n + 1 : Nat) : Int) == 1) = false := by rw [beq_eq_false_iff_ne]; omega
  rw [d1, if_neg (by decide), if_neg h0]
  by_cases h2 : (splitB 32 l).length = 2
  ·match hm : splitB 32 l, h2 with
   | [a, b], _ =>
    have hb := hlen b (by rw [hm]; simp)
    dsimp only
    rw [if_neg (show ¬ (((([a, b] : List (List UInt8)).length : Int) != 2) = true) by simp), show lAt [a, b] 1 = some b from lAt_nat (i := 1) rfl, bs]
    rcases ref01_Parse_eq (s := b) (by omega) with ⟨c, hc, e⟩ | ⟨_, e⟩
    ·rw [e, bs]
     dsimp only
     rw [if_neg (show ¬ ((!true) = true) by decide), show lAt [a, b] 0 = some a from lAt_nat (i := 0) rfl, bs, appOk' (by simp; omega) (by decide), bs]
     dsimp only
     rw [wi]
    ·rw [e, bs]
     rfl
  ·have d : (((splitB 32 l).length : Int) != 2) = true := by simp; omega
   rw [d, if_pos rfl, bs]
   have : (match splitB 32 l with
    | [a, b] => (match ref01_Parse b with
     | some (c, true) => some (q.1, q.2.1, q.2.2.1, q.2.2.2 ++ [(a, c)])
     | _ => none)
    | _ => none) = none := by
    split
    ·rename_i h; rw [h] at h2; exact absurd rfl h2
    ·rfl
   rw [this]
   rfl
theorem p_end {s : List UInt8} {fr n : Nat} {q : Q4} : ref37_Parse_loop1 (pst s fr n s.length q) = some (.inr (.inl (s, (fr : Int), (n : Int), 0, 0, 0, q.1, q.2.1, q.2.2.1, q.2.2.2, (), (), (), (), (), (), ()))) := by
 unfold ref37_Parse_loop1 pst
 dsimp only
 rw [nlt_len, if_neg (by decide)]
def joinB : List (List UInt8) → List UInt8
 | [] => []
 | [a] => a
 | a :: b :: r => a ++ 32 :: joinB (b :: r)
theorem join_split : ∀ (s cur : List UInt8), joinB (splitU 32 cur s) = cur ++ s
 | [], cur => by simp [splitU, joinB]
 | b :: s, cur => by
  rw [splitU_cons]
  by_cases hb : b = 32
  ·rw [if_pos hb]
   have ih := join_split s []
   cases hs : splitU 32 [] s with
   | nil => exact absurd hs (splitU_ne 32 s [])
   | cons x r =>
    rw [hs] at ih
    show cur ++ 32 :: joinB (x :: r) = _
    rw [ih, hb]
    rfl
  ·rw [if_neg hb, join_split s (cur ++ [b])]
   simp
theorem okN_text {w : List UInt8} (h : okN w = true) : w = Lib.itoa (numV 0 w : Int) ∧ numV 0 w < 10000000000 := by
 unfold okN at h
 rw [Bool.and_eq_true, decide_eq_true_eq] at h
 have e := digits_of h.1
 refine ⟨?_, ?_⟩
 ·rw [itoa_nat (by omega), Int.toNat_natCast, e]
 ·have hb : ∀ (w : List UInt8) (a k : Nat), w.all dgt = true → a < 10 ^ k → numV a w < 10 ^ (k + w.length) := by
   intro w
   induction w with
   | nil => intro a k _ h; simpa [numV] using h
   | cons b w ih =>
    intro a k h1 h2
    rw [List.all_cons, Bool.and_eq_true] at h1
    have hb := dgt_iff.1 h1.1
    have := ih (a * 10 + (b.toNat - 48)) (k + 1) h1.2 (by rw [Nat.pow_succ]; omega)
    rw [List.length_cons, show k + (w.length + 1) = k + 1 + w.length by omega]
    exact this
  have h1 := hb w 0 0 (canon_all h.1) (by decide)
  have h2 : (10 : Nat) ^ (0 + w.length) ≤ 10 ^ 10 := Nat.pow_le_pow_right (by decide) (by omega)
  have h3 : (10 : Nat) ^ 10 = 10000000000 := rfl
  omega
theorem lineStep_head {q q' : Q4} {l : List UInt8} (h : lineStep 0 q l = some q') : l = headS q'.1 q'.2.1 q'.2.2.1 ∧ (0 ≤ q'.1 ∧ q'.1 ≤ 4294967295) ∧ q'.2.2.2 = q.2.2.2 := by
 unfold lineStep at h
 rw [if_pos rfl] at h
 split at h
 ·rename_i a b c d hm
  split at h
  ·rename_i hc
   cases h
   simp only [Bool.and_eq_true, beq_iff_eq, decide_eq_true_eq] at hc
   obtain ⟨⟨⟨⟨h1, h2⟩, h3⟩, h4⟩, h5⟩ := hc
   have hj := join_split l []
   rw [show splitU 32 [] l = [a, b, c, d] from hm] at hj
   have e : l = a ++ 32 :: (b ++ 32 :: (c ++ 32 :: d)) := by
    rw [List.nil_append] at hj
    exact hj.symm
   refine ⟨?_, ⟨by dsimp only; omega, by dsimp only; omega⟩, rfl⟩
   dsimp only
   unfold headS
   rw [← (okN_text h2).1, ← (okN_text h3).1, ← (okN_text h4).1, e, h1]
   rfl
  ·cases h
 ·cases h
theorem lineStep_line {q q' : Q4} {l : List UInt8} {n : Nat} (hn : n ≠ 0) (hl : l.length ≤ 50000) (h : lineStep n q l = some q') : ∃ x : It, l = lineT x ∧ q' = (q.1, q.2.1, q.2.2.1, q.2.2.2 ++ [x]) := by
 unfold lineStep at h
 rw [if_neg hn] at h
 split at h
 ·rename_i a b hm
  have hj := join_split l []
  rw [show splitU 32 [] l = [a, b] from hm] at hj
  have e : l = a ++ 32 :: b := by
   rw [List.nil_append] at hj
   exact hj.symm
  have hb : b.length ≤ 50000 := by
   have := congrArg List.length e
   simp at this
   omega
  rcases ref01_Parse_eq (s := b) (by omega) with ⟨c, hc, e'⟩ | ⟨_, e'⟩
  ·rw [e'] at h
   cases h
   refine ⟨(a, c), ?_, rfl⟩
   unfold lineT
   dsimp only
   rw [hc.2, e]
  ·rw [e'] at h
   cases h
 ·cases h
def InvP (s : List UInt8) (n : Nat) (pre : List UInt8) (q : Q4) : Prop :=
 n ≤ pre.length ∧ q.2.2.2.length ≤ pre.length ∧ ((n = 0 ∧ pre = [] ∧ q = (0, 0, 0, [])) ∨ (n ≠ 0 ∧ pre = headS q.1 q.2.1 q.2.2.1 ++ 10 :: bodyS q.2.2.2 ∧ 0 ≤ q.1 ∧ q.1 ≤ 4294967295))
theorem rp_tot {s : List UInt8} (hn : s.length ≤ 50000) : ∀ (m : Nat) (t pre : List UInt8) (n : Nat) (q : Q4), t.length ≤ m → s = pre ++ t → InvP s n pre q →
  iter ref37_Parse_loop1 (pst s pre.length n pre.length q) = some (.inr (noP, false)) ∨ ∃ pre' r n' q', s = pre' ++ r ∧ InvP s n' pre' q' ∧ iter ref37_Parse_loop1 (pst s pre.length n pre.length q) = some (.inl (s, (pre'.length : Int), (n' : Int), 0, 0, 0, q'.1, q'.2.1, q'.2.2.1, q'.2.2.2, (), (), (), (), (), (), ())) := by
 intro m
 induction m with
 | zero =>
  intro t pre n q ht hs hI
  have : t = [] := List.eq_nil_of_length_eq_zero (by omega)
  subst this
  rw [List.append_nil] at hs
  refine .inr ⟨pre, [], n, q, by rw [hs, List.append_nil], hI, ?_⟩
  rw [← hs]
  exact itR p_end
 | succ m ih =>
  intro t pre n q ht hs hI
  rcases byte_split 10 t with g | ⟨l, t', rfl, g⟩
  ·refine .inr ⟨pre, t, n, q, hs, hI, ?_⟩
   rw [p_skip' t pre [] (by rw [hs, List.append_nil]) hn g, show pre.length + t.length = s.length by rw [hs]; simp]
   exact itR p_end
  ·have hlen : s.length = pre.length + l.length + 1 + t'.length := by rw [hs]; simp; omega
   rw [p_skip' l pre (10 :: t') (by rw [hs, List.append_assoc]) hn g]
   have hst := p_line (n := n) (q := q) (l := l) (t := t') (pre := pre) (by rw [hs, List.append_assoc]) hn (by have := hI.1; omega) (by have := hI.2.1; omega)
   cases hL : lineStep n q l with
   | none =>
    rw [hL] at hst
    exact .inl (itR hst)
   | some q' =>
    rw [hL] at hst
    rw [itL hst]
    have e : pre.length + l.length + 1 = (pre ++ l ++ [10]).length := by simp; omega
    rw [e]
    refine ih t' (pre ++ l ++ [10]) (n + 1) q' (by simp at ht; omega) (by rw [hs]; simp) ?_
    obtain ⟨i1, i2, i3⟩ := hI
    rcases i3 with ⟨rfl, rfl, rfl⟩ | ⟨h0, h1, h2⟩
    ·obtain ⟨k1, k2, k3⟩ := lineStep_head hL
     have k3' : q'.2.2.2 = [] := k3
     refine ⟨by simp, by rw [k3']; simp, .inr ⟨by simp, ?_, k2⟩⟩
     rw [k3', k1]
     simp [bodyS]
    ·obtain ⟨x, k1, k2⟩ := lineStep_line h0 (by omega) hL
     subst k2
     refine ⟨by simp; omega, by simp; omega, .inr ⟨by simp, ?_, h2⟩⟩
     dsimp only
     rw [h1, k1]
     simp [bodyS]
theorem rParse_tot {s : List UInt8} (hn : s.length ≤ 50000) : ref37_Parse s = some (noP, false) ∨ ∃ p, Fine p ∧ textS p = s ∧ ref37_Parse s = some (p, true) := by
 unfold ref37_Parse
 dsimp only
 try simp only [gPi, gSS, gPb, gPm, gPs, gM, gM2, gAnd, gOr, gAndI, gOrI, gAA, gAO, gOA, gOO, gAAf, gAOf, gOAf, gOOf, gAMf, gOMf, gId]
 try simp only [gIn1, gIn2, gIn3, gIn4, gIn5, gIn6, gIn7, gIn8, gId, gIdF, gMb, gMm, gBm, gBb, bs, ms]
 have h := rp_tot hn s.length s [] 0 (0, 0, 0, []) (Nat.le_refl _) rfl ⟨by simp, by simp, .inl ⟨rfl, rfl, rfl⟩⟩
 unfold pst at h
 dsimp only [List.length_nil] at h
 rw [show ((0 : Nat) : Int) = 0 from rfl] at h
 rcases h with h | ⟨pre', r, n', q', h1, h2, h⟩
 ·rw [h, bs]
  exact .inl rfl
 ·rw [h, bs]
  dsimp only
  obtain ⟨i1, i2, i3⟩ := h2
  rcases i3 with ⟨rfl, rfl, rfl⟩ | ⟨h0, g1, g2⟩
  ·exact .inl rfl
  ·have d0 : ((n' : Int) == 0) = false := by rw [beq_eq_false_iff_ne]; omega
   rw [d0, if_neg (by decide), bs]
   have hlen : s.length = pre'.length + r.length := by rw [h1]; simp
   by_cases hr : r = []
   ·subst hr
    rw [List.append_nil] at h1
    have d1 : ((pre'.length : Int) != (s.length : Int)) = false := by rw [h1]; simp
    rw [d1, if_neg (by decide), show ref37_Right (q'.1, q'.2.1, q'.2.2.2, q'.2.2.1) = some (rightS (q'.1, q'.2.1, q'.2.2.2, q'.2.2.1)) from rRight_eq _, bs, bs]
    cases hR : rightS (q'.1, q'.2.1, q'.2.2.2, q'.2.2.1) with
    | false => exact .inl rfl
    | true =>
     refine .inr ⟨(q'.1, q'.2.1, q'.2.2.2, q'.2.2.1), ⟨hR, g2⟩, ?_, rfl⟩
     rw [h1, g1]
     rfl
   ·have d1 : ((pre'.length : Int) != (s.length : Int)) = true := by
     rw [bne_iff_ne]
     have : 0 < r.length := List.length_pos_iff.2 hr
     omega
    rw [d1, if_pos rfl, bs]
    exact .inl rfl
theorem okN_itoa {n : Int} (h : 0 ≤ n ∧ n ≤ 4294967295) : okN (Lib.itoa n) = true ∧ (numV 0 (Lib.itoa n) : Int) = n := by
 have hl := itoa_len h
 rw [itoa_nat h.1] at hl ⊢
 unfold okN
 rw [canon_digits, decide_eq_true hl, digits_num]
 exact ⟨rfl, by omega⟩
theorem lineStep_mkH {q : Q4} {w y n : Int} (h1 : 0 ≤ w ∧ w ≤ 4294967295) (h2 : 0 ≤ y ∧ y ≤ 4294967295) (h3 : 0 ≤ n ∧ n ≤ 4294967295) : lineStep 0 q (headS w y n) = some (w, y, n, q.2.2.2) := by
 unfold lineStep
 rw [if_pos rfl, split_head h1.1 h2.1 h3.1]
 dsimp only
 obtain ⟨a1, a2⟩ := okN_itoa h1
 obtain ⟨b1, b2⟩ := okN_itoa h2
 obtain ⟨c1, c2⟩ := okN_itoa h3
 rw [a1, b1, c1, decide_eq_true (show numV 0 (Lib.itoa w) ≤ 4294967295 by omega), a2, b2, c2]
 rfl
theorem lineStep_mkL {q : Q4} {x : It} {n : Nat} (hn : n ≠ 0) (h1 : codeB x.1 = true) (h2 : fitB x.2 = true) : lineStep n q (lineT x) = some (q.1, q.2.1, q.2.2.1, q.2.2.2 ++ [x]) := by
 unfold lineStep
 rw [if_neg hn, split_line (code_no h1)]
 dsimp only
 have hI : IsC (textC x.2) x.2 := ⟨fit_nat h2, rfl⟩
 rcases ref01_Parse_eq (s := textC x.2) (by have := text_len x.2 (fit_nat h2); omega) with ⟨v, hv, e⟩ | ⟨hn', _⟩
 ·rw [e, isC_inj hv hI]
 ·exact absurd hI (hn' _)
theorem rp_boxes {s : List UInt8} (hn : s.length ≤ 50000) {w y n : Int} : ∀ (l done : List It) (pre : List UInt8) (k : Nat), k ≠ 0 → k + l.length ≤ 10000 → done.length + l.length ≤ 10000 → (∀ x ∈ l, codeB x.1 = true ∧ fitB x.2 = true ∧ x.2 ≠ 0) → s = pre ++ bodyS l →
  iter ref37_Parse_loop1 (pst s pre.length k pre.length (w, y, n, done)) = some (.inl (s, (s.length : Int), ((k + l.length : Nat) : Int), 0, 0, 0, w, y, n, done ++ l, (), (), (), (), (), (), ()))
 | [], done, pre, k, _, _, _, _, hs => by
  have : s = pre := by rw [hs]; simp [bodyS]
  rw [← this, itR p_end]
  simp
 | x :: l, done, pre, k, hk, hb, hd, hx, hs => by
  have hx0 := hx x (by simp)
  have hno := lineT_no (code_no hx0.1)
  have e0 : bodyS (x :: l) = lineT x ++ 10 :: bodyS l := by simp [bodyS]
  rw [e0] at hs
  simp only [List.length_cons] at hb hd
  rw [p_skip' (lineT x) pre (10 :: bodyS l) (by rw [hs, List.append_assoc]) hn hno]
  have hst := p_line (n := k) (q := (w, y, n, done)) (l := lineT x) (t := bodyS l) (pre := pre) (by rw [hs, List.append_assoc]) hn (by omega) (by dsimp only; omega)
  rw [lineStep_mkL hk hx0.1 hx0.2.1] at hst
  rw [itL hst]
  have e : pre.length + (lineT x).length + 1 = (pre ++ lineT x ++ [10]).length := by simp; omega
  rw [e, rp_boxes hn l (done ++ [x]) (pre ++ lineT x ++ [10]) (k + 1) (by omega) (by omega) (by simp; omega) (fun z hz => hx z (by simp [hz])) (by rw [hs]; simp)]
  simp only [List.append_assoc, List.singleton_append, List.length_cons]
  rw [show k + 1 + l.length = k + (l.length + 1) by omega]
theorem rParse_text {p : Ppr} (h : Fine p) : ref37_Parse (textS p) = some (p, true) := by
 obtain ⟨f1, f2, f3, f4⟩ := h.f
 have hl := textS_len h
 have hH := headS_no (w := p.1) (y := p.2.1) (n := p.2.2.2) h.u.1 (by omega) f3.1
 have hs : textS p = headS p.1 p.2.1 p.2.2.2 ++ 10 :: bodyS p.2.2.1 := rfl
 generalize hS : textS p = s at hl hs
 have h1 : iter ref37_Parse_loop1 (pst s 0 0 0 (0, 0, 0, [])) = some (.inl (s, (s.length : Int), ((1 + p.2.2.1.length : Nat) : Int), 0, 0, 0, p.1, p.2.1, p.2.2.2, p.2.2.1, (), (), (), (), (), (), ())) := by
  have e1 := p_skip' (s := s) (fr := 0) (n := 0) (q := (0, 0, 0, [])) (headS p.1 p.2.1 p.2.2.2) [] (10 :: bodyS p.2.2.1) hs (by omega) hH
  rw [List.length_nil] at e1
  rw [e1]
  have hst := p_line (s := s) (n := 0) (q := (0, 0, 0, [])) (l := headS p.1 p.2.1 p.2.2.2) (t := bodyS p.2.2.1) (pre := []) hs (by omega) (by omega) (by simp)
  rw [lineStep_mkH h.u ⟨by omega, by omega⟩ ⟨by omega, by omega⟩, List.length_nil] at hst
  rw [itL hst]
  have e : 0 + (headS p.1 p.2.1 p.2.2.2).length + 1 = (headS p.1 p.2.1 p.2.2.2 ++ [10]).length := by simp
  rw [e, rp_boxes (by omega) p.2.2.1 [] (headS p.1 p.2.1 p.2.2.2 ++ [10]) (0 + 1) (by omega) (by omega) (by simp; omega) f4 (by rw [hs]; simp)]
  simp
 unfold pst at h1
 rw [show ((0 : Nat) : Int) = 0 from rfl] at h1
 unfold ref37_Parse
 dsimp only
 try simp only [gPi, gSS, gPb, gPm, gPs, gM, gM2, gAnd, gOr, gAndI, gOrI, gAA, gAO, gOA, gOO, gAAf, gAOf, gOAf, gOOf, gAMf, gOMf, gId]
 try simp only [gIn1, gIn2, gIn3, gIn4, gIn5, gIn6, gIn7, gIn8, gId, gIdF, gMb, gMm, gBm, gBb, bs, ms]
 rw [h1, bs]
 dsimp only
 have d0 : (((1 + p.2.2.1.length : Nat) : Int) == 0) = false := by rw [beq_eq_false_iff_ne]; omega
 have d1 : ((s.length : Int) != (s.length : Int)) = false := by simp
 rw [d0, if_neg (by decide), bs, d1, if_neg (by decide), show ref37_Right (p.1, p.2.1, p.2.2.1, p.2.2.2) = some (rightS p) from rRight_eq p, h.r]
 rfl
theorem law_PaperParses (s : List UInt8) : law37_PaperParses s = some true := by
 unfold law37_PaperParses
 dsimp only
 try simp only [gPi, gSS, gPb, gPm, gPs, gM, gM2, gAnd, gOr, gAndI, gOrI, gAA, gAO, gOA, gOO, gAAf, gAOf, gOAf, gOOf, gAMf, gOMf, gId]
 try simp only [gIn1, gIn2, gIn3, gIn4, gIn5, gIn6, gIn7, gIn8, gId, gIdF, gMb, gMm, gBm, gBb, bs, ms]
 by_cases g : (s.length : Int) > 1500
 ·rw [decide_eq_true g, if_pos rfl, awake_eq]
 ·rw [decide_eq_false g, if_neg (by decide)]
  rcases Parse_tot (s := s) (by omega) with h1 | ⟨p, hp, ht, h1⟩
  ·rcases rParse_tot (s := s) (by omega) with h2 | ⟨p', hp', ht', h2⟩
   ·rw [h1, bs, h2, bs]
    dsimp only
    rw [show law37_same ((noP.1, noP.2.1, noP.2.2.1, noP.2.2.2), noP.1, noP.2.1, noP.2.2.1, noP.2.2.2) = some true from sameNo, bs, if_pos rfl, bs]
    rw [if_pos (show (((3 : Int) == 0) == false) = true from rfl), if_neg (by decide), bs, if_pos (show ((3 : Int) == 3) = true from rfl), awake_eq]
   ·have := Parse_text hp'
    rw [ht', h1] at this
    simp at this
  ·have h2 := rParse_text hp
   rw [ht] at h2
   rw [h1, bs, h2, bs]
   dsimp only
   rw [psame rfl (by have := hp.f.2.1; dsimp only; omega), bs, if_pos rfl, bs]
   rw [if_pos (show (((0 : Int) == 0) == true) = true from rfl), if_pos rfl, bs, if_pos rfl, awake_eq]
end WB

