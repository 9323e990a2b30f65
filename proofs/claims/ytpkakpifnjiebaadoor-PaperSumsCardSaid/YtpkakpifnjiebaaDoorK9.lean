/-
 OWN TEXTS, MERGED (wip/merge.py): Pnm, Psl, Pbx, Pbz, Ppo, Ppd, Ppr, Ppe, Ppf, Ppg, Ppt, Ppu, Ppv. No condition of their own.
-/
import Derived.Test.YtpkakpifnjiebaaDoorK8
import Derived.Test.YtpkakpifnjiebaaDoorK6
import Derived.KernelRfl
set_option linter.unusedVariables false
set_option linter.unusedSimpArgs false
namespace WB
open Go Go.RowKit
theorem itL {S T : Type} {b : S → Option (S ⊕ T)} {s s' : S} (h : b s = some (.inl s')) : iter b s = iter b s' := by rw [iter_eq, h]; rfl
theorem itR {S T : Type} {b : S → Option (S ⊕ T)} {s : S} {t : T} (h : b s = some (.inr t)) : iter b s = some t := by rw [iter_eq, h]; rfl
def okb (b : UInt8) : Bool := !((decide ((b.toNat : Int) < 97) || decide ((b.toNat : Int) > 122)) && (decide ((b.toNat : Int) < 48) || decide ((b.toNat : Int) > 57)) && ((b.toNat : Int) != 46) && ((b.toNat : Int) != 95) && ((b.toNat : Int) != 45))
def nameB (s : List UInt8) : Bool := s.all okb && !(s == []) && !(s == [45]) && decide ((s.length : Int) ≤ 32)
end WB
namespace WB
open Go Go.RowKit
abbrev Ln := Int × List UInt8 × Int
def fitD (a : Int) : Bool := decide (-1125899906842624 ≤ a) && decide (a ≤ 1125899906842624)
theorem fitD_iff {a : Int} : fitD a = true ↔ -1125899906842624 ≤ a ∧ a ≤ 1125899906842624 := by simp [fitD]
theorem Fits_eq' (a : Int) : cents_Fits a = some (fitD a) := by
 unfold cents_Fits fitD
 dsimp only
 simp only [gPi, gSS, gPb, gPm, gPs, gM, gM2, gAnd, gOr, gAndI, gOrI, gAA, gAO, gOA, gOO, gAAf, gAOf, gOAf, gOOf, gAMf, gOMf, gId]
 try simp only [gIn1, gIn2, gIn3, gIn4, gIn5, gIn6, gIn7, gIn8, gId, gIdF, gMb, gMm, gBm, gBb, bs, ms]
 by_cases h : a ≥ -1125899906842624
 ·rw [show decide (a ≥ -1125899906842624) = true from decide_eq_true h, if_pos rfl, Bool.true_and]
 ·rw [show decide (a ≥ -1125899906842624) = false from decide_eq_false h, if_neg (by decide), Bool.false_and]
theorem scode_eq (s : List UInt8) : slip_code s = some (nameB s) := by
 unfold slip_code nameB
 dsimp only
 simp only [gPi, gSS, gPb, gPm, gPs, gM, gM2, gAnd, gOr, gAndI, gOrI, gAA, gAO, gOA, gOO, gAAf, gAOf, gOAf, gOOf, gAMf, gOMf, gId]
 try simp only [gIn1, gIn2, gIn3, gIn4, gIn5, gIn6, gIn7, gIn8, gId, gIdF, gMb, gMm, gBm, gBb, bs, ms]
 by_cases h1 : s = []
 ·subst h1; rfl
 ·have d1 : (s == []) = false := by simpa using h1
  rw [d1, if_neg (by decide), bs]
  by_cases h2 : s = [45]
  ·subst h2; rfl
  ·have d2 : (s == [45]) = false := by simpa using h2
   rw [d2, if_neg (by decide)]
   by_cases h3 : (s.length : Int) > 32
   ·rw [decide_eq_true h3, bs, if_pos rfl, decide_eq_false (show ¬ ((s.length : Int) ≤ 32) by omega), Bool.and_false]
   ·rw [decide_eq_false h3, bs, if_neg (by decide), decide_eq_true (show (s.length : Int) ≤ 32 by omega)]
    have key := iter_fold0 (b := slip_code_loop1) (α := Int) (A := Unit) (fun k _ => (s.map fun b => (b.toNat : Int), ((s.map fun b => (b.toNat : Int)).length : Int), (k : Int), ()))
     (fun _ x => if (!((decide (x < 97) || decide (x > 122)) && (decide (x < 48) || decide (x > 57)) && (x != 46) && (x != 95) && (x != 45))) = true then .inl () else .inr (.inr false)) (fun _ => .inl ()) (fun _ _ => True) (s.map fun b => (b.toNat : Int)) (a := ()) trivial (fun k x _ hx _ => by
     have hk := (List.getElem?_eq_some_iff.1 hx).1
     rw [List.length_map] at hk
     unfold slip_code_loop1
     dsimp only
     simp only [gPi, gSS, gPb, gPm, gPs, gM, gM2, gAnd, gOr, gAndI, gOrI, gAA, gAO, gOA, gOO, gAAf, gAOf, gOAf, gOOf, gAMf, gOMf, gId]
     try simp only [gIn1, gIn2, gIn3, gIn4, gIn5, gIn6, gIn7, gIn8, gId, gIdF, gMb, gMm, gBm, gBb, bs, ms]
     rw [lt_len hx, if_pos rfl, lAt_nat hx, bs]
     have hw := w_succ (i := k) (by omega)
     have e1 : decide (x < 97) = !decide (x ≥ 97) := by rw [Bool.eq_iff_iff]; simp
     have e2 : decide (x > 122) = !decide (x ≤ 122) := by rw [Bool.eq_iff_iff]; simp
     have e3 : decide (x < 48) = !decide (x ≥ 48) := by rw [Bool.eq_iff_iff]; simp
     have e4 : decide (x > 57) = !decide (x ≤ 57) := by rw [Bool.eq_iff_iff]; simp
     rw [e1, e2, e3, e4]
     simp only [bne]
     generalize decide (x ≥ 97) = a1
     generalize decide (x ≤ 122) = a2
     generalize decide (x ≥ 48) = a3
     generalize decide (x ≤ 57) = a4
     obtain ⟨a5, h5⟩ : ∃ b, (x == 46) = b := ⟨_, rfl⟩
     obtain ⟨a6, h6⟩ : ∃ b, (x == 95) = b := ⟨_, rfl⟩
     obtain ⟨a7, h7⟩ : ∃ b, (x == 45) = b := ⟨_, rfl⟩
     simp only [h5, h6, h7]
     cases a1 <;> cases a2 <;> cases a3 <;> cases a4 <;> cases a5 <;> cases a6 <;> cases a7 <;> first | rfl | exact congrArg (fun q => some (Sum.inl (_, _, q, ()))) hw) (fun _ _ _ _ _ _ _ => trivial) (fun _ _ => by
     unfold slip_code_loop1
     dsimp only
     rw [nlt_len, if_neg (by decide)])
    rw [if_pos (show s.length ≤ 70368744177664 by omega), show (0 : Int) = ((0 : Nat) : Int) from rfl, key, bs]
    have hf : ∀ m : List UInt8, foldE (fun (_ : Unit) (x : Int) => if (!((decide (x < 97) || decide (x > 122)) && (decide (x < 48) || decide (x > 57)) && (x != 46) && (x != 95) && (x != 45))) = true then Sum.inl () else Sum.inr (Sum.inr false : Unit ⊕ Bool)) (fun _ => Sum.inl ()) () (m.map fun b => (b.toNat : Int)) = if m.all okb = true then .inl () else .inr false := by
     intro m
     induction m with
     | nil => rfl
     | cons b m ih =>
      rw [List.map_cons, foldE, List.all_cons]
      cases hb : okb b with
      | true =>
       have : (!((decide ((b.toNat : Int) < 97) || decide ((b.toNat : Int) > 122)) && (decide ((b.toNat : Int) < 48) || decide ((b.toNat : Int) > 57)) && ((b.toNat : Int) != 46) && ((b.toNat : Int) != 95) && ((b.toNat : Int) != 45))) = true := hb
       rw [if_pos this]
       simp only [Bool.true_and]
       exact ih
      | false =>
       have : ¬ (!((decide ((b.toNat : Int) < 97) || decide ((b.toNat : Int) > 122)) && (decide ((b.toNat : Int) < 48) || decide ((b.toNat : Int) > 57)) && ((b.toNat : Int) != 46) && ((b.toNat : Int) != 95) && ((b.toNat : Int) != 45))) = true := by
        have h' : (!((decide ((b.toNat : Int) < 97) || decide ((b.toNat : Int) > 122)) && (decide ((b.toNat : Int) < 48) || decide ((b.toNat : Int) > 57)) && ((b.toNat : Int) != 46) && ((b.toNat : Int) != 95) && ((b.toNat : Int) != 45))) = false := hb
        rw [h']; decide
       rw [if_neg this]
       rfl
    rw [hf]
    cases s.all okb <;> rfl
def lineS (l : Ln) : Int := if l.1 < 0 ∨ l.1 ≥ 7 then 11 else if nameB l.2.1 = false then 12 else if l.2.2 = 0 then 22 else if fitD l.2.2 = false then 9 else 0
theorem line_eq (l : Ln) : slip_line l = some (lineS l) := by
 obtain ⟨p, c, x⟩ := l
 unfold slip_line lineS
 dsimp only
 simp only [gPi, gSS, gPb, gPm, gPs, gM, gM2, gAnd, gOr, gAndI, gOrI, gAA, gAO, gOA, gOO, gAAf, gAOf, gOAf, gOOf, gAMf, gOMf, gId]
 try simp only [gIn1, gIn2, gIn3, gIn4, gIn5, gIn6, gIn7, gIn8, gId, gIdF, gMb, gMm, gBm, gBb, bs, ms]
 by_cases h1 : p < 0
 ·rw [decide_eq_true h1, if_pos rfl, bs, if_pos rfl, if_pos (.inl h1)]
 ·rw [decide_eq_false h1, if_neg (by decide)]
  by_cases h2 : p ≥ 7
  ·rw [decide_eq_true h2, bs, if_pos rfl, if_pos (.inr h2)]
  ·rw [decide_eq_false h2, bs, if_neg (by decide), if_neg (show ¬ (p < 0 ∨ p ≥ 7) by omega), scode_eq, bs]
   cases hn : nameB c with
   | false => rfl
   | true =>
    rw [if_neg (show ¬ ((!true) = true) by decide), if_neg (show ¬ (true = false) by decide)]
    by_cases h3 : x = 0
    ·have d : (x == 0) = true := by simpa using h3
     rw [d, if_pos rfl, if_pos h3]
    ·have d : (x == 0) = false := by simpa using h3
     rw [d, if_neg (by decide), if_neg h3, Fits_eq', bs]
     cases fitD x <;> rfl
def lessS (p x : Ln) : Bool := decide (p.1 < x.1) || (p.1 == x.1 && sLess p.2.1 x.2.1)
theorem less_eq (p x : Ln) : slip_less (p, x) = some (lessS p x) := by
 obtain ⟨a, b, c⟩ := p
 obtain ⟨a', b', c'⟩ := x
 unfold slip_less lessS
 dsimp only
 simp only [gPi, gSS, gPb, gPm, gPs, gM, gM2, gAnd, gOr, gAndI, gOrI, gAA, gAO, gOA, gOO, gAAf, gAOf, gOAf, gOOf, gAMf, gOMf, gId]
 try simp only [gIn1, gIn2, gIn3, gIn4, gIn5, gIn6, gIn7, gIn8, gId, gIdF, gMb, gMm, gBm, gBb, bs, ms]
 by_cases h : a < a'
 ·rw [decide_eq_true h, if_pos rfl]; rfl
 ·rw [decide_eq_false h, if_neg (by decide)]
  cases h2 : (a == a') <;> simp
def chkStep' (pr : Option Ln) (x : Ln) : Option Ln ⊕ (Unit ⊕ Int) :=
 if lineS x ≠ 0 then .inr (.inr (lineS x)) else match pr with
  | none => .inl (some x)
  | some p => if (p.1 == x.1 && p.2.1 == x.2.1) = true then .inr (.inr 7) else if lessS p x = false then .inr (.inr 8) else .inl (some x)
def slipS (s : Int × Int × List Ln) : Int := if s.1 < 1900 ∨ s.1 > 2199 ∨ s.2.1 < 1 ∨ s.2.1 > 400 then 2 else if (s.2.2.length : Int) > 448 then 5 else match foldE chkStep' (fun _ => Sum.inl ()) none s.2.2 with
 | .inl _ => 0
 | .inr e => e
theorem slip_eq (s : Int × Int × List Ln) : slip_Check s = some (slipS s) := by
 obtain ⟨y, ix, L⟩ := s
 unfold slip_Check slipS
 dsimp only
 simp only [gPi, gSS, gPb, gPm, gPs, gM, gM2, gAnd, gOr, gAndI, gOrI, gAA, gAO, gOA, gOO, gAAf, gAOf, gOAf, gOOf, gAMf, gOMf, gId]
 try simp only [gIn1, gIn2, gIn3, gIn4, gIn5, gIn6, gIn7, gIn8, gId, gIdF, gMb, gMm, gBm, gBb, bs, ms]
 by_cases h0 : y < 1900 ∨ y > 2199 ∨ ix < 1 ∨ ix > 400
 ·rw [if_pos h0]
  by_cases h1 : y < 1900
  ·rw [decide_eq_true h1]; rfl
  ·rw [decide_eq_false h1, if_neg (by decide), bs]
   by_cases h2 : y > 2199
   ·rw [decide_eq_true h2]; rfl
   ·rw [decide_eq_false h2, if_neg (by decide)]
    by_cases h3 : ix < 1
    ·rw [decide_eq_true h3]; rfl
    ·rw [decide_eq_false h3, if_neg (by decide), decide_eq_true (show ix > 400 by omega)]; rfl
 ·rw [if_neg h0, decide_eq_false (show ¬ (y < 1900) by omega), if_neg (by decide), bs, decide_eq_false (show ¬ (y > 2199) by omega), if_neg (by decide), decide_eq_false (show ¬ (ix < 1) by omega), if_neg (by decide), bs, decide_eq_false (show ¬ (ix > 400) by omega), bs]
  dsimp only
  rw [if_neg (show ¬ (false = true) by decide)]
  by_cases hn : (L.length : Int) > 448
  ·rw [decide_eq_true hn, if_pos rfl, if_pos hn]
  ·rw [decide_eq_false hn, if_neg (by decide), if_neg hn]
   have key := iter_fold0 (b := slip_Check_loop1) (α := Ln) (A := Option Ln) (fun k _ => (L, (L.length : Int), (k : Int), y, ix, L, (), (), ())) chkStep' (fun _ => Sum.inl ())
    (fun i pr => pr = if i = 0 then none else L[i - 1]?) L (a := none) rfl (fun i x pr hx hpr => by
    have hi := (List.getElem?_eq_some_iff.1 hx).1
    unfold slip_Check_loop1 chkStep'
    dsimp only
    simp only [gPi, gSS, gPb, gPm, gPs, gM, gM2, gAnd, gOr, gAndI, gOrI, gAA, gAO, gOA, gOO, gAAf, gAOf, gOAf, gOOf, gAMf, gOMf, gId]
    try simp only [gIn1, gIn2, gIn3, gIn4, gIn5, gIn6, gIn7, gIn8, gId, gIdF, gMb, gMm, gBm, gBb, bs, ms]
    rw [lt_len hx, if_pos rfl, lAt_nat hx, bs, line_eq, bs]
    by_cases hz : lineS x = 0
    ·have d : (lineS (x.1, x.2.1, x.2.2) != 0) = false := by simpa using hz
     rw [d, if_neg (show ¬ (false = true) by decide), if_neg (show ¬ (lineS x ≠ 0) by simpa using hz)]
     cases i with
     | zero =>
      rw [if_pos rfl] at hpr
      subst hpr
      rw [if_pos (show (((0 : Nat) : Int) == 0) = true from rfl), bs]
      dsimp only
      rw [w_succ (by omega)]
      rfl
     | succ i =>
      have hlt : i < L.length := by omega
      rw [if_neg (by omega), Nat.add_sub_cancel, List.getElem?_eq_getElem hlt] at hpr
      subst hpr
      rw [if_neg (show ¬ ((((i + 1 : Nat) : Int) == 0) = true) by simp; omega), show ((i + 1 : Nat) : Int) - 1 = (i : Int) by omega, w64' (n := (i : Int)) (by omega) (by omega), lAt_nat (List.getElem?_eq_getElem hlt), bs]
      have e1 : (if (L[i].1 == x.1) = true then some (L[i].2.1 == x.2.1) else some false) = some (L[i].1 == x.1 && L[i].2.1 == x.2.1) := by
       cases (L[i].1 == x.1) <;> rfl
      rw [e1, bs]
      dsimp only
      cases h7 : (L[i].1 == x.1 && L[i].2.1 == x.2.1) with
      | true => rfl
      | false =>
       rw [if_neg (show ¬ (false = true) by decide), if_neg (show ¬ (false = true) by decide), less_eq, bs]
       cases h8 : lessS L[i] x with
       | false =>
        rfl
       | true =>
        rw [if_neg (show ¬ ((!true) = true) by decide), bs, if_neg (show ¬ (true = false) by decide)]
        dsimp only
        rw [w_succ (by omega)]
        rfl
    ·have d : (lineS (x.1, x.2.1, x.2.2) != 0) = true := by simpa using hz
     rw [d, if_pos rfl, if_pos (show lineS x ≠ 0 from hz)]
     rfl) (fun i x pr pr' hx hpr hst => by
    rw [if_neg (by omega), Nat.add_sub_cancel, hx]
    unfold chkStep' at hst
    split at hst
    ·cases hst
    ·split at hst
     ·cases hst; rfl
     ·split at hst
      ·cases hst
      ·split at hst
       ·cases hst
       ·cases hst; rfl) (fun _ _ => by
    unfold slip_Check_loop1
    dsimp only
    rw [nlt_len, if_neg (by decide)])
   rw [show (0 : Int) = ((0 : Nat) : Int) from rfl, key, bs]
   cases foldE chkStep' (fun _ => Sum.inl ()) none L <;> rfl
structure LineOk (l : Ln) : Prop where
 p : 0 ≤ l.1 ∧ l.1 < 7
 nm : nameB l.2.1 = true
 ne : l.2.2 ≠ 0
 r : -1125899906842624 ≤ l.2.2 ∧ l.2.2 ≤ 1125899906842624
theorem lineS_ok {l : Ln} (h : lineS l = 0) : LineOk l := by
 unfold lineS at h
 by_cases h1 : l.1 < 0 ∨ l.1 ≥ 7
 ·rw [if_pos h1] at h; cases h
 ·rw [if_neg h1] at h
  by_cases h2 : nameB l.2.1 = false
  ·rw [if_pos h2] at h; cases h
  ·rw [if_neg h2] at h
   by_cases h3 : l.2.2 = 0
   ·rw [if_pos h3] at h; cases h
   ·rw [if_neg h3] at h
    by_cases h4 : fitD l.2.2 = false
    ·rw [if_pos h4] at h; cases h
    ·exact ⟨by omega, by simpa using h2, h3, fitD_iff.1 (by simpa using h4)⟩
theorem chk_lines : ∀ (L : List Ln) (pr : Option Ln), foldE chkStep' (fun _ => (Sum.inl () : Unit ⊕ Int)) pr L = .inl () ∨ ∃ e, e ≠ 0 ∧ foldE chkStep' (fun _ => (Sum.inl () : Unit ⊕ Int)) pr L = .inr e
 | [], _ => .inl rfl
 | x :: L, pr => by
  rw [foldE]
  unfold chkStep'
  by_cases h1 : lineS x ≠ 0
  ·rw [if_pos h1]; exact .inr ⟨_, h1, rfl⟩
  ·rw [if_neg h1]
   cases pr with
   | none => exact chk_lines L _
   | some p =>
    dsimp only
    by_cases h2 : (p.1 == x.1 && p.2.1 == x.2.1) = true
    ·rw [if_pos h2]; exact .inr ⟨7, by decide, rfl⟩
    ·rw [if_neg h2]
     by_cases h3 : lessS p x = false
     ·rw [if_pos h3]; exact .inr ⟨8, by decide, rfl⟩
     ·rw [if_neg h3]; exact chk_lines L _
theorem chk_all : ∀ (L : List Ln) (pr : Option Ln), foldE chkStep' (fun _ => (Sum.inl () : Unit ⊕ Int)) pr L = .inl () → ∀ x ∈ L, lineS x = 0
 | [], _, _, x, hx => by cases hx
 | y :: L, pr, h, x, hx => by
  rw [foldE] at h
  unfold chkStep' at h
  by_cases h1 : lineS y ≠ 0
  ·rw [if_pos h1] at h; cases h
  ·rw [if_neg h1] at h
   rcases List.mem_cons.1 hx with rfl | hx
   ·simpa using h1
   ·cases pr with
    | none => exact chk_all L _ h x hx
    | some p =>
     dsimp only at h
     by_cases h2 : (p.1 == y.1 && p.2.1 == y.2.1) = true
     ·rw [if_pos h2] at h; cases h
     ·rw [if_neg h2] at h
      by_cases h3 : lessS p y = false
      ·rw [if_pos h3] at h; cases h
      ·rw [if_neg h3] at h; exact chk_all L _ h x hx
theorem slipS_ok {s : Int × Int × List Ln} (h : slipS s = 0) : s.2.2.length ≤ 448 ∧ ∀ x ∈ s.2.2, LineOk x := by
 unfold slipS at h
 by_cases h0 : s.1 < 1900 ∨ s.1 > 2199 ∨ s.2.1 < 1 ∨ s.2.1 > 400
 ·rw [if_pos h0] at h; cases h
 ·rw [if_neg h0] at h
  by_cases h1 : (s.2.2.length : Int) > 448
  ·rw [if_pos h1] at h; cases h
  ·rw [if_neg h1] at h
   refine ⟨by omega, fun x hx => lineS_ok ?_⟩
   rcases chk_lines s.2.2 none with h2 | ⟨e, h2, h3⟩
   ·exact chk_all _ _ h2 x hx
   ·rw [h3] at h; exact absurd h h2
def sumL (P : Int → Bool) (L : List Ln) : Int := (L.map fun l => if P l.1 = true then l.2.2 else 0).sum
theorem sumL_cons (P : Int → Bool) (l : Ln) (L : List Ln) : sumL P (l :: L) = (if P l.1 = true then l.2.2 else 0) + sumL P L := by simp [sumL]
def pG (p : Int) : Bool := decide (p = 0)
def pF (p : Int) : Bool := decide (p = 6)
def pH (p : Int) : Bool := decide (1 ≤ p) && decide (p ≤ 5)
def pR (a b p : Int) : Bool := decide (p ≥ a) && decide (p ≤ b)
theorem sumL_bd (P : Int → Bool) : ∀ (L : List Ln), (∀ x ∈ L, LineOk x) → -(1125899906842624 * (L.length : Int)) ≤ sumL P L ∧ sumL P L ≤ 1125899906842624 * L.length
 | [], _ => by simp [sumL]
 | l :: L, h => by
  obtain ⟨h1, h2⟩ := sumL_bd P L fun x hx => h x (by simp [hx])
  have hr := (h l (by simp)).r
  rw [sumL_cons, List.length_cons]
  split <;> constructor <;> omega
theorem ssum_loop {a b : Int} : ∀ (L pre : List Ln) (s : Int), (∀ x ∈ pre ++ L, LineOk x) → s = sumL (pR a b) pre → pre.length + L.length ≤ 1000 →
  iter slip_sum_loop1 (a, b, s, pre ++ L, ((pre ++ L).length : Int), (pre.length : Int), ()) = some (sumL (pR a b) (pre ++ L), ())
 | [], pre, s, hL, hs, hn => by
  refine itR ?_
  unfold slip_sum_loop1
  dsimp only
  have c : decide ((pre.length : Int) < (((pre ++ []) : List Ln).length : Int)) = false := decide_eq_false (by simp)
  rw [c, if_neg (by decide), hs, List.append_nil]
 | x :: L, pre, s, hL, hs, hn => by
  simp only [List.length_cons] at hn
  have w1 : IntKind.i64.wrap ((pre.length : Int) + 1) = ((pre ++ [x]).length : Int) := by rw [w64' (by omega) (by omega)]; simp
  have c : decide ((pre.length : Int) < (((pre ++ x :: L) : List Ln).length : Int)) = true := decide_eq_true (by simp; omega)
  have hx := (hL x (by simp)).r
  have hb := sumL_bd (pR a b) pre fun y hy => hL y (by simp [hy])
  have hse : sumL (pR a b) (pre ++ [x]) = s + if pR a b x.1 = true then x.2.2 else 0 := by
   unfold sumL at hs ⊢
   rw [List.map_append, List.sum_append, hs]; simp
  have e := ssum_loop (a := a) (b := b) L (pre ++ [x]) (s + if pR a b x.1 = true then x.2.2 else 0) (by simpa using hL) hse.symm (by simp; omega)
  rw [List.append_assoc, List.singleton_append] at e
  refine (itL (s' := (a, b, s + (if pR a b x.1 = true then x.2.2 else 0), pre ++ x :: L, ((pre ++ x :: L).length : Int), ((pre ++ [x]).length : Int), ())) ?_).trans e
  unfold slip_sum_loop1
  dsimp only
  simp only [gPi, gSS, gPb, gPm, gPs, gM, gM2, gAnd, gOr, gAndI, gOrI, gAA, gAO, gOA, gOO, gAAf, gAOf, gOAf, gOOf, gAMf, gOMf, gId]
  try simp only [gIn1, gIn2, gIn3, gIn4, gIn5, gIn6, gIn7, gIn8, gId, gIdF, gMb, gMm, gBm, gBb, bs, ms]
  rw [c, if_pos rfl, lAt_mid', bs]
  have e1 : (if decide (x.1 ≥ a) = true then some (decide (x.1 ≤ b)) else some false) = some (pR a b x.1) := by
   unfold pR
   cases decide (x.1 ≥ a) <;> rfl
  rw [e1, bs]
  cases pR a b x.1 with
  | true =>
   rw [if_pos rfl, bs]
   dsimp only
   rw [w1, w64' (n := s + x.2.2) (by omega) (by omega), if_pos rfl]
  | false =>
   rw [if_neg (by decide), bs]
   dsimp only
   rw [w1, if_neg (by decide), Int.add_zero]
theorem ssumL_eq {y ix : Int} {L : List Ln} {a b : Int} (hL : ∀ x ∈ L, LineOk x) (hn : L.length ≤ 1000) : slip_sum ((y, ix, L), a, b) = some (sumL (pR a b) L) := by
 have e := ssum_loop (a := a) (b := b) L [] 0 hL rfl (by simpa using hn)
 simp only [List.nil_append, List.length_nil] at e
 unfold slip_sum
 dsimp only
 rw [show (0 : Int) = ((0 : Nat) : Int) from rfl] at e ⊢
 rw [e, bs]
theorem fits_loop {g h n f : Int} : ∃ r : (Int × Int × Int × Int × Unit) ⊕ (Int × Int × Int × Int × Int), iter slip_Sums_loop1 (g, h, n, f, 4, 0, [g, h, n, f], (), ()) = some r ∧ (r = .inl (g, h, n, f, ()) ∨ r = .inr (0, 0, 0, 0, 9)) := by
 have st : ∀ (i : Nat) (x : Int), ([g, h, n, f] : List Int)[i]? = some x → slip_Sums_loop1 (g, h, n, f, 4, (i : Int), [g, h, n, f], (), ()) = some (if fitD x = true then .inl (g, h, n, f, 4, ((i + 1 : Nat) : Int), [g, h, n, f], (), ()) else .inr (.inr (0, 0, 0, 0, 9))) := by
  intro i x hx
  have hi := (List.getElem?_eq_some_iff.1 hx).1
  have hi' : i < 4 := hi
  unfold slip_Sums_loop1
  dsimp only
  try simp only [gPi, gSS, gPb, gPm, gPs, gM, gM2, gAnd, gOr, gAndI, gOrI, gAA, gAO, gOA, gOO, gAAf, gAOf, gOAf, gOOf, gAMf, gOMf, gId]
  try simp only [gIn1, gIn2, gIn3, gIn4, gIn5, gIn6, gIn7, gIn8, gId, gIdF, gMb, gMm, gBm, gBb, bs, ms]
  rw [decide_eq_true (show (i : Int) < 4 by omega), if_pos rfl, if_pos ⟨by omega, by simp; omega⟩, Int.toNat_natCast, hx, bs, Fits_eq', bs]
  cases fitD x with
  | true => rw [if_neg (by decide), if_pos rfl, w_succ (by omega)]
  | false => rfl
 have en : slip_Sums_loop1 (g, h, n, f, 4, ((4 : Nat) : Int), [g, h, n, f], (), ()) = some (.inr (.inl (g, h, n, f, ()))) := by
  unfold slip_Sums_loop1
  dsimp only
  rw [if_neg (by decide)]
 have s0 := st 0 g rfl
 have s1 := st 1 h rfl
 have s2 := st 2 n rfl
 have s3 := st 3 f rfl
 rw [show (0 : Int) = ((0 : Nat) : Int) from rfl]
 by_cases h0 : fitD g = true
 ·rw [if_pos h0] at s0
  rw [itL s0]
  by_cases h1 : fitD h = true
  ·rw [if_pos h1] at s1
   rw [itL s1]
   by_cases h2 : fitD n = true
   ·rw [if_pos h2] at s2
    rw [itL s2]
    by_cases h3 : fitD f = true
    ·rw [if_pos h3] at s3
     rw [itL s3, itR en]
     exact ⟨_, rfl, .inl rfl⟩
    ·rw [if_neg h3] at s3
     rw [itR s3]
     exact ⟨_, rfl, .inr rfl⟩
   ·rw [if_neg h2] at s2
    rw [itR s2]
    exact ⟨_, rfl, .inr rfl⟩
  ·rw [if_neg h1] at s1
   rw [itR s1]
   exact ⟨_, rfl, .inr rfl⟩
 ·rw [if_neg h0] at s0
  rw [itR s0]
  exact ⟨_, rfl, .inr rfl⟩
theorem pR_G : pR 0 0 = pG := by
 funext p
 unfold pR pG
 rw [Bool.eq_iff_iff]; simp; omega
theorem pR_F : pR 6 6 = pF := by
 funext p
 unfold pR pF
 rw [Bool.eq_iff_iff]; simp; omega
theorem pR_H : pR 1 5 = pH := rfl
theorem Sums_eq {y ix : Int} {L : List Ln} (h0 : slipS (y, ix, L) = 0) : slip_Sums (y, ix, L) = some (sumL pG L, sumL pH L, sumL pG L - sumL pH L, sumL pF L, 0) ∨ slip_Sums (y, ix, L) = some (0, 0, 0, 0, 9) := by
 obtain ⟨g1, g2⟩ := slipS_ok h0
 have g1' : L.length ≤ 448 := g1
 have b1 := sumL_bd pG L g2
 have b2 := sumL_bd pH L g2
 have d : (slipS (y, ix, L) != 0) = false := by simpa using h0
 obtain ⟨r, r1, r2⟩ := fits_loop (g := sumL pG L) (h := sumL pH L) (n := sumL pG L - sumL pH L) (f := sumL pF L)
 rcases r2 with rfl | rfl
 ·left
  unfold slip_Sums
  dsimp only
  try simp only [gPi, gSS, gPb, gPm, gPs, gM, gM2, gAnd, gOr, gAndI, gOrI, gAA, gAO, gOA, gOO, gAAf, gAOf, gOAf, gOOf, gAMf, gOMf, gId]
  try simp only [gIn1, gIn2, gIn3, gIn4, gIn5, gIn6, gIn7, gIn8, gId, gIdF, gMb, gMm, gBm, gBb, bs, ms]
  rw [slip_eq, bs, d, if_neg (by decide), ssumL_eq g2 (by omega), bs, ssumL_eq g2 (by omega), bs, ssumL_eq g2 (by omega), bs, pR_G, pR_H, pR_F, w64' (n := sumL pG L - sumL pH L) (by omega) (by omega)]
  change Option.bind (iter slip_Sums_loop1 (sumL pG L, sumL pH L, sumL pG L - sumL pH L, sumL pF L, 4, 0, [sumL pG L, sumL pH L, sumL pG L - sumL pH L, sumL pF L], (), ())) _ = _
  rw [r1, bs]
 ·right
  unfold slip_Sums
  dsimp only
  try simp only [gPi, gSS, gPb, gPm, gPs, gM, gM2, gAnd, gOr, gAndI, gOrI, gAA, gAO, gOA, gOO, gAAf, gAOf, gOAf, gOOf, gAMf, gOMf, gId]
  try simp only [gIn1, gIn2, gIn3, gIn4, gIn5, gIn6, gIn7, gIn8, gId, gIdF, gMb, gMm, gBm, gBb, bs, ms]
  rw [slip_eq, bs, d, if_neg (by decide), ssumL_eq g2 (by omega), bs, ssumL_eq g2 (by omega), bs, ssumL_eq g2 (by omega), bs, pR_G, pR_H, pR_F, w64' (n := sumL pG L - sumL pH L) (by omega) (by omega)]
  change Option.bind (iter slip_Sums_loop1 (sumL pG L, sumL pH L, sumL pG L - sumL pH L, sumL pF L, 4, 0, [sumL pG L, sumL pH L, sumL pG L - sumL pH L, sumL pF L], (), ())) _ = _
  rw [r1, bs]
end WB
namespace WB
open Go Go.RowKit
abbrev It := List UInt8 × Int
def addW (a b : Int) : Int := IntKind.i64.wrap (a + b)
def Asc (l : List It) : Prop := l.Pairwise fun a b => a.1 < b.1
def atS : List It → List UInt8 → Option Int
 | [], _ => none
 | x :: xs, k => if x.1 = k then some x.2 else atS xs k
def putS : List It → It → List It
 | [], e => [e]
 | x :: xs, e => if e.1 < x.1 then e :: x :: xs else if x.1 = e.1 then (x.1, addW x.2 e.2) :: xs else x :: putS xs e
def canon (es : List It) : List It := es.foldl putS []
theorem atS_none {l : List It} {k : List UInt8} : atS l k = none ↔ ∀ x ∈ l, x.1 ≠ k := by
 induction l with
 | nil => simp [atS]
 | cons x xs ih =>
  simp only [atS]
  split
  ·rename_i h; simp [h]
  ·rename_i h; simp [ih, h]
theorem atS_mem {l : List It} {k : List UInt8} {v : Int} (h : atS l k = some v) : (k, v) ∈ l := by
 induction l with
 | nil => cases h
 | cons x xs ih =>
  simp only [atS] at h
  split at h
  ·rename_i hx; cases h; subst hx; simp
  ·exact List.mem_cons_of_mem _ (ih h)
theorem atS_asc {l : List It} (hl : Asc l) {x : It} (hx : x ∈ l) : atS l x.1 = some x.2 := by
 induction l with
 | nil => cases hx
 | cons y ys ih =>
  obtain ⟨h1, h2⟩ := List.pairwise_cons.1 hl
  simp only [atS]
  rcases List.mem_cons.1 hx with e | e
  ·subst e; rw [if_pos rfl]
  ·have : y.1 ≠ x.1 := fun hh => List.lt_irrefl _ (hh ▸ h1 x e)
   rw [if_neg this, ih h2 e]
theorem asc_ext : ∀ {l l' : List It}, Asc l → Asc l' → (∀ k, atS l k = atS l' k) → l = l'
 | [], [], _, _, _ => rfl
 | [], y :: ys, _, h', he => by
  have := he y.1
  rw [atS_asc h' (by simp)] at this
  cases this
 | x :: xs, [], h, _, he => by
  have := he x.1
  rw [atS_asc h (by simp)] at this
  cases this
 | x :: xs, y :: ys, h, h', he => by
  have h1 := List.pairwise_cons.1 h
  have h2 := List.pairwise_cons.1 h'
  have hxy : x.1 = y.1 := by
   have e1 := he x.1
   rw [atS_asc h (by simp)] at e1
   have e2 := he y.1
   rw [atS_asc h' (x := y) (by simp)] at e2
   have m1 := atS_mem e1.symm
   have m2 := atS_mem e2
   rcases List.mem_cons.1 m1 with e | e
   ·exact congrArg Prod.fst e
   ·rcases List.mem_cons.1 m2 with e' | e'
    ·exact (congrArg Prod.fst e').symm
    ·exact absurd (List.lt_trans (h1.1 _ e') (h2.1 _ e)) (List.lt_irrefl _)
  have hv : x.2 = y.2 := by
   have e1 := he x.1
   rw [atS_asc h (by simp), hxy, atS_asc h' (x := y) (by simp)] at e1
   exact Option.some.inj e1
  have hx : x = y := Prod.ext hxy hv
  subst hx
  congr 1
  refine asc_ext h1.2 h2.2 fun k => ?_
  have e := he k
  simp only [atS] at e
  by_cases hk : x.1 = k
  ·subst hk
   rw [atS_none.2 (fun z hz hh => List.lt_irrefl _ (hh ▸ h1.1 z hz)), atS_none.2 (fun z hz hh => List.lt_irrefl _ (hh ▸ h2.1 z hz))]
  ·rw [if_neg hk, if_neg hk] at e
   exact e
theorem putS_keys {l : List It} {e y : It} (h : y ∈ putS l e) : y.1 = e.1 ∨ ∃ x ∈ l, x.1 = y.1 := by
 induction l with
 | nil => simp only [putS, List.mem_singleton] at h; subst h; exact .inl rfl
 | cons x xs ih =>
  simp only [putS] at h
  split at h
  ·rcases List.mem_cons.1 h with h | h
   ·subst h; exact .inl rfl
   ·exact .inr ⟨y, h, rfl⟩
  ·split at h
   ·rcases List.mem_cons.1 h with h | h
    ·subst h; exact .inr ⟨x, by simp, rfl⟩
    ·exact .inr ⟨y, by simp [h], rfl⟩
   ·rcases List.mem_cons.1 h with h | h
    ·subst h; exact .inr ⟨y, by simp, rfl⟩
    ·rcases ih h with h | ⟨z, hz, hz'⟩
     ·exact .inl h
     ·exact .inr ⟨z, by simp [hz], hz'⟩
theorem putS_asc {l : List It} {e : It} (hl : Asc l) : Asc (putS l e) := by
 induction l with
 | nil => simp [putS, Asc]
 | cons x xs ih =>
  obtain ⟨h1, h2⟩ := List.pairwise_cons.1 hl
  simp only [putS]
  split
  ·rename_i h
   exact List.pairwise_cons.2 ⟨fun y hy => by
    rcases List.mem_cons.1 hy with e' | e'
    ·subst e'; exact h
    ·exact List.lt_trans h (h1 y e'), hl⟩
  ·rename_i h
   split
   ·exact List.pairwise_cons.2 ⟨h1, h2⟩
   ·rename_i h'
    refine List.pairwise_cons.2 ⟨fun y hy => ?_, ih h2⟩
    rcases putS_keys hy with e' | ⟨z, hz, e'⟩
    ·rw [e']
     rcases List.le_iff_lt_or_eq.1 (List.not_lt.1 h) with g | g
     ·exact g
     ·exact absurd g h'
    ·rw [← e']; exact h1 z hz
theorem putS_at {l : List It} {e : It} (hl : Asc l) (k : List UInt8) : atS (putS l e) k = if e.1 = k then some (match atS l k with | some v => addW v e.2 | none => e.2) else atS l k := by
 induction l with
 | nil => simp only [putS, atS]
 | cons x xs ih =>
  obtain ⟨h1, h2⟩ := List.pairwise_cons.1 hl
  simp only [putS]
  split
  ·rename_i h
   by_cases hk : e.1 = k
   ·subst hk
    have : atS (x :: xs) e.1 = none := atS_none.2 fun z hz hh => by
     rcases List.mem_cons.1 hz with g | g
     ·subst g; rw [hh] at h; exact List.lt_irrefl _ h
     ·have := List.lt_trans h (h1 z g); rw [hh] at this; exact List.lt_irrefl _ this
    rw [if_pos rfl, this]
    simp [atS]
   ·rw [if_neg hk]
    simp [atS, hk]
  ·rename_i h
   split
   ·rename_i hx
    by_cases hk : e.1 = k
    ·subst hk
     simp [atS, hx]
    ·rw [if_neg hk]
     have : ¬ x.1 = k := fun hh => hk (by rw [← hx, hh])
     simp [atS, this]
   ·rename_i hx
    simp only [atS]
    rw [ih h2]
    by_cases hk : e.1 = k
    ·subst hk
     rw [if_neg hx, if_pos rfl, if_pos rfl, if_neg hx]
    ·rw [if_neg hk, if_neg hk]
theorem canon_asc (es : List It) : Asc (canon es) := by
 unfold canon
 suffices h : ∀ (es : List It) (l : List It), Asc l → Asc (es.foldl putS l) from h es [] List.Pairwise.nil
 intro es
 induction es with
 | nil => intro l hl; exact hl
 | cons e es ih => intro l hl; exact ih _ (putS_asc hl)
def totS (k : List UInt8) : Option Int → List It → Option Int
 | a, [] => a
 | a, e :: es => totS k (if e.1 = k then some (match a with | some v => addW v e.2 | none => e.2) else a) es
theorem canon_at (es : List It) (k : List UInt8) : atS (canon es) k = totS k none es := by
 unfold canon
 suffices h : ∀ (es : List It) (l : List It), Asc l → atS (es.foldl putS l) k = totS k (atS l k) es from h es [] List.Pairwise.nil
 intro es
 induction es with
 | nil => intro l hl; rfl
 | cons e es ih =>
  intro l hl
  simp only [List.foldl_cons, totS]
  rw [ih _ (putS_asc hl), putS_at hl]
theorem eqS (a b : List UInt8) : eqZ .str a b = true ↔ a = b := by
 show (a == b) = true ↔ a = b
 simp
def getM (m : List It) (k : List UInt8) : Int × Bool := alGet (eqZ .str) (0 : Int) k m
def sumM (m : List It) (e : It) : List It := alPut (eqZ .str) e.1 (addW (getM m e.1).1 e.2) m
def leK (x y : List UInt8) : Bool := decide (x ≤ y)
def sortK (m : List It) : List (List UInt8) := (m.map (·.1)).mergeSort leK
def boxesS (m : List It) : List It := (sortK m).map fun k => (k, (getM m k).1)
theorem getM_none {m : List It} {k : List UInt8} : (getM m k).2 = false ↔ k ∉ m.map (·.1) := by
 unfold getM
 induction m with
 | nil => simp [alGet]
 | cons p m ih =>
  simp only [alGet]
  by_cases h : eqZ .str k p.1 = true
  ·have := (eqS _ _).1 h
   rw [if_pos h]
   simp [this]
  ·have : ¬ k = p.1 := fun e => h ((eqS _ _).2 e)
   rw [if_neg h, ih]
   simp [this]
theorem put_keys {m : List It} {k : List UInt8} {v : Int} : (alPut (eqZ .str) k v m).map (·.1) = if (getM m k).2 = true then m.map (·.1) else m.map (·.1) ++ [k] := by
 unfold getM
 induction m with
 | nil => simp [alPut, alGet]
 | cons p m ih =>
  simp only [alPut, alGet]
  by_cases h : eqZ .str k p.1 = true
  ·simp [h]
  ·simp only [h, Bool.false_eq_true, if_false, List.map_cons, ih]
   split <;> simp
theorem sumM_nodup {m : List It} {e : It} (h : (m.map (·.1)).Nodup) : ((sumM m e).map (·.1)).Nodup := by
 unfold sumM
 rw [put_keys]
 split
 ·exact h
 ·rename_i hh
  rw [List.nodup_append]
  refine ⟨h, by simp, ?_⟩
  intro a ha b hb hab
  simp only [List.mem_singleton] at hb
  subst hb
  subst hab
  exact getM_none.1 (by simpa using hh) ha
def InW (c : Int) : Prop := -9223372036854775808 ≤ c ∧ c ≤ 9223372036854775807
theorem addW0 {c : Int} (h : InW c) : addW 0 c = c := by unfold addW; rw [Int.zero_add]; exact w64' h.1 h.2
def optM : Option Int → Int × Bool
 | some v => (v, true)
 | none => (0, false)
theorem sums_get : ∀ (es : List It) (m : List It) (a : List UInt8 → Option Int), (∀ e ∈ es, InW e.2) → (∀ k, getM m k = optM (a k)) → ∀ k, getM (es.foldl sumM m) k = optM (totS k (a k) es)
 | [], m, a, _, h, k => h k
 | e :: es, m, a, hi, h, k => by
  simp only [List.foldl_cons, totS]
  refine sums_get es (sumM m e) (fun k => if e.1 = k then some (match a k with | some v => addW v e.2 | none => e.2) else a k) (fun x hx => hi x (by simp [hx])) (fun k => ?_) k
  unfold sumM getM
  rw [alGet_put eqS]
  have hg : alGet (eqZ .str) 0 e.1 m = optM (a e.1) := h e.1
  by_cases hk : k = e.1
  ·subst hk
   rw [if_pos rfl, if_pos rfl]
   show (addW (alGet (eqZ .str) 0 e.1 m).1 e.2, true) = _
   rw [hg]
   cases a e.1 with
   | none => simp only [optM]; rw [addW0 (hi e (by simp))]
   | some v => rfl
  ·rw [if_neg hk, if_neg (Ne.symm hk)]
   exact h k
theorem sums_nodup : ∀ (es : List It) (m : List It), (m.map (·.1)).Nodup → ((es.foldl sumM m).map (·.1)).Nodup
 | [], _, h => h
 | e :: es, m, h => sums_nodup es (sumM m e) (sumM_nodup h)
theorem sortK_asc {m : List It} (h : (m.map (·.1)).Nodup) : (sortK m).Pairwise (· < ·) := by
 have h1 : (sortK m).Pairwise fun a b => leK a b = true := List.pairwise_mergeSort (fun a b c h1 h2 => by
  simp only [leK, decide_eq_true_eq] at *
  exact List.le_trans h1 h2) (fun a b => by
  simp only [leK, Bool.or_eq_true, decide_eq_true_eq]
  exact List.le_total a b) _
 have h2 : (sortK m).Nodup := (List.mergeSort_perm _ _).nodup_iff.2 h
 refine (h1.and h2).imp fun {a b} hab => ?_
 obtain ⟨g1, g2⟩ := hab
 simp only [leK, decide_eq_true_eq] at g1
 rcases List.le_iff_lt_or_eq.1 g1 with g | g
 ·exact g
 ·exact absurd g g2
theorem boxesS_asc {m : List It} (h : (m.map (·.1)).Nodup) : Asc (boxesS m) := by
 unfold Asc boxesS
 rw [List.pairwise_map]
 exact sortK_asc h
theorem boxesS_at {m : List It} (k : List UInt8) : atS (boxesS m) k = if (getM m k).2 = true then some (getM m k).1 else none := by
 have key : ∀ l : List (List UInt8), atS (l.map fun k => (k, (getM m k).1)) k = if k ∈ l then some (getM m k).1 else none := by
  intro l
  induction l with
  | nil => rfl
  | cons x l ih =>
   simp only [List.map_cons, atS, ih, List.mem_cons]
   by_cases h : x = k
   ·subst h; simp
   ·simp [h, Ne.symm h]
 unfold boxesS
 rw [key]
 have hm : k ∈ sortK m ↔ k ∈ m.map (·.1) := (List.mergeSort_perm _ _).mem_iff
 by_cases hk : (getM m k).2 = true
 ·have : k ∈ m.map (·.1) := by
   refine Classical.byContradiction fun hh => ?_
   rw [getM_none.2 hh] at hk
   cases hk
  rw [if_pos hk, if_pos (hm.2 this)]
 ·rw [if_neg hk, if_neg (fun hh => getM_none.1 (by simpa using hk) (hm.1 hh))]
theorem boxes_canon {es : List It} (h : ∀ e ∈ es, InW e.2) : boxesS (es.foldl sumM []) = canon es := by
 refine asc_ext (boxesS_asc (sums_nodup es [] List.nodup_nil)) (canon_asc es) fun k => ?_
 rw [boxesS_at, canon_at, sums_get es [] (fun _ => none) h (fun _ => rfl)]
 cases totS k none es <;> rfl
end WB
namespace WB
open Go Go.RowKit
def putZ : List It → It → List It
 | [], e => [e]
 | x :: xs, e => if e.1 < x.1 then e :: x :: xs else if x.1 = e.1 then (x.1, x.2 + e.2) :: xs else x :: putZ xs e
def canonZ (es : List It) : List It := es.foldl putZ []
def tz : List It → List UInt8 → Int
 | [], _ => 0
 | e :: es, k => (if e.1 = k then e.2 else 0) + tz es k
def resZ (es : List It) : List It := (canonZ es).filter fun x => x.2 != 0
def fitB (c : Int) : Bool := decide (-1125899906842624 ≤ c) && decide (c ≤ 1125899906842624)
def allF (l : List It) : Bool := l.all fun x => fitB x.2
def fullS (l : List It) : Option (List It) := if allF l = true then some (l.filter fun x => x.2 != 0) else none
theorem tz_perm {a b : List It} (h : a.Perm b) (k : List UInt8) : tz a k = tz b k := by
 induction h with
 | nil => rfl
 | cons x _ ih => simp only [tz, ih]
 | swap x y l => simp only [tz]; omega
 | trans _ _ h1 h2 => exact h1.trans h2
theorem tz_absent {es : List It} {k : List UInt8} (h : ∀ e ∈ es, e.1 ≠ k) : tz es k = 0 := by
 induction es with
 | nil => rfl
 | cons e es ih =>
  simp only [tz]
  rw [if_neg (h e (by simp)), ih (fun x hx => h x (by simp [hx]))]
  rfl
theorem putZ_keys {l : List It} {e y : It} (h : y ∈ putZ l e) : y.1 = e.1 ∨ ∃ x ∈ l, x.1 = y.1 := by
 induction l with
 | nil => simp only [putZ, List.mem_singleton] at h; subst h; exact .inl rfl
 | cons x xs ih =>
  simp only [putZ] at h
  split at h
  ·rcases List.mem_cons.1 h with h | h
   ·subst h; exact .inl rfl
   ·exact .inr ⟨y, h, rfl⟩
  ·split at h
   ·rcases List.mem_cons.1 h with h | h
    ·subst h; exact .inr ⟨x, by simp, rfl⟩
    ·exact .inr ⟨y, by simp [h], rfl⟩
   ·rcases List.mem_cons.1 h with h | h
    ·subst h; exact .inr ⟨y, by simp, rfl⟩
    ·rcases ih h with h | ⟨z, hz, hz'⟩
     ·exact .inl h
     ·exact .inr ⟨z, by simp [hz], hz'⟩
theorem putZ_asc {l : List It} {e : It} (hl : Asc l) : Asc (putZ l e) := by
 induction l with
 | nil => simp [putZ, Asc]
 | cons x xs ih =>
  obtain ⟨h1, h2⟩ := List.pairwise_cons.1 hl
  simp only [putZ]
  split
  ·rename_i h
   exact List.pairwise_cons.2 ⟨fun y hy => by
    rcases List.mem_cons.1 hy with e' | e'
    ·subst e'; exact h
    ·exact List.lt_trans h (h1 y e'), hl⟩
  ·rename_i h
   split
   ·exact List.pairwise_cons.2 ⟨h1, h2⟩
   ·rename_i h'
    refine List.pairwise_cons.2 ⟨fun y hy => ?_, ih h2⟩
    rcases putZ_keys hy with e' | ⟨z, hz, e'⟩
    ·rw [e']
     rcases List.le_iff_lt_or_eq.1 (List.not_lt.1 h) with g | g
     ·exact g
     ·exact absurd g h'
    ·rw [← e']; exact h1 z hz
theorem putZ_tz {l : List It} {e : It} (k : List UInt8) : tz (putZ l e) k = tz l k + (if e.1 = k then e.2 else 0) := by
 induction l with
 | nil => simp [putZ, tz]
 | cons x xs ih =>
  simp only [putZ]
  split
  ·simp only [tz]; omega
  ·split
   ·rename_i h
    simp only [tz]
    by_cases hk : x.1 = k
    ·rw [if_pos hk, if_pos hk, if_pos (h ▸ hk)]; omega
    ·rw [if_neg hk, if_neg hk, if_neg (fun hh => hk (h.trans hh))]; omega
   ·simp only [tz, ih]; omega
theorem canonZ_asc (es : List It) : Asc (canonZ es) := by
 unfold canonZ
 suffices h : ∀ (es : List It) (l : List It), Asc l → Asc (es.foldl putZ l) from h es [] List.Pairwise.nil
 intro es
 induction es with
 | nil => intro l hl; exact hl
 | cons e es ih => intro l hl; exact ih _ (putZ_asc hl)
theorem canonZ_tz (es : List It) (k : List UInt8) : tz (canonZ es) k = tz es k := by
 unfold canonZ
 suffices h : ∀ (es : List It) (l : List It), tz (es.foldl putZ l) k = tz l k + tz es k by
  have := h es []
  simpa [tz] using this
 intro es
 induction es with
 | nil => intro l; simp [tz]
 | cons e es ih =>
  intro l
  simp only [List.foldl_cons, ih, putZ_tz, tz]
  omega
theorem asc_tz {l : List It} (hl : Asc l) {x : It} (hx : x ∈ l) : tz l x.1 = x.2 := by
 induction l with
 | nil => cases hx
 | cons y ys ih =>
  obtain ⟨h1, h2⟩ := List.pairwise_cons.1 hl
  simp only [tz]
  rcases List.mem_cons.1 hx with e | e
  ·subst e
   rw [if_pos rfl, tz_absent (fun z hz hh => List.lt_irrefl _ (hh ▸ h1 z hz))]
   omega
  ·rw [if_neg (fun hh => List.lt_irrefl _ (hh ▸ h1 x e)), ih h2 e]
   omega
theorem asc_tz_ext {l l' : List It} (h : Asc l) (h' : Asc l') (n : ∀ x ∈ l, x.2 ≠ 0) (n' : ∀ x ∈ l', x.2 ≠ 0) (he : ∀ k, tz l k = tz l' k) : l = l' := by
 refine asc_ext h h' fun k => ?_
 have key : ∀ {m : List It}, Asc m → (∀ x ∈ m, x.2 ≠ 0) → atS m k = if tz m k = 0 then none else some (tz m k) := by
  intro m hm hn
  cases ha : atS m k with
  | none => rw [tz_absent (atS_none.1 ha), if_pos rfl]
  | some v =>
   have hx := atS_mem ha
   have e : tz m k = v := asc_tz hm hx
   rw [e, if_neg (hn _ hx)]
 rw [key h n, key h' n', he k]
theorem asc_filter {l : List It} (h : Asc l) (q : It → Bool) : Asc (l.filter q) := List.Pairwise.filter q h
theorem tz_filter (l : List It) (k : List UInt8) : tz (l.filter fun x => x.2 != 0) k = tz l k := by
 induction l with
 | nil => rfl
 | cons x l ih =>
  by_cases hx : x.2 = 0
  ·have : (x.2 != 0) = false := by simpa using hx
   rw [List.filter_cons_of_neg (by simp [this]), ih]
   simp only [tz, hx]
   split <;> omega
  ·have : (x.2 != 0) = true := by simpa using hx
   rw [List.filter_cons_of_pos (by simpa using this)]
   simp only [tz, ih]
theorem resZ_ext {es es' : List It} (h : ∀ k, tz es k = tz es' k) : resZ es = resZ es' :=
 asc_tz_ext (asc_filter (canonZ_asc _) _) (asc_filter (canonZ_asc _) _) (fun x hx => by simpa using (List.mem_filter.1 hx).2) (fun x hx => by simpa using (List.mem_filter.1 hx).2)
  fun k => by unfold resZ; rw [tz_filter, tz_filter, canonZ_tz, canonZ_tz, h k]
theorem allF_tz {l : List It} (h : Asc l) : allF l = true ↔ ∀ k, fitB (tz l k) = true := by
 unfold allF
 rw [List.all_eq_true]
 constructor
 ·intro g k
  cases ha : atS l k with
  | none => rw [tz_absent (atS_none.1 ha)]; rfl
  | some v =>
   have hx := atS_mem ha
   have e : tz l k = v := asc_tz h hx
   rw [e]
   exact g _ hx
 ·intro g x hx
  have := g x.1
  rw [asc_tz h hx] at this
  exact this
theorem fullZ_ext {es es' : List It} (h : ∀ k, tz es k = tz es' k) : fullS (canonZ es) = fullS (canonZ es') := by
 unfold fullS
 have e : allF (canonZ es) = allF (canonZ es') := by
  rw [Bool.eq_iff_iff, allF_tz (canonZ_asc _), allF_tz (canonZ_asc _)]
  simp only [canonZ_tz, h]
 rw [e, show (canonZ es).filter (fun x => x.2 != 0) = (canonZ es').filter (fun x => x.2 != 0) from resZ_ext h]
def Few (es : List It) : Prop := es.length ≤ 5000 ∧ ∀ e ∈ es, -1125899906842624 ≤ e.2 ∧ e.2 ≤ 1125899906842624
theorem putZ_mem {l : List It} {e y : It} (h : y ∈ putZ l e) : y = e ∨ y ∈ l ∨ ∃ x ∈ l, x.1 = e.1 ∧ y = (x.1, x.2 + e.2) := by
 induction l with
 | nil => simp only [putZ, List.mem_singleton] at h; exact .inl h
 | cons x xs ih =>
  simp only [putZ] at h
  split at h
  ·rcases List.mem_cons.1 h with h | h
   ·exact .inl h
   ·exact .inr (.inl h)
  ·split at h
   ·rename_i hx
    rcases List.mem_cons.1 h with h | h
    ·exact .inr (.inr ⟨x, by simp, hx, h⟩)
    ·exact .inr (.inl (by simp [h]))
   ·rcases List.mem_cons.1 h with h | h
    ·exact .inr (.inl (by simp [h]))
    ·rcases ih h with h | h | ⟨z, hz, h1, h2⟩
     ·exact .inl h
     ·exact .inr (.inl (by simp [h]))
     ·exact .inr (.inr ⟨z, by simp [hz], h1, h2⟩)
theorem put_same {l : List It} {e : It} (h : ∀ x ∈ l, InW (x.2 + e.2)) : putS l e = putZ l e := by
 induction l with
 | nil => rfl
 | cons x xs ih =>
  have h0 := h x (by simp)
  simp only [putS, putZ, ih (fun y hy => h y (by simp [hy]))]
  rw [show addW x.2 e.2 = x.2 + e.2 from w64' h0.1 h0.2]
theorem canon_few {es : List It} (h : Few es) : canon es = canonZ es := by
 unfold canon canonZ
 suffices g : ∀ (es l : List It) (n : Nat), (∀ e ∈ es, -1125899906842624 ≤ e.2 ∧ e.2 ≤ 1125899906842624) → (∀ x ∈ l, -(1125899906842624 * (n : Int)) ≤ x.2 ∧ x.2 ≤ 1125899906842624 * (n : Int)) → n + es.length ≤ 5001 → es.foldl putS l = es.foldl putZ l from
  g es [] 1 h.2 (by simp) (by have := h.1; omega)
 intro es
 induction es with
 | nil => intro l n _ _ _; rfl
 | cons e es ih =>
  intro l n he hl hn
  simp only [List.length_cons] at hn
  have h1 := he e (by simp)
  simp only [List.foldl_cons]
  rw [put_same (fun x hx => by
   have := hl x hx
   unfold InW
   omega)]
  refine ih _ (n + 1) (fun x hx => he x (by simp [hx])) (fun y hy => ?_) (by omega)
  rcases putZ_mem hy with rfl | g | ⟨x, hx, _, rfl⟩
  ·have : (0 : Int) ≤ n := by omega
   constructor <;> (push_cast; omega)
  ·have := hl y g
   constructor <;> (push_cast; omega)
  ·have := hl x hx
   constructor <;> (push_cast; omega)
theorem fullS_few {es : List It} (h : Few es) : fullS (canon es) = fullS (canonZ es) := by rw [canon_few h]
def sumQ (q : List UInt8 → Bool) : List It → Int
 | [] => 0
 | e :: es => (if q e.1 then e.2 else 0) + sumQ q es
theorem sumQ_put (q : List UInt8 → Bool) (l : List It) (e : It) : sumQ q (putZ l e) = sumQ q l + (if q e.1 then e.2 else 0) := by
 induction l with
 | nil => simp [putZ, sumQ]
 | cons x xs ih =>
  simp only [putZ]
  split
  ·simp only [sumQ]; omega
  ·split
   ·rename_i h
    simp only [sumQ]
    rw [← h]
    split <;> omega
   ·simp only [sumQ, ih]; omega
theorem sumQ_canon (q : List UInt8 → Bool) (es : List It) : sumQ q (canonZ es) = sumQ q es := by
 unfold canonZ
 suffices h : ∀ (es : List It) (l : List It), sumQ q (es.foldl putZ l) = sumQ q l + sumQ q es by
  have := h es []
  simpa [sumQ] using this
 intro es
 induction es with
 | nil => intro l; simp [sumQ]
 | cons e es ih =>
  intro l
  simp only [List.foldl_cons, ih, sumQ_put, sumQ]
  omega
theorem sumQ_filter (q : List UInt8 → Bool) (l : List It) : sumQ q (l.filter fun x => x.2 != 0) = sumQ q l := by
 induction l with
 | nil => rfl
 | cons x l ih =>
  by_cases hx : x.2 = 0
  ·have : (x.2 != 0) = false := by simpa using hx
   rw [List.filter_cons_of_neg (by simp [this]), ih]
   simp only [sumQ, hx]
   split <;> omega
  ·have : (x.2 != 0) = true := by simpa using hx
   rw [List.filter_cons_of_pos (by simpa using this)]
   simp only [sumQ, ih]
theorem sumQ_append (q : List UInt8 → Bool) (a b : List It) : sumQ q (a ++ b) = sumQ q a + sumQ q b := by
 induction a with
 | nil => simp [sumQ]
 | cons e a ih => simp only [List.cons_append, sumQ, ih]; omega
end WB
namespace WB
open Go Go.RowKit
abbrev Slp := Int × Int × List Ln
abbrev Ppr := Int × Int × List It × Int
theorem sLess_eq : ∀ (x y : List UInt8), sLess x y = decide (x < y)
 | [], [] => by simp [sLess, Op.bytesLess]
 | _ :: _, [] => by simp [sLess, Op.bytesLess]
 | [], _ :: _ => by simp [sLess, Op.bytesLess]
 | a :: x, b :: y => by
  have ih := sLess_eq x y
  unfold sLess at ih ⊢
  rw [Op.bytesLess, ih]
  simp only [List.cons_lt_cons_iff]
  by_cases h1 : a < b <;> by_cases h2 : a = b <;> by_cases h3 : x < y <;> simp [h1, h2, h3]
theorem foldE_inl {α A T : Type} (f : A → α → A) (fin : A → T) : ∀ (l : List α) (a : A), foldE (fun a x => Sum.inl (f a x)) fin a l = fin (l.foldl f a)
 | [], _ => rfl
 | x :: l, a => by rw [foldE]; exact foldE_inl f fin l (f a x)
theorem foldE_map {α β A T : Type} (g : α → β) (step : A → β → A ⊕ T) (fin : A → T) : ∀ (l : List α) (a : A), foldE (fun a x => step a (g x)) fin a l = foldE step fin a (l.map g)
 | [], _ => rfl
 | x :: l, a => by
  rw [foldE, List.map_cons, foldE]
  cases step a (g x) with
  | inl a' => exact foldE_map g step fin l a'
  | inr t => rfl
def datedS (w y : Int) : Int := if w < 1 ∨ y < 1900 ∨ y > 2199 then 2 else 0
theorem dated_eq (w y : Int) : paper_dated (w, y) = some (datedS w y) := by
 unfold paper_dated datedS
 dsimp only
 simp only [gPi, gSS, gPb, gPm, gPs, gM, gM2, gAnd, gOr, gAndI, gOrI, gAA, gAO, gOA, gOO, gAAf, gAOf, gOAf, gOOf, gAMf, gOMf, gId]
 try simp only [gIn1, gIn2, gIn3, gIn4, gIn5, gIn6, gIn7, gIn8, gId, gIdF, gMb, gMm, gBm, gBb, bs, ms]
 by_cases h1 : w < 1 <;> by_cases h2 : y < 1900 <;> by_cases h3 : y > 2199 <;> simp [h1, h2, h3]
def pStep (y : Int) (seen : List Int) (s : Slp) : List Int ⊕ (Unit ⊕ Int) :=
 if slipS s ≠ 0 then .inr (.inr (slipS s)) else if s.1 ≠ y then .inr (.inr 18) else if (seen.any fun z => z == s.2.1) = true then .inr (.inr 7) else .inl (seen ++ [s.2.1])
def checkP (y : Int) (l : List Slp) : Int := match foldE (pStep y) (fun _ => Sum.inl ()) [] l with
 | .inl _ => 0
 | .inr e => e
def seenN (seen : List Int) : List (Int × Bool) := seen.map fun k => (k, true)
theorem eqN' (a b : Int) : eqZ (Ty.int IntKind.i64) a b = (a == b) := rfl
theorem seenN_get (k : Int) : ∀ seen, (alGet (eqZ (Ty.int IntKind.i64)) (zeroT Ty.bool) k (seenN seen)).1 = seen.any fun y => y == k
 | [] => rfl
 | y :: seen => by
  show (if eqZ (Ty.int IntKind.i64) k y = true then (true, true) else alGet (eqZ (Ty.int IntKind.i64)) (zeroT Ty.bool) k (seenN seen)).1 = _
  rw [eqN', List.any_cons]
  by_cases h : k = y
  ·subst h; simp
  ·have h1 : (k == y) = false := by simpa using h
   have h2 : (y == k) = false := by simpa using fun e : y = k => h e.symm
   rw [h1, if_neg (by decide), h2, Bool.false_or]
   exact seenN_get k seen
theorem seenN_put (k : Int) : ∀ seen, (seen.any fun y => y == k) = false → alPut (eqZ (Ty.int IntKind.i64)) k true (seenN seen) = seenN (seen ++ [k])
 | [], _ => rfl
 | y :: seen, h => by
  rw [List.any_cons, Bool.or_eq_false_iff] at h
  have h1 : ¬ eqZ (Ty.int IntKind.i64) k y = true := by
   rw [eqN']
   intro e
   have : k = y := by simpa using e
   subst this
   simp at h
  show (if eqZ (Ty.int IntKind.i64) k y = true then _ else (y, true) :: alPut (eqZ (Ty.int IntKind.i64)) k true (seenN seen)) = _
  rw [if_neg h1, seenN_put k seen h.2]
  rfl
theorem pcheck_eq {y : Int} {l : List Slp} (hn : l.length ≤ 1000) : paper_check (y, l) = some (checkP y l) := by
 unfold paper_check checkP
 dsimp only
 have key := iter_fold0 (b := paper_check_loop1) (α := Slp) (A := List Int) (fun k seen => (y, l, (l.length : Int), (k : Int), seenN seen, (), ())) (pStep y) (fun _ => Sum.inl ()) (fun _ _ => True) l (a := []) trivial (fun i x seen hx _ => by
   have hi := (List.getElem?_eq_some_iff.1 hx).1
   unfold paper_check_loop1 pStep
   dsimp only
   try simp only [gPi, gSS, gPb, gPm, gPs, gM, gM2, gAnd, gOr, gAndI, gOrI, gAA, gAO, gOA, gOO, gAAf, gAOf, gOAf, gOOf, gAMf, gOMf, gId]
   try simp only [gIn1, gIn2, gIn3, gIn4, gIn5, gIn6, gIn7, gIn8, gId, gIdF, gMb, gMm, gBm, gBb, bs, ms]
   rw [lt_len hx, if_pos rfl, lAt_nat hx]
   simp only [bs, ms]
   rw [show slip_Check (x.1, x.2.1, x.2.2) = some (slipS x) from slip_eq x, bs]
   by_cases h0 : slipS x = 0
   ·have d : (slipS x != 0) = false := by simpa using h0
    rw [d, if_neg (by decide), if_neg (show ¬ (slipS x ≠ 0) by simpa using h0)]
    by_cases h1 : x.1 = y
    ·have d1 : (x.1 != y) = false := by simpa using h1
     rw [d1, if_neg (by decide), if_neg (show ¬ (x.1 ≠ y) by simpa using h1), seenN_get]
     cases h3 : (seen.any fun z => z == x.2.1) with
     | true => rfl
     | false => rw [if_neg (show ¬ (false = true) by decide), if_neg (show ¬ (false = true) by decide), seenN_put _ _ h3, w_succ (by omega)]; rfl
    ·have d1 : (x.1 != y) = true := by simpa using h1
     rw [d1, if_pos rfl, if_pos (show x.1 ≠ y from h1)]
     rfl
   ·have d : (slipS x != 0) = true := by simpa using h0
    rw [d, if_pos rfl, if_pos (show slipS x ≠ 0 from h0)]
    rfl) (fun _ _ _ _ _ _ _ => trivial) (fun _ _ => by
   unfold paper_check_loop1
   dsimp only
   rw [nlt_len, if_neg (by decide)])
 rw [show (0 : Int) = ((0 : Nat) : Int) from rfl]
 rw [show ([] : List (Int × Bool)) = seenN [] from rfl, key, bs]
 cases foldE (pStep y) (fun _ => Sum.inl ()) [] l <;> rfl
theorem pStep_pos (y : Int) : ∀ (l : List Slp) (seen : List Int), foldE (pStep y) (fun _ => (Sum.inl () : Unit ⊕ Int)) seen l = .inl () ∨ ∃ e, e ≠ 0 ∧ foldE (pStep y) (fun _ => (Sum.inl () : Unit ⊕ Int)) seen l = .inr e
 | [], seen => .inl rfl
 | s :: l, seen => by
  rw [foldE]
  unfold pStep
  by_cases h1 : slipS s ≠ 0
  ·rw [if_pos h1]; exact .inr ⟨_, h1, rfl⟩
  ·rw [if_neg h1]
   by_cases h2 : s.1 ≠ y
   ·rw [if_pos h2]; exact .inr ⟨18, by decide, rfl⟩
   ·rw [if_neg h2]
    by_cases h3 : (seen.any fun z => z == s.2.1) = true
    ·rw [if_pos h3]; exact .inr ⟨7, by decide, rfl⟩
    ·rw [if_neg h3]; exact pStep_pos y l _
theorem pStep_ok (y : Int) : ∀ (l : List Slp) (seen : List Int), foldE (pStep y) (fun _ => (Sum.inl () : Unit ⊕ Int)) seen l = .inl () ↔ (∀ s ∈ l, slipS s = 0 ∧ s.1 = y) ∧ (l.map (·.2.1)).Nodup ∧ ∀ s ∈ l, s.2.1 ∉ seen
 | [], seen => by simp [foldE]
 | s :: l, seen => by
  rw [foldE]
  unfold pStep
  by_cases h1 : slipS s ≠ 0
  ·rw [if_pos h1]
   constructor
   ·intro h; cases h
   ·intro h; exact absurd (h.1 s (by simp)).1 h1
  ·rw [if_neg h1]
   by_cases h2 : s.1 ≠ y
   ·rw [if_pos h2]
    constructor
    ·intro h; cases h
    ·intro h; exact absurd (h.1 s (by simp)).2 h2
   ·rw [if_neg h2]
    by_cases h3 : (seen.any fun z => z == s.2.1) = true
    ·rw [if_pos h3]
     constructor
     ·intro h; cases h
     ·intro h
      obtain ⟨z, hz, e⟩ := List.any_eq_true.1 h3
      exact absurd ((beq_iff_eq.1 e) ▸ hz) (h.2.2 s (by simp))
    ·rw [if_neg h3]
     have h3' : s.2.1 ∉ seen := fun hm => h3 (List.any_eq_true.2 ⟨_, hm, by simp⟩)
     have e := pStep_ok y l (seen ++ [s.2.1])
     unfold pStep at e
     refine e.trans ?_
     simp only [List.mem_cons, forall_eq_or_imp, List.map_cons, List.nodup_cons, List.mem_append, List.mem_singleton, not_or, List.mem_map, not_exists, not_and]
     constructor
     ·rintro ⟨a, b, c⟩
      exact ⟨⟨⟨by simpa using h1, by simpa using h2⟩, a⟩, ⟨fun x hx => (c x hx).2.1, b⟩, h3', fun x hx => (c x hx).1⟩
     ·rintro ⟨⟨_, a⟩, ⟨c, b⟩, _, d⟩
      exact ⟨a, b, fun x hx => ⟨d x hx, c x hx, List.not_mem_nil⟩⟩
theorem checkP_zero {y : Int} {l : List Slp} : checkP y l = 0 ↔ (∀ s ∈ l, slipS s = 0 ∧ s.1 = y) ∧ (l.map (·.2.1)).Nodup := by
 have e := pStep_ok y l []
 unfold checkP
 rcases pStep_pos y l [] with h | ⟨e', h1, h2⟩
 ·rw [h]
  exact ⟨fun _ => ⟨(e.1 h).1, (e.1 h).2.1⟩, fun _ => rfl⟩
 ·rw [h2]
  constructor
  ·intro h; exact absurd h h1
  ·intro h
   have := e.2 ⟨h.1, h.2, by simp⟩
   rw [h2] at this
   cases this
def boxK (l : Ln) : List UInt8 := paper_words.getD l.1.toNat [] ++ [47] ++ l.2.1
def ev (l : Ln) : It := (boxK l, l.2.2)
def evS (ss : List Slp) : List It := ss.flatMap fun s => s.2.2.map ev
theorem word_at {p : Int} (h : 0 ≤ p ∧ p < 7) : paper_words[p.toNat]? = some (paper_words.getD p.toNat []) ∧ (paper_words.getD p.toNat []).length ≤ 6 := by
 obtain ⟨n, rfl⟩ := Int.eq_ofNat_of_zero_le h.1
 have hn : n < 7 := by omega
 match n, hn with
 | 0, _ => exact ⟨rfl, by decide⟩
 | 1, _ => exact ⟨rfl, by decide⟩
 | 2, _ => exact ⟨rfl, by decide⟩
 | 3, _ => exact ⟨rfl, by decide⟩
 | 4, _ => exact ⟨rfl, by decide⟩
 | 5, _ => exact ⟨rfl, by decide⟩
 | 6, _ => exact ⟨rfl, by decide⟩
theorem nameB_len {s : List UInt8} (h : nameB s = true) : s.length ≤ 32 := by
 simp only [nameB, Bool.and_eq_true, decide_eq_true_eq] at h
 omega
theorem box_eq {l : Ln} (h : LineOk l) : paper_box (l.1, l.2.1) = some (boxK l) ∧ (boxK l).length ≤ 39 := by
 obtain ⟨h1, h2⟩ := word_at h.p
 have h3 := nameB_len h.nm
 have h4 : lAt paper_words l.1 = some (paper_words.getD l.1.toNat []) := by
  unfold lAt
  rw [if_pos ⟨h.p.1, by have := h.p.2; exact this⟩, h1]
 constructor
 ·unfold paper_box boxK
  dsimp only
  rw [show lAt ([([103, 114, 111, 115, 115] : List UInt8), ([98, 101, 102, 111, 114, 101] : List UInt8), ([119, 111, 114, 107, 101, 114] : List UInt8), ([116, 97, 120] : List UInt8), ([97, 102, 116, 101, 114] : List UInt8), ([111, 114, 100, 101, 114, 115] : List UInt8), ([102, 105, 114, 109] : List UInt8)] : List ((List UInt8))) l.1 = some (paper_words.getD l.1.toNat []) from h4, bs,
   if_pos (by simp only [List.length_cons, List.length_nil]; omega), bs, if_pos (by simp only [List.length_append, List.length_cons, List.length_nil]; omega), bs]
 ·unfold boxK
  simp only [List.length_append, List.length_cons, List.length_nil]
  omega
theorem ev_in {ss : List Slp} (h : ∀ s ∈ ss, ∀ x ∈ s.2.2, LineOk x) : ∀ e ∈ evS ss, (-1125899906842624 ≤ e.2 ∧ e.2 ≤ 1125899906842624) ∧ e.1.length ≤ 39 := by
 intro e he
 obtain ⟨s, hs, he⟩ := List.mem_flatMap.1 he
 obtain ⟨x, hx, rfl⟩ := List.mem_map.1 he
 exact ⟨(h s hs x hx).r, (box_eq (h s hs x hx)).2⟩
abbrev SM := List It
theorem Of1 {a b n j p q r : Int} {ss : List Slp} {L : List Ln} {m : SM} (hL : ∀ x ∈ L, LineOk x) (hn : L.length ≤ 1000) :
  iter paper_Of_loop1 (a, b, ss, n, j, L, (L.length : Int), 0, p, q, r, m, (), (), (), (), ()) = some (a, b, ss, n, j, p, q, r, (L.map ev).foldl sumM m, (), (), (), (), ()) := by
 have key := iter_fold0 (b := paper_Of_loop1) (α := Ln) (A := SM) (fun k m => (a, b, ss, n, j, L, (L.length : Int), (k : Int), p, q, r, m, (), (), (), (), ())) (fun m x => Sum.inl (sumM m (ev x))) (fun m => (a, b, ss, n, j, p, q, r, m, (), (), (), (), ())) (fun _ _ => True) L (a := m) trivial (fun i x m hx _ => by
   have hi := (List.getElem?_eq_some_iff.1 hx).1
   unfold paper_Of_loop1
   dsimp only
   rw [lt_len hx, if_pos rfl, lAt_nat hx]
   simp only [bs, ms]
   rw [(box_eq (hL x (List.mem_of_getElem? hx))).1, bs, w_succ (by omega)]
   rfl) (fun _ _ _ _ _ _ _ => trivial) (fun _ _ => by
   unfold paper_Of_loop1
   dsimp only
   rw [nlt_len, if_neg (by decide)])
 rw [show (0 : Int) = ((0 : Nat) : Int) from rfl, key, foldE_inl, List.foldl_map]
theorem Of2 {a b p q r : Int} {ss : List Slp} {m : SM} (hs : ∀ s ∈ ss, s.2.2.length ≤ 448 ∧ ∀ x ∈ s.2.2, LineOk x) (hn : ss.length ≤ 1000) :
  iter paper_Of_loop2 (a, b, ss, (ss.length : Int), 0, p, q, r, m, (), (), (), (), ()) = some (a, b, p, q, r, (evS ss).foldl sumM m, (), (), (), (), ()) := by
 have key := iter_fold0 (b := paper_Of_loop2) (α := Slp) (A := SM) (fun k m => (a, b, ss, (ss.length : Int), (k : Int), p, q, r, m, (), (), (), (), ())) (fun m s => Sum.inl ((s.2.2.map ev).foldl sumM m)) (fun m => (a, b, p, q, r, m, (), (), (), (), ())) (fun _ _ => True) ss (a := m) trivial (fun i s m hx _ => by
   have hi := (List.getElem?_eq_some_iff.1 hx).1
   have hs' := hs s (List.mem_of_getElem? hx)
   unfold paper_Of_loop2
   dsimp only
   rw [lt_len hx, if_pos rfl, lAt_nat hx]
   simp only [bs, ms]
   rw [Of1 hs'.2 (by omega), bs]
   dsimp only
   rw [w_succ (by omega)]
   rfl) (fun _ _ _ _ _ _ _ => trivial) (fun _ _ => by
   unfold paper_Of_loop2
   dsimp only
   rw [nlt_len, if_neg (by decide)])
 rw [show (0 : Int) = ((0 : Nat) : Int) from rfl, key, foldE_inl]
 congr 3
 unfold evS
 clear key hs hn
 induction ss generalizing m with
 | nil => rfl
 | cons s ss ih => rw [List.foldl_cons, ih, List.flatMap_cons, List.foldl_append]
def fullStep {T : Type} (err : T) (acc : List It) (x : It) : List It ⊕ T := if fitB x.2 = false then .inr err else if x.2 ≠ 0 then .inl (acc ++ [x]) else .inl acc
theorem full_fold {T : Type} (err : T) (fin : List It → T) : ∀ (l acc : List It), foldE (fullStep err) fin acc l = if allF l = true then fin (acc ++ l.filter fun x => x.2 != 0) else err
 | [], acc => by simp [foldE, allF]
 | x :: l, acc => by
  rw [foldE]
  unfold fullStep
  have ea : allF (x :: l) = (fitB x.2 && allF l) := by simp [allF]
  cases h1 : fitB x.2 with
  | false => rw [if_pos rfl, ea, h1, Bool.false_and, if_neg (by decide)]
  | true =>
   rw [if_neg (by decide), ea, h1, Bool.true_and]
   by_cases h2 : x.2 ≠ 0
   ·have d : (x.2 != 0) = true := by simpa using h2
    rw [if_pos h2, List.filter_cons_of_pos (by simpa using d)]
    have e := full_fold err fin l (acc ++ [x])
    unfold fullStep at e
    dsimp only
    rw [e, List.append_assoc, List.singleton_append]
   ·have d : (x.2 != 0) = false := by simpa using h2
    rw [if_neg h2, List.filter_cons_of_neg (by simp [d])]
    have e := full_fold err fin l acc
    unfold fullStep at e
    exact e
theorem fitD_B (a : Int) : fitD a = fitB a := rfl
def boxesO (l : List It) : List It × Int := match fullS l with
 | some bs => (bs, 0)
 | none => ([], 9)
theorem boxes_eq {m : SM} (h1 : m.length ≤ 100000) (h2 : ∀ x ∈ m, x.1.length ≤ 1000) : paper_boxes m = some (boxesO (boxesS m)) := by
 have hl : (sortK m).length = m.length := by unfold sortK; rw [List.length_mergeSort, List.length_map]
 have hs : slices_Sorted m = some (sortK m) := by
  unfold slices_Sorted
  rw [if_pos ⟨by omega, List.all_eq_true.2 fun x hx => decide_eq_true (by have := h2 x hx; omega)⟩]
  rfl
 unfold paper_boxes maps_Keys
 dsimp only
 rw [bs, hs, bs]
 have key := iter_fold0 (b := paper_boxes_loop1) (α := List UInt8) (A := List It) (fun k acc => (m, sortK m, ((sortK m).length : Int), (k : Int), acc, (), ())) (fun acc k => fullStep (Sum.inr ([], 9)) acc (k, (getM m k).1)) (fun acc => Sum.inl (acc, (), ())) (fun i acc => acc.length ≤ i) (sortK m) (a := []) (by simp) (fun i k acc hx ha => by
   have hi := (List.getElem?_eq_some_iff.1 hx).1
   unfold paper_boxes_loop1 fullStep
   dsimp only
   try simp only [gPi, gSS, gPb, gPm, gPs, gM, gM2, gAnd, gOr, gAndI, gOrI, gAA, gAO, gOA, gOO, gAAf, gAOf, gOAf, gOOf, gAMf, gOMf, gId]
   try simp only [gIn1, gIn2, gIn3, gIn4, gIn5, gIn6, gIn7, gIn8, gId, gIdF, gMb, gMm, gBm, gBb, bs, ms]
   rw [lt_len hx, if_pos rfl, lAt_nat hx]
   simp only [bs, ms]
   rw [show (alGet (eqZ Ty.str) (zeroT (Ty.int IntKind.i64)) k m).1 = (getM m k).1 from rfl, Fits_eq', bs, fitD_B]
   cases h : fitB (getM m k).1 with
   | false => rfl
   | true =>
    rw [if_neg (show ¬ ((!true) = true) by decide), if_neg (show ¬ (true = false) by decide)]
    by_cases hz : (getM m k).1 = 0
    ·have d : ((getM m k).1 != 0) = false := by simpa using hz
     rw [d, if_neg (by decide), if_neg (show ¬ ((getM m k).1 ≠ 0) by simpa using hz), bs]
     dsimp only
     rw [w_succ (by omega)]
     rfl
    ·have d : ((getM m k).1 != 0) = true := by simpa using hz
     rw [d, if_pos rfl, if_pos (show (getM m k).1 ≠ 0 from hz), appOk' (by simp; omega) (by decide), bs]
     dsimp only
     rw [w_succ (by omega)]
     rfl) (fun i k acc acc' _ ha hst => by
   unfold fullStep at hst
   split at hst
   ·cases hst
   ·split at hst
    ·cases hst; simp; exact ha
    ·cases hst; omega) (fun _ _ => by
   unfold paper_boxes_loop1
   dsimp only
   rw [nlt_len, if_neg (by decide)])
 rw [show (0 : Int) = ((0 : Nat) : Int) from rfl, key, bs, foldE_map (fun k => (k, (getM m k).1)) (fullStep (Sum.inr ([], 9))), full_fold]
 unfold boxesO fullS
 rw [show (sortK m).map (fun k => (k, (getM m k).1)) = boxesS m from rfl]
 by_cases h : allF (boxesS m) = true
 ·rw [if_pos h, if_pos h]; rfl
 ·rw [if_neg h, if_neg h]
theorem sums_keys {es : List It} : ∀ {m : SM} {x : It}, x ∈ es.foldl sumM m → (∃ e ∈ es, e.1 = x.1) ∨ ∃ y ∈ m, y.1 = x.1 := by
 induction es with
 | nil => intro m x h; exact .inr ⟨x, h, rfl⟩
 | cons e es ih =>
  intro m x h
  rcases ih (m := sumM m e) h with ⟨e', h1, h2⟩ | ⟨y, h1, h2⟩
  ·exact .inl ⟨e', by simp [h1], h2⟩
  ·have : y.1 ∈ (sumM m e).map (·.1) := List.mem_map.2 ⟨y, h1, rfl⟩
   unfold sumM at this
   rw [put_keys] at this
   split at this
   ·obtain ⟨z, hz, hz'⟩ := List.mem_map.1 this
    exact .inr ⟨z, hz, hz'.trans h2⟩
   ·rcases List.mem_append.1 this with g | g
    ·obtain ⟨z, hz, hz'⟩ := List.mem_map.1 g
     exact .inr ⟨z, hz, hz'.trans h2⟩
    ·exact .inl ⟨e, by simp, (List.mem_singleton.1 g).symm.trans h2⟩
theorem sumM_len (m : SM) (e : It) : (sumM m e).length ≤ m.length + 1 := by
 have h : ((sumM m e).map (·.1)).length ≤ m.length + 1 := by
  unfold sumM
  rw [put_keys]
  split <;> simp
 simpa using h
theorem sums_len : ∀ (es : List It) (m : SM), (es.foldl sumM m).length ≤ m.length + es.length
 | [], m => by simp
 | e :: es, m => by
  have h1 := sums_len es (sumM m e)
  have h2 := sumM_len m e
  simp only [List.foldl_cons, List.length_cons]
  omega
theorem boxes_es {es : List It} (h : ∀ e ∈ es, (-1125899906842624 ≤ e.2 ∧ e.2 ≤ 1125899906842624) ∧ e.1.length ≤ 1000) (hn : es.length ≤ 100000) : paper_boxes (es.foldl sumM []) = some (boxesO (canon es)) := by
 rw [boxes_eq (by have := sums_len es []; simp at this; omega) (fun x hx => by
  rcases sums_keys hx with ⟨e, h1, h2⟩ | ⟨y, h1, h2⟩
  ·rw [← h2]; exact (h e h1).2
  ·cases h1), boxes_canon fun e he => by
  have := (h e he).1
  unfold InW
  omega]
def noP : Ppr := (0, 0, [], 0)
def ofR (w y : Int) (es : List It) : Ppr × Int := match fullS (canon es) with
 | some l => if (l.length : Int) > 448 then (noP, 5) else ((w, y, l, 0), 0)
 | none => (noP, 9)
def ofS (w y : Int) (ss : List Slp) : Ppr × Int := if datedS w y ≠ 0 then (noP, datedS w y) else if (ss.length : Int) > 400 then (noP, 5) else if checkP y ss ≠ 0 then (noP, checkP y ss) else ofR w y (evS ss)
theorem ev_len {ss : List Slp} (hs : ∀ s ∈ ss, s.2.2.length ≤ 448) : (evS ss).length ≤ 448 * ss.length := by
 induction ss with
 | nil => simp [evS]
 | cons s ss ih =>
  have h1 := hs s (by simp)
  have h2 := ih fun x hx => hs x (by simp [hx])
  have e : (evS (s :: ss)).length = s.2.2.length + (evS ss).length := by simp [evS]
  rw [e, List.length_cons]
  omega
theorem Of_eq (w y : Int) {ss : List Slp} (hn : ss.length ≤ 200) : paper_Of (w, y, ss) = some (ofS w y ss) := by
 unfold paper_Of ofS
 dsimp only
 try simp only [gPi, gSS, gPb, gPm, gPs, gM, gM2, gAnd, gOr, gAndI, gOrI, gAA, gAO, gOA, gOO, gAAf, gAOf, gOAf, gOOf, gAMf, gOMf, gId]
 try simp only [gIn1, gIn2, gIn3, gIn4, gIn5, gIn6, gIn7, gIn8, gId, gIdF, gMb, gMm, gBm, gBb, bs, ms]
 rw [dated_eq, bs]
 by_cases h1 : datedS w y = 0
 ·have d : (datedS w y != 0) = false := by simpa using h1
  rw [d, if_neg (by decide), if_neg (show ¬ (datedS w y ≠ 0) by simpa using h1), decide_eq_false (show ¬ ((ss.length : Int) > 400) by omega), if_neg (by decide), if_neg (show ¬ ((ss.length : Int) > 400) by omega), pcheck_eq (by omega), bs]
  by_cases h2 : checkP y ss = 0
  ·have d2 : (checkP y ss != 0) = false := by simpa using h2
   have ok := fun s hs => slipS_ok ((checkP_zero.1 h2).1 s hs).1
   have hl := ev_len fun s hs => (ok s hs).1
   rw [d2, if_neg (by decide), if_neg (show ¬ (checkP y ss ≠ 0) by simpa using h2), Of2 ok (by omega), bs]
   dsimp only
   rw [boxes_es (fun e he => by
    have := ev_in (fun s hs => (ok s hs).2) e he
    exact ⟨this.1, by omega⟩) (by omega), bs]
   unfold ofR boxesO
   cases fullS (canon (evS ss)) with
   | none => rfl
   | some l =>
    dsimp only
    rw [if_pos (show ((0 : Int) == 0) = true from rfl), bs]
    by_cases h3 : (l.length : Int) > 448
    ·rw [decide_eq_true h3, if_pos rfl, if_pos h3, bs]; rfl
    ·rw [decide_eq_false h3, if_neg (by decide), if_neg h3, bs]; rfl
  ·have d2 : (checkP y ss != 0) = true := by simpa using h2
   rw [d2, if_pos rfl, if_pos (show checkP y ss ≠ 0 from h2)]
   rfl
 ·have d : (datedS w y != 0) = true := by simpa using h1
  rw [d, if_pos rfl, if_pos (show datedS w y ≠ 0 from h1)]
  rfl
end WB
namespace WB
open Go Go.RowKit
theorem putS_len (l : List It) (e : It) : (putS l e).length ≤ l.length + 1 := by
 induction l with
 | nil => simp [putS]
 | cons x l ih =>
  simp only [putS]
  split
  ·simp
  ·split
   ·simp
   ·simp; omega
theorem puts_len : ∀ (es l : List It), (es.foldl putS l).length ≤ l.length + es.length
 | [], l => by simp
 | e :: es, l => by
  have h1 := puts_len es (putS l e)
  have h2 := putS_len l e
  simp only [List.foldl_cons, List.length_cons]
  omega
theorem canon_len (es : List It) : (canon es).length ≤ es.length := by
 have := puts_len es []
 simpa [canon] using this
theorem same25 {l m : List It} (h : l = m) (hn : l.length ≤ 100000) : ref25_Same (l, m) = some true := by
 subst h
 unfold ref25_Same
 dsimp only
 have d : ((l.length : Int) != (l.length : Int)) = false := by simp
 rw [d, if_neg (by decide)]
 have key := iter_fold0 (b := ref25_Same_loop1) (α := It) (A := Unit) (fun k _ => (l, l, (k : Int), ())) (fun _ _ => (Sum.inl () : Unit ⊕ (Unit ⊕ Bool))) (fun _ => Sum.inl ()) (fun _ _ => True) l (a := ()) trivial (fun i x _ hx _ => by
   have hi := (List.getElem?_eq_some_iff.1 hx).1
   unfold ref25_Same_loop1
   dsimp only
   rw [lt_len hx, if_pos rfl, lAt_nat hx]
   simp only [ms, bs]
   have d1 : (!(x.1 == x.1 && x.2 == x.2)) = false := by simp
   rw [d1, if_neg (by decide), w_succ (by omega)]; rfl) (fun _ _ _ _ _ _ _ => trivial) (fun _ _ => by
   unfold ref25_Same_loop1
   dsimp only
   rw [nlt_len, if_neg (by decide)])
 rw [show (0 : Int) = ((0 : Nat) : Int) from rfl, key, foldE_inl]
 rfl
theorem psame {p q : Ppr} (h : p = q) (hn : p.2.2.1.length ≤ 100000) : law37_same (p, q) = some true := by
 subst h
 unfold law37_same
 dsimp only
 try simp only [gPi, gSS, gPb, gPm, gPs, gM, gM2, gAnd, gOr, gAndI, gOrI, gAA, gAO, gOA, gOO, gAAf, gAOf, gOAf, gOOf, gAMf, gOMf, gId]
 try simp only [gIn1, gIn2, gIn3, gIn4, gIn5, gIn6, gIn7, gIn8, gId, gIdF, gMb, gMm, gBm, gBb, bs, ms]
 have d1 : (p.1 == p.1) = true := by simp
 have d2 : (p.2.1 == p.2.1) = true := by simp
 have d3 : (p.2.2.2 == p.2.2.2) = true := by simp
 rw [d1, if_pos rfl, bs, d2, if_pos rfl, bs, d3, if_pos rfl, same25 rfl hn]
theorem lens_fold : ∀ (l : List Slp) (n : Nat), (∀ s ∈ l, s.2.2.length ≤ 448) → n + 448 * l.length ≤ 1000000 → l.foldl (fun n s => IntKind.i64.wrap (n + (s.2.2.length : Int))) (n : Int) = ((n + (evS l).length : Nat) : Int)
 | [], n, _, _ => by simp [evS]
 | s :: l, n, h, hn => by
  have h1 := h s (by simp)
  simp only [List.length_cons] at hn
  rw [List.foldl_cons, w64' (by omega) (by omega), show (n : Int) + (s.2.2.length : Int) = ((n + s.2.2.length : Nat) : Int) by push_cast; rfl, lens_fold l _ (fun x hx => h x (by simp [hx])) (by omega)]
  have e : (evS (s :: l)).length = s.2.2.length + (evS l).length := by simp [evS]
  rw [e]
  congr 1
  omega
theorem great_eq (ss : List Slp) : ∃ b, law37_great ss = some b ∧ (b = false → ss.length ≤ 60 ∧ ((∀ s ∈ ss, s.2.2.length ≤ 448) → (evS ss).length ≤ 300)) := by
 have key := iter_fold0 (b := law37_great_loop1) (α := Slp) (A := Int) (fun k n => (ss, n, (k : Int), ())) (fun n s => Sum.inl (IntKind.i64.wrap (n + (s.2.2.length : Int)))) (fun n => (ss, n, ())) (fun _ _ => True) (ss.take 60) (a := (ss.length : Int)) trivial (fun i s n hx _ => by
   have hlt := (List.getElem?_eq_some_iff.1 hx).1
   have hi : i < 60 ∧ i < ss.length := by simp at hlt; omega
   have hx' : ss[i]? = some s := by rw [List.getElem?_take_of_lt hi.1] at hx; exact hx
   unfold law37_great_loop1
   dsimp only
   try simp only [gPi, gSS, gPb, gPm, gPs, gM, gM2, gAnd, gOr, gAndI, gOrI, gAA, gAO, gOA, gOO, gAAf, gAOf, gOAf, gOOf, gAMf, gOMf, gId]
   try simp only [gIn1, gIn2, gIn3, gIn4, gIn5, gIn6, gIn7, gIn8, gId, gIdF, gMb, gMm, gBm, gBb, bs, ms]
   rw [decide_eq_true (show (i : Int) < (ss.length : Int) by omega), if_pos rfl, bs, decide_eq_true (show (i : Int) < 60 by omega), if_pos rfl]
   simp only [lAt_nat hx', bs]
   rw [w_succ (by omega)]
   rfl) (fun _ _ _ _ _ _ _ => trivial) (fun _ _ => by
   unfold law37_great_loop1
   dsimp only
   try simp only [gPi, gSS, gPb, gPm, gPs, gM, gM2, gAnd, gOr, gAndI, gOrI, gAA, gAO, gOA, gOO, gAAf, gAOf, gOAf, gOOf, gAMf, gOMf, gId]
   try simp only [gIn1, gIn2, gIn3, gIn4, gIn5, gIn6, gIn7, gIn8, gId, gIdF, gMb, gMm, gBm, gBb, bs, ms]
   rw [List.length_take]
   by_cases h : ss.length ≤ 60
   ·rw [show min 60 ss.length = ss.length by omega, nlt_len, if_neg (by decide), bs, if_neg (by decide)]
   ·rw [show min 60 ss.length = 60 by omega, decide_eq_true (show ((60 : Nat) : Int) < (ss.length : Int) by omega), if_pos rfl, bs, if_neg (by decide)])
 rw [foldE_inl] at key
 unfold law37_great
 dsimp only
 try simp only [gPi, gSS, gPb, gPm, gPs, gM, gM2, gAnd, gOr, gAndI, gOrI, gAA, gAO, gOA, gOO, gAAf, gAOf, gOAf, gOOf, gAMf, gOMf, gId]
 try simp only [gIn1, gIn2, gIn3, gIn4, gIn5, gIn6, gIn7, gIn8, gId, gIdF, gMb, gMm, gBm, gBb, bs, ms]
 rw [show (0 : Int) = ((0 : Nat) : Int) from rfl, key, bs]
 dsimp only
 by_cases hg : (ss.take 60).foldl (fun n s => IntKind.i64.wrap (n + (s.2.2.length : Int))) (ss.length : Int) > 300
 ·rw [decide_eq_true hg, if_pos rfl]
  exact ⟨true, rfl, fun h => by cases h⟩
 ·rw [decide_eq_false hg, if_neg (by decide)]
  refine ⟨_, rfl, fun h => ?_⟩
  have hn : ss.length ≤ 60 := by
   have := of_decide_eq_false h
   omega
  refine ⟨hn, fun hs => ?_⟩
  rw [List.take_of_length_le hn, lens_fold ss ss.length hs (by omega)] at hg
  omega
end WB
namespace WB
open Go Go.RowKit
def wB (s w : List UInt8) : Bool := (s.take (w.length + 1) == w ++ [47]) && nameB (s.drop (w.length + 1))
def codeB (s : List UInt8) : Bool := paper_words.any (wB s)
theorem idxN {l : List UInt8} {c : UInt8} (h : ∀ b ∈ l, b ≠ c) : Lib.indexByte l c = -1 := by
 induction l with
 | nil => rfl
 | cons b l ih =>
  have hb : (b == c) = false := by simpa using h b (by simp)
  simp [Lib.indexByte, hb, ih fun x hx => h x (by simp [hx])]
theorem idxA {l t : List UInt8} {c : UInt8} (h : ∀ b ∈ l, b ≠ c) : Lib.indexByte (l ++ c :: t) c = (l.length : Int) := by
 induction l with
 | nil => simp [Lib.indexByte]
 | cons b l ih =>
  have hb : (b == c) = false := by simpa using h b (by simp)
  have e := ih fun x hx => h x (by simp [hx])
  simp only [List.cons_append, Lib.indexByte, hb, e]
  have : ((l.length : Int) == -1) = false := by rw [beq_eq_false_iff_ne]; omega
  simp [this]
theorem cutAt : ∀ (s : List UInt8), (∀ b ∈ s, b ≠ 47) ∨ ∃ a t, s = a ++ 47 :: t ∧ ∀ b ∈ a, b ≠ 47
 | [] => .inl (by simp)
 | b :: s => by
  by_cases hb : b = 47
  ·exact .inr ⟨[], s, by rw [hb]; rfl, by simp⟩
  ·rcases cutAt s with h | ⟨a, t, h1, h2⟩
   ·exact .inl fun x hx => by
     rcases List.mem_cons.1 hx with rfl | hx
     ·exact hb
     ·exact h x hx
   ·exact .inr ⟨b :: a, t, by rw [h1]; rfl, fun x hx => by
     rcases List.mem_cons.1 hx with rfl | hx
     ·exact hb
     ·exact h2 x hx⟩
theorem split_uniq : ∀ {a w t u : List UInt8}, a ++ 47 :: t = w ++ 47 :: u → (∀ b ∈ a, b ≠ 47) → (∀ b ∈ w, b ≠ 47) → a = w ∧ t = u
 | [], [], t, u, h, _, _ => by simp at h; exact ⟨rfl, h⟩
 | [], y :: w, t, u, h, _, hw => by
  have := (List.cons.inj h).1
  exact absurd this.symm (hw y (by simp))
 | x :: a, [], t, u, h, ha, _ => by
  have := (List.cons.inj h).1
  exact absurd this (ha x (by simp))
 | x :: a, y :: w, t, u, h, ha, hw => by
  obtain ⟨h1, h2⟩ := List.cons.inj h
  obtain ⟨h3, h4⟩ := split_uniq h2 (fun b hb => ha b (by simp [hb])) (fun b hb => hw b (by simp [hb]))
  exact ⟨by rw [h1, h3], h4⟩
theorem words_no : ∀ w ∈ paper_words, ∀ b ∈ w, b ≠ (47 : UInt8) := by decide
theorem wB_split {s w : List UInt8} (h : wB s w = true) : s = w ++ 47 :: s.drop (w.length + 1) ∧ nameB (s.drop (w.length + 1)) = true := by
 unfold wB at h
 rw [Bool.and_eq_true, beq_iff_eq] at h
 refine ⟨?_, h.2⟩
 have := List.take_append_drop (w.length + 1) s
 rw [h.1] at this
 rw [List.append_assoc] at this
 exact this.symm
theorem wB_at {w t : List UInt8} : wB (w ++ 47 :: t) w = nameB t := by
 unfold wB
 have e1 : (w ++ 47 :: t).take (w.length + 1) = w ++ [47] := by rw [List.take_append, List.take_of_length_le (by omega)]; simp
 have e2 : (w ++ 47 :: t).drop (w.length + 1) = t := by simp [List.drop_append]
 rw [e1, e2]
 simp
theorem codeB_no {s : List UInt8} (h : ∀ b ∈ s, b ≠ 47) : codeB s = false := by
 rw [Bool.eq_false_iff]
 intro hc
 obtain ⟨w, hw, e⟩ := List.any_eq_true.1 hc
 have e1 := (wB_split e).1
 exact h 47 (by rw [e1]; simp) rfl
theorem codeB_at {a t : List UInt8} (ha : ∀ b ∈ a, b ≠ 47) : codeB (a ++ 47 :: t) = (decide (a ∈ paper_words) && nameB t) := by
 rw [Bool.eq_iff_iff, Bool.and_eq_true, decide_eq_true_eq]
 constructor
 ·intro hc
  obtain ⟨w, hw, e⟩ := List.any_eq_true.1 hc
  obtain ⟨e1, e2⟩ := wB_split e
  obtain ⟨h1, h2⟩ := split_uniq e1 ha (words_no w hw)
  rw [← h2] at e2
  exact ⟨h1 ▸ hw, e2⟩
 ·rintro ⟨h1, h2⟩
  exact List.any_eq_true.2 ⟨a, h1, by rw [wB_at]; exact h2⟩
def idxStep (a : List UInt8) (n : Nat) (w : List UInt8) : Nat ⊕ (Unit ⊕ Int) := if (a == w) = true then .inr (.inr (n : Int)) else .inl (n + 1)
theorem idx_fold (a : List UInt8) : ∀ (l : List (List UInt8)) (n : Nat), (a ∉ l → foldE (idxStep a) (fun _ => Sum.inl ()) n l = .inl ()) ∧ (a ∈ l → ∃ i : Nat, i < n + l.length ∧ foldE (idxStep a) (fun _ => Sum.inl ()) n l = .inr (i : Int))
 | [], n => ⟨fun _ => rfl, fun h => by cases h⟩
 | w :: l, n => by
  rw [foldE]
  unfold idxStep
  obtain ⟨h1, h2⟩ := idx_fold a l (n + 1)
  unfold idxStep at h1 h2
  by_cases h : a = w
  ·have d : (a == w) = true := by simpa using h
   rw [d, if_pos rfl]
   exact ⟨fun hn => absurd (by simp [h]) hn, fun _ => ⟨n, by simp, rfl⟩⟩
  ·have d : (a == w) = false := by simpa using h
   rw [d, if_neg (by decide)]
   constructor
   ·intro hn
    exact h1 fun hm => hn (by simp [hm])
   ·intro hm
    obtain ⟨i, hi, e⟩ := h2 ((List.mem_cons.1 hm).resolve_left h)
    exact ⟨i, by simp; omega, e⟩
theorem sIndex_eq (a : List UInt8) : (a ∉ paper_words → slices_Index (paper_words, a) = some (-1)) ∧ (a ∈ paper_words → ∃ i : Nat, i < 7 ∧ slices_Index (paper_words, a) = some (i : Int)) := by
 have key := iter_fold0 (b := slices_Index_loop1) (α := List UInt8) (A := Nat) (fun k _ => (paper_words, a, (paper_words.length : Int), (k : Int), ())) (idxStep a) (fun _ => Sum.inl ()) (fun i n => n = i) paper_words (a := 0) rfl (fun i w n hx hn => by
   have hi := (List.getElem?_eq_some_iff.1 hx).1
   subst hn
   unfold slices_Index_loop1 idxStep
   dsimp only
   rw [lt_len hx, if_pos rfl, lAt_nat hx]
   simp only [ms, bs]
   have : n < 7 := hi
   cases (a == w) with
   | true => rfl
   | false => rw [if_neg (by decide), if_neg (by decide), w_succ (by omega)]; rfl) (fun i w n n' _ hn hst => by
   unfold idxStep at hst
   split at hst
   ·cases hst
   ·cases hst; omega) (fun _ _ => by
   unfold slices_Index_loop1
   dsimp only
   rw [nlt_len, if_neg (by decide)])
 obtain ⟨h1, h2⟩ := idx_fold a paper_words 0
 unfold slices_Index
 dsimp only
 rw [show (0 : Int) = ((0 : Nat) : Int) from rfl, key, bs]
 constructor
 ·intro h; rw [h1 h]
 ·intro h
  obtain ⟨i, hi, e⟩ := h2 h
  exact ⟨i, by simpa [paper_words] using hi, by rw [e]⟩
theorem slip1 {i : Nat} (hi : i < 7) (t : List UInt8) : (slipS (1900, 1, [((i : Int), t, 1)]) == 0) = nameB t := by
 have h1 : slipS (1900, 1, [((i : Int), t, 1)]) = lineS ((i : Int), t, 1) := by
  unfold slipS
  rw [if_neg (by dsimp only; omega), if_neg (by simp)]
  rw [foldE]
  unfold chkStep'
  by_cases h : lineS ((i : Int), t, 1) = 0
  ·rw [if_neg (show ¬ (lineS ((i : Int), t, 1) ≠ 0) by simpa using h), h]
   rfl
  ·rw [if_pos (show lineS ((i : Int), t, 1) ≠ 0 from h)]
 rw [h1]
 unfold lineS
 rw [if_neg (by dsimp only; omega)]
 dsimp only
 cases nameB t with
 | false => rfl
 | true => rfl
theorem coded_eq {s : List UInt8} (hs : s.length ≤ 9223372036854775807) : paper_coded s = some (codeB s) := by
 unfold paper_coded strings_Cut internal_stringslite_Cut
 dsimp only
 unfold internal_stringslite_Index
 dsimp only
 rw [bs]
 rcases cutAt s with h | ⟨a, t, rfl, ha⟩
 ·rw [idxN h, if_neg (by decide), bs, bs]
  dsimp only
  rw [codeB_no h]
  by_cases hm : s ∈ paper_words
  ·obtain ⟨i, hi, e⟩ := (sIndex_eq s).2 hm
   rw [e, bs, if_pos (by omega), slip_eq, bs, slip1 hi]
   rfl
  ·rw [(sIndex_eq s).1 hm, bs, if_neg (by decide)]
 ·have hl : (a ++ 47 :: t).length = a.length + 1 + t.length := by simp; omega
  rw [hl] at hs
  rw [idxA ha, decide_eq_true (show (a.length : Int) ≥ 0 by omega), if_pos rfl, show (0 : Int) = ((0 : Nat) : Int) from rfl, lSub_nat (by omega) (by simp), bs]
  have w1 : IntKind.i64.wrap ((a.length : Int) + (([47] : List UInt8).length : Int)) = ((a.length + 1 : Nat) : Int) := by
   rw [w64' (by simp; omega) (by simp; omega)]; simp
  rw [w1, lSub_nat (by omega) (by simp), bs, List.take_of_length_le (Nat.le_refl _), List.drop_zero, List.take_left, bs, bs]
  have e2 : (a ++ 47 :: t).drop (a.length + 1) = t := by simp [List.drop_append]
  rw [e2, codeB_at ha]
  dsimp only
  by_cases hm : a ∈ paper_words
  ·obtain ⟨i, hi, e⟩ := (sIndex_eq a).2 hm
   rw [e, bs, if_pos (by omega), slip_eq, bs, decide_eq_true hm, Bool.true_and]
   exact congrArg some (slip1 hi t)
  ·rw [(sIndex_eq a).1 hm, bs, if_neg (by decide), decide_eq_false hm, Bool.false_and]
theorem code_len {s : List UInt8} (h : codeB s = true) : s.length ≤ 39 := by
 obtain ⟨w, hw, e⟩ := List.any_eq_true.1 h
 obtain ⟨e1, e2⟩ := wB_split e
 have h1 := nameB_len e2
 have h2 : ∀ w ∈ paper_words, w.length ≤ 6 := by decide
 have h3 := h2 w hw
 rw [List.length_drop] at h1
 omega
def rStep (pr : Option It) (x : It) : Option It ⊕ (Unit ⊕ Bool) := if codeB x.1 = false ∨ fitB x.2 = false ∨ x.2 = 0 then .inr (.inr false) else match pr with
 | none => .inl (some x)
 | some p => if p.1 < x.1 then .inl (some x) else .inr (.inr false)
def listR (l : List It) : Bool := match foldE rStep (fun _ => Sum.inl ()) none l with
 | .inl _ => true
 | .inr b => b
def rightS (p : Ppr) : Bool := decide (datedS p.1 p.2.1 = 0 ∧ p.2.2.1.length ≤ 448 ∧ 0 ≤ p.2.2.2 ∧ p.2.2.2 ≤ 4096) && listR p.2.2.1
theorem rStep_iff : ∀ (l : List It) (pr : Option It), (foldE rStep (fun _ => (Sum.inl () : Unit ⊕ Bool)) pr l = .inl () ∨ foldE rStep (fun _ => (Sum.inl () : Unit ⊕ Bool)) pr l = .inr false) ∧ (foldE rStep (fun _ => (Sum.inl () : Unit ⊕ Bool)) pr l = .inl () ↔ (∀ x ∈ l, codeB x.1 = true ∧ fitB x.2 = true ∧ x.2 ≠ 0) ∧ Asc l ∧ ∀ p, pr = some p → ∀ x ∈ l, p.1 < x.1)
 | [], pr => by simp [foldE, Asc]
 | x :: l, pr => by
  rw [foldE]
  unfold rStep
  by_cases h : codeB x.1 = false ∨ fitB x.2 = false ∨ x.2 = 0
  ·rw [if_pos h]
   refine ⟨.inr rfl, ⟨fun h => (by cases h), fun g => ?_⟩⟩
   have := g.1 x (by simp)
   rcases h with h | h | h
   ·rw [this.1] at h; cases h
   ·rw [this.2.1] at h; cases h
   ·exact absurd h this.2.2
  ·rw [if_neg h]
   have hx : codeB x.1 = true ∧ fitB x.2 = true ∧ x.2 ≠ 0 := by
    simp only [not_or, Bool.not_eq_false] at h
    exact h
   obtain ⟨i1, i2⟩ := rStep_iff l (some x)
   unfold rStep at i1 i2
   have asc : Asc (x :: l) ↔ (∀ y ∈ l, x.1 < y.1) ∧ Asc l := List.pairwise_cons
   cases pr with
   | none =>
    refine ⟨i1, i2.trans ?_⟩
    rw [asc]
    constructor
    ·rintro ⟨a, b, c⟩
     exact ⟨fun y hy => by rcases List.mem_cons.1 hy with rfl | hy; exact hx; exact a y hy, ⟨c x rfl, b⟩, fun p hp => by cases hp⟩
    ·rintro ⟨a, ⟨b, c⟩, _⟩
     exact ⟨fun y hy => a y (by simp [hy]), c, fun p hp => by cases hp; exact b⟩
   | some p =>
    dsimp only
    by_cases hp : p.1 < x.1
    ·rw [if_pos hp]
     refine ⟨i1, i2.trans ?_⟩
     rw [asc]
     constructor
     ·rintro ⟨a, b, c⟩
      refine ⟨fun y hy => by rcases List.mem_cons.1 hy with rfl | hy; exact hx; exact a y hy, ⟨c x rfl, b⟩, fun q hq => ?_⟩
      cases hq
      intro y hy
      rcases List.mem_cons.1 hy with rfl | hy
      ·exact hp
      ·exact List.lt_trans hp (c x rfl y hy)
     ·rintro ⟨a, ⟨b, c⟩, _⟩
      exact ⟨fun y hy => a y (by simp [hy]), c, fun p hp => by cases hp; exact b⟩
    ·rw [if_neg hp]
     refine ⟨.inr rfl, ⟨fun h => (by cases h), fun g => ?_⟩⟩
     exact absurd (g.2.2 p rfl x (by simp)) hp
theorem listR_iff {l : List It} : listR l = true ↔ (∀ x ∈ l, codeB x.1 = true ∧ fitB x.2 = true ∧ x.2 ≠ 0) ∧ Asc l := by
 obtain ⟨h1, h2⟩ := rStep_iff l none
 unfold listR
 rcases h1 with h | h
 ·rw [h]
  exact ⟨fun _ => ⟨(h2.1 h).1, (h2.1 h).2.1⟩, fun _ => rfl⟩
 ·rw [h]
  refine ⟨fun h => (by cases h), fun g => ?_⟩
  have := h2.2 ⟨g.1, g.2, fun p hp => by cases hp⟩
  rw [h] at this
  cases this
theorem right_eq {p : Ppr} (hs : ∀ x ∈ p.2.2.1, x.1.length ≤ 9223372036854775807) : paper_Paper_right p = some (rightS p) := by
 obtain ⟨w, y, l, n⟩ := p
 unfold paper_Paper_right rightS
 dsimp only at hs ⊢
 try simp only [gPi, gSS, gPb, gPm, gPs, gM, gM2, gAnd, gOr, gAndI, gOrI, gAA, gAO, gOA, gOO, gAAf, gAOf, gOAf, gOOf, gAMf, gOMf, gId]
 try simp only [gIn1, gIn2, gIn3, gIn4, gIn5, gIn6, gIn7, gIn8, gId, gIdF, gMb, gMm, gBm, gBb, bs, ms]
 rw [dated_eq, bs]
 by_cases h1 : datedS w y = 0 ∧ l.length ≤ 448 ∧ 0 ≤ n ∧ n ≤ 4096
 ·obtain ⟨a, b, c, d⟩ := h1
  have d1 : (datedS w y != 0) = false := by simpa using a
  rw [d1, if_neg (by decide), bs, decide_eq_false (show ¬ ((l.length : Int) > 448) by omega), if_neg (by decide), bs, decide_eq_false (show ¬ (n < 0) by omega), if_neg (by decide), bs, decide_eq_false (show ¬ (n > 4096) by omega), if_neg (by decide), decide_eq_true (show datedS w y = 0 ∧ l.length ≤ 448 ∧ 0 ≤ n ∧ n ≤ 4096 from ⟨a, b, c, d⟩), Bool.true_and]
  have key := iter_fold0 (b := paper_Paper_right_loop1) (α := It) (A := Option It) (fun k _ => (l, (l.length : Int), (k : Int), w, y, l, n, (), (), ())) rStep (fun _ => Sum.inl ())
   (fun i pr => pr = if i = 0 then none else l[i - 1]?) l (a := none) rfl (fun i x pr hx hpr => by
    have hi := (List.getElem?_eq_some_iff.1 hx).1
    unfold paper_Paper_right_loop1 rStep
    dsimp only
    simp only [gPi, gSS, gPb, gPm, gPs, gM, gM2, gAnd, gOr, gAndI, gOrI, gAA, gAO, gOA, gOO, gAAf, gAOf, gOAf, gOOf, gAMf, gOMf, gId]
    try simp only [gIn1, gIn2, gIn3, gIn4, gIn5, gIn6, gIn7, gIn8, gId, gIdF, gMb, gMm, gBm, gBb, bs, ms]
    rw [lt_len hx, if_pos rfl, lAt_nat hx, bs, coded_eq (hs x (List.mem_of_getElem? hx)), bs]
    cases h2 : codeB x.1 with
    | false => rfl
    | true =>
     rw [if_neg (by decide), Fits_eq', fitD_B, bs, bs]
     cases h3 : fitB x.2 with
     | false => rfl
     | true =>
      rw [if_neg (by decide), bs]
      by_cases h4 : x.2 = 0
      ·have d4 : (x.2 == 0) = true := by simpa using h4
       rw [d4, if_pos rfl, bs, if_pos rfl, if_pos (.inr (.inr h4))]
       rfl
      ·have d4 : (x.2 == 0) = false := by simpa using h4
       rw [d4, if_neg (by decide), if_neg (show ¬ (true = false ∨ true = false ∨ x.2 = 0) by simp [h4])]
       cases i with
       | zero =>
        rw [if_pos rfl] at hpr
        subst hpr
        rw [if_neg (by decide), bs]
        dsimp only
        rw [if_neg (by decide), w_succ (by omega)]
        rfl
       | succ i =>
        have hlt : i < l.length := by omega
        rw [if_neg (by omega), Nat.add_sub_cancel, List.getElem?_eq_getElem hlt] at hpr
        subst hpr
        rw [decide_eq_true (show ((i + 1 : Nat) : Int) > 0 by omega), if_pos rfl, show ((i + 1 : Nat) : Int) - 1 = (i : Int) by omega, w64' (n := (i : Int)) (by omega) (by omega), lAt_nat (List.getElem?_eq_getElem hlt), bs, bs, sLess_eq]
        dsimp only
        by_cases h5 : l[i].1 < x.1
        ·rw [decide_eq_true h5, if_neg (by decide), if_pos h5, show ((i + 1 : Nat) : Int) + 1 = ((i + 1 + 1 : Nat) : Int) by push_cast; rfl, w64' (by omega) (by omega)]
         rfl
        ·rw [decide_eq_false h5, if_neg h5]
         rfl) (fun i x pr pr' hx _ hst => by
    rw [if_neg (by omega), Nat.add_sub_cancel, hx]
    unfold rStep at hst
    split at hst
    ·cases hst
    ·split at hst
     ·cases hst; rfl
     ·split at hst
      ·cases hst; rfl
      ·cases hst) (fun _ _ => by
    unfold paper_Paper_right_loop1
    dsimp only
    rw [nlt_len, if_neg (by decide)])
  rw [show (0 : Int) = ((0 : Nat) : Int) from rfl, key, bs]
  unfold listR
  cases foldE rStep (fun _ => (Sum.inl () : Unit ⊕ Bool)) none l <;> rfl
 ·rw [decide_eq_false h1, Bool.false_and]
  by_cases g1 : datedS w y = 0
  ·have d1 : (datedS w y != 0) = false := by simpa using g1
   rw [d1, if_neg (by decide), bs]
   by_cases g2 : (l.length : Int) > 448
   ·rw [decide_eq_true g2]; rfl
   ·rw [decide_eq_false g2, if_neg (by decide), bs]
    by_cases g3 : n < 0
    ·rw [decide_eq_true g3]; rfl
    ·rw [decide_eq_false g3, if_neg (by decide), bs, decide_eq_true (show n > 4096 by omega)]; rfl
  ·have d1 : (datedS w y != 0) = true := by simpa using g1
   rw [d1]; rfl
end WB
namespace WB
open Go Go.RowKit
set_option maxRecDepth 100000
theorem iter_run {S T : Type} {b : S → Option (S ⊕ T)} {s : S} {t : T} (n : Nat) (h : iterN b n s = some t) : iter b s = some t := iter_some.2 ⟨n, h⟩
theorem bind_run {α β : Type} {x : Option α} {a : α} {f : α → Option β} {r : Option β} (h : x = some a) (h2 : f a = r) : x.bind f = r := by rw [h]; exact h2
def exS : List Slp := [(2024, 1, [(0, [115, 97, 108, 97, 114, 121], 10000), (3, [116, 97, 120], 2000)]), (2024, 2, [(0, [115, 97, 108, 97, 114, 121], 10000)])]
def exB : List It := [([103, 114, 111, 115, 115, 47, 115, 97, 108, 97, 114, 121], 20000), ([116, 97, 120, 47, 116, 97, 120], 2000)]
theorem exOfP : ofS 1 2024 exS = ((1, 2024, exB, 0), 0) := by kernel_rfl
theorem exRight : rightS (1, 2024, exB, 0) = true := by kernel_rfl
theorem exC1 : cents_Text 20000 = some [50, 48, 48, 46, 48, 48] := by
 unfold cents_Text cents_whole
 refine bind_run (a := true) (by rw [Fits_eq']; rfl) ?_
 dsimp only
 rw [if_neg (by decide)]
 refine bind_run (a := (20000, [], ())) rfl ?_
 refine bind_run (a := 0) rfl ?_
 refine bind_run (a := 200) rfl ?_
 refine bind_run (a := [50, 48, 48]) (by rw [iter_run (t := _) 5 rfl]; rfl) ?_
 refine bind_run (a := [50, 48, 48]) rfl ?_
 refine bind_run (a := [50, 48, 48, 46]) rfl ?_
 refine bind_run (a := 0) rfl ?_
 refine bind_run (a := [48]) (by rw [iter_run (t := _) 5 rfl]; rfl) ?_
 refine bind_run (a := [50, 48, 48, 46, 48]) rfl ?_
 refine bind_run (a := 0) rfl ?_
 refine bind_run (a := [48]) (by rw [iter_run (t := _) 5 rfl]; rfl) ?_
 rfl
theorem exC2 : cents_Text 2000 = some [50, 48, 46, 48, 48] := by
 unfold cents_Text cents_whole
 refine bind_run (a := true) (by rw [Fits_eq']; rfl) ?_
 dsimp only
 rw [if_neg (by decide)]
 refine bind_run (a := (2000, [], ())) rfl ?_
 refine bind_run (a := 0) rfl ?_
 refine bind_run (a := 20) rfl ?_
 refine bind_run (a := [50, 48]) (by rw [iter_run (t := _) 5 rfl]; rfl) ?_
 refine bind_run (a := [50, 48]) rfl ?_
 refine bind_run (a := [50, 48, 46]) rfl ?_
 refine bind_run (a := 0) rfl ?_
 refine bind_run (a := [48]) (by rw [iter_run (t := _) 5 rfl]; rfl) ?_
 refine bind_run (a := [50, 48, 46, 48]) rfl ?_
 refine bind_run (a := 0) rfl ?_
 refine bind_run (a := [48]) (by rw [iter_run (t := _) 5 rfl]; rfl) ?_
 rfl
theorem itoa1 : Lib.itoa 1 = [49] := by simp [Lib.itoa, Lib.decDigits]
theorem itoa0 : Lib.itoa 0 = [48] := by simp [Lib.itoa, Lib.decDigits]
theorem itoa2024 : Lib.itoa 2024 = [50, 48, 50, 52] := by simp [Lib.itoa, Lib.decDigits]
theorem exText : paper_Paper_Text (1, 2024, exB, 0) = some [112, 97, 112, 101, 114, 32, 49, 32, 50, 48, 50, 52, 32, 48, 10, 103, 114, 111, 115, 115, 47, 115, 97, 108, 97, 114, 121, 32, 50, 48, 48, 46, 48, 48, 10, 116, 97, 120, 47, 116, 97, 120, 32, 50, 48, 46, 48, 48, 10] := by
 unfold paper_Paper_Text
 dsimp only
 rw [right_eq (by decide), exRight, bs, if_pos rfl]
 have h1 : strconv_FormatUint (IntKind.u64.wrap 1, 10) = some [49] := by
  unfold strconv_FormatUint
  rw [show IntKind.u64.wrap 1 = 1 from rfl, if_pos ⟨rfl, by decide, by decide⟩, itoa1]
 have h2 : strconv_Itoa 2024 = some [50, 48, 50, 52] := by
  unfold strconv_Itoa
  rw [if_pos ⟨by decide, by decide⟩, itoa2024]
 have h3 : strconv_Itoa 0 = some [48] := by
  unfold strconv_Itoa
  rw [if_pos ⟨by decide, by decide⟩, itoa0]
 rw [h1, bs, h2, bs, h3, bs]
 unfold exB paper_Text_loop
 dsimp only
 rw [exC1, bs]
 unfold paper_Text_loop
 dsimp only
 rw [exC2, bs]
 unfold paper_Text_loop
 rw [bs, if_pos (by decide)]
 rfl
theorem awake_eq : law37_awake () = some true := by
 unfold law37_awake
 dsimp only
 try simp only [gPi, gSS, gPb, gPm, gPs, gM, gM2, gAnd, gOr, gAndI, gOrI, gAA, gAO, gOA, gOO, gAAf, gAOf, gOAf, gOOf, gAMf, gOMf, gId]
 try simp only [gIn1, gIn2, gIn3, gIn4, gIn5, gIn6, gIn7, gIn8, gId, gIdF, gMb, gMm, gBm, gBb, bs, ms]
 have h : paper_Of (1, 2024, exS) = some ((1, 2024, exB, 0), 0) := by rw [Of_eq 1 2024 (by decide), exOfP]
 unfold exS at h
 rw [h, bs]
 dsimp only
 rw [if_pos (show ((0 : Int) == 0) = true from rfl), exText]
 rfl
end WB
namespace WB
open Go Go.RowKit
theorem rightS_iff {p : Ppr} : rightS p = true ↔ (datedS p.1 p.2.1 = 0 ∧ p.2.2.1.length ≤ 448 ∧ 0 ≤ p.2.2.2 ∧ p.2.2.2 ≤ 4096) ∧ (∀ x ∈ p.2.2.1, codeB x.1 = true ∧ fitB x.2 = true ∧ x.2 ≠ 0) ∧ Asc p.2.2.1 := by
 unfold rightS
 rw [Bool.and_eq_true, decide_eq_true_eq, listR_iff]
def StrOk (p : Ppr) : Prop := ∀ x ∈ p.2.2.1, x.1.length ≤ 9223372036854775807
theorem StrOk.of {p : Ppr} (h : rightS p = true) : StrOk p := fun x hx => by
 have := code_len ((rightS_iff.1 h).2.1 x hx).1
 omega
end WB
namespace WB
open Go Go.RowKit
end WB
namespace WB
open Go Go.RowKit
theorem fullS_perm {es es' : List It} (h : es.Perm es') (hf : Few es) : fullS (canon es) = fullS (canon es') := by
 have hf' : Few es' := ⟨by rw [← h.length_eq]; exact hf.1, fun e he => hf.2 e (h.mem_iff.2 he)⟩
 rw [fullS_few hf, fullS_few hf', fullZ_ext fun k => tz_perm h k]
end WB
namespace WB
open Go Go.RowKit
theorem ofS_cases (w y : Int) (ss : List Slp) : (ofS w y ss).2 ≠ 0 ∨ (datedS w y = 0 ∧ ss.length ≤ 400 ∧ checkP y ss = 0 ∧ ∃ L, fullS (canon (evS ss)) = some L ∧ L.length ≤ 448 ∧ ofS w y ss = ((w, y, L, 0), 0)) := by
 unfold ofS
 by_cases h1 : datedS w y = 0
 ·rw [if_neg (show ¬ (datedS w y ≠ 0) by simpa using h1)]
  by_cases h2 : (ss.length : Int) > 400
  ·rw [if_pos h2]; exact .inl (by decide)
  ·rw [if_neg h2]
   by_cases h3 : checkP y ss = 0
   ·rw [if_neg (show ¬ (checkP y ss ≠ 0) by simpa using h3)]
    unfold ofR
    cases hf : fullS (canon (evS ss)) with
    | none => exact .inl (show (9 : Int) ≠ 0 by decide)
    | some L =>
     dsimp only
     by_cases h4 : (L.length : Int) > 448
     ·rw [if_pos h4]; exact .inl (show (5 : Int) ≠ 0 by decide)
     ·rw [if_neg h4]; exact .inr ⟨h1, by omega, h3, L, rfl, by omega, rfl⟩
   ·rw [if_pos (show checkP y ss ≠ 0 from h3)]; exact .inl h3
 ·rw [if_pos (show datedS w y ≠ 0 from h1)]; exact .inl h1
theorem canon_keys {es : List It} {x : It} (h : x ∈ canon es) : ∃ e ∈ es, e.1 = x.1 := by
 suffices g : ∀ (es l : List It) (x : It), x ∈ es.foldl putS l → (∃ e ∈ es, e.1 = x.1) ∨ ∃ y ∈ l, y.1 = x.1 by
  rcases g es [] x h with g | ⟨y, hy, _⟩
  ·exact g
  ·cases hy
 intro es
 induction es with
 | nil => intro l x h; exact .inr ⟨x, h, rfl⟩
 | cons e es ih =>
  intro l x h
  rcases ih (putS l e) x h with ⟨e', h1, h2⟩ | ⟨y, h1, h2⟩
  ·exact .inl ⟨e', by simp [h1], h2⟩
  ·rcases putS_keys h1 with g | ⟨z, hz, g⟩
   ·exact .inl ⟨e, by simp, by rw [← g, h2]⟩
   ·exact .inr ⟨z, hz, by rw [g, h2]⟩
theorem full_of {es L : List It} (h : fullS (canon es) = some L) (hf : Few es) : L = (canonZ es).filter (fun x => x.2 != 0) ∧ (∀ x ∈ L, fitB x.2 = true ∧ x.2 ≠ 0 ∧ ∃ e ∈ es, e.1 = x.1) ∧ Asc L ∧ (∀ k, tz L k = tz es k) ∧ L.length ≤ es.length := by
 have hl := canon_len es
 rw [canon_few hf] at h hl
 unfold fullS at h
 split at h
 ·rename_i ha
  cases h
  refine ⟨rfl, fun x hx => ?_, asc_filter (canonZ_asc es) _, fun k => by rw [tz_filter, canonZ_tz], Nat.le_trans (List.length_filter_le _ _) hl⟩
  obtain ⟨h1, h2⟩ := List.mem_filter.1 hx
  refine ⟨List.all_eq_true.1 ha x h1, by simpa using h2, canon_keys (by rw [canon_few hf]; exact h1)⟩
 ·cases h
end WB
namespace WB
open Go Go.RowKit
def linesOf (ss : List Slp) : List Ln := ss.flatMap fun s => s.2.2
theorem evS_lines (ss : List Slp) : evS ss = (linesOf ss).map ev := by
 unfold evS linesOf
 rw [List.map_flatMap]
theorem linesOf_len (ss : List Slp) : (linesOf ss).length = (evS ss).length := by rw [evS_lines, List.length_map]
theorem sumL_app (P : Int → Bool) (a b : List Ln) : sumL P (a ++ b) = sumL P a + sumL P b := by unfold sumL; rw [List.map_append, List.sum_append]
noncomputable def sumOk (s : Slp) : Bool := decide (slip_Sums s = some (sumL pG s.2.2, sumL pH s.2.2, sumL pG s.2.2 - sumL pH s.2.2, sumL pF s.2.2, 0))
abbrev A4 := Int × Int × Int × List Slp
noncomputable def suStep {T : Type} (a : A4) (s : Slp) : A4 ⊕ (T ⊕ Bool) := if sumOk s = true then .inl (a.1 + sumL pG s.2.2, a.2.1 + sumL pH s.2.2, a.2.2.1 + sumL pF s.2.2, s :: a.2.2.2) else .inr (.inr true)
theorem su_fold {T : Type} (fin : A4 → T ⊕ Bool) : ∀ (ss : List Slp) (a : A4), foldE (suStep (T := T)) fin a ss = .inr true ∨ foldE (suStep (T := T)) fin a ss = fin (a.1 + sumL pG (linesOf ss), a.2.1 + sumL pH (linesOf ss), a.2.2.1 + sumL pF (linesOf ss), ss.reverse ++ a.2.2.2)
 | [], a => by right; simp [foldE, linesOf, sumL]
 | s :: ss, a => by
  rw [foldE]
  unfold suStep
  have ih := fun a => su_fold fin ss a
  unfold suStep at ih
  by_cases h : sumOk s = true
  ·rw [if_pos h]
   dsimp only
   rcases ih (a.1 + sumL pG s.2.2, a.2.1 + sumL pH s.2.2, a.2.2.1 + sumL pF s.2.2, s :: a.2.2.2) with g | g
   ·exact .inl g
   ·right
    rw [g]
    have e : linesOf (s :: ss) = s.2.2 ++ linesOf ss := rfl
    rw [e, sumL_app, sumL_app, sumL_app, List.reverse_cons, List.append_assoc, List.singleton_append]
    simp only [Int.add_assoc]
  ·rw [if_neg h]
   exact .inl rfl
theorem lines_take {ss : List Slp} {i : Nat} {s : Slp} (h : ss[i]? = some s) : linesOf (ss.take (i + 1)) = linesOf (ss.take i) ++ s.2.2 := by
 rw [List.take_add_one, h]
 unfold linesOf
 rw [List.flatMap_append]
 simp
theorem lines_take_le (ss : List Slp) (i : Nat) : (linesOf (ss.take i)).length ≤ (linesOf ss).length := by
 have h : linesOf ss = linesOf (ss.take i) ++ linesOf (ss.drop i) := by
  unfold linesOf
  rw [← List.flatMap_append, List.take_append_drop]
 rw [h]
 simp
theorem Su2 {w y p1 p2 p4 : Int} {L : List It} {ss : List Slp} (hs : ∀ s ∈ ss, slipS s = 0) (hn : (linesOf ss).length ≤ 1000) (hk : ss.length ≤ 100) :
  iter law37_PaperSums_loop2 (w, y, ss, 0, 0, 0, 0, 0, 0, [], 0, p1, p2, L, p4, (), (), ()) = some (.inr true) ∨
  iter law37_PaperSums_loop2 (w, y, ss, 0, 0, 0, 0, 0, 0, [], 0, p1, p2, L, p4, (), (), ()) = some (.inl (w, y, sumL pG (linesOf ss), sumL pH (linesOf ss), sumL pF (linesOf ss), 0, 0, 0, ss.reverse, p1, p2, L, p4, (), (), ())) := by
 have hL : ∀ x ∈ linesOf ss, LineOk x := fun x hx => by
  obtain ⟨s, h1, h2⟩ := List.mem_flatMap.1 hx
  exact (slipS_ok (hs s h1)).2 x h2
 have key := iter_fold0 (b := law37_PaperSums_loop2) (α := Slp) (A := A4) (fun k a => (w, y, ss, a.1, a.2.1, a.2.2.1, 0, 0, 0, a.2.2.2, (k : Int), p1, p2, L, p4, (), (), ())) suStep (fun a => Sum.inl (w, y, a.1, a.2.1, a.2.2.1, 0, 0, 0, a.2.2.2, p1, p2, L, p4, (), (), ()))
  (fun i a => a.1 = sumL pG (linesOf (ss.take i)) ∧ a.2.1 = sumL pH (linesOf (ss.take i)) ∧ a.2.2.1 = sumL pF (linesOf (ss.take i)) ∧ a.2.2.2.length ≤ i) ss (a := (0, 0, 0, [])) ⟨rfl, rfl, rfl, by simp⟩ (fun i s a hx hI => by
   have hi := (List.getElem?_eq_some_iff.1 hx).1
   have hm := List.mem_of_getElem? hx
   obtain ⟨I1, I2, I3, I4⟩ := hI
   have hle := lines_take_le ss (i + 1)
   have hall : ∀ x ∈ linesOf (ss.take (i + 1)), LineOk x := fun x hx' => by
    obtain ⟨s', h1, h2⟩ := List.mem_flatMap.1 hx'
    exact hL x (List.mem_flatMap.2 ⟨s', List.mem_of_mem_take h1, h2⟩)
   have b1 := sumL_bd pG _ hall
   have b2 := sumL_bd pH _ hall
   have b3 := sumL_bd pF _ hall
   have hlen : ((linesOf (ss.take (i + 1))).length : Int) ≤ 1000 := by omega
   generalize ((linesOf (ss.take (i + 1))).length : Int) = N at b1 b2 b3 hlen
   rw [lines_take hx, sumL_app] at b1 b2 b3
   rw [← I1] at b1
   rw [← I2] at b2
   rw [← I3] at b3
   unfold law37_PaperSums_loop2 suStep
   dsimp only
   try simp only [gPi, gSS, gPb, gPm, gPs, gM, gM2, gAnd, gOr, gAndI, gOrI, gAA, gAO, gOA, gOO, gAAf, gAOf, gOAf, gOOf, gAMf, gOMf, gId]
   try simp only [gIn1, gIn2, gIn3, gIn4, gIn5, gIn6, gIn7, gIn8, gId, gIdF, gMb, gMm, gBm, gBb, bs, ms]
   rw [lt_len hx, if_pos rfl]
   simp only [lAt_nat hx, bs]
   obtain ⟨y', ix, Ls⟩ := s
   rcases Sums_eq (hs _ hm) with e | e
   ·have d : sumOk (y', ix, Ls) = true := decide_eq_true e
    rw [e, bs, d, if_pos rfl]
    dsimp only
    dsimp only at b1 b2 b3
    rw [if_neg (show ¬ (((0 : Int) != 0) = true) by decide), appOk' (by simp; omega) (by decide), w_succ (by omega), w64' (n := a.1 + sumL pG Ls) (by omega) (by omega), w64' (n := a.2.1 + sumL pH Ls) (by omega) (by omega), w64' (n := a.2.2.1 + sumL pF Ls) (by omega) (by omega)]
    rfl
   ·have d : sumOk (y', ix, Ls) = false := by
     unfold sumOk
     rw [e]
     apply decide_eq_false
     simp
    rw [e, bs, d, if_neg (show ¬ (false = true) by decide)]
    dsimp only
    rw [if_pos (show ((9 : Int) != 0) = true by decide), awake_eq, bs]
    rfl) (fun i s a a' hx hI hst => by
   unfold suStep at hst
   split at hst
   ·cases hst
    obtain ⟨I1, I2, I3, I4⟩ := hI
    rw [lines_take hx, sumL_app, sumL_app, sumL_app]
    exact ⟨by rw [I1], by rw [I2], by rw [I3], by simp; omega⟩
   ·cases hst) (fun _ _ => by
   unfold law37_PaperSums_loop2
   dsimp only
   rw [nlt_len, if_neg (by decide)])
 rw [show ((0 : Nat) : Int) = (0 : Int) from rfl] at key
 dsimp only at key
 rcases su_fold (fun a => Sum.inl (w, y, a.1, a.2.1, a.2.2.1, (0 : Int), (0 : Int), (0 : Int), a.2.2.2, p1, p2, L, p4, (), (), ())) ss (0, 0, 0, []) with g | g
 ·exact .inl (key.trans (congrArg some g))
 ·right
  refine key.trans (congrArg some (g.trans ?_))
  dsimp only
  rw [Int.zero_add, Int.zero_add, Int.zero_add, List.append_nil]
def qG (k : List UInt8) : Bool := k.head? == some 103
def qF (k : List UInt8) : Bool := k.head? == some 102
def qH (k : List UInt8) : Bool := !(k.head? == some 103) && !(k.head? == some 102)
theorem qs_at {l : Ln} (h : LineOk l) : qG (boxK l) = pG l.1 ∧ qF (boxK l) = pF l.1 ∧ qH (boxK l) = pH l.1 ∧ boxK l ≠ [] := by
 obtain ⟨p, c, x⟩ := l
 obtain ⟨h1, h2⟩ := h.p
 dsimp only at h1 h2
 obtain ⟨n, rfl⟩ := Int.eq_ofNat_of_zero_le h1
 have hn : n < 7 := by omega
 unfold boxK
 match n, hn with
 | 0, _ => exact ⟨rfl, rfl, rfl, by simp⟩
 | 1, _ => exact ⟨rfl, rfl, rfl, by simp⟩
 | 2, _ => exact ⟨rfl, rfl, rfl, by simp⟩
 | 3, _ => exact ⟨rfl, rfl, rfl, by simp⟩
 | 4, _ => exact ⟨rfl, rfl, rfl, by simp⟩
 | 5, _ => exact ⟨rfl, rfl, rfl, by simp⟩
 | 6, _ => exact ⟨rfl, rfl, rfl, by simp⟩
theorem sumQ_lines {q : List UInt8 → Bool} {P : Int → Bool} : ∀ (l : List Ln), (∀ x ∈ l, q (boxK x) = P x.1) → sumQ q (l.map ev) = sumL P l
 | [], _ => rfl
 | x :: l, h => by
  rw [List.map_cons, sumL_cons]
  show (if q (boxK x) = true then x.2.2 else 0) + sumQ q (l.map ev) = _
  rw [h x (by simp), sumQ_lines l fun y hy => h y (by simp [hy])]
theorem sumQ_bd (q : List UInt8 → Bool) : ∀ (l : List It), (∀ x ∈ l, -1125899906842624 ≤ x.2 ∧ x.2 ≤ 1125899906842624) → -(1125899906842624 * (l.length : Int)) ≤ sumQ q l ∧ sumQ q l ≤ 1125899906842624 * l.length
 | [], _ => by simp [sumQ]
 | x :: l, h => by
  obtain ⟨h1, h2⟩ := sumQ_bd q l fun y hy => h y (by simp [hy])
  have hr := h x (by simp)
  simp only [sumQ, List.length_cons]
  split <;> constructor <;> omega
def byStep {T : Type} (a : Int × Int × Int) (x : It) : (Int × Int × Int) ⊕ T := .inl (a.1 + (if qG x.1 = true then x.2 else 0), a.2.1 + (if qH x.1 = true then x.2 else 0), a.2.2 + (if qF x.1 = true then x.2 else 0))
theorem by_fold {T : Type} (fin : Int × Int × Int → T) : ∀ (l : List It) (a : Int × Int × Int), foldE byStep fin a l = fin (a.1 + sumQ qG l, a.2.1 + sumQ qH l, a.2.2 + sumQ qF l)
 | [], a => by simp [foldE, sumQ]
 | x :: l, a => by
  rw [foldE]
  unfold byStep
  have ih := fun a => by_fold fin l a
  unfold byStep at ih
  dsimp only
  rw [ih]
  simp only [sumQ, Int.add_assoc]
theorem sumQ_take {q : List UInt8 → Bool} {l : List It} {i : Nat} {x : It} (h : l[i]? = some x) : sumQ q (l.take (i + 1)) = sumQ q (l.take i) + (if q x.1 = true then x.2 else 0) := by
 rw [List.take_add_one, h, sumQ_append]
 simp [sumQ]
theorem Su1 {w y g h f p1 p2 p4 : Int} {rev : List Slp} {L : List It} (hL : ∀ x ∈ L, (-1125899906842624 ≤ x.2 ∧ x.2 ≤ 1125899906842624) ∧ x.1 ≠ []) (hn : L.length ≤ 1000) :
  iter law37_PaperSums_loop1 (w, y, g, h, f, 0, 0, 0, rev, 0, p1, p2, L, p4, (), (), ()) = some (w, y, g, h, f, sumQ qG L, sumQ qH L, sumQ qF L, rev, p1, p2, L, p4, (), (), ()) := by
 have key := iter_fold0 (b := law37_PaperSums_loop1) (α := It) (A := Int × Int × Int) (fun k a => (w, y, g, h, f, a.1, a.2.1, a.2.2, rev, (k : Int), p1, p2, L, p4, (), (), ())) byStep (fun a => (w, y, g, h, f, a.1, a.2.1, a.2.2, rev, p1, p2, L, p4, (), (), ()))
  (fun i a => a.1 = sumQ qG (L.take i) ∧ a.2.1 = sumQ qH (L.take i) ∧ a.2.2 = sumQ qF (L.take i)) L (a := (0, 0, 0)) ⟨rfl, rfl, rfl⟩ (fun i x a hx hI => by
   have hi := (List.getElem?_eq_some_iff.1 hx).1
   obtain ⟨I1, I2, I3⟩ := hI
   have hall : ∀ x ∈ L.take (i + 1), -1125899906842624 ≤ x.2 ∧ x.2 ≤ 1125899906842624 := fun x hx' => (hL x (List.mem_of_mem_take hx')).1
   have hlen : ((L.take (i + 1)).length : Int) ≤ 1000 := by rw [List.length_take]; omega
   have b1 := sumQ_bd qG _ hall
   have b2 := sumQ_bd qH _ hall
   have b3 := sumQ_bd qF _ hall
   generalize ((L.take (i + 1)).length : Int) = N at b1 b2 b3 hlen
   rw [sumQ_take hx] at b1 b2 b3
   rw [← I1] at b1
   rw [← I2] at b2
   rw [← I3] at b3
   obtain ⟨c, hc⟩ : ∃ c, x.1[0]? = some c := by
    have := (hL x (List.mem_of_getElem? hx)).2
    cases hx1 : x.1 with
    | nil => exact absurd hx1 this
    | cons c t => exact ⟨c, rfl⟩
   have hh : x.1.head? = some c := by rw [List.head?_eq_getElem?]; exact hc
   have hN : ∀ n : UInt8, ((c.toNat : Int) == (n.toNat : Int)) = (x.1.head? == some n) := fun n => by
    rw [hh, Bool.eq_iff_iff, beq_iff_eq, beq_iff_eq]
    constructor
    ·intro e
     have : c.toNat = n.toNat := by omega
     rw [UInt8.toNat_inj.1 this]
    ·intro e
     rw [Option.some.inj e]
   unfold law37_PaperSums_loop1 byStep
   dsimp only
   try simp only [gPi, gSS, gPb, gPm, gPs, gM, gM2, gAnd, gOr, gAndI, gOrI, gAA, gAO, gOA, gOO, gAAf, gAOf, gOAf, gOOf, gAMf, gOMf, gId]
   try simp only [gIn1, gIn2, gIn3, gIn4, gIn5, gIn6, gIn7, gIn8, gId, gIdF, gMb, gMm, gBm, gBb, bs, ms]
   rw [lt_len hx, if_pos rfl]
   simp only [lAt_nat hx, bs]
   rw [show sAt x.1 0 = some (c.toNat : Int) from sAt_nat (i := 0) hc, bs, show ((c.toNat : Int) == 103) = qG x.1 from hN 103, show ((c.toNat : Int) == 102) = qF x.1 from hN 102]
   have hq : qH x.1 = (!(qG x.1) && !(qF x.1)) := rfl
   rw [hq] at b2 ⊢
   cases h1 : qG x.1 with
   | true =>
    have h2 : qF x.1 = false := by
     unfold qG at h1
     unfold qF
     rw [beq_iff_eq.1 h1]; rfl
    rw [h1] at b1
    rw [if_pos rfl] at b1
    rw [h2, if_pos rfl, bs]
    dsimp only
    rw [w64' (n := a.1 + x.2) (by omega) (by omega), w_succ (by omega)]
    simp only [Bool.not_true, Bool.false_and, Bool.false_eq_true, if_false, Int.add_zero, if_true]
    rfl
   | false =>
    rw [if_neg (by decide)]
    cases h2 : qF x.1 with
    | true =>
     rw [h2] at b3
     rw [if_pos rfl] at b3
     rw [if_pos rfl, bs]
     dsimp only
     rw [w64' (n := a.2.2 + x.2) (by omega) (by omega), w_succ (by omega)]
     simp only [Bool.not_true, Bool.not_false, Bool.and_false, Bool.false_eq_true, if_false, Int.add_zero, if_true]
     rfl
    | false =>
     rw [h1, h2] at b2
     rw [if_pos (show (!false && !false) = true from rfl)] at b2
     rw [if_neg (by decide), bs]
     dsimp only
     rw [w64' (n := a.2.1 + x.2) (by omega) (by omega), w_succ (by omega)]
     simp only [Bool.not_false, Bool.and_true, Bool.false_eq_true, if_false, Int.add_zero, if_true]
     rfl) (fun i x a a' hx hI hst => by
   unfold byStep at hst
   cases hst
   obtain ⟨I1, I2, I3⟩ := hI
   rw [sumQ_take hx, sumQ_take hx, sumQ_take hx]
   exact ⟨by rw [I1], by rw [I2], by rw [I3]⟩) (fun _ _ => by
   unfold law37_PaperSums_loop1
   dsimp only
   rw [nlt_len, if_neg (by decide)])
 rw [show ((0 : Nat) : Int) = (0 : Int) from rfl, by_fold] at key
 dsimp only at key
 rw [Int.zero_add, Int.zero_add, Int.zero_add] at key
 exact key
theorem law_PaperSums (w y : Int) (ss : List Slp) : law37_PaperSums (w, y, ss) = some true := by
 obtain ⟨b, hb, hg⟩ := great_eq ss
 unfold law37_PaperSums law37_of
 dsimp only
 try simp only [gPi, gSS, gPb, gPm, gPs, gM, gM2, gAnd, gOr, gAndI, gOrI, gAA, gAO, gOA, gOO, gAAf, gAOf, gOAf, gOOf, gAMf, gOMf, gId]
 try simp only [gIn1, gIn2, gIn3, gIn4, gIn5, gIn6, gIn7, gIn8, gId, gIdF, gMb, gMm, gBm, gBb, bs, ms]
 rw [hb, bs]
 cases b with
 | true => rw [if_pos rfl, awake_eq]
 | false =>
  obtain ⟨hn, hl⟩ := hg rfl
  rw [if_neg (by decide), Of_eq w y (by omega), bs]
  rcases ofS_cases w y ss with e0 | ⟨a1, _, a3, L, a4, a5, e0⟩
  ·have d : ((ofS w y ss).2 != 0) = true := by simpa using e0
   rw [d, if_pos rfl, awake_eq]
  ·have hs := fun s hs => ((checkP_zero.1 a3).1 s hs).1
   have ok := fun s hs' => slipS_ok (hs s hs')
   have hev := hl fun s hs => (ok s hs).1
   have f0 : Few (evS ss) := ⟨by omega, fun e he => (ev_in (fun s hs => (ok s hs).2) e he).1⟩
   obtain ⟨p0, p1, _, p3, p4⟩ := full_of a4 f0
   have hlines : (linesOf ss).length ≤ 1000 := by rw [linesOf_len]; omega
   have hL : ∀ x ∈ linesOf ss, LineOk x := fun x hx => by
    obtain ⟨s, h1, h2⟩ := List.mem_flatMap.1 hx
    exact (ok s h1).2 x h2
   have hsum : ∀ (q : List UInt8 → Bool) (P : Int → Bool), (∀ x ∈ linesOf ss, q (boxK x) = P x.1) → sumQ q L = sumL P (linesOf ss) := fun q P h => by
    rw [p0, sumQ_filter, sumQ_canon, evS_lines, sumQ_lines _ h]
   have s1 := hsum qG pG fun x hx => (qs_at (hL x hx)).1
   have s2 := hsum qH pH fun x hx => (qs_at (hL x hx)).2.2.1
   have s3 := hsum qF pF fun x hx => (qs_at (hL x hx)).2.1
   have hrev : ofS w y ss.reverse = ((w, y, L, 0), 0) := by
    unfold ofS
    have hc : checkP y ss.reverse = 0 := checkP_zero.2 ⟨fun s hs' => (checkP_zero.1 a3).1 s (by simpa using hs'), by rw [List.map_reverse]; exact (List.reverse_perm _).nodup_iff.2 (checkP_zero.1 a3).2⟩
    have hp : (evS ss.reverse).Perm (evS ss) := List.Perm.flatMap_right _ (List.reverse_perm ss)
    rw [if_neg (show ¬ (datedS w y ≠ 0) by simpa using a1), if_neg (by rw [List.length_reverse]; omega), if_neg (show ¬ (checkP y ss.reverse ≠ 0) by simpa using hc)]
    unfold ofR
    rw [fullS_perm hp ⟨by rw [hp.length_eq]; omega, fun e he => f0.2 e (hp.mem_iff.1 he)⟩, a4]
    dsimp only
    rw [if_neg (by omega)]
   rw [e0, if_neg (show ¬ (((0 : Int) != 0) = true) by decide)]
   dsimp only
   rcases Su2 (w := w) (y := y) (p1 := w) (p2 := y) (p4 := 0) (L := L) (ss := ss) hs hlines (by omega) with g | g
   ·rw [g, bs]
   ·rw [g, bs]
    dsimp only
    rw [Su1 (fun x hx => by
     obtain ⟨h1, h2, e, he, h3⟩ := p1 x hx
     refine ⟨fitD_iff.1 h1, ?_⟩
     rw [evS_lines] at he
     obtain ⟨l, hl', rfl⟩ := List.mem_map.1 he
     rw [← h3]
     exact (qs_at (hL l hl')).2.2.2) (by omega), bs]
    dsimp only
    rw [Of_eq w y (by rw [List.length_reverse]; omega), bs, hrev, s1, s2, s3]
    dsimp only
    simp only [beq_self_eq_true, if_true, bs]
    rw [psame rfl (by dsimp only; omega), bs, if_pos rfl, awake_eq]
end WB

