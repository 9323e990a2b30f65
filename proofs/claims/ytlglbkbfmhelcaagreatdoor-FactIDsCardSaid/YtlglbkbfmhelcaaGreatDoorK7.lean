/-
 OWN TEXTS, MERGED (wip/merge.py): LibJn, PG, Pfk. No condition of their own.
-/
import Derived.Test.YtlglbkbfmhelcaaGreatDoorK4
import Derived.Lib.Join
import Derived.Test.YtlglbkbfmhelcaaGreatDoorK6
set_option linter.unusedVariables false
set_option linter.unusedSimpArgs false
namespace WB
open Go Go.RowKit
theorem CanAll.len {α : Type} {p : α → CV → Prop} : ∀ {xs : List α} {es : List CV}, CanAll p xs es → es.length = xs.length
 | [], es, h => by unfold CanAll at h; subst h; rfl
 | x :: xs, es, h => by
  unfold CanAll at h
  obtain ⟨c, es', rfl, _, h2⟩ := h
  simp [CanAll.len h2]
theorem strs_cells {w : World} {M : Nat → Prop} {ad : Addr} {size : Nat} : ∀ {xs : List (List UInt8)} {es : List CV} {i : Nat}, CanAll (fun x c => Can .str x [c]) xs es → RelE w M ad size i es → ∀ (j : Nat) s, xs[j]? = some s → w.cell? (ad.add (i + j)) = some (.string ⟨⟨s⟩⟩)
 | [], es, i, _, _, j, s, hj => by simp at hj
 | x :: xs, es, i, h, hr, j, s, hj => by
  unfold CanAll at h
  obtain ⟨c, es', rfl, h1, h2⟩ := h
  unfold Can at h1
  cases h1
  unfold RelE at hr
  obtain ⟨⟨v, g1, g2, g3⟩, hr⟩ := hr
  unfold RelC at g1
  subst g1
  have hs : size = 1 := by rw [← g2]; rfl
  subst hs
  cases j with
  | zero =>
   simp only [List.getElem?_cons_zero, Option.some.injEq] at hj
   subst hj
   have := g3 0 (.string ⟨⟨x⟩⟩) rfl
   rw [Nat.mul_one] at this
   exact this
  | succ j =>
   have := strs_cells h2 hr j s (by simpa using hj)
   rw [show i + (j + 1) = i + 1 + j by omega]
   exact this
def strings_Join : List (List UInt8) × List UInt8 → Option (List UInt8) := fun x => if (Lib.join x.1 x.2).length ≤ 140737488355328 ∧ x.1.length ≤ 140737488355328 then some (Lib.join x.1 x.2) else none
theorem strings_Join_ok {P : Program} {B : TB} {f : Nat} (hb : hasBody P f = true)
  (hn : ∀ (a : Option Addr) (c : Nat) (sep : ByteArray) (w : World), Calls P f #[.slice a 0 c, .string sep] w fun e w' => e = .returned (.string ⟨#[]⟩) ∧ w' = w)
  (hc : ∀ (bk o c : Nat) (xs : List ByteArray) (sep : ByteArray) (w : World) (_ : ∀ (j : Nat) x, xs[j]? = some x → w.cell? ⟨bk, o + j, none⟩ = some (.string x)) (_ : bk < w.heap.size) (_ : xs.length ≤ 140737488355328) (_ : xs.length ≤ c) (_ : (Lib.join (xs.map (·.data.toList)) sep.data.toList).length ≤ 140737488355328),
   Calls P f #[.slice (some ⟨bk, o, none⟩) xs.length c, .string sep] w fun e w' => e = .returned (.string ⟨(Lib.join (xs.map (·.data.toList)) sep.data.toList).toArray⟩) ∧ Below w.heap.size w w')
  {x : D (.cons (.sl .str) (.one .str))} {l : List CV} {y : D .str} (hx : Can (.cons (.sl .str) (.one .str)) x l) (hy : strings_Join x = some y) : hasBody P f = true ∧ CallsTo P B.G f l (.val (enc .str y)) := by
 refine ⟨hb, fun w M vs hM hGk hL => ?_⟩
 obtain ⟨xs, sep⟩ := x
 simp only [strings_Join] at hy
 split at hy
 ·rename_i h
  obtain ⟨h0, h1⟩ := h
  cases hy
  unfold Can at hx
  obtain ⟨c1, l', rfl, h2, h3⟩ := hx
  unfold Can at h2 h3
  obtain ⟨nl, es, h4, h5⟩ := h2
  obtain ⟨c', rfl, h3⟩ := h3
  unfold Can at h3
  cases h3
  cases h4
  have hlen := h5.len
  unfold RelL RelC at hL
  obtain ⟨v, vs', rfl, ⟨a, n, c, rfl, g1, g2, g3, g4, g5, g6⟩, hL⟩ := hL
  unfold RelL RelC at hL
  obtain ⟨v, vs', rfl, rfl, hL⟩ := hL
  unfold RelL at hL
  subst hL
  cases xs with
  | nil =>
   have hes : es = [] := List.eq_nil_of_length_eq_zero (by simpa using hlen)
   subst hes
   simp only [List.length_nil] at g1
   subst g1
   refine (hn a c ⟨⟨sep⟩⟩ w).mono fun e w' he => ?_
   obtain ⟨rfl, rfl⟩ := he
   refine ⟨_, rfl, Below.refl _ _, ?_⟩
   simp [RelR, enc, encL, RelC, Lib.join_nil]
  | cons x0 xr =>
   have hne : es ≠ [] := by
    intro hh
    rw [hh] at hlen
    simp at hlen
   obtain ⟨ad, size, rfl, k1, k2, k3⟩ := g6 hne
   have hcell := strs_cells h5 k3
   simp only [Nat.zero_add] at hcell
   have hspot : ad.spot = none := by
    have := hcell 0 x0 rfl
    unfold World.cell? at this
    rw [add_zero] at this
    split at this
    ·split at this
     ·cases this
     ·rename_i hsp
      simpa using hsp
    ·cases this
   obtain ⟨bk, o, sp⟩ := ad
   simp only at hspot k1
   subst hspot
   have hm : ((x0 :: xr).map fun s => (⟨⟨s⟩⟩ : ByteArray)).map (·.data.toList) = x0 :: xr := by simp [List.map_map, Function.comp_def]
   have := hc bk o c ((x0 :: xr).map fun s => ⟨⟨s⟩⟩) ⟨⟨sep⟩⟩ w (fun j b hj => by
    rw [List.getElem?_map, Option.map_eq_some_iff] at hj
    obtain ⟨s, hs, rfl⟩ := hj
    have := hcell j s hs
    unfold Addr.add at this
    split at this
    ·rename_i hj0
     rw [hj0]
     exact this
    ·exact this) k1 (by rw [List.length_map]; exact h1) (by rw [List.length_map, ← hlen, ← g1]; exact g2) (by rw [hm]; exact h0)
   rw [hm, List.length_map, ← hlen, ← g1] at this
   refine this.mono fun e w' he => ?_
   obtain ⟨rfl, hbw⟩ := he
   refine ⟨_, rfl, hbw, ?_⟩
   simp [RelR, enc, encL, RelC]
 ·cases hy
end WB
namespace WB
open Go Go.RowKit
set_option linter.unusedVariables false
abbrev U5 := Unit ⊕ (Unit ⊕ (Unit ⊕ (Unit ⊕ Unit)))
abbrev U9 := Unit ⊕ (Unit ⊕ (Unit ⊕ (Unit ⊕ U5)))
noncomputable def unicode_utf8_RuneCountInString (a : (List UInt8)) : Option (Int) :=
 let x0 := a
 none
noncomputable def unicode_utf8_decodeRuneInStringSlow (a : (List UInt8)) : Option (Int × Int) :=
 let x0 := a
 let x14 := (x0.length : Int)
 let x16 := (decide (x14 < (1 : Int)))
 if x16 then (
  some ((65533 : Int), (0 : Int)))
 else (
  Option.bind (sAt x0 (0 : Int)) fun x18 =>
  none)
noncomputable def unicode_utf8_DecodeRuneInString (a : (List UInt8)) : Option (Int × Int) :=
 let x0 := a
 let x5 := (!(x0 == ([] : List UInt8)))
 let x7 := (if x5 = true then some x0 else none)
 Option.bind (if x5 = true then ((x7.bind (fun z25 => some (z25, (0 : Int)))).bind (fun z27 => sAt z27.1 z27.2)).map some else some none) fun x8 =>
 Option.bind (if x5 = true then ((x8.bind (fun z28 => some (z28, (128 : Int)))).map (fun z30 => (decide (z30.1 < z30.2)))).map some else some none) fun x9 =>
 Option.bind (if x5 then x9 else some false) fun x10 =>
 if x10 then (
  Option.bind (sAt x0 (0 : Int)) fun x12 =>
  let x13 := IntKind.i32.wrap x12
  some (x13, (1 : Int)))
 else (
  Option.bind (unicode_utf8_decodeRuneInStringSlow x0) fun x16 =>
  some (x16.1, x16.2))
noncomputable def strings_explode_loop1 (s : (List UInt8) × Int × Int × (List (List UInt8)) × (Unit) × Unit) : Option (((List UInt8) × Int × Int × (List (List UInt8)) × (Unit) × Unit) ⊕ (((List UInt8) × Int × (List (List UInt8)) × (Unit) × Unit))) :=
 let x0 := s.1
 let x1 := s.2.1
 let x7 := s.2.2.1
 let l21 := s.2.2.2.1
 let x24 := IntKind.i64.wrap (x1 - (1 : Int))
 let x25 := (decide (x7 < x24))
 if x25 then (
  Option.bind (unicode_utf8_DecodeRuneInString x0) fun x30 =>
  Option.bind (lSub x0 (0 : Int) x30.2) fun x37 =>
  Option.bind (if 0 ≤ x7 ∧ x7 < (l21.length : Int) then some x7.toNat else none) fun x38 =>
  Option.bind ((l21[x38]?).map (fun el37 => l21.set x38 x37)) fun l21 =>
  Option.bind (lSub x0 x30.2 (x0.length : Int)) fun x41 =>
  let x27 := IntKind.i64.wrap (x7 + (1 : Int))
  some (Sum.inl (x41, x1, x27, l21, (), ())))
 else (
  some (Sum.inr (x0, x1, l21, (), ())))
noncomputable def strings_explode (a : (List UInt8) × Int) : Option (List (List UInt8)) :=
 let x0 := a.1
 let x1 := a.2
 Option.bind (unicode_utf8_RuneCountInString x0) fun x11 =>
 Option.bind (show Option (((List UInt8) × Int × Unit)) from (
  let x13 := (decide (x1 < (0 : Int)))
  let x15 := (if x13 = false then some x1 else none)
  let x16 := (if x13 = false then some x11 else none)
  Option.bind (if x13 = false then ((x15.bind (fun z17 => x16.map (fun z18 => (z17, z18)))).map (fun z19 => (decide (z19.1 > z19.2)))).map some else some none) fun x17 =>
  Option.bind (if x13 then some true else x17.map (fun z20 => z20)) fun x18 =>
  if x18 then (
   some (x0, x11, ()))
  else (
   some (x0, x1, ())))) fun o =>
 let x0 := o.1
 let x1 := o.2.1
 Option.bind (if 0 ≤ x1 ∧ x1 ≤ x1 ∧ x1 * (16 : Int) ≤ 140737488355328 ∧ x1 ≤ 4611686018427387904 then some (List.replicate x1.toNat ([] : List UInt8)) else none) fun l21 =>
 Option.bind (iter strings_explode_loop1 (x0, x1, (0 : Int), l21, (), ())) fun o =>
 let x0 := o.1
 let x1 := o.2.1
 let l21 := o.2.2.1
 Option.bind (show Option (((List (List UInt8)) × (Unit) × Unit)) from (
  let x43 := (decide (x1 > (0 : Int)))
  if x43 then (
   let x46 := IntKind.i64.wrap (x1 - (1 : Int))
   Option.bind (if 0 ≤ x46 ∧ x46 < (l21.length : Int) then some x46.toNat else none) fun x48 =>
   Option.bind ((l21[x48]?).map (fun el41 => l21.set x48 x0)) fun l21 =>
   some (l21, (), ()))
  else (
   some (l21, (), ())))) fun o =>
 let l21 := o.1
 some l21
noncomputable def strings_Index (a : (List UInt8) × (List UInt8)) : Option (Int) :=
 let x0 := a.1
 let x1 := a.2
 Option.bind (internal_stringslite_Index (x0, x1)) fun x7 =>
 some x7
noncomputable def strings_genSplit_loop1 (s : (List UInt8) × (List UInt8) × Int × Int × Int × (List (List UInt8)) × (Unit) × Unit) : Option (((List UInt8) × (List UInt8) × Int × Int × Int × (List (List UInt8)) × (Unit) × Unit) ⊕ (((List UInt8) × Int × (List (List UInt8)) × (Unit) × Unit))) :=
 let x0 := s.1
 let x1 := s.2.1
 let x2 := s.2.2.1
 let x3 := s.2.2.2.1
 let x10 := s.2.2.2.2.1
 let l31 := s.2.2.2.2.2.1
 let x36 := (decide (x10 < x3))
 if x36 then (
  Option.bind (strings_Index (x0, x1)) fun x39 =>
  let x41 := (decide (x39 < (0 : Int)))
  if x41 then (
   some (Sum.inr (x0, x10, l31, (), ())))
  else (
   let x47 := IntKind.i64.wrap (x39 + x2)
   Option.bind (lSub x0 (0 : Int) x47) fun x48 =>
   Option.bind (if 0 ≤ x10 ∧ x10 < (l31.length : Int) then some x10.toNat else none) fun x49 =>
   Option.bind ((l31[x49]?).map (fun el15 => l31.set x49 x48)) fun l31 =>
   let x53 := (x1.length : Int)
   let x54 := IntKind.i64.wrap (x39 + x53)
   Option.bind (lSub x0 x54 (x0.length : Int)) fun x55 =>
   let x57 := IntKind.i64.wrap (x10 + (1 : Int))
   some (Sum.inl (x55, x1, x2, x3, x57, l31, (), ()))))
 else (
  some (Sum.inr (x0, x10, l31, (), ())))
noncomputable def strings_genSplit (a : (List UInt8) × (List UInt8) × Int × Int) : Option (List (List UInt8)) :=
 let x0 := a.1
 let x1 := a.2.1
 let x2 := a.2.2.1
 let x3 := a.2.2.2
 let x13 := (x3 == (0 : Int))
 if x13 then (
  some ([] : List (List UInt8)))
 else (
  let x15 := ((x1 == ([] : List UInt8)))
  if x15 then (
   Option.bind (strings_explode (x0, x3)) fun x18 =>
   some x18)
  else (
   Option.bind (show Option (((List UInt8) × (List UInt8) × Int × Int × Unit)) from (
       let x20 := (decide (x3 < (0 : Int)))
       if x20 then (
        Option.bind (strings_Count (x0, x1)) fun x23 =>
        let x24 := IntKind.i64.wrap (x23 + (1 : Int))
        some (x0, x1, x2, x24, ()))
       else (
        some (x0, x1, x2, x3, ())))) fun o =>
   let x0 := o.1
   let x1 := o.2.1
   let x2 := o.2.2.1
   let x3 := o.2.2.2.1
   let x27 := (x0.length : Int)
   let x28 := IntKind.i64.wrap (x27 + (1 : Int))
   let x29 := (min x3 x28)
   Option.bind (if 0 ≤ x29 ∧ x29 ≤ x29 ∧ x29 * (16 : Int) ≤ 140737488355328 ∧ x29 ≤ 4611686018427387904 then some (List.replicate x29.toNat ([] : List UInt8)) else none) fun l31 =>
   let x33 := IntKind.i64.wrap (x29 - (1 : Int))
   Option.bind (show Option (((List UInt8) × Int × (List (List UInt8)) × (Unit) × Unit)) from (
       Option.bind (iter strings_genSplit_loop1 (x0, x1, x2, x33, (0 : Int), l31, (), ())) fun o =>
       let x0 := o.1
       let x10 := o.2.1
       let l31 := o.2.2.1
       some (x0, x10, l31, (), ()))) fun o =>
   let x0 := o.1
   let x10 := o.2.1
   let l31 := o.2.2.1
   Option.bind (if 0 ≤ x10 ∧ x10 < (l31.length : Int) then some x10.toNat else none) fun x61 =>
   Option.bind ((l31[x61]?).map (fun el18 => l31.set x61 x0)) fun l31 =>
   let x64 := IntKind.i64.wrap (x10 + (1 : Int))
   Option.bind (lSub l31 (0 : Int) x64) fun x65 =>
   some x65))
noncomputable def strings_SplitN (a : (List UInt8) × (List UInt8) × Int) : Option (List (List UInt8)) :=
 let x0 := a.1
 let x1 := a.2.1
 let x2 := a.2.2
 Option.bind (strings_genSplit (x0, x1, (0 : Int), x2)) fun x10 =>
 some x10
noncomputable def slices_Index_loop1 (s : (List (List UInt8)) × (List UInt8) × Int × Int × Unit) : Option (((List (List UInt8)) × (List UInt8) × Int × Int × Unit) ⊕ ((Unit) ⊕ (Int))) :=
 let x0 := s.1
 let x1 := s.2.1
 let x7 := s.2.2.1
 let x8 := s.2.2.2.1
 let x9 := (decide (x8 < x7))
 if x9 then (
  Option.bind ((lAt x0 x8).map (fun y => y)) fun x14 =>
  let x16 := ((x1 == x14))
  if x16 then (
   some (Sum.inr (Sum.inr x8)))
  else (
   let x18 := IntKind.i64.wrap (x8 + (1 : Int))
   some (Sum.inl (x0, x1, x7, x18, ()))))
 else (
  some (Sum.inr (Sum.inl (()))))
noncomputable def slices_Index (a : (List (List UInt8)) × (List UInt8)) : Option (Int) :=
 let x0 := a.1
 let x1 := a.2
 let x7 := (x0.length : Int)
 Option.bind (iter slices_Index_loop1 (x0, x1, x7, (0 : Int), ())) fun o =>
 match o with
 | Sum.inl p1 => (
  some (-1 : Int))
 | Sum.inr q2 => (
  some q2)
noncomputable def slices_Contains (a : (List (List UInt8)) × (List UInt8)) : Option (Bool) :=
 let x0 := a.1
 let x1 := a.2
 Option.bind (slices_Index (x0, x1)) fun x7 =>
 let x8 := (decide (x7 ≥ (0 : Int)))
 some x8
noncomputable def fact_tens_loop1 (s : (List UInt8) × Int × Int × Int × Unit) : Option (((List UInt8) × Int × Int × Int × Unit) ⊕ (((List UInt8) × Int × Unit) ⊕ (Int × Bool))) :=
 let x0 := s.1
 let x1 := s.2.1
 let x22 := s.2.2.1
 let x23 := s.2.2.2.1
 let x24 := (decide (x23 < x22))
 if x24 then (
  Option.bind (sAt x0 x23) fun x28 =>
  let x29 := (decide (x28 < (48 : Int)))
  let x31 := (if x29 = false then some x0 else none)
  let x32 := (if x29 = false then some x23 else none)
  Option.bind (if x29 = false then ((x31.bind (fun z173 => x32.map (fun z174 => (z173, z174)))).bind (fun z175 => sAt z175.1 z175.2)).map some else some none) fun x33 =>
  Option.bind (if x29 = false then ((x33.bind (fun z176 => some (z176, (57 : Int)))).map (fun z178 => (decide (z178.1 > z178.2)))).map some else some none) fun x34 =>
  Option.bind (if x29 then some true else x34.map (fun z179 => z179)) fun x35 =>
  if x35 then (
   some (Sum.inr (Sum.inr ((0 : Int), false))))
  else (
   let x36 := IntKind.i64.wrap (x23 + (1 : Int))
   some (Sum.inl (x0, x1, x22, x36, ()))))
 else (
  some (Sum.inr (Sum.inl (x0, x1, ()))))
noncomputable def fact_tens (a : (List UInt8) × Int) : Option (Int × Bool) :=
 let x0 := a.1
 let x1 := a.2
 let x10 := ((x0 == ([] : List UInt8)))
 let x12 := (if x10 = false then some x0 else none)
 Option.bind (if x10 = false then (x12.map (fun z49 => (z49.length : Int))).map some else some none) fun x13 =>
 Option.bind (if x10 = false then ((x13.bind (fun z50 => some (z50, (1 : Int)))).map (fun z52 => (decide (z52.1 > z52.2)))).map some else some none) fun x14 =>
 Option.bind (if x10 = false then x14.map some else some none) fun x15 =>
 let x16 := (if x15 = some true then some x0 else none)
 Option.bind (if x15 = some true then ((x16.bind (fun z53 => some (z53, (0 : Int)))).bind (fun z55 => sAt z55.1 z55.2)).map some else some none) fun x17 =>
 Option.bind (if x15 = some true then ((x17.bind (fun z56 => some (z56, (48 : Int)))).map (fun z58 => (z58.1 == z58.2))).map some else some none) fun x18 =>
 Option.bind (if x10 = false then (x15.bind (fun z59 => if z59 then x18 else some false)).map some else some none) fun x19 =>
 Option.bind (if x10 then some true else x19.map (fun z60 => z60)) fun x20 =>
 if x20 then (
  some ((0 : Int), false))
 else (
  let x22 := (x0.length : Int)
  Option.bind (iter fact_tens_loop1 (x0, x1, x22, (0 : Int), ())) fun o =>
  match o with
  | Sum.inl p180 => (
   let x0 := p180.1
   let x1 := p180.2.1
   Option.bind (strconv_ParseUint (x0, (10 : Int), (64 : Int))) fun x39 =>
   let x46 := (if x39.2 = true then some x39.1 else none)
   let x47 := (if x39.2 = true then some x1 else none)
   Option.bind (if x39.2 = true then ((x46.bind (fun z188 => x47.map (fun z189 => (z188, z189)))).map (fun z190 => (decide (z190.1 ≤ z190.2)))).map some else some none) fun x48 =>
   Option.bind (if x39.2 then x48 else some false) fun x49 =>
   some (x39.1, x49))
  | Sum.inr q181 => (
   some q181))
noncomputable def fact_known (a : Int) : Option (Bool) :=
 let x0 := a
 let x4 := (decide (x0 ≥ (1 : Int)))
 let x6 := (if x4 = true then some x0 else none)
 Option.bind (if x4 = true then ((x6.bind (fun z7 => some (z7, (18 : Int)))).map (fun z9 => (decide (z9.1 ≤ z9.2)))).map some else some none) fun x7 =>
 Option.bind (if x4 then x7 else some false) fun x8 =>
 some x8
noncomputable def fact_isName_loop1 (s : (List UInt8) × Int × Int × Unit) : Option (((List UInt8) × Int × Int × Unit) ⊕ (((List UInt8) × Unit) ⊕ (Bool))) :=
 let x0 := s.1
 let x6 := s.2.1
 let x7 := s.2.2.1
 let x8 := (decide (x7 < x6))
 if x8 then (
  Option.bind (sAt x0 x7) fun x12 =>
  let x14 := (decide (x12 < (97 : Int)))
  let x16 := (if x14 = false then some x12 else none)
  Option.bind (if x14 = false then ((x16.bind (fun z337 => some (z337, (122 : Int)))).map (fun z339 => (decide (z339.1 > z339.2)))).map some else some none) fun x17 =>
  Option.bind (if x14 then some true else x17.map (fun z340 => z340)) fun x18 =>
  let x20 := (if x18 = true then some x12 else none)
  Option.bind (if x18 = true then ((x20.bind (fun z341 => some (z341, (48 : Int)))).map (fun z343 => (decide (z343.1 < z343.2)))).map some else some none) fun x21 =>
  Option.bind (if x18 = true then x21.map some else some none) fun x22 =>
  let x23 := (if x22 = some false then some x12 else none)
  Option.bind (if x22 = some false then ((x23.bind (fun z344 => some (z344, (57 : Int)))).map (fun z346 => (decide (z346.1 > z346.2)))).map some else some none) fun x24 =>
  Option.bind (if x18 = true then (x22.bind (fun z348 => if z348 then some true else x24.map (fun z347 => z347))).map some else some none) fun x25 =>
  Option.bind (if x18 then x25 else some false) fun x26 =>
  let x28 := (if x26 = true then some x12 else none)
  Option.bind (if x26 = true then ((x28.bind (fun z349 => some (z349, (46 : Int)))).map (fun z351 => (z351.1 != z351.2))).map some else some none) fun x29 =>
  Option.bind (if x26 then x29 else some false) fun x30 =>
  let x32 := (if x30 = true then some x12 else none)
  Option.bind (if x30 = true then ((x32.bind (fun z352 => some (z352, (95 : Int)))).map (fun z354 => (z354.1 != z354.2))).map some else some none) fun x33 =>
  Option.bind (if x30 then x33 else some false) fun x34 =>
  let x36 := (if x34 = true then some x12 else none)
  Option.bind (if x34 = true then ((x36.bind (fun z355 => some (z355, (45 : Int)))).map (fun z357 => (z357.1 != z357.2))).map some else some none) fun x37 =>
  Option.bind (if x34 then x37 else some false) fun x38 =>
  if x38 then (
   some (Sum.inr (Sum.inr false)))
  else (
   let x39 := IntKind.i64.wrap (x7 + (1 : Int))
   some (Sum.inl (x0, x6, x39, ()))))
 else (
  some (Sum.inr (Sum.inl (x0, ()))))
noncomputable def fact_isName (a : (List UInt8)) : Option (Bool) :=
 let x0 := a
 let x6 := (x0.length : Int)
 Option.bind (iter fact_isName_loop1 (x0, x6, (0 : Int), ())) fun o =>
 match o with
 | Sum.inl p358 => (
  let x0 := p358.1
  let x41 := (!(x0 == ([] : List UInt8)))
  let x43 := (if x41 = true then some x0 else none)
  Option.bind (if x41 = true then ((x43.bind (fun z374 => some (z374, ([45] : List UInt8)))).map (fun z376 => (!(z376.1 == z376.2)))).map some else some none) fun x44 =>
  Option.bind (if x41 then x44 else some false) fun x45 =>
  let x47 := (if x45 = true then some x0 else none)
  Option.bind (if x45 = true then (x47.map (fun z377 => (z377.length : Int))).map some else some none) fun x48 =>
  Option.bind (if x45 = true then ((x48.bind (fun z378 => some (z378, (32 : Int)))).map (fun z380 => (decide (z380.1 ≤ z380.2)))).map some else some none) fun x49 =>
  Option.bind (if x45 then x49 else some false) fun x50 =>
  some x50)
 | Sum.inr q359 => (
  some q359)
noncomputable def fact_rules_1 (a : (List UInt8)) : Option (Bool) :=
 let x0 := a
 let x4 := ((x0 == ([] : List UInt8)))
 let x6 := (if x4 = false then some x0 else none)
 Option.bind (if x4 = false then ((x6.map (fun z7 => z7)).bind (fun z8 => fact_isName z8)).map some else some none) fun x7 =>
 Option.bind (if x4 then some true else x7.map (fun z9 => z9)) fun x8 =>
 some x8
noncomputable def fact_rules_2 (a : (Int × Int × Int × Int × Int × (List UInt8) × Int × (List UInt8))) : Option (Bool) :=
 let x0 := a
 Option.bind (fact_isName x0.2.2.2.2.2.2.2) fun x5 =>
 some x5
noncomputable def fact_plain_loop1 (s : (List UInt8) × Int × Int × Unit) : Option (((List UInt8) × Int × Int × Unit) ⊕ ((Unit) ⊕ (Bool))) :=
 let x0 := s.1
 let x5 := s.2.1
 let x6 := s.2.2.1
 let x7 := (decide (x6 < x5))
 if x7 then (
  Option.bind (sAt x0 x6) fun x11 =>
  let x12 := (decide (x11 < (32 : Int)))
  let x14 := (if x12 = false then some x0 else none)
  let x15 := (if x12 = false then some x6 else none)
  Option.bind (if x12 = false then ((x14.bind (fun z113 => x15.map (fun z114 => (z113, z114)))).bind (fun z115 => sAt z115.1 z115.2)).map some else some none) fun x16 =>
  Option.bind (if x12 = false then ((x16.bind (fun z116 => some (z116, (126 : Int)))).map (fun z118 => (decide (z118.1 > z118.2)))).map some else some none) fun x17 =>
  Option.bind (if x12 then some true else x17.map (fun z119 => z119)) fun x18 =>
  if x18 then (
   some (Sum.inr (Sum.inr false)))
  else (
   let x19 := IntKind.i64.wrap (x6 + (1 : Int))
   some (Sum.inl (x0, x5, x19, ()))))
 else (
  some (Sum.inr (Sum.inl (()))))
noncomputable def fact_plain (a : (List UInt8)) : Option (Bool) :=
 let x0 := a
 let x5 := (x0.length : Int)
 Option.bind (iter fact_plain_loop1 (x0, x5, (0 : Int), ())) fun o =>
 match o with
 | Sum.inl p120 => (
  some true)
 | Sum.inr q121 => (
  some q121)
noncomputable def fact_rules_3 (a : (Int × Int × Int × Int × Int × (List UInt8) × Int × (List UInt8))) : Option (Bool) :=
 let x0 := a
 Option.bind (fact_plain x0.2.2.2.2.2.2.2) fun x5 =>
 some x5
noncomputable def fact_rules_4 (a : (Int × Int × Int × Int × Int × (List UInt8) × Int × (List UInt8))) : Option (Bool) :=
 let x0 := a
 let x5 := (!(x0.2.2.2.2.2.2.2 == ([] : List UInt8)))
 let x7 := (if x5 = true then some () else none)
 Option.bind (if x5 = true then (x7.map (fun z7 => x0.2.2.2.2.2.2.2)).map some else some none) fun x8 =>
 Option.bind (if x5 = true then ((x8.map (fun z8 => z8)).bind (fun z9 => fact_plain z9)).map some else some none) fun x9 =>
 Option.bind (if x5 then x9 else some false) fun x10 =>
 some x10
noncomputable def fact_empty (a : (List UInt8)) : Option (Bool) :=
 let x0 := a
 let x4 := ((x0 == ([] : List UInt8)))
 some x4
noncomputable def fact_silent (a : (Int × Int × Int × Int × Int × (List UInt8) × Int × (List UInt8))) : Option (Bool) :=
 let x0 := a
 let x5 := ((x0.2.2.2.2.2.2.2 == ([] : List UInt8)))
 some x5
noncomputable def week_Week_right_loop1 (s : (Int × Int × Int × Int × Int × Int × Int) × Int × Unit) : Option (((Int × Int × Int × Int × Int × Int × Int) × Int × Unit) ⊕ ((Unit) ⊕ (Bool))) :=
 let x5 := s.1
 let x6 := s.2.1
 let x7 := (decide (x6 < (7 : Int)))
 if x7 then (
  Option.bind ((lAt ([x5.1, x5.2.1, x5.2.2.1, x5.2.2.2.1, x5.2.2.2.2.1, x5.2.2.2.2.2.1, x5.2.2.2.2.2.2] : List (Int)) x6).map (fun y => y)) fun x8 =>
  let x10 := (decide (x8 < (0 : Int)))
  let x12 := (if x10 = false then some x8 else none)
  Option.bind (if x10 = false then ((x12.bind (fun z65 => some (z65, (1440 : Int)))).map (fun z67 => (decide (z67.1 > z67.2)))).map some else some none) fun x13 =>
  Option.bind (if x10 then some true else x13.map (fun z68 => z68)) fun x14 =>
  if x14 then (
   some (Sum.inr (Sum.inr false)))
  else (
   let x15 := IntKind.i64.wrap (x6 + (1 : Int))
   some (Sum.inl (x5, x15, ()))))
 else (
  some (Sum.inr (Sum.inl (()))))
noncomputable def week_Week_right (a : (Int × Int × Int × Int × Int × Int × Int)) : Option (Bool) :=
 let x0 := a
 Option.bind (iter week_Week_right_loop1 ((x0.1, x0.2.1, x0.2.2.1, x0.2.2.2.1, x0.2.2.2.2.1, x0.2.2.2.2.2.1, x0.2.2.2.2.2.2), (0 : Int), ())) fun o =>
 match o with
 | Sum.inl p69 => (
  some true)
 | Sum.inr q70 => (
  some q70)
noncomputable def week_Parse_loop1 (s : Int × Int × Int × (List (Int)) × Int × Int × Int × Int × Int × Int × Int × Int × Int × Int × Int × Int × Int × Int × Int × Int × (Unit) × (Unit) × (Unit) × (Unit) × Unit) : Option ((Int × Int × Int × (List (Int)) × Int × Int × Int × Int × Int × Int × Int × Int × Int × Int × Int × Int × Int × Int × Int × Int × (Unit) × (Unit) × (Unit) × (Unit) × Unit) ⊕ ((Int × Int × Int × Int × Int × Int × Int × Int × Int × Int × Int × Int × Int × Int × Int × Int × (Unit) × (Unit) × (Unit) × (Unit) × Unit) ⊕ ((Int × Int × Int × Int × Int × Int × Int) × Int))) :=
 let sq6 := s.2.2.2.2.2.2
 let sq12 := sq6.2.2.2.2.2.2
 let sq18 := sq12.2.2.2.2.2.2
 let x5 := s.1
 let x6 := s.2.1
 let x7 := s.2.2.1
 let x11 := s.2.2.2.1
 let x12 := s.2.2.2.2.1
 let x13 := s.2.2.2.2.2.1
 let c2_0 := sq6.1
 let c2_1 := sq6.2.1
 let c2_2 := sq6.2.2.1
 let c2_3 := sq6.2.2.2.1
 let c2_4 := sq6.2.2.2.2.1
 let c2_5 := sq6.2.2.2.2.2.1
 let c2_6 := sq12.1
 let c4_0 := sq12.2.1
 let c4_1 := sq12.2.2.1
 let c4_2 := sq12.2.2.2.1
 let c4_3 := sq12.2.2.2.2.1
 let c4_4 := sq12.2.2.2.2.2.1
 let c4_5 := sq18.1
 let c4_6 := sq18.2.1
 let x14 := (decide (x13 < x12))
 if x14 then (
  Option.bind (show Option ((Int × Int × Int × (List (Int)) × Int × Int × Int × Int × Int × Int × Int × Int × Int × Int × Int × Int × Int × Int × Int × Int × (Unit) × (Unit) × (Unit) × (Unit) × Unit) ⊕ ((Int × Int × Int × Int × Int × Int × Int) × Int)) from (
   Option.bind ((lAt x11 x13).map (fun y => y)) fun x15 =>
   let x35 := (x15 == (32 : Int))
   let x37 := (if x35 = true then some x6 else none)
   Option.bind (if x35 = true then ((x37.bind (fun z139 => some (z139, (0 : Int)))).map (fun z141 => (decide (z141.1 > z141.2)))).map some else some none) fun x38 =>
   Option.bind (if x35 then x38 else some false) fun x39 =>
   let x41 := (if x39 = true then some x5 else none)
   Option.bind (if x39 = true then ((x41.bind (fun z142 => some (z142, (6 : Int)))).map (fun z144 => (decide (z144.1 < z144.2)))).map some else some none) fun x42 =>
   Option.bind (if x39 then x42 else some false) fun x43 =>
   if x43 then (
    let x45 := IntKind.i64.wrap (x5 + (1 : Int))
    some (Sum.inl (x45, (0 : Int), x7, x11, x12, x13, c2_0, c2_1, c2_2, c2_3, c2_4, c2_5, c2_6, c4_0, c4_1, c4_2, c4_3, c4_4, c4_5, c4_6, (), (), (), (), ())))
   else (
    Option.bind (show Option ((Int × Int × Int × Int × (List (Int)) × Int × Int × (Bool) × Int × Int × Int × Int × Int × Int × Int × Int × Int × Int × Int × Int × Int × Int × (Unit) × (Unit) × (Unit) × (Unit) × Unit)) from (
     let x48 := (decide (x15 < (48 : Int)))
     if x48 then (
         some (x5, x6, x7, x15, x11, x12, x13, x48, c2_0, c2_1, c2_2, c2_3, c2_4, c2_5, c2_6, c4_0, c4_1, c4_2, c4_3, c4_4, c4_5, c4_6, (), (), (), (), ()))
     else (
         let x50 := (decide (x15 > (57 : Int)))
         if x50 then (
          some (x5, x6, x7, x15, x11, x12, x13, x50, c2_0, c2_1, c2_2, c2_3, c2_4, c2_5, c2_6, c4_0, c4_1, c4_2, c4_3, c4_4, c4_5, c4_6, (), (), (), (), ()))
         else (
          let x52 := (decide (x6 > (0 : Int)))
          let x54 := (if x52 = true then some x7 else none)
          Option.bind (if x52 = true then ((x54.bind (fun z154 => some (z154, (48 : Int)))).map (fun z156 => (z156.1 == z156.2))).map some else some none) fun x55 =>
          Option.bind (if x52 then x55 else some false) fun x56 =>
          some (x5, x6, x7, x15, x11, x12, x13, x56, c2_0, c2_1, c2_2, c2_3, c2_4, c2_5, c2_6, c4_0, c4_1, c4_2, c4_3, c4_4, c4_5, c4_6, (), (), (), (), ()))))) fun o =>
          let oq6 := o.2.2.2.2.2.2
          let oq12 := oq6.2.2.2.2.2.2
          let oq18 := oq12.2.2.2.2.2.2
    let x5 := o.1
    let x6 := o.2.1
    let x7 := o.2.2.1
    let x9 := o.2.2.2.1
    let x11 := o.2.2.2.2.1
    let x12 := o.2.2.2.2.2.1
    let x13 := oq6.1
    let x46 := oq6.2.1
    let c2_0 := oq6.2.2.1
    let c2_1 := oq6.2.2.2.1
    let c2_2 := oq6.2.2.2.2.1
    let c2_3 := oq6.2.2.2.2.2.1
    let c2_4 := oq12.1
    let c2_5 := oq12.2.1
    let c2_6 := oq12.2.2.1
    let c4_0 := oq12.2.2.2.1
    let c4_1 := oq12.2.2.2.2.1
    let c4_2 := oq12.2.2.2.2.2.1
    let c4_3 := oq18.1
    let c4_4 := oq18.2.1
    let c4_5 := oq18.2.2.1
    let c4_6 := oq18.2.2.2.1
    if x46 then (
     some (Sum.inr (((0 : Int), (0 : Int), (0 : Int), (0 : Int), (0 : Int), (0 : Int), (0 : Int)), (3 : Int))))
    else (
     Option.bind (show Option ((Int × Int × Int × Int × (List (Int)) × Int × Int × Int × Int × Int × Int × Int × Int × Int × Int × Int × Int × Int × Int × Int × Int × (Unit) × (Unit) × (Unit) × (Unit) × Unit)) from (
         let x18 := (x6 == (0 : Int))
         if x18 then (
          some (x5, x6, x9, x9, x11, x12, x13, c2_0, c2_1, c2_2, c2_3, c2_4, c2_5, c2_6, c4_0, c4_1, c4_2, c4_3, c4_4, c4_5, c4_6, (), (), (), (), ()))
         else (
          some (x5, x6, x7, x9, x11, x12, x13, c2_0, c2_1, c2_2, c2_3, c2_4, c2_5, c2_6, c4_0, c4_1, c4_2, c4_3, c4_4, c4_5, c4_6, (), (), (), (), ())))) fun o =>
          let oq6 := o.2.2.2.2.2.2
          let oq12 := oq6.2.2.2.2.2.2
          let oq18 := oq12.2.2.2.2.2.2
     let x5 := o.1
     let x6 := o.2.1
     let x7 := o.2.2.1
     let x9 := o.2.2.2.1
     let x11 := o.2.2.2.2.1
     let x12 := o.2.2.2.2.2.1
     let x13 := oq6.1
     let c2_0 := oq6.2.1
     let c2_1 := oq6.2.2.1
     let c2_2 := oq6.2.2.2.1
     let c2_3 := oq6.2.2.2.2.1
     let c2_4 := oq6.2.2.2.2.2.1
     let c2_5 := oq12.1
     let c2_6 := oq12.2.1
     let c4_0 := oq12.2.2.1
     let c4_1 := oq12.2.2.2.1
     let c4_2 := oq12.2.2.2.2.1
     let c4_3 := oq12.2.2.2.2.2.1
     let c4_4 := oq18.1
     let c4_5 := oq18.2.1
     let c4_6 := oq18.2.2.1
     Option.bind (if 0 ≤ x5 ∧ x5 < (7 : Int) then some x5.toNat else none) fun x22 =>
     Option.bind (([c4_0, c4_1, c4_2, c4_3, c4_4, c4_5, c4_6] : List (Int))[x22]?) fun x23 =>
     let x24 := IntKind.i64.wrap ((10 : Int) * x23)
     let x26 := IntKind.u8.wrap (x9 - (48 : Int))
     let x27 := IntKind.i64.wrap x26
     let x28 := IntKind.i64.wrap (x24 + x27)
     let x29 := (min x28 (1441 : Int))
     let x31 := IntKind.i64.wrap (x6 + (1 : Int))
     Option.bind (if 0 ≤ x5 ∧ x5 < (7 : Int) then some x5.toNat else none) fun x32 =>
     let c4_0 := (if x32 = 0 then x29 else c4_0)
     let c4_1 := (if x32 = 1 then x29 else c4_1)
     let c4_2 := (if x32 = 2 then x29 else c4_2)
     let c4_3 := (if x32 = 3 then x29 else c4_3)
     let c4_4 := (if x32 = 4 then x29 else c4_4)
     let c4_5 := (if x32 = 5 then x29 else c4_5)
     let c4_6 := (if x32 = 6 then x29 else c4_6)
     some (Sum.inl (x5, x31, x7, x11, x12, x13, c2_0, c2_1, c2_2, c2_3, c2_4, c2_5, c2_6, c4_0, c4_1, c4_2, c4_3, c4_4, c4_5, c4_6, (), (), (), (), ())))))) fun o =>
  match o with
  | Sum.inl p157 => (
   let p157q6 := p157.2.2.2.2.2.2
   let p157q12 := p157q6.2.2.2.2.2.2
   let p157q18 := p157q12.2.2.2.2.2.2
   let x5 := p157.1
   let x6 := p157.2.1
   let x7 := p157.2.2.1
   let x11 := p157.2.2.2.1
   let x12 := p157.2.2.2.2.1
   let x13 := p157.2.2.2.2.2.1
   let c2_0 := p157q6.1
   let c2_1 := p157q6.2.1
   let c2_2 := p157q6.2.2.1
   let c2_3 := p157q6.2.2.2.1
   let c2_4 := p157q6.2.2.2.2.1
   let c2_5 := p157q6.2.2.2.2.2.1
   let c2_6 := p157q12.1
   let c4_0 := p157q12.2.1
   let c4_1 := p157q12.2.2.1
   let c4_2 := p157q12.2.2.2.1
   let c4_3 := p157q12.2.2.2.2.1
   let c4_4 := p157q12.2.2.2.2.2.1
   let c4_5 := p157q18.1
   let c4_6 := p157q18.2.1
   let x58 := IntKind.i64.wrap (x13 + (1 : Int))
   some (Sum.inl (x5, x6, x7, x11, x12, x58, c2_0, c2_1, c2_2, c2_3, c2_4, c2_5, c2_6, c4_0, c4_1, c4_2, c4_3, c4_4, c4_5, c4_6, (), (), (), (), ())))
  | Sum.inr q158 => (
   some (Sum.inr (Sum.inr q158))))
 else (
  some (Sum.inr (Sum.inl (x5, x6, c2_0, c2_1, c2_2, c2_3, c2_4, c2_5, c2_6, c4_0, c4_1, c4_2, c4_3, c4_4, c4_5, c4_6, (), (), (), (), ()))))
noncomputable def week_Parse (a : (List UInt8)) : Option ((Int × Int × Int × Int × Int × Int × Int) × Int) :=
 let x0 := a
 Option.bind (if x0.length ≤ 70368744177664 then some (x0.map fun b => (b.toNat : Int)) else none) fun x11 =>
 let x12 := (x11.length : Int)
 Option.bind (iter week_Parse_loop1 ((0 : Int), (0 : Int), (0 : Int), x11, x12, (0 : Int), (0 : Int), (0 : Int), (0 : Int), (0 : Int), (0 : Int), (0 : Int), (0 : Int), (0 : Int), (0 : Int), (0 : Int), (0 : Int), (0 : Int), (0 : Int), (0 : Int), (), (), (), (), ())) fun o =>
 match o with
 | Sum.inl p159 => (
  let p159q6 := p159.2.2.2.2.2.2
  let p159q12 := p159q6.2.2.2.2.2.2
  let x5 := p159.1
  let x6 := p159.2.1
  let c2_0 := p159.2.2.1
  let c2_1 := p159.2.2.2.1
  let c2_2 := p159.2.2.2.2.1
  let c2_3 := p159.2.2.2.2.2.1
  let c2_4 := p159q6.1
  let c2_5 := p159q6.2.1
  let c2_6 := p159q6.2.2.1
  let c4_0 := p159q6.2.2.2.1
  let c4_1 := p159q6.2.2.2.2.1
  let c4_2 := p159q6.2.2.2.2.2.1
  let c4_3 := p159q12.1
  let c4_4 := p159q12.2.1
  let c4_5 := p159q12.2.2.1
  let c4_6 := p159q12.2.2.2.1
  Option.bind (show Option (((Bool) × Int × Int × Int × Int × Int × Int × Int × Int × Int × Int × Int × Int × Int × Int × (Unit) × (Unit) × (Unit) × (Unit) × Unit)) from (
   let x61 := (x5 != (6 : Int))
   if x61 then (
    some (x61, c2_0, c2_1, c2_2, c2_3, c2_4, c2_5, c2_6, c4_0, c4_1, c4_2, c4_3, c4_4, c4_5, c4_6, (), (), (), (), ()))
   else (
    let x63 := (x6 == (0 : Int))
    some (x63, c2_0, c2_1, c2_2, c2_3, c2_4, c2_5, c2_6, c4_0, c4_1, c4_2, c4_3, c4_4, c4_5, c4_6, (), (), (), (), ())))) fun o =>
    let oq6 := o.2.2.2.2.2.2
    let oq12 := oq6.2.2.2.2.2.2
  let x59 := o.1
  let c2_0 := o.2.1
  let c2_1 := o.2.2.1
  let c2_2 := o.2.2.2.1
  let c2_3 := o.2.2.2.2.1
  let c2_4 := o.2.2.2.2.2.1
  let c2_5 := oq6.1
  let c2_6 := oq6.2.1
  let c4_0 := oq6.2.2.1
  let c4_1 := oq6.2.2.2.1
  let c4_2 := oq6.2.2.2.2.1
  let c4_3 := oq6.2.2.2.2.2.1
  let c4_4 := oq12.1
  let c4_5 := oq12.2.1
  let c4_6 := oq12.2.2.1
  if x59 then (
   some (((0 : Int), (0 : Int), (0 : Int), (0 : Int), (0 : Int), (0 : Int), (0 : Int)), (3 : Int)))
  else (
   Option.bind (week_Week_right (c4_0, c4_1, c4_2, c4_3, c4_4, c4_5, c4_6)) fun x67 =>
   let x68 := (!x67)
   if x68 then (
    some (((0 : Int), (0 : Int), (0 : Int), (0 : Int), (0 : Int), (0 : Int), (0 : Int)), (2 : Int)))
   else (
    some ((c4_0, c4_1, c4_2, c4_3, c4_4, c4_5, c4_6), (0 : Int)))))
 | Sum.inr q160 => (
  some q160)
noncomputable def fact_weekly (a : (Int × Int × Int × Int × Int × (List UInt8) × Int × (List UInt8))) : Option (Bool) :=
 let x0 := a
 Option.bind (week_Parse x0.2.2.2.2.2.2.2) fun x8 =>
 let x12 := (x8.2 == (0 : Int))
 some x12
noncomputable def strings_Split (a : (List UInt8) × (List UInt8)) : Option (List (List UInt8)) :=
 let x0 := a.1
 let x1 := a.2
 Option.bind (strings_genSplit (x0, x1, (0 : Int), (-1 : Int))) fun x7 =>
 some x7
noncomputable def internal_stringslite_Cut (a : (List UInt8) × (List UInt8)) : Option ((List UInt8) × (List UInt8) × Bool) :=
 let x0 := a.1
 let x1 := a.2
 let x4 := ([] : List UInt8)
 let x5 := ([] : List UInt8)
 Option.bind (internal_stringslite_Index (x0, x1)) fun x10 =>
 let x12 := (decide (x10 ≥ (0 : Int)))
 if x12 then (
  Option.bind (lSub x0 (0 : Int) x10) fun x15 =>
  let x19 := (x1.length : Int)
  let x20 := IntKind.i64.wrap (x10 + x19)
  Option.bind (lSub x0 x20 (x0.length : Int)) fun x21 =>
  some (x15, x21, true))
 else (
  let x5 := ([] : List UInt8)
  some (x0, x5, false))
noncomputable def strings_Cut (a : (List UInt8) × (List UInt8)) : Option ((List UInt8) × (List UInt8) × Bool) :=
 let x0 := a.1
 let x1 := a.2
 let x4 := ([] : List UInt8)
 let x5 := ([] : List UInt8)
 Option.bind (internal_stringslite_Cut (x0, x1)) fun x9 =>
 some (x9.1, x9.2.1, x9.2.2)
noncomputable def fact_weights_loop1 (s : (List (List UInt8)) × (List (List UInt8)) × Int × Int × (List ((List UInt8) × (Int))) × (Unit) × Unit) : Option (((List (List UInt8)) × (List (List UInt8)) × Int × Int × (List ((List UInt8) × (Int))) × (Unit) × Unit) ⊕ (((List (List UInt8)) × Unit) ⊕ (Bool))) :=
 let x3 := s.1
 let x15 := s.2.1
 let x16 := s.2.2.1
 let x17 := s.2.2.2.1
 let l14 := s.2.2.2.2.1
 let x18 := (decide (x17 < x16))
 if x18 then (
  Option.bind ((lAt x15 x17).map (fun y => y)) fun x19 =>
  Option.bind (strings_Cut (x19, ([58] : List UInt8))) fun x23 =>
  Option.bind (fact_tens (x23.2.1, (1000000 : Int))) fun x29 =>
  let x34 := (alGet (eqZ .str) (zeroT (.int .i64)) x23.1 l14).1
  let x35 := IntKind.i64.wrap (x34 + (1 : Int))
  let l14 := alPut (eqZ .str) x23.1 x35 l14
  let x37 := (!x23.2.2)
  let x39 := (if x37 = false then some x23.1 else none)
  Option.bind (if x37 = false then ((x39.map (fun z289 => z289)).bind (fun z290 => fact_isName z290)).map some else some none) fun x40 =>
  Option.bind (if x37 = false then (x40.map (fun z291 => (!z291))).map some else some none) fun x41 =>
  Option.bind (if x37 then some true else x41.map (fun z292 => z292)) fun x42 =>
  let x44 := (if x42 = false then some x29.2 else none)
  Option.bind (if x42 = false then (x44.map (fun z293 => (!z293))).map some else some none) fun x45 =>
  Option.bind (if x42 then some true else x45.map (fun z294 => z294)) fun x46 =>
  let x48 := (if x46 = false then some x29.1 else none)
  Option.bind (if x46 = false then ((x48.bind (fun z295 => some (z295, (0 : Int)))).map (fun z297 => (z297.1 == z297.2))).map some else some none) fun x49 =>
  Option.bind (if x46 then some true else x49.map (fun z298 => z298)) fun x50 =>
  let x52 := (if x50 = false then some () else none)
  let x53 := (if x50 = false then some x23.1 else none)
  Option.bind (if x50 = false then (((x52.map (fun z299 => l14)).bind (fun z300 => x53.map (fun z301 => (z300, z301)))).map (fun z302 => (alGet (eqZ .str) (zeroT (.int .i64)) z302.2 z302.1).1)).map some else some none) fun x54 =>
  Option.bind (if x50 = false then ((x54.bind (fun z303 => some (z303, (1 : Int)))).map (fun z305 => (decide (z305.1 > z305.2)))).map some else some none) fun x55 =>
  Option.bind (if x50 then some true else x55.map (fun z306 => z306)) fun x56 =>
  if x56 then (
   some (Sum.inr (Sum.inr false)))
  else (
   let x57 := IntKind.i64.wrap (x17 + (1 : Int))
   some (Sum.inl (x3, x15, x16, x57, l14, (), ()))))
 else (
  some (Sum.inr (Sum.inl (x3, ()))))
noncomputable def fact_weights (a : (List UInt8)) : Option (Bool) :=
 let x0 := a
 Option.bind (strings_Split (x0, ([32] : List UInt8))) fun x13 =>
 let x16 := (x13.length : Int)
 Option.bind (iter fact_weights_loop1 (x13, x13, x16, (0 : Int), ([] : List ((List UInt8) × (Int))), (), ())) fun o =>
 match o with
 | Sum.inl p307 => (
  let x3 := p307.1
  let x59 := (x3.length : Int)
  let x60 := (decide (x59 ≤ (64 : Int)))
  some x60)
 | Sum.inr q308 => (
  some q308)
noncomputable def fact_rules_5 (a : (Int × Int × Int × Int × Int × (List UInt8) × Int × (List UInt8))) : Option (Bool) :=
 let x0 := a
 Option.bind (fact_weights x0.2.2.2.2.2.2.2) fun x5 =>
 some x5
noncomputable def fact_night (a : (Int × Int × Int × Int × Int × (List UInt8) × Int × (List UInt8))) : Option (Bool) :=
 let x0 := a
 let x10 := (max x0.2.2.2.2.2.2.1 (0 : Int))
 let x11 := IntKind.u64.wrap x10
 Option.bind (fact_tens (x0.2.2.2.2.2.2.2, x11)) fun x12 =>
 let x17 := ((x0.2.2.2.2.2.2.2 == ([] : List UInt8)))
 let x19 := (if x17 = false then some x12.2 else none)
 Option.bind (if x17 then some true else x19.map (fun z3 => z3)) fun x20 =>
 some x20
noncomputable def fact_absence (a : (List UInt8)) : Option (Bool) :=
 let x0 := a
 let l3 := ([([115, 105, 99, 107] : List UInt8), ([108, 101, 97, 118, 101] : List UInt8), ([117, 110, 112, 97, 105, 100] : List UInt8), ([112, 97, 114, 101, 110, 116, 97, 108] : List UInt8)] : List (List UInt8))
 Option.bind (slices_Contains (l3, x0)) fun x5 =>
 some x5
noncomputable def internal_stringslite_HasPrefix (a : (List UInt8) × (List UInt8)) : Option (Bool) :=
 let x0 := a.1
 let x1 := a.2
 let x6 := (x0.length : Int)
 let x8 := (x1.length : Int)
 let x9 := (decide (x6 ≥ x8))
 let x11 := (if x9 = true then some x0 else none)
 let x12 := (if x9 = true then some x1 else none)
 Option.bind (if x9 = true then (x12.map (fun z17 => (z17.length : Int))).map some else some none) fun x13 =>
 Option.bind (if x9 = true then (((x11.bind (fun z18 => x13.map (fun z19 => (z18, z19)))).map (fun z20 => (z20.1, (0 : Int), z20.2))).bind (fun z21 => lSub z21.1 z21.2.1 z21.2.2)).map some else some none) fun x14 =>
 let x15 := (if x9 = true then some x1 else none)
 Option.bind (if x9 = true then ((x14.bind (fun z22 => x15.map (fun z23 => (z22, z23)))).map (fun z24 => ((z24.1 == z24.2)))).map some else some none) fun x16 =>
 Option.bind (if x9 then x16 else some false) fun x17 =>
 some x17
noncomputable def internal_stringslite_CutPrefix (a : (List UInt8) × (List UInt8)) : Option ((List UInt8) × Bool) :=
 let x0 := a.1
 let x1 := a.2
 let x4 := ([] : List UInt8)
 Option.bind (internal_stringslite_HasPrefix (x0, x1)) fun x8 =>
 let x9 := (!x8)
 if x9 then (
  some (x0, false))
 else (
  let x13 := (x1.length : Int)
  Option.bind (lSub x0 x13 (x0.length : Int)) fun x14 =>
  some (x14, true))
noncomputable def strings_CutPrefix (a : (List UInt8) × (List UInt8)) : Option ((List UInt8) × Bool) :=
 let x0 := a.1
 let x1 := a.2
 let x4 := ([] : List UInt8)
 Option.bind (internal_stringslite_CutPrefix (x0, x1)) fun x8 =>
 some (x8.1, x8.2)
noncomputable def internal_stringslite_HasSuffix (a : (List UInt8) × (List UInt8)) : Option (Bool) :=
 let x0 := a.1
 let x1 := a.2
 let x6 := (x0.length : Int)
 let x8 := (x1.length : Int)
 let x9 := (decide (x6 ≥ x8))
 let x11 := (if x9 = true then some x0 else none)
 let x12 := (if x9 = true then some x0 else none)
 Option.bind (if x9 = true then (x12.map (fun z25 => (z25.length : Int))).map some else some none) fun x13 =>
 let x14 := (if x9 = true then some x1 else none)
 Option.bind (if x9 = true then (x14.map (fun z26 => (z26.length : Int))).map some else some none) fun x15 =>
 Option.bind (if x9 = true then ((x13.bind (fun z27 => x15.map (fun z28 => (z27, z28)))).map (fun z29 => IntKind.i64.wrap (z29.1 - z29.2))).map some else some none) fun x16 =>
 Option.bind (if x9 = true then (((x11.bind (fun z30 => x16.map (fun z31 => (z30, z31)))).map (fun z32 => (z32.1, z32.2, (z32.1.length : Int)))).bind (fun z33 => lSub z33.1 z33.2.1 z33.2.2)).map some else some none) fun x17 =>
 let x18 := (if x9 = true then some x1 else none)
 Option.bind (if x9 = true then ((x17.bind (fun z34 => x18.map (fun z35 => (z34, z35)))).map (fun z36 => ((z36.1 == z36.2)))).map some else some none) fun x19 =>
 Option.bind (if x9 then x19 else some false) fun x20 =>
 some x20
noncomputable def internal_stringslite_CutSuffix (a : (List UInt8) × (List UInt8)) : Option ((List UInt8) × Bool) :=
 let x0 := a.1
 let x1 := a.2
 let x4 := ([] : List UInt8)
 Option.bind (internal_stringslite_HasSuffix (x0, x1)) fun x8 =>
 let x9 := (!x8)
 if x9 then (
  some (x0, false))
 else (
  let x13 := (x0.length : Int)
  let x15 := (x1.length : Int)
  let x16 := IntKind.i64.wrap (x13 - x15)
  Option.bind (lSub x0 (0 : Int) x16) fun x17 =>
  some (x17, true))
noncomputable def strings_CutSuffix (a : (List UInt8) × (List UInt8)) : Option ((List UInt8) × Bool) :=
 let x0 := a.1
 let x1 := a.2
 let x4 := ([] : List UInt8)
 Option.bind (internal_stringslite_CutSuffix (x0, x1)) fun x8 =>
 some (x8.1, x8.2)
noncomputable def rate_digits_loop1 (s : (List UInt8) × Int × Int × Unit) : Option (((List UInt8) × Int × Int × Unit) ⊕ (((List UInt8) × Unit) ⊕ (Bool))) :=
 let x0 := s.1
 let x5 := s.2.1
 let x6 := s.2.2.1
 let x7 := (decide (x6 < x5))
 if x7 then (
  Option.bind (sAt x0 x6) fun x11 =>
  let x12 := (decide (x11 < (48 : Int)))
  let x14 := (if x12 = false then some x0 else none)
  let x15 := (if x12 = false then some x6 else none)
  Option.bind (if x12 = false then ((x14.bind (fun z113 => x15.map (fun z114 => (z113, z114)))).bind (fun z115 => sAt z115.1 z115.2)).map some else some none) fun x16 =>
  Option.bind (if x12 = false then ((x16.bind (fun z116 => some (z116, (57 : Int)))).map (fun z118 => (decide (z118.1 > z118.2)))).map some else some none) fun x17 =>
  Option.bind (if x12 then some true else x17.map (fun z119 => z119)) fun x18 =>
  if x18 then (
   some (Sum.inr (Sum.inr false)))
  else (
   let x19 := IntKind.i64.wrap (x6 + (1 : Int))
   some (Sum.inl (x0, x5, x19, ()))))
 else (
  some (Sum.inr (Sum.inl (x0, ()))))
noncomputable def rate_digits (a : (List UInt8)) : Option (Bool) :=
 let x0 := a
 let x5 := (x0.length : Int)
 Option.bind (iter rate_digits_loop1 (x0, x5, (0 : Int), ())) fun o =>
 match o with
 | Sum.inl p120 => (
  let x0 := p120.1
  let x21 := (!(x0 == ([] : List UInt8)))
  some x21)
 | Sum.inr q121 => (
  some q121)
noncomputable def rate_value_loop1 (s : (List UInt8) × Int × Int × Int × Int × Unit) : Option (((List UInt8) × Int × Int × Int × Int × Unit) ⊕ ((Int × Unit))) :=
 let x0 := s.1
 let x1 := s.2.1
 let x5 := s.2.2.1
 let x8 := s.2.2.2.1
 let x9 := s.2.2.2.2.1
 let x10 := (decide (x9 < x8))
 if x10 then (
  let x13 := IntKind.i64.wrap (x5 * (10 : Int))
  Option.bind (sAt x0 x9) fun x16 =>
  let x17 := IntKind.u8.wrap (x16 - (48 : Int))
  let x18 := IntKind.i64.wrap x17
  let x19 := IntKind.i64.wrap (x13 + x18)
  let x21 := IntKind.i64.wrap (x1 + (1 : Int))
  let x22 := (min x19 x21)
  let x23 := IntKind.i64.wrap (x9 + (1 : Int))
  some (Sum.inl (x0, x1, x22, x8, x23, ())))
 else (
  some (Sum.inr (x5, ())))
noncomputable def rate_value (a : (List UInt8) × Int) : Option (Int) :=
 let x0 := a.1
 let x1 := a.2
 let x8 := (x0.length : Int)
 Option.bind (iter rate_value_loop1 (x0, x1, (0 : Int), x8, (0 : Int), ())) fun o =>
 let x5 := o.1
 some x5
noncomputable def rate_Parse (a : (List UInt8)) : Option (Int × Int) :=
 let x0 := a
 let x12 := ((x0 == ([] : List UInt8)))
 if x12 then (
  some ((0 : Int), (10 : Int)))
 else (
  Option.bind (strings_CutPrefix (x0, ([45] : List UInt8))) fun x15 =>
  Option.bind (strings_CutSuffix (x15.1, ([37] : List UInt8))) fun x20 =>
  Option.bind (strings_Cut (x20.1, ([46] : List UInt8))) fun x25 =>
  let x31 := (!x20.2)
  let x33 := (if x31 = false then some x25.1 else none)
  Option.bind (if x31 = false then ((x33.map (fun z115 => z115)).bind (fun z116 => rate_digits z116)).map some else some none) fun x34 =>
  Option.bind (if x31 = false then (x34.map (fun z117 => (!z117))).map some else some none) fun x35 =>
  Option.bind (if x31 then some true else x35.map (fun z118 => z118)) fun x36 =>
  let x38 := (if x36 = false then some x25.1 else none)
  Option.bind (if x36 = false then (x38.map (fun z119 => (z119.length : Int))).map some else some none) fun x39 =>
  Option.bind (if x36 = false then ((x39.bind (fun z120 => some (z120, (1 : Int)))).map (fun z122 => (decide (z122.1 > z122.2)))).map some else some none) fun x40 =>
  Option.bind (if x36 = false then x40.map some else some none) fun x41 =>
  let x42 := (if x41 = some true then some x25.1 else none)
  Option.bind (if x41 = some true then ((x42.bind (fun z123 => some (z123, (0 : Int)))).bind (fun z125 => sAt z125.1 z125.2)).map some else some none) fun x43 =>
  Option.bind (if x41 = some true then ((x43.bind (fun z126 => some (z126, (48 : Int)))).map (fun z128 => (z128.1 == z128.2))).map some else some none) fun x44 =>
  Option.bind (if x36 = false then (x41.bind (fun z129 => if z129 then x44 else some false)).map some else some none) fun x45 =>
  Option.bind (if x36 then some true else x45.map (fun z130 => z130)) fun x46 =>
  if x46 then (
   some ((0 : Int), (3 : Int)))
  else (
   let x50 := (if x25.2.2 = true then some x25.2.1 else none)
   Option.bind (if x25.2.2 = true then ((x50.map (fun z173 => z173)).bind (fun z174 => rate_digits z174)).map some else some none) fun x51 =>
   Option.bind (if x25.2.2 = true then (x51.map (fun z175 => (!z175))).map some else some none) fun x52 =>
   Option.bind (if x25.2.2 = true then x52.map some else some none) fun x53 =>
   let x54 := (if x53 = some false then some x25.2.1 else none)
   Option.bind (if x53 = some false then (x54.map (fun z176 => (z176.length : Int))).map some else some none) fun x55 =>
   Option.bind (if x53 = some false then ((x55.bind (fun z177 => some (z177, (4 : Int)))).map (fun z179 => (decide (z179.1 > z179.2)))).map some else some none) fun x56 =>
   Option.bind (if x25.2.2 = true then (x53.bind (fun z181 => if z181 then some true else x56.map (fun z180 => z180))).map some else some none) fun x57 =>
   Option.bind (if x25.2.2 = true then x57.map some else some none) fun x58 =>
   let x59 := (if x58 = some false then some x25.2.1 else none)
   let x60 := (if x58 = some false then some x25.2.1 else none)
   Option.bind (if x58 = some false then (x60.map (fun z182 => (z182.length : Int))).map some else some none) fun x61 =>
   Option.bind (if x58 = some false then ((x61.bind (fun z183 => some (z183, (1 : Int)))).map (fun z185 => IntKind.i64.wrap (z185.1 - z185.2))).map some else some none) fun x62 =>
   Option.bind (if x58 = some false then ((x59.bind (fun z186 => x62.map (fun z187 => (z186, z187)))).bind (fun z188 => sAt z188.1 z188.2)).map some else some none) fun x63 =>
   Option.bind (if x58 = some false then ((x63.bind (fun z189 => some (z189, (48 : Int)))).map (fun z191 => (z191.1 == z191.2))).map some else some none) fun x64 =>
   Option.bind (if x25.2.2 = true then (x58.bind (fun z193 => if z193 then some true else x64.map (fun z192 => z192))).map some else some none) fun x65 =>
   Option.bind (if x25.2.2 then x65 else some false) fun x66 =>
   if x66 then (
       some ((0 : Int), (3 : Int)))
   else (
       let x70 := (if x15.2 = true then some x25.1 else none)
       Option.bind (if x15.2 = true then ((x70.bind (fun z202 => some (z202, ([48] : List UInt8)))).map (fun z204 => ((z204.1 == z204.2)))).map some else some none) fun x71 =>
       Option.bind (if x15.2 then x71 else some false) fun x72 =>
       let x74 := (if x72 = true then some x25.2.2 else none)
       Option.bind (if x72 = true then (x74.map (fun z205 => (!z205))).map some else some none) fun x75 =>
       Option.bind (if x72 then x75 else some false) fun x76 =>
       if x76 then (
        some ((0 : Int), (3 : Int)))
       else (
        Option.bind (rate_value (x25.1, (100000 : Int))) fun x78 =>
        let x79 := IntKind.i64.wrap (x78 * (10000 : Int))
        Option.bind (if x25.2.1.length + ([48, 48, 48, 48] : List UInt8).length ≤ 4611686018427387904 then some (x25.2.1 ++ ([48, 48, 48, 48] : List UInt8)) else none) fun x81 =>
        Option.bind (lSub x81 (0 : Int) (4 : Int)) fun x82 =>
        Option.bind (rate_value (x82, (10000 : Int))) fun x83 =>
        let x84 := IntKind.i64.wrap (x79 + x83)
        let x86 := (decide (x84 > (1000000000 : Int)))
        if x86 then (
         some ((0 : Int), (2 : Int)))
        else (
         Option.bind (show Option ((Int × Unit)) from (
             if x15.2 then (
              let x89 := IntKind.i64.wrap (0 - x84)
              some (x89, ()))
             else (
              some (x84, ())))) fun o =>
         let x10 := o.1
         some (x10, (0 : Int)))))))
noncomputable def cents_Fits (a : Int) : Option (Bool) :=
 let x0 := a
 let x4 := (decide (x0 ≥ (-1125899906842624 : Int)))
 let x6 := (if x4 = true then some x0 else none)
 Option.bind (if x4 = true then ((x6.bind (fun z7 => some (z7, (1125899906842624 : Int)))).map (fun z9 => (decide (z9.1 ≤ z9.2)))).map some else some none) fun x7 =>
 Option.bind (if x4 then x7 else some false) fun x8 =>
 some x8
noncomputable def cents_whole_loop1 (s : Int × (List UInt8) × Unit) : Option ((Int × (List UInt8) × Unit) ⊕ ((Int × (List UInt8) × Unit))) :=
 let x0 := s.1
 let x3 := s.2.1
 let x5 := (decide (x0 > (9 : Int)))
 if x5 then (
  Option.bind (if (10 : Int) = 0 then none else some (x0.tmod (10 : Int))) fun x7 =>
  let x8 := IntKind.i64.wrap ((48 : Int) + x7)
  let x9 := IntKind.i32.wrap x8
  let x10 := (Utf8.encode x9).data.toList
  Option.bind (if x10.length + x3.length ≤ 4611686018427387904 then some (x10 ++ x3) else none) fun x12 =>
  Option.bind (if (10 : Int) = 0 then none else some (IntKind.i64.wrap (x0.tdiv (10 : Int)))) fun x14 =>
  some (Sum.inl (x14, x12, ())))
 else (
  some (Sum.inr (x0, x3, ())))
noncomputable def cents_whole (a : Int) : Option (List UInt8) :=
 let x0 := a
 let x2 := ([] : List UInt8)
 let x3 := ([] : List UInt8)
 Option.bind (iter cents_whole_loop1 (x0, x3, ())) fun o =>
 let x0 := o.1
 let x3 := o.2.1
 let x16 := IntKind.i64.wrap ((48 : Int) + x0)
 let x17 := IntKind.i32.wrap x16
 let x18 := (Utf8.encode x17).data.toList
 Option.bind (if x18.length + x3.length ≤ 4611686018427387904 then some (x18 ++ x3) else none) fun x20 =>
 some x20
noncomputable def cents_Text (a : Int) : Option (List UInt8) :=
 let x0 := a
 let x2 := ([] : List UInt8)
 Option.bind (cents_Fits x0) fun x6 =>
 let x7 := (!x6)
 if x7 then (
  let x2 := ([] : List UInt8)
  some x2)
 else (
  let x3 := ([] : List UInt8)
  Option.bind (show Option ((Int × (List UInt8) × Unit)) from (
   let x9 := (decide (x0 < (0 : Int)))
   if x9 then (
       let x11 := IntKind.i64.wrap (0 - x0)
       let x3 := ([45] : List UInt8)
       some (x11, x3, ()))
   else (
       some (x0, x3, ())))) fun o =>
  let x0 := o.1
  let x3 := o.2.1
  Option.bind (if (100 : Int) = 0 then none else some (x0.tmod (100 : Int))) fun x13 =>
  Option.bind (if (100 : Int) = 0 then none else some (IntKind.i64.wrap (x0.tdiv (100 : Int)))) fun x16 =>
  Option.bind (cents_whole x16) fun x17 =>
  Option.bind (if x3.length + x17.length ≤ 4611686018427387904 then some (x3 ++ x17) else none) fun x18 =>
  Option.bind (if x18.length + ([46] : List UInt8).length ≤ 4611686018427387904 then some (x18 ++ ([46] : List UInt8)) else none) fun x19 =>
  Option.bind (if (10 : Int) = 0 then none else some (IntKind.i64.wrap (x13.tdiv (10 : Int)))) fun x21 =>
  Option.bind (cents_whole x21) fun x22 =>
  Option.bind (if x19.length + x22.length ≤ 4611686018427387904 then some (x19 ++ x22) else none) fun x23 =>
  Option.bind (if (10 : Int) = 0 then none else some (x13.tmod (10 : Int))) fun x25 =>
  Option.bind (cents_whole x25) fun x26 =>
  Option.bind (if x23.length + x26.length ≤ 4611686018427387904 then some (x23 ++ x26) else none) fun x27 =>
  some x27)
noncomputable def cents_Parse_loop1 (s : (List UInt8) × Int × (Bool) × Int × Int × Unit) : Option (((List UInt8) × Int × (Bool) × Int × Int × Unit) ⊕ (((List UInt8) × Int × (Bool) × Unit) ⊕ (Int × Int))) :=
 let x0 := s.1
 let x4 := s.2.1
 let x5 := s.2.2.1
 let x9 := s.2.2.2.1
 let x10 := s.2.2.2.2.1
 let x11 := (decide (x10 < x9))
 if x11 then (
  Option.bind (show Option (((List UInt8) × Int × (Bool) × Int × Int × Unit) ⊕ (Int × Int)) from (
   Option.bind (sAt x0 x10) fun x15 =>
   let x24 := (x10 == (0 : Int))
   let x26 := (if x24 = true then some x15 else none)
   Option.bind (if x24 = true then ((x26.bind (fun z161 => some (z161, (45 : Int)))).map (fun z163 => (z163.1 == z163.2))).map some else some none) fun x27 =>
   Option.bind (if x24 then x27 else some false) fun x28 =>
   if x28 then (
    some (Sum.inl (x0, x4, true, x9, x10, ())))
   else (
    let x31 := (x15 == (46 : Int))
    if x31 then (
     some (Sum.inl (x0, x4, x5, x9, x10, ())))
    else (
     let x34 := (decide (x15 < (48 : Int)))
     let x36 := (if x34 = false then some x15 else none)
     Option.bind (if x34 = false then ((x36.bind (fun z180 => some (z180, (57 : Int)))).map (fun z182 => (decide (z182.1 > z182.2)))).map some else some none) fun x37 =>
     Option.bind (if x34 then some true else x37.map (fun z183 => z183)) fun x38 =>
     let x40 := (if x38 = false then some x4 else none)
     Option.bind (if x38 = false then ((x40.bind (fun z184 => some (z184, (1125899906842624 : Int)))).map (fun z186 => (decide (z186.1 > z186.2)))).map some else some none) fun x41 =>
     Option.bind (if x38 then some true else x41.map (fun z187 => z187)) fun x42 =>
     if x42 then (
         some (Sum.inr ((0 : Int), (3 : Int))))
     else (
         let x17 := IntKind.i64.wrap ((10 : Int) * x4)
         let x19 := IntKind.u8.wrap (x15 - (48 : Int))
         let x20 := IntKind.i64.wrap x19
         let x21 := IntKind.i64.wrap (x17 + x20)
         some (Sum.inl (x0, x21, x5, x9, x10, ()))))))) fun o =>
  match o with
  | Sum.inl p188 => (
   let x0 := p188.1
   let x4 := p188.2.1
   let x5 := p188.2.2.1
   let x9 := p188.2.2.2.1
   let x10 := p188.2.2.2.2.1
   let x43 := IntKind.i64.wrap (x10 + (1 : Int))
   some (Sum.inl (x0, x4, x5, x9, x43, ())))
  | Sum.inr q189 => (
   some (Sum.inr (Sum.inr q189))))
 else (
  some (Sum.inr (Sum.inl (x0, x4, x5, ()))))
noncomputable def cents_Parse (a : (List UInt8)) : Option (Int × Int) :=
 let x0 := a
 let x9 := (x0.length : Int)
 Option.bind (iter cents_Parse_loop1 (x0, (0 : Int), false, x9, (0 : Int), ())) fun o =>
 match o with
 | Sum.inl p190 => (
  let x0 := p190.1
  let x4 := p190.2.1
  let x5 := p190.2.2.1
  Option.bind (show Option (((List UInt8) × Int × Unit)) from (
   if x5 then (
    let x46 := IntKind.i64.wrap (0 - x4)
    some (x0, x46, ()))
   else (
    some (x0, x4, ())))) fun o =>
  let x0 := o.1
  let x4 := o.2.1
  let x48 := ((x0 == ([] : List UInt8)))
  let x50 := (if x48 = false then some x4 else none)
  Option.bind (if x48 = false then ((x50.map (fun z216 => z216)).bind (fun z217 => cents_Text z217)).map some else some none) fun x51 =>
  let x52 := (if x48 = false then some x0 else none)
  Option.bind (if x48 = false then ((x51.bind (fun z218 => x52.map (fun z219 => (z218, z219)))).map (fun z220 => (!(z220.1 == z220.2)))).map some else some none) fun x53 =>
  Option.bind (if x48 then some true else x53.map (fun z221 => z221)) fun x54 =>
  if x54 then (
   some ((0 : Int), (3 : Int)))
  else (
   some (x4, (0 : Int))))
 | Sum.inr q191 => (
  some q191)
noncomputable def fact_amount (a : (List UInt8)) : Option (Bool) :=
 let x0 := a
 Option.bind (cents_Parse x0) fun x7 =>
 let x11 := (x7.2 == (0 : Int))
 let x13 := (if x11 = true then some x7.1 else none)
 Option.bind (if x11 = true then ((x13.bind (fun z7 => some (z7, (0 : Int)))).map (fun z9 => (decide (z9.1 ≥ z9.2)))).map some else some none) fun x14 =>
 Option.bind (if x11 then x14 else some false) fun x15 =>
 some x15
noncomputable def fact_order (a : (List UInt8)) : Option (Bool) :=
 let x0 := a
 Option.bind (strings_Split (x0, ([32] : List UInt8))) fun x9 =>
 let x11 := (x9.length : Int)
 let x12 := (x11 != (4 : Int))
 if x12 then (
  some false)
 else (
  Option.bind ((lAt x9 (0 : Int)).map (fun y => y)) fun x15 =>
  Option.bind (fact_tens (x15, (99 : Int))) fun x17 =>
  Option.bind ((lAt x9 (1 : Int)).map (fun y => y)) fun x22 =>
  Option.bind (rate_Parse x22) fun x24 =>
  let x29 := (if x17.2 = true then some x24.2 else none)
  Option.bind (if x17.2 = true then ((x29.bind (fun z43 => some (z43, (0 : Int)))).map (fun z45 => (z45.1 == z45.2))).map some else some none) fun x30 =>
  Option.bind (if x17.2 then x30 else some false) fun x31 =>
  let x33 := (if x31 = true then some x24.1 else none)
  Option.bind (if x31 = true then ((x33.bind (fun z46 => some (z46, (0 : Int)))).map (fun z48 => (decide (z48.1 ≥ z48.2)))).map some else some none) fun x34 =>
  Option.bind (if x31 then x34 else some false) fun x35 =>
  let x37 := (if x35 = true then some x24.1 else none)
  Option.bind (if x35 = true then ((x37.bind (fun z49 => some (z49, (1000000 : Int)))).map (fun z51 => (decide (z51.1 ≤ z51.2)))).map some else some none) fun x38 =>
  Option.bind (if x35 then x38 else some false) fun x39 =>
  let x41 := (if x39 = true then some x9 else none)
  Option.bind (if x39 = true then ((x41.bind (fun z52 => some (z52, (2 : Int)))).bind (fun z54 => (lAt z54.1 z54.2).map (fun y => y))).map some else some none) fun x42 =>
  Option.bind (if x39 = true then (x42.map (fun z55 => z55)).map some else some none) fun x43 =>
  Option.bind (if x39 = true then ((x43.map (fun z56 => z56)).bind (fun z57 => fact_amount z57)).map some else some none) fun x44 =>
  Option.bind (if x39 then x44 else some false) fun x45 =>
  let x47 := (if x45 = true then some x9 else none)
  Option.bind (if x45 = true then ((x47.bind (fun z58 => some (z58, (3 : Int)))).bind (fun z60 => (lAt z60.1 z60.2).map (fun y => y))).map some else some none) fun x48 =>
  Option.bind (if x45 = true then (x48.map (fun z61 => z61)).map some else some none) fun x49 =>
  Option.bind (if x45 = true then ((x49.map (fun z62 => z62)).bind (fun z63 => fact_amount z63)).map some else some none) fun x50 =>
  Option.bind (if x45 then x50 else some false) fun x51 =>
  some x51)
noncomputable def fact_rules_6 (a : (Int × Int × Int × Int × Int × (List UInt8) × Int × (List UInt8))) : Option (Bool) :=
 let x0 := a
 Option.bind (fact_order x0.2.2.2.2.2.2.2) fun x5 =>
 some x5
noncomputable def fact_rules (a : Unit) : Option ((List UInt8) × Bool × Bool × (U5) × Int × Int × (U9) × (List UInt8) × Bool × Bool × (U5) × Int × Int × (U9) × (List UInt8) × Bool × Bool × (U5) × Int × Int × (U9) × (List UInt8) × Bool × Bool × (U5) × Int × Int × (U9) × (List UInt8) × Bool × Bool × (U5) × Int × Int × (U9) × (List UInt8) × Bool × Bool × (U5) × Int × Int × (U9) × (List UInt8) × Bool × Bool × (U5) × Int × Int × (U9) × (List UInt8) × Bool × Bool × (U5) × Int × Int × (U9) × (List UInt8) × Bool × Bool × (U5) × Int × Int × (U9) × (List UInt8) × Bool × Bool × (U5) × Int × Int × (U9) × (List UInt8) × Bool × Bool × (U5) × Int × Int × (U9) × (List UInt8) × Bool × Bool × (U5) × Int × Int × (U9) × (List UInt8) × Bool × Bool × (U5) × Int × Int × (U9) × (List UInt8) × Bool × Bool × (U5) × Int × Int × (U9) × (List UInt8) × Bool × Bool × (U5) × Int × Int × (U9) × (List UInt8) × Bool × Bool × (U5) × Int × Int × (U9) × (List UInt8) × Bool × Bool × (U5) × Int × Int × (U9) × (List UInt8) × Bool × Bool × (U5) × Int × Int × (U9) × (List UInt8) × Bool × Bool × (U5) × Int × Int × (U9)) :=
 let x1 := ()
 let x2 := ()
 let x3 := ()
 let x4 := ()
 some (([] : List UInt8), false, false, (Sum.inr (Sum.inr (Sum.inr (Sum.inr ()))) : U5), (0 : Int), (0 : Int), (Sum.inr (Sum.inr (Sum.inr (Sum.inr (Sum.inr (Sum.inr (Sum.inr (Sum.inr ()))))))) : U9), ([101, 109, 112, 108, 111, 121] : List UInt8), false, true, (Sum.inl () : U5), (0 : Int), (1 : Int), (Sum.inl () : U9), ([115, 97, 108, 97, 114, 121] : List UInt8), false, true, (Sum.inl () : U5), (0 : Int), (1125899906842624 : Int), (Sum.inl () : U9), ([112, 97, 114, 116] : List UInt8), false, true, (Sum.inl () : U5), (0 : Int), (1000000 : Int), (Sum.inl () : U9), ([104, 111, 117, 114, 115] : List UInt8), false, true, (Sum.inl () : U5), (0 : Int), (0 : Int), (Sum.inr (Sum.inl ()) : U9), ([99, 111, 115, 116] : List UInt8), false, true, (Sum.inl () : U5), (0 : Int), (0 : Int), (Sum.inr (Sum.inr (Sum.inl ())) : U9), ([115, 104, 101, 101, 116] : List UInt8), false, false, (Sum.inr (Sum.inl x1) : U5), (0 : Int), (1440 : Int), (Sum.inr (Sum.inr (Sum.inr (Sum.inl ()))) : U9), ([97, 98, 115, 101, 110, 116] : List UInt8), false, true, (Sum.inr (Sum.inr (Sum.inl ())) : U5), (0 : Int), (1000000 : Int), (Sum.inl () : U9), ([98, 111, 110, 117, 115] : List UInt8), false, false, (Sum.inr (Sum.inr (Sum.inr (Sum.inl ()))) : U5), (-1125899906842624 : Int), (1125899906842624 : Int), (Sum.inl () : U9), ([101, 110, 114, 111, 108] : List UInt8), false, true, (Sum.inr (Sum.inr (Sum.inr (Sum.inl ()))) : U5), (0 : Int), (1125899906842624 : Int), (Sum.inl () : U9), ([100, 101, 100, 117, 99, 116] : List UInt8), false, true, (Sum.inr (Sum.inr (Sum.inr (Sum.inl ()))) : U5), (0 : Int), (1125899906842624 : Int), (Sum.inl () : U9), ([99, 97, 114, 100] : List UInt8), false, true, (Sum.inl () : U5), (0 : Int), (1125899906842624 : Int), (Sum.inr (Sum.inr (Sum.inr (Sum.inr (Sum.inl x2)))) : U9), ([97, 116, 116, 97, 99, 104] : List UInt8), false, true, (Sum.inr (Sum.inr (Sum.inr (Sum.inl ()))) : U5), (0 : Int), (1125899906842624 : Int), (Sum.inr (Sum.inr (Sum.inr (Sum.inr (Sum.inr (Sum.inl ()))))) : U9), ([98, 97, 110, 107] : List UInt8), false, true, (Sum.inl () : U5), (0 : Int), (0 : Int), (Sum.inr (Sum.inr (Sum.inr (Sum.inr (Sum.inl x2)))) : U9), ([114, 117, 108, 101] : List UInt8), true, true, (Sum.inr (Sum.inr (Sum.inr (Sum.inl ()))) : U5), (-1125899906842624 : Int), (1125899906842624 : Int), (Sum.inr (Sum.inr (Sum.inr (Sum.inr (Sum.inr (Sum.inr (Sum.inl x3)))))) : U9), ([101, 108, 101, 109, 101, 110, 116] : List UInt8), true, true, (Sum.inr (Sum.inr (Sum.inr (Sum.inl ()))) : U5), (0 : Int), (0 : Int), (Sum.inr (Sum.inr (Sum.inr (Sum.inr (Sum.inr (Sum.inr (Sum.inr (Sum.inl x4))))))) : U9), ([104, 111, 108, 105, 100, 97, 121] : List UInt8), true, false, (Sum.inl () : U5), (0 : Int), (0 : Int), (Sum.inl () : U9), ([103, 114, 97, 110, 116] : List UInt8), false, false, (Sum.inl () : U5), (0 : Int), (100000 : Int), (Sum.inl () : U9), ([99, 97, 110, 99, 101, 108] : List UInt8), true, false, (Sum.inl () : U5), (1 : Int), (4096 : Int), (Sum.inl () : U9))
noncomputable def fact_Name (a : Int) : Option (List UInt8) :=
 let x0 := a
 let x2 := ([] : List UInt8)
 Option.bind (fact_known x0) fun x4 =>
 let x5 := (!x4)
 if x5 then (
  let x2 := ([] : List UInt8)
  some x2)
 else (
  Option.bind (fact_rules ()) fun x6 =>
  let x6q6 := x6.2.2.2.2.2.2
  let x6q12 := x6q6.2.2.2.2.2.2
  let x6q18 := x6q12.2.2.2.2.2.2
  let x6q24 := x6q18.2.2.2.2.2.2
  let x6q30 := x6q24.2.2.2.2.2.2
  let x6q36 := x6q30.2.2.2.2.2.2
  let x6q42 := x6q36.2.2.2.2.2.2
  let x6q48 := x6q42.2.2.2.2.2.2
  let x6q54 := x6q48.2.2.2.2.2.2
  let x6q60 := x6q54.2.2.2.2.2.2
  let x6q66 := x6q60.2.2.2.2.2.2
  let x6q72 := x6q66.2.2.2.2.2.2
  let x6q78 := x6q72.2.2.2.2.2.2
  let x6q84 := x6q78.2.2.2.2.2.2
  let x6q90 := x6q84.2.2.2.2.2.2
  let x6q96 := x6q90.2.2.2.2.2.2
  let x6q102 := x6q96.2.2.2.2.2.2
  let x6q108 := x6q102.2.2.2.2.2.2
  let x6q114 := x6q108.2.2.2.2.2.2
  let x6q120 := x6q114.2.2.2.2.2.2
  let x6q126 := x6q120.2.2.2.2.2.2
  let x6q132 := x6q126.2.2.2.2.2.2
  Option.bind (lAt ([(x6.1, x6.2.1, x6.2.2.1, x6.2.2.2.1, x6.2.2.2.2.1, x6.2.2.2.2.2.1, x6q6.1), (x6q6.2.1, x6q6.2.2.1, x6q6.2.2.2.1, x6q6.2.2.2.2.1, x6q6.2.2.2.2.2.1, x6q12.1, x6q12.2.1), (x6q12.2.2.1, x6q12.2.2.2.1, x6q12.2.2.2.2.1, x6q12.2.2.2.2.2.1, x6q18.1, x6q18.2.1, x6q18.2.2.1), (x6q18.2.2.2.1, x6q18.2.2.2.2.1, x6q18.2.2.2.2.2.1, x6q24.1, x6q24.2.1, x6q24.2.2.1, x6q24.2.2.2.1), (x6q24.2.2.2.2.1, x6q24.2.2.2.2.2.1, x6q30.1, x6q30.2.1, x6q30.2.2.1, x6q30.2.2.2.1, x6q30.2.2.2.2.1), (x6q30.2.2.2.2.2.1, x6q36.1, x6q36.2.1, x6q36.2.2.1, x6q36.2.2.2.1, x6q36.2.2.2.2.1, x6q36.2.2.2.2.2.1), (x6q42.1, x6q42.2.1, x6q42.2.2.1, x6q42.2.2.2.1, x6q42.2.2.2.2.1, x6q42.2.2.2.2.2.1, x6q48.1), (x6q48.2.1, x6q48.2.2.1, x6q48.2.2.2.1, x6q48.2.2.2.2.1, x6q48.2.2.2.2.2.1, x6q54.1, x6q54.2.1), (x6q54.2.2.1, x6q54.2.2.2.1, x6q54.2.2.2.2.1, x6q54.2.2.2.2.2.1, x6q60.1, x6q60.2.1, x6q60.2.2.1), (x6q60.2.2.2.1, x6q60.2.2.2.2.1, x6q60.2.2.2.2.2.1, x6q66.1, x6q66.2.1, x6q66.2.2.1, x6q66.2.2.2.1), (x6q66.2.2.2.2.1, x6q66.2.2.2.2.2.1, x6q72.1, x6q72.2.1, x6q72.2.2.1, x6q72.2.2.2.1, x6q72.2.2.2.2.1), (x6q72.2.2.2.2.2.1, x6q78.1, x6q78.2.1, x6q78.2.2.1, x6q78.2.2.2.1, x6q78.2.2.2.2.1, x6q78.2.2.2.2.2.1), (x6q84.1, x6q84.2.1, x6q84.2.2.1, x6q84.2.2.2.1, x6q84.2.2.2.2.1, x6q84.2.2.2.2.2.1, x6q90.1), (x6q90.2.1, x6q90.2.2.1, x6q90.2.2.2.1, x6q90.2.2.2.2.1, x6q90.2.2.2.2.2.1, x6q96.1, x6q96.2.1), (x6q96.2.2.1, x6q96.2.2.2.1, x6q96.2.2.2.2.1, x6q96.2.2.2.2.2.1, x6q102.1, x6q102.2.1, x6q102.2.2.1), (x6q102.2.2.2.1, x6q102.2.2.2.2.1, x6q102.2.2.2.2.2.1, x6q108.1, x6q108.2.1, x6q108.2.2.1, x6q108.2.2.2.1), (x6q108.2.2.2.2.1, x6q108.2.2.2.2.2.1, x6q114.1, x6q114.2.1, x6q114.2.2.1, x6q114.2.2.2.1, x6q114.2.2.2.2.1), (x6q114.2.2.2.2.2.1, x6q120.1, x6q120.2.1, x6q120.2.2.1, x6q120.2.2.2.1, x6q120.2.2.2.2.1, x6q120.2.2.2.2.2.1), (x6q126.1, x6q126.2.1, x6q126.2.2.1, x6q126.2.2.2.1, x6q126.2.2.2.2.1, x6q126.2.2.2.2.2.1, x6q132)] : List ((List UInt8) × Bool × Bool × (U5) × Int × Int × (U9))) x0) fun x8 =>
  some x8.1)
noncomputable def civil_number_loop1 (s : Int × (List (Int)) × Int × Int × Unit) : Option ((Int × (List (Int)) × Int × Int × Unit) ⊕ ((Int × Unit) ⊕ (Int × Bool))) :=
 let x4 := s.1
 let x8 := s.2.1
 let x9 := s.2.2.1
 let x10 := s.2.2.2.1
 let x11 := (decide (x10 < x9))
 if x11 then (
  Option.bind ((lAt x8 x10).map (fun y => y)) fun x12 =>
  let x15 := (decide (x12 < (48 : Int)))
  let x17 := (if x15 = false then some x12 else none)
  Option.bind (if x15 = false then ((x17.bind (fun z73 => some (z73, (57 : Int)))).map (fun z75 => (decide (z75.1 > z75.2)))).map some else some none) fun x18 =>
  Option.bind (if x15 then some true else x18.map (fun z76 => z76)) fun x19 =>
  if x19 then (
   some (Sum.inr (Sum.inr ((0 : Int), false))))
  else (
   let x21 := IntKind.i64.wrap ((10 : Int) * x4)
   let x23 := IntKind.u8.wrap (x12 - (48 : Int))
   let x24 := IntKind.i64.wrap x23
   let x25 := IntKind.i64.wrap (x21 + x24)
   let x26 := IntKind.i64.wrap (x10 + (1 : Int))
   some (Sum.inl (x25, x8, x9, x26, ()))))
 else (
  some (Sum.inr (Sum.inl (x4, ()))))
noncomputable def civil_number (a : (List UInt8)) : Option (Int × Bool) :=
 let x0 := a
 Option.bind (if x0.length ≤ 70368744177664 then some (x0.map fun b => (b.toNat : Int)) else none) fun x8 =>
 let x9 := (x8.length : Int)
 Option.bind (iter civil_number_loop1 ((0 : Int), x8, x9, (0 : Int), ())) fun o =>
 match o with
 | Sum.inl p77 => (
  let x4 := p77.1
  some (x4, true))
 | Sum.inr q78 => (
  some q78)
noncomputable def civil_leap (a : Int) : Option (Bool) :=
 let x0 := a
 Option.bind (if (4 : Int) = 0 then none else some (x0.tmod (4 : Int))) fun x4 =>
 let x5 := (x4 == (0 : Int))
 let x7 := (if x5 = true then some x0 else none)
 Option.bind (if x5 = true then ((x7.bind (fun z29 => some (z29, (100 : Int)))).bind (fun z31 => if z31.2 = 0 then none else some (z31.1.tmod z31.2))).map some else some none) fun x8 =>
 Option.bind (if x5 = true then ((x8.bind (fun z32 => some (z32, (0 : Int)))).map (fun z34 => (z34.1 != z34.2))).map some else some none) fun x9 =>
 Option.bind (if x5 = true then x9.map some else some none) fun x10 =>
 let x11 := (if x10 = some false then some x0 else none)
 Option.bind (if x10 = some false then ((x11.bind (fun z35 => some (z35, (400 : Int)))).bind (fun z37 => if z37.2 = 0 then none else some (z37.1.tmod z37.2))).map some else some none) fun x12 =>
 Option.bind (if x10 = some false then ((x12.bind (fun z38 => some (z38, (0 : Int)))).map (fun z40 => (z40.1 == z40.2))).map some else some none) fun x13 =>
 Option.bind (if x5 = true then (x10.bind (fun z42 => if z42 then some true else x13.map (fun z41 => z41))).map some else some none) fun x14 =>
 Option.bind (if x5 then x14 else some false) fun x15 =>
 some x15
noncomputable def civil_MonthDays (a : Int × Int) : Option (Int) :=
 let x0 := a.1
 let x1 := a.2
 Option.bind (show Option ((Int × Int × (Bool) × Unit)) from (
  let x7 := (decide (x0 < (1900 : Int)))
  if x7 then (
   some (x0, x1, x7, ()))
  else (
   let x9 := (decide (x0 > (2199 : Int)))
   if x9 then (
    some (x0, x1, x9, ()))
   else (
    let x11 := (decide (x1 < (1 : Int)))
    if x11 then (
        some (x0, x1, x11, ()))
    else (
        let x13 := (decide (x1 > (12 : Int)))
        some (x0, x1, x13, ())))))) fun o =>
 let x0 := o.1
 let x1 := o.2.1
 let x5 := o.2.2.1
 if x5 then (
  some (0 : Int))
 else (
  let x16 := (x1 == (2 : Int))
  let x18 := (if x16 = true then some x0 else none)
  Option.bind (if x16 = true then ((x18.map (fun z9 => z9)).bind (fun z10 => civil_leap z10)).map some else some none) fun x19 =>
  Option.bind (if x16 then x19 else some false) fun x20 =>
  if x20 then (
   some (29 : Int))
  else (
   let x22 := IntKind.i64.wrap (x1 - (1 : Int))
   Option.bind (lAt ([(31 : Int), (28 : Int), (31 : Int), (30 : Int), (31 : Int), (30 : Int), (31 : Int), (31 : Int), (30 : Int), (31 : Int), (30 : Int), (31 : Int)] : List (Int)) x22) fun x23 =>
   some x23))
noncomputable def civil_start (a : Int) : Option (Int) :=
 let x0 := a
 let x5 := IntKind.i64.wrap (x0 - (1 : Int))
 let x7 := IntKind.i64.wrap (x0 - (1900 : Int))
 let x8 := IntKind.i64.wrap ((365 : Int) * x7)
 Option.bind (if (4 : Int) = 0 then none else some (IntKind.i64.wrap (x5.tdiv (4 : Int)))) fun x10 =>
 let x11 := IntKind.i64.wrap (x8 + x10)
 Option.bind (if (100 : Int) = 0 then none else some (IntKind.i64.wrap (x5.tdiv (100 : Int)))) fun x13 =>
 let x14 := IntKind.i64.wrap (x11 - x13)
 Option.bind (if (400 : Int) = 0 then none else some (IntKind.i64.wrap (x5.tdiv (400 : Int)))) fun x16 =>
 let x17 := IntKind.i64.wrap (x14 + x16)
 let x18 := IntKind.i64.wrap (x17 - (460 : Int))
 some x18
noncomputable def civil_in (a : Int) : Option (Bool) :=
 let x0 := a
 let x4 := (decide (x0 ≥ (-25567 : Int)))
 let x6 := (if x4 = true then some x0 else none)
 Option.bind (if x4 = true then ((x6.bind (fun z7 => some (z7, (84006 : Int)))).map (fun z9 => (decide (z9.1 < z9.2)))).map some else some none) fun x7 =>
 Option.bind (if x4 then x7 else some false) fun x8 =>
 some x8
noncomputable def civil_To_loop1 (s : Int × Int × Int × Int × Int × Int × (Unit) × (Unit) × Unit) : Option ((Int × Int × Int × Int × Int × Int × (Unit) × (Unit) × Unit) ⊕ ((Int × Int × Int × Int × Int × Int × (Unit) × (Unit) × Unit))) :=
 let x3 := s.1
 let x4 := s.2.1
 let x5 := s.2.2.1
 let c2_0 := s.2.2.2.1
 let c2_1 := s.2.2.2.2.1
 let c2_2 := s.2.2.2.2.2.1
 Option.bind (civil_MonthDays (x4, x5)) fun x29 =>
 let x30 := (decide (x3 ≥ x29))
 if x30 then (
  Option.bind (civil_MonthDays (x4, x5)) fun x34 =>
  let x35 := IntKind.i64.wrap (x3 - x34)
  let x37 := IntKind.i64.wrap (x5 + (1 : Int))
  some (Sum.inl (x35, x4, x37, c2_0, c2_1, c2_2, (), (), ())))
 else (
  some (Sum.inr (x3, x4, x5, c2_0, c2_1, c2_2, (), (), ())))
noncomputable def civil_To_loop2 (s : Int × Int × Int × Int × Int × (Unit) × (Unit) × Unit) : Option ((Int × Int × Int × Int × Int × (Unit) × (Unit) × Unit) ⊕ ((Int × Int × Int × Int × Int × (Unit) × (Unit) × Unit))) :=
 let x3 := s.1
 let x4 := s.2.1
 let c2_0 := s.2.2.1
 let c2_1 := s.2.2.2.1
 let c2_2 := s.2.2.2.2.1
 let x16 := IntKind.i64.wrap (x4 + (1 : Int))
 Option.bind (civil_start x16) fun x17 =>
 let x19 := (decide (x17 ≤ x3))
 if x19 then (
  let x21 := IntKind.i64.wrap (x4 + (1 : Int))
  some (Sum.inl (x3, x21, c2_0, c2_1, c2_2, (), (), ())))
 else (
  some (Sum.inr (x3, x4, c2_0, c2_1, c2_2, (), (), ())))
noncomputable def civil_To (a : Int) : Option (Int × Int × Int) :=
 let x0 := a
 Option.bind (civil_in x0) fun x7 =>
 let x8 := (!x7)
 if x8 then (
  some ((0 : Int), (0 : Int), (0 : Int)))
 else (
  let x11 := IntKind.i64.wrap (x0 - (-25567 : Int))
  Option.bind (if (366 : Int) = 0 then none else some (IntKind.i64.wrap (x11.tdiv (366 : Int)))) fun x13 =>
  let x14 := IntKind.i64.wrap ((1900 : Int) + x13)
  Option.bind (iter civil_To_loop2 (x11, x14, (0 : Int), (0 : Int), (0 : Int), (), (), ())) fun o =>
  let x3 := o.1
  let x4 := o.2.1
  let c2_0 := o.2.2.1
  let c2_1 := o.2.2.2.1
  let c2_2 := o.2.2.2.2.1
  Option.bind (civil_start x4) fun x24 =>
  let x25 := IntKind.i64.wrap (x3 - x24)
  Option.bind (iter civil_To_loop1 (x25, x4, (1 : Int), c2_0, c2_1, c2_2, (), (), ())) fun o =>
  let x3 := o.1
  let x4 := o.2.1
  let x5 := o.2.2.1
  let c2_0 := o.2.2.2.1
  let c2_1 := o.2.2.2.2.1
  let c2_2 := o.2.2.2.2.2.1
  let x41 := IntKind.i64.wrap (x3 + (1 : Int))
  some (x4, x5, x41))
noncomputable def civil_Of_loop1 (s : Int × Int × Int × Int × Int × (Unit) × (Unit) × Unit) : Option ((Int × Int × Int × Int × Int × (Unit) × (Unit) × Unit) ⊕ ((Int × Int × Int × Int × (Unit) × (Unit) × Unit))) :=
 let x4 := s.1
 let x5 := s.2.1
 let c1_0 := s.2.2.1
 let c1_1 := s.2.2.2.1
 let c1_2 := s.2.2.2.2.1
 let x30 := (decide (x5 < c1_1))
 if x30 then (
  Option.bind (civil_MonthDays (c1_0, x5)) fun x37 =>
  let x38 := IntKind.i64.wrap (x4 + x37)
  let x32 := IntKind.i64.wrap (x5 + (1 : Int))
  some (Sum.inl (x38, x32, c1_0, c1_1, c1_2, (), (), ())))
 else (
  some (Sum.inr (x4, c1_0, c1_1, c1_2, (), (), ())))
noncomputable def civil_Of (a : (Int × Int × Int)) : Option (Int × Int) :=
 let x0 := a
 let x9 := (decide (x0.2.2 < (1 : Int)))
 let x11 := (if x9 = false then some () else none)
 Option.bind (if x9 = false then (x11.map (fun z45 => x0.2.2)).map some else some none) fun x12 =>
 let x13 := (if x9 = false then some () else none)
 Option.bind (if x9 = false then (x13.map (fun z46 => x0.1)).map some else some none) fun x14 =>
 let x15 := (if x9 = false then some () else none)
 Option.bind (if x9 = false then (x15.map (fun z47 => x0.2.1)).map some else some none) fun x16 =>
 Option.bind (if x9 = false then (((x14.bind (fun z48 => x16.map (fun z49 => (z48, z49)))).map (fun z50 => (z50.1, z50.2))).bind (fun z51 => civil_MonthDays z51)).map some else some none) fun x17 =>
 Option.bind (if x9 = false then ((x12.bind (fun z52 => x17.map (fun z53 => (z52, z53)))).map (fun z54 => (decide (z54.1 > z54.2)))).map some else some none) fun x18 =>
 Option.bind (if x9 then some true else x18.map (fun z55 => z55)) fun x19 =>
 if x19 then (
  some ((0 : Int), (15 : Int)))
 else (
  Option.bind (civil_start x0.1) fun x22 =>
  let x25 := IntKind.i64.wrap (x22 + x0.2.2)
  let x26 := IntKind.i64.wrap (x25 - (1 : Int))
  Option.bind (iter civil_Of_loop1 (x26, (1 : Int), x0.1, x0.2.1, x0.2.2, (), (), ())) fun o =>
  let x4 := o.1
  let c1_0 := o.2.1
  let c1_1 := o.2.2.1
  let c1_2 := o.2.2.2.1
  let x40 := IntKind.i64.wrap (x4 + (-25567 : Int))
  Option.bind (civil_To x40) fun x42 =>
  let x44 := (!((x42.1 == c1_0) && ((x42.2.1 == c1_1) && (x42.2.2 == c1_2))))
  if x44 then (
   some ((0 : Int), (15 : Int)))
  else (
   some (x40, (0 : Int))))
noncomputable def civil_Parse (a : (List UInt8)) : Option (Int × Int) :=
 let x0 := a
 let x11 := (x0.length : Int)
 let x12 := (x11 != (10 : Int))
 let x14 := (if x12 = false then some x0 else none)
 Option.bind (if x12 = false then ((x14.bind (fun z57 => some (z57, (4 : Int)))).bind (fun z59 => sAt z59.1 z59.2)).map some else some none) fun x15 =>
 Option.bind (if x12 = false then ((x15.bind (fun z60 => some (z60, (45 : Int)))).map (fun z62 => (z62.1 != z62.2))).map some else some none) fun x16 =>
 Option.bind (if x12 then some true else x16.map (fun z63 => z63)) fun x17 =>
 let x19 := (if x17 = false then some x0 else none)
 Option.bind (if x17 = false then ((x19.bind (fun z64 => some (z64, (7 : Int)))).bind (fun z66 => sAt z66.1 z66.2)).map some else some none) fun x20 =>
 Option.bind (if x17 = false then ((x20.bind (fun z67 => some (z67, (45 : Int)))).map (fun z69 => (z69.1 != z69.2))).map some else some none) fun x21 =>
 Option.bind (if x17 then some true else x21.map (fun z70 => z70)) fun x22 =>
 if x22 then (
  some ((0 : Int), (3 : Int)))
 else (
  Option.bind (lSub x0 (0 : Int) (4 : Int)) fun x25 =>
  Option.bind (civil_number x25) fun x26 =>
  Option.bind (lSub x0 (5 : Int) (7 : Int)) fun x31 =>
  Option.bind (civil_number x31) fun x32 =>
  Option.bind (lSub x0 (8 : Int) (x0.length : Int)) fun x37 =>
  Option.bind (civil_number x37) fun x38 =>
  let x42 := (!x26.2)
  let x44 := (if x42 = false then some x32.2 else none)
  Option.bind (if x42 = false then (x44.map (fun z87 => (!z87))).map some else some none) fun x45 =>
  Option.bind (if x42 then some true else x45.map (fun z88 => z88)) fun x46 =>
  let x48 := (if x46 = false then some x38.2 else none)
  Option.bind (if x46 = false then (x48.map (fun z89 => (!z89))).map some else some none) fun x49 =>
  Option.bind (if x46 then some true else x49.map (fun z90 => z90)) fun x50 =>
  if x50 then (
   some ((0 : Int), (3 : Int)))
  else (
   Option.bind (civil_Of (x26.1, x32.1, x38.1)) fun x55 =>
   some (x55.1, x55.2)))
noncomputable def fact_end (a : (List UInt8)) : Option (Int × Bool) :=
 let x0 := a
 let x8 := ((x0 == ([45] : List UInt8)))
 if x8 then (
  some ((0 : Int), true))
 else (
  let x10 := ((x0 == ([101, 110, 100] : List UInt8)))
  if x10 then (
   some ((84006 : Int), true))
  else (
   Option.bind (civil_Parse x0) fun x13 =>
   let x18 := (x13.2 == (0 : Int))
   let x20 := (if x18 = true then some x13.1 else none)
   Option.bind (if x18 = true then ((x20.bind (fun z7 => some (z7, (0 : Int)))).map (fun z9 => (z9.1 != z9.2))).map some else some none) fun x21 =>
   Option.bind (if x18 then x21 else some false) fun x22 =>
   some (x13.1, x22)))
noncomputable def fact_signed (a : (List UInt8)) : Option (Int × Bool) :=
 let x0 := a
 Option.bind (strings_CutPrefix (x0, ([45] : List UInt8))) fun x12 =>
 Option.bind (fact_tens (x12.1, (9223372036854775808 : Int))) fun x17 =>
 let x21 := (!x17.2)
 let x23 := (if x21 = false then some x12.2 else none)
 Option.bind (if x21 = false then x23.map some else some none) fun x24 =>
 let x25 := (if x24 = some true then some x12.1 else none)
 Option.bind (if x24 = some true then ((x25.bind (fun z21 => some (z21, ([48] : List UInt8)))).map (fun z23 => ((z23.1 == z23.2)))).map some else some none) fun x26 =>
 Option.bind (if x21 = false then (x24.bind (fun z24 => if z24 then x26 else some false)).map some else some none) fun x27 =>
 Option.bind (if x21 then some true else x27.map (fun z25 => z25)) fun x28 =>
 if x28 then (
  some ((0 : Int), false))
 else (
  Option.bind (strconv_ParseInt (x0, (10 : Int), (64 : Int))) fun x31 =>
  some (x31.1, x31.2))
noncomputable def fact_Fact_days (a : (Int × Int × Int × Int × Int × (List UInt8) × Int × (List UInt8)) × ((List UInt8) × Bool × Bool × (U5) × Int × Int × (U9))) : Option (Int) :=
 let x0 := a.1
 let x1 := a.2
 Option.bind (show Option (((Bool) × Int × Int × Int × Int × Int × (List UInt8) × Int × (List UInt8) × (List UInt8) × (Bool) × (Bool) × (U5) × Int × Int × (U9) × (Unit) × (Unit) × (Unit) × (Unit) × Unit)) from (
  let x8 := (x0.2.2.1 == (18 : Int))
  let x10 := (if x8 = true then some () else none)
  Option.bind (if x8 = true then (x10.map (fun z63 => x0.2.2.2.1)).map some else some none) fun x11 =>
  Option.bind (if x8 = true then ((x11.bind (fun z64 => some (z64, (0 : Int)))).map (fun z66 => (z66.1 != z66.2))).map some else some none) fun x12 =>
  Option.bind (if x8 then x12 else some false) fun x13 =>
  if x13 then (
   some (x13, x0.1, x0.2.1, x0.2.2.1, x0.2.2.2.1, x0.2.2.2.2.1, x0.2.2.2.2.2.1, x0.2.2.2.2.2.2.1, x0.2.2.2.2.2.2.2, x1.1, x1.2.1, x1.2.2.1, x1.2.2.2.1, x1.2.2.2.2.1, x1.2.2.2.2.2.1, x1.2.2.2.2.2.2, (), (), (), (), ()))
  else (
   let x16 := (decide (x0.2.2.2.1 < (-25567 : Int)))
   let x18 := (if x16 = false then some () else none)
   Option.bind (if x16 = false then (x18.map (fun z72 => x0.2.2.2.1)).map some else some none) fun x19 =>
   Option.bind (if x16 = false then ((x19.bind (fun z73 => some (z73, (84005 : Int)))).map (fun z75 => (decide (z75.1 > z75.2)))).map some else some none) fun x20 =>
   Option.bind (if x16 then some true else x20.map (fun z76 => z76)) fun x21 =>
   some (x21, x0.1, x0.2.1, x0.2.2.1, x0.2.2.2.1, x0.2.2.2.2.1, x0.2.2.2.2.2.1, x0.2.2.2.2.2.2.1, x0.2.2.2.2.2.2.2, x1.1, x1.2.1, x1.2.2.1, x1.2.2.2.1, x1.2.2.2.2.1, x1.2.2.2.2.2.1, x1.2.2.2.2.2.2, (), (), (), (), ())))) fun o =>
   let oq6 := o.2.2.2.2.2.2
   let oq12 := oq6.2.2.2.2.2.2
 let x5 := o.1
 let c2_0 := o.2.1
 let c2_1 := o.2.2.1
 let c2_2 := o.2.2.2.1
 let c2_3 := o.2.2.2.2.1
 let c2_4 := o.2.2.2.2.2.1
 let c2_5 := oq6.1
 let c2_6 := oq6.2.1
 let c2_7 := oq6.2.2.1
 let c3_0 := oq6.2.2.2.1
 let c3_1 := oq6.2.2.2.2.1
 let c3_2 := oq6.2.2.2.2.2.1
 let c3_3 := oq12.1
 let c3_4 := oq12.2.1
 let c3_5 := oq12.2.2.1
 let c3_6 := oq12.2.2.2.1
 if x5 then (
  some (15 : Int))
 else (
  let x25 := (c2_4 != (0 : Int))
  let x27 := (if x25 = true then some () else none)
  Option.bind (if x25 = true then (x27.map (fun z95 => c3_2)).map some else some none) fun x28 =>
  Option.bind (if x25 = true then (x28.map (fun z96 => (!z96))).map some else some none) fun x29 =>
  Option.bind (if x25 = true then x29.map some else some none) fun x30 =>
  let x31 := (if x30 = some false then some () else none)
  Option.bind (if x30 = some false then (x31.map (fun z97 => c2_4)).map some else some none) fun x32 =>
  let x33 := (if x30 = some false then some () else none)
  Option.bind (if x30 = some false then (x33.map (fun z98 => c2_3)).map some else some none) fun x34 =>
  Option.bind (if x30 = some false then ((x32.bind (fun z99 => x34.map (fun z100 => (z99, z100)))).map (fun z101 => (decide (z101.1 ≤ z101.2)))).map some else some none) fun x35 =>
  Option.bind (if x25 = true then (x30.bind (fun z103 => if z103 then some true else x35.map (fun z102 => z102))).map some else some none) fun x36 =>
  Option.bind (if x25 then x36 else some false) fun x37 =>
  if x37 then (
   some (24 : Int))
  else (
   let x41 := (decide (c2_4 > (84006 : Int)))
   if x41 then (
       some (15 : Int))
   else (
       some (0 : Int))))
noncomputable def fact_Fact_Check (a : (Int × Int × Int × Int × Int × (List UInt8) × Int × (List UInt8))) : Option (Int) :=
 let x0 := a
 Option.bind (fact_known x0.2.2.1) fun x7 =>
 let x8 := (!x7)
 if x8 then (
  some (11 : Int))
 else (
  Option.bind (fact_rules ()) fun x9 =>
  let x9q6 := x9.2.2.2.2.2.2
  let x9q12 := x9q6.2.2.2.2.2.2
  let x9q18 := x9q12.2.2.2.2.2.2
  let x9q24 := x9q18.2.2.2.2.2.2
  let x9q30 := x9q24.2.2.2.2.2.2
  let x9q36 := x9q30.2.2.2.2.2.2
  let x9q42 := x9q36.2.2.2.2.2.2
  let x9q48 := x9q42.2.2.2.2.2.2
  let x9q54 := x9q48.2.2.2.2.2.2
  let x9q60 := x9q54.2.2.2.2.2.2
  let x9q66 := x9q60.2.2.2.2.2.2
  let x9q72 := x9q66.2.2.2.2.2.2
  let x9q78 := x9q72.2.2.2.2.2.2
  let x9q84 := x9q78.2.2.2.2.2.2
  let x9q90 := x9q84.2.2.2.2.2.2
  let x9q96 := x9q90.2.2.2.2.2.2
  let x9q102 := x9q96.2.2.2.2.2.2
  let x9q108 := x9q102.2.2.2.2.2.2
  let x9q114 := x9q108.2.2.2.2.2.2
  let x9q120 := x9q114.2.2.2.2.2.2
  let x9q126 := x9q120.2.2.2.2.2.2
  let x9q132 := x9q126.2.2.2.2.2.2
  Option.bind (lAt ([(x9.1, x9.2.1, x9.2.2.1, x9.2.2.2.1, x9.2.2.2.2.1, x9.2.2.2.2.2.1, x9q6.1), (x9q6.2.1, x9q6.2.2.1, x9q6.2.2.2.1, x9q6.2.2.2.2.1, x9q6.2.2.2.2.2.1, x9q12.1, x9q12.2.1), (x9q12.2.2.1, x9q12.2.2.2.1, x9q12.2.2.2.2.1, x9q12.2.2.2.2.2.1, x9q18.1, x9q18.2.1, x9q18.2.2.1), (x9q18.2.2.2.1, x9q18.2.2.2.2.1, x9q18.2.2.2.2.2.1, x9q24.1, x9q24.2.1, x9q24.2.2.1, x9q24.2.2.2.1), (x9q24.2.2.2.2.1, x9q24.2.2.2.2.2.1, x9q30.1, x9q30.2.1, x9q30.2.2.1, x9q30.2.2.2.1, x9q30.2.2.2.2.1), (x9q30.2.2.2.2.2.1, x9q36.1, x9q36.2.1, x9q36.2.2.1, x9q36.2.2.2.1, x9q36.2.2.2.2.1, x9q36.2.2.2.2.2.1), (x9q42.1, x9q42.2.1, x9q42.2.2.1, x9q42.2.2.2.1, x9q42.2.2.2.2.1, x9q42.2.2.2.2.2.1, x9q48.1), (x9q48.2.1, x9q48.2.2.1, x9q48.2.2.2.1, x9q48.2.2.2.2.1, x9q48.2.2.2.2.2.1, x9q54.1, x9q54.2.1), (x9q54.2.2.1, x9q54.2.2.2.1, x9q54.2.2.2.2.1, x9q54.2.2.2.2.2.1, x9q60.1, x9q60.2.1, x9q60.2.2.1), (x9q60.2.2.2.1, x9q60.2.2.2.2.1, x9q60.2.2.2.2.2.1, x9q66.1, x9q66.2.1, x9q66.2.2.1, x9q66.2.2.2.1), (x9q66.2.2.2.2.1, x9q66.2.2.2.2.2.1, x9q72.1, x9q72.2.1, x9q72.2.2.1, x9q72.2.2.2.1, x9q72.2.2.2.2.1), (x9q72.2.2.2.2.2.1, x9q78.1, x9q78.2.1, x9q78.2.2.1, x9q78.2.2.2.1, x9q78.2.2.2.2.1, x9q78.2.2.2.2.2.1), (x9q84.1, x9q84.2.1, x9q84.2.2.1, x9q84.2.2.2.1, x9q84.2.2.2.2.1, x9q84.2.2.2.2.2.1, x9q90.1), (x9q90.2.1, x9q90.2.2.1, x9q90.2.2.2.1, x9q90.2.2.2.2.1, x9q90.2.2.2.2.2.1, x9q96.1, x9q96.2.1), (x9q96.2.2.1, x9q96.2.2.2.1, x9q96.2.2.2.2.1, x9q96.2.2.2.2.2.1, x9q102.1, x9q102.2.1, x9q102.2.2.1), (x9q102.2.2.2.1, x9q102.2.2.2.2.1, x9q102.2.2.2.2.2.1, x9q108.1, x9q108.2.1, x9q108.2.2.1, x9q108.2.2.2.1), (x9q108.2.2.2.2.1, x9q108.2.2.2.2.2.1, x9q114.1, x9q114.2.1, x9q114.2.2.1, x9q114.2.2.2.1, x9q114.2.2.2.2.1), (x9q114.2.2.2.2.2.1, x9q120.1, x9q120.2.1, x9q120.2.2.1, x9q120.2.2.2.1, x9q120.2.2.2.2.1, x9q120.2.2.2.2.2.1), (x9q126.1, x9q126.2.1, x9q126.2.2.1, x9q126.2.2.2.1, x9q126.2.2.2.2.1, x9q126.2.2.2.2.2.1, x9q132)] : List ((List UInt8) × Bool × Bool × (U5) × Int × Int × (U9))) x0.2.2.1) fun x12 =>
  let x17 := (x0.2.1 == (0 : Int))
  let x18 := (!(x12.2.1 == x17))
  if x18 then (
   some (2 : Int))
  else (
   Option.bind (fact_Fact_days ((x0.1, x0.2.1, x0.2.2.1, x0.2.2.2.1, x0.2.2.2.2.1, x0.2.2.2.2.2.1, x0.2.2.2.2.2.2.1, x0.2.2.2.2.2.2.2), (x12.1, x12.2.1, x12.2.2.1, x12.2.2.2.1, x12.2.2.2.2.1, x12.2.2.2.2.2.1, x12.2.2.2.2.2.2))) fun x21 =>
   let x23 := (x21 != (0 : Int))
   if x23 then (
       some x21)
   else (
       Option.bind (match x12.2.2.2.1 with | Sum.inl c110 => (fact_empty x0.2.2.2.2.2.1).map (fun v109 => v109) | Sum.inr c111 => (match c111 with | Sum.inl c113 => (fact_rules_1 x0.2.2.2.2.2.1).map (fun v112 => v112) | Sum.inr c114 => (match c114 with | Sum.inl c116 => (fact_absence x0.2.2.2.2.2.1).map (fun v115 => v115) | Sum.inr c117 => (match c117 with | Sum.inl c119 => (fact_isName x0.2.2.2.2.2.1).map (fun v118 => v118) | Sum.inr c120 => (none))))) fun x30 =>
       let x31 := (!x30)
       if x31 then (
        some (12 : Int))
       else (
        let x37 := (decide (x0.2.2.2.2.2.2.1 < x12.2.2.2.2.1))
        let x39 := (if x37 = false then some () else none)
        Option.bind (if x37 = false then (x39.map (fun z133 => x0.2.2.2.2.2.2.1)).map some else some none) fun x40 =>
        let x41 := (if x37 = false then some () else none)
        Option.bind (if x37 = false then (x41.map (fun z134 => x12.2.2.2.2.2.1)).map some else some none) fun x42 =>
        Option.bind (if x37 = false then ((x40.bind (fun z135 => x42.map (fun z136 => (z135, z136)))).map (fun z137 => (decide (z137.1 > z137.2)))).map some else some none) fun x43 =>
        Option.bind (if x37 then some true else x43.map (fun z138 => z138)) fun x44 =>
        if x44 then (
         some (2 : Int))
        else (
         let x48 := (x0.2.2.2.2.2.2.2.length : Int)
         let x49 := (decide (x48 > (4096 : Int)))
         if x49 then (
             some (4 : Int))
         else (
             Option.bind (match x12.2.2.2.2.2.2 with | Sum.inl c188 => (fact_silent (x0.1, x0.2.1, x0.2.2.1, x0.2.2.2.1, x0.2.2.2.2.1, x0.2.2.2.2.2.1, x0.2.2.2.2.2.2.1, x0.2.2.2.2.2.2.2)).map (fun v187 => v187) | Sum.inr c189 => (match c189 with | Sum.inl c191 => (fact_weekly (x0.1, x0.2.1, x0.2.2.1, x0.2.2.2.1, x0.2.2.2.2.1, x0.2.2.2.2.2.1, x0.2.2.2.2.2.2.1, x0.2.2.2.2.2.2.2)).map (fun v190 => v190) | Sum.inr c192 => (match c192 with | Sum.inl c194 => (fact_rules_5 (x0.1, x0.2.1, x0.2.2.1, x0.2.2.2.1, x0.2.2.2.2.1, x0.2.2.2.2.2.1, x0.2.2.2.2.2.2.1, x0.2.2.2.2.2.2.2)).map (fun v193 => v193) | Sum.inr c195 => (match c195 with | Sum.inl c197 => (fact_night (x0.1, x0.2.1, x0.2.2.1, x0.2.2.2.1, x0.2.2.2.2.1, x0.2.2.2.2.2.1, x0.2.2.2.2.2.2.1, x0.2.2.2.2.2.2.2)).map (fun v196 => v196) | Sum.inr c198 => (match c198 with | Sum.inl c200 => (fact_rules_2 (x0.1, x0.2.1, x0.2.2.1, x0.2.2.2.1, x0.2.2.2.2.1, x0.2.2.2.2.2.1, x0.2.2.2.2.2.2.1, x0.2.2.2.2.2.2.2)).map (fun v199 => v199) | Sum.inr c201 => (match c201 with | Sum.inl c203 => (fact_rules_6 (x0.1, x0.2.1, x0.2.2.1, x0.2.2.2.1, x0.2.2.2.2.1, x0.2.2.2.2.2.1, x0.2.2.2.2.2.2.1, x0.2.2.2.2.2.2.2)).map (fun v202 => v202) | Sum.inr c204 => (match c204 with | Sum.inl c206 => (fact_rules_3 (x0.1, x0.2.1, x0.2.2.1, x0.2.2.2.1, x0.2.2.2.2.1, x0.2.2.2.2.2.1, x0.2.2.2.2.2.2.1, x0.2.2.2.2.2.2.2)).map (fun v205 => v205) | Sum.inr c207 => (match c207 with | Sum.inl c209 => (fact_rules_4 (x0.1, x0.2.1, x0.2.2.1, x0.2.2.2.1, x0.2.2.2.2.1, x0.2.2.2.2.2.1, x0.2.2.2.2.2.2.1, x0.2.2.2.2.2.2.2)).map (fun v208 => v208) | Sum.inr c210 => (none))))))))) fun x54 =>
             let x55 := (!x54)
             if x55 then (
              some (3 : Int))
             else (
              some (0 : Int))))))))
noncomputable def fact_Parse_1 (a : (List UInt8) × Bool) : Option (Int) :=
 let x0 := a.1
 let x1 := a.2
 Option.bind (fact_tens (x0, (4294967295 : Int))) fun x8 =>
 let x13 := (if x1 = true then some x8.2 else none)
 Option.bind (if x1 then x13 else some false) fun x14 =>
 Option.bind (if x1 = x14 then some () else none) fun _u =>
 let x16 := IntKind.u32.wrap x8.1
 some x16
noncomputable def fact_Parse_loop1 (s : (List (List UInt8)) × (Bool) × Int × Int × Int × Int × Int × Int × (List UInt8) × Int × (List UInt8) × Int × Int × Int × Int × Int × (List UInt8) × Int × (List UInt8) × (Unit) × (Unit) × (Unit) × (Unit) × Unit) : Option (((List (List UInt8)) × (Bool) × Int × Int × Int × Int × Int × Int × (List UInt8) × Int × (List UInt8) × Int × Int × Int × Int × Int × (List UInt8) × Int × (List UInt8) × (Unit) × (Unit) × (Unit) × (Unit) × Unit) ⊕ (((List (List UInt8)) × (Bool) × Int × Int × Int × Int × Int × (List UInt8) × Int × (List UInt8) × Int × Int × Int × Int × Int × (List UInt8) × Int × (List UInt8) × (Unit) × (Unit) × (Unit) × (Unit) × Unit))) :=
 let sq6 := s.2.2.2.2.2.2
 let sq12 := sq6.2.2.2.2.2.2
 let sq18 := sq12.2.2.2.2.2.2
 let x4 := s.1
 let x5 := s.2.1
 let x8 := s.2.2.1
 let c2_0 := s.2.2.2.1
 let c2_1 := s.2.2.2.2.1
 let c2_2 := s.2.2.2.2.2.1
 let c2_3 := sq6.1
 let c2_4 := sq6.2.1
 let c2_5 := sq6.2.2.1
 let c2_6 := sq6.2.2.2.1
 let c2_7 := sq6.2.2.2.2.1
 let c7_0 := sq6.2.2.2.2.2.1
 let c7_1 := sq12.1
 let c7_2 := sq12.2.1
 let c7_3 := sq12.2.2.1
 let c7_4 := sq12.2.2.2.1
 let c7_5 := sq12.2.2.2.2.1
 let c7_6 := sq12.2.2.2.2.2.1
 let c7_7 := sq18.1
 let x39 := (decide (x8 < (19 : Int)))
 if x39 then (
  Option.bind (show Option (((List (List UInt8)) × (Bool) × Int × Int × Int × Int × Int × Int × (List UInt8) × Int × (List UInt8) × Int × Int × Int × Int × Int × (List UInt8) × Int × (List UInt8) × (Unit) × (Unit) × (Unit) × (Unit) × Unit)) from (
   Option.bind (fact_Name x8) fun x43 =>
   Option.bind ((lAt x4 (0 : Int)).map (fun y => y)) fun x45 =>
   let x47 := ((x43 == x45))
   if x47 then (
    some (x4, x5, x8, c2_0, c2_1, c2_2, c2_3, c2_4, c2_5, c2_6, c2_7, c7_0, c7_1, x8, c7_3, c7_4, c7_5, c7_6, c7_7, (), (), (), (), ()))
   else (
    some (x4, x5, x8, c2_0, c2_1, c2_2, c2_3, c2_4, c2_5, c2_6, c2_7, c7_0, c7_1, c7_2, c7_3, c7_4, c7_5, c7_6, c7_7, (), (), (), (), ())))) fun o =>
    let oq6 := o.2.2.2.2.2.2
    let oq12 := oq6.2.2.2.2.2.2
    let oq18 := oq12.2.2.2.2.2.2
  let x4 := o.1
  let x5 := o.2.1
  let x8 := o.2.2.1
  let c2_0 := o.2.2.2.1
  let c2_1 := o.2.2.2.2.1
  let c2_2 := o.2.2.2.2.2.1
  let c2_3 := oq6.1
  let c2_4 := oq6.2.1
  let c2_5 := oq6.2.2.1
  let c2_6 := oq6.2.2.2.1
  let c2_7 := oq6.2.2.2.2.1
  let c7_0 := oq6.2.2.2.2.2.1
  let c7_1 := oq12.1
  let c7_2 := oq12.2.1
  let c7_3 := oq12.2.2.1
  let c7_4 := oq12.2.2.2.1
  let c7_5 := oq12.2.2.2.2.1
  let c7_6 := oq12.2.2.2.2.2.1
  let c7_7 := oq18.1
  let x41 := IntKind.i64.wrap (x8 + (1 : Int))
  some (Sum.inl (x4, x5, x41, c2_0, c2_1, c2_2, c2_3, c2_4, c2_5, c2_6, c2_7, c7_0, c7_1, c7_2, c7_3, c7_4, c7_5, c7_6, c7_7, (), (), (), (), ())))
 else (
  some (Sum.inr (x4, x5, c2_0, c2_1, c2_2, c2_3, c2_4, c2_5, c2_6, c2_7, c7_0, c7_1, c7_2, c7_3, c7_4, c7_5, c7_6, c7_7, (), (), (), (), ())))
noncomputable def fact_Parse (a : (List UInt8)) : Option ((Int × Int × Int × Int × Int × (List UInt8) × Int × (List UInt8)) × Int) :=
 let x0 := a
 Option.bind (strings_SplitN (x0, ([32] : List UInt8), (8 : Int))) fun x17 =>
 let x19 := (x17.length : Int)
 let x20 := (decide (x19 < (7 : Int)))
 let x22 := (if x20 = false then some x17 else none)
 Option.bind (if x20 = false then (((x22.bind (fun z21 => some (z21, ([] : List UInt8)))).map (fun z23 => (z23.1, z23.2))).bind (fun z24 => slices_Contains z24)).map some else some none) fun x23 =>
 Option.bind (if x20 then some true else x23.map (fun z25 => z25)) fun x24 =>
 if x24 then (
  some (((0 : Int), (0 : Int), (0 : Int), (0 : Int), (0 : Int), ([] : List UInt8), (0 : Int), ([] : List UInt8)), (3 : Int)))
 else (
  Option.bind ((lAt x17 (1 : Int)).map (fun y => y)) fun x29 =>
  Option.bind (fact_Parse_1 (x29, true)) fun x31 =>
  Option.bind ((lAt x17 (2 : Int)).map (fun y => y)) fun x34 =>
  Option.bind (fact_Parse_1 (x34, true)) fun x36 =>
  Option.bind (iter fact_Parse_loop1 (x17, true, (1 : Int), (0 : Int), (0 : Int), (0 : Int), (0 : Int), (0 : Int), ([] : List UInt8), (0 : Int), ([] : List UInt8), x31, x36, (0 : Int), (0 : Int), (0 : Int), ([] : List UInt8), (0 : Int), ([] : List UInt8), (), (), (), (), ())) fun o =>
  let oq6 := o.2.2.2.2.2.2
  let oq12 := oq6.2.2.2.2.2.2
  let x4 := o.1
  let x5 := o.2.1
  let c2_0 := o.2.2.1
  let c2_1 := o.2.2.2.1
  let c2_2 := o.2.2.2.2.1
  let c2_3 := o.2.2.2.2.2.1
  let c2_4 := oq6.1
  let c2_5 := oq6.2.1
  let c2_6 := oq6.2.2.1
  let c2_7 := oq6.2.2.2.1
  let c7_0 := oq6.2.2.2.2.1
  let c7_1 := oq6.2.2.2.2.2.1
  let c7_2 := oq12.1
  let c7_3 := oq12.2.1
  let c7_4 := oq12.2.2.1
  let c7_5 := oq12.2.2.2.1
  let c7_6 := oq12.2.2.2.2.1
  let c7_7 := oq12.2.2.2.2.2.1
  Option.bind ((lAt x4 (3 : Int)).map (fun y => y)) fun x52 =>
  Option.bind (civil_Parse x52) fun x54 =>
  Option.bind ((lAt x4 (4 : Int)).map (fun y => y)) fun x59 =>
  Option.bind (fact_end x59) fun x61 =>
  Option.bind ((lAt x4 (6 : Int)).map (fun y => y)) fun x66 =>
  Option.bind (fact_signed x66) fun x68 =>
  let x72 := (!x5)
  let x74 := (if x72 = false then some () else none)
  Option.bind (if x72 = false then (x74.map (fun z78 => c7_2)).map some else some none) fun x75 =>
  Option.bind (if x72 = false then ((x75.bind (fun z79 => some (z79, (0 : Int)))).map (fun z81 => (z81.1 == z81.2))).map some else some none) fun x76 =>
  Option.bind (if x72 then some true else x76.map (fun z82 => z82)) fun x77 =>
  let x79 := (if x77 = false then some x54.2 else none)
  Option.bind (if x77 = false then ((x79.bind (fun z83 => some (z83, (0 : Int)))).map (fun z85 => (z85.1 != z85.2))).map some else some none) fun x80 =>
  Option.bind (if x77 then some true else x80.map (fun z86 => z86)) fun x81 =>
  let x83 := (if x81 = false then some x61.2 else none)
  Option.bind (if x81 = false then (x83.map (fun z87 => (!z87))).map some else some none) fun x84 =>
  Option.bind (if x81 then some true else x84.map (fun z88 => z88)) fun x85 =>
  let x87 := (if x85 = false then some x68.2 else none)
  Option.bind (if x85 = false then (x87.map (fun z89 => (!z89))).map some else some none) fun x88 =>
  Option.bind (if x85 then some true else x88.map (fun z90 => z90)) fun x89 =>
  if x89 then (
   some (((0 : Int), (0 : Int), (0 : Int), (0 : Int), (0 : Int), ([] : List UInt8), (0 : Int), ([] : List UInt8)), (3 : Int)))
  else (
   Option.bind (show Option (((List (List UInt8)) × Int × Int × Int × Int × Int × (List UInt8) × Int × (List UInt8) × Int × Int × Int × Int × Int × (List UInt8) × Int × (List UInt8) × (Unit) × (Unit) × (Unit) × (Unit) × Unit)) from (
       Option.bind ((lAt x4 (5 : Int)).map (fun y => y)) fun x98 =>
       let x100 := (!(x98 == ([45] : List UInt8)))
       if x100 then (
        Option.bind ((lAt x4 (5 : Int)).map (fun y => y)) fun x102 =>
        some (x4, c2_0, c2_1, c2_2, c2_3, c2_4, c2_5, c2_6, c2_7, c7_0, c7_1, c7_2, x54.1, x61.1, x102, x68.1, c7_7, (), (), (), (), ()))
       else (
        some (x4, c2_0, c2_1, c2_2, c2_3, c2_4, c2_5, c2_6, c2_7, c7_0, c7_1, c7_2, x54.1, x61.1, c7_5, x68.1, c7_7, (), (), (), (), ())))) fun o =>
        let oq6 := o.2.2.2.2.2.2
        let oq12 := oq6.2.2.2.2.2.2
   let x4 := o.1
   let c2_0 := o.2.1
   let c2_1 := o.2.2.1
   let c2_2 := o.2.2.2.1
   let c2_3 := o.2.2.2.2.1
   let c2_4 := o.2.2.2.2.2.1
   let c2_5 := oq6.1
   let c2_6 := oq6.2.1
   let c2_7 := oq6.2.2.1
   let c7_0 := oq6.2.2.2.1
   let c7_1 := oq6.2.2.2.2.1
   let c7_2 := oq6.2.2.2.2.2.1
   let c7_3 := oq12.1
   let c7_4 := oq12.2.1
   let c7_5 := oq12.2.2.1
   let c7_6 := oq12.2.2.2.1
   let c7_7 := oq12.2.2.2.2.1
   Option.bind (show Option ((Int × Int × Int × Int × Int × (List UInt8) × Int × (List UInt8) × Int × Int × Int × Int × Int × (List UInt8) × Int × (List UInt8) × (Unit) × (Unit) × (Unit) × (Unit) × Unit)) from (
       let x106 := (x4.length : Int)
       let x107 := (x106 == (8 : Int))
       if x107 then (
        Option.bind ((lAt x4 (7 : Int)).map (fun y => y)) fun x109 =>
        some (c2_0, c2_1, c2_2, c2_3, c2_4, c2_5, c2_6, c2_7, c7_0, c7_1, c7_2, c7_3, c7_4, c7_5, c7_6, x109, (), (), (), (), ()))
       else (
        some (c2_0, c2_1, c2_2, c2_3, c2_4, c2_5, c2_6, c2_7, c7_0, c7_1, c7_2, c7_3, c7_4, c7_5, c7_6, c7_7, (), (), (), (), ())))) fun o =>
        let oq6 := o.2.2.2.2.2.2
        let oq12 := oq6.2.2.2.2.2.2
   let c2_0 := o.1
   let c2_1 := o.2.1
   let c2_2 := o.2.2.1
   let c2_3 := o.2.2.2.1
   let c2_4 := o.2.2.2.2.1
   let c2_5 := o.2.2.2.2.2.1
   let c2_6 := oq6.1
   let c2_7 := oq6.2.1
   let c7_0 := oq6.2.2.1
   let c7_1 := oq6.2.2.2.1
   let c7_2 := oq6.2.2.2.2.1
   let c7_3 := oq6.2.2.2.2.2.1
   let c7_4 := oq12.1
   let c7_5 := oq12.2.1
   let c7_6 := oq12.2.2.1
   let c7_7 := oq12.2.2.2.1
   Option.bind (fact_Fact_Check (c7_0, c7_1, c7_2, c7_3, c7_4, c7_5, c7_6, c7_7)) fun x113 =>
   let x115 := (x113 != (0 : Int))
   if x115 then (
       some (((0 : Int), (0 : Int), (0 : Int), (0 : Int), (0 : Int), ([] : List UInt8), (0 : Int), ([] : List UInt8)), x113))
   else (
       some ((c7_0, c7_1, c7_2, c7_3, c7_4, c7_5, c7_6, c7_7), (0 : Int)))))
noncomputable def civil_digits_loop1 (s : Int × (List UInt8) × Int × Int × Unit) : Option ((Int × (List UInt8) × Int × Int × Unit) ⊕ (((List UInt8) × Unit))) :=
 let x0 := s.1
 let x5 := s.2.1
 let x6 := s.2.2.1
 let x7 := s.2.2.2.1
 let x8 := (decide (x7 < x6))
 if x8 then (
  Option.bind (if (10 : Int) = 0 then none else some (x0.tmod (10 : Int))) fun x10 =>
  let x11 := IntKind.i64.wrap ((48 : Int) + x10)
  let x12 := IntKind.i32.wrap x11
  let x13 := (Utf8.encode x12).data.toList
  Option.bind (if x13.length + x5.length ≤ 4611686018427387904 then some (x13 ++ x5) else none) fun x15 =>
  Option.bind (if (10 : Int) = 0 then none else some (IntKind.i64.wrap (x0.tdiv (10 : Int)))) fun x17 =>
  let x18 := IntKind.i64.wrap (x7 + (1 : Int))
  some (Sum.inl (x17, x15, x6, x18, ())))
 else (
  some (Sum.inr (x5, ())))
noncomputable def civil_digits (a : Int × Int) : Option (List UInt8) :=
 let x0 := a.1
 let x1 := a.2
 let x4 := ([] : List UInt8)
 let x5 := ([] : List UInt8)
 Option.bind (iter civil_digits_loop1 (x0, x5, x1, (0 : Int), ())) fun o =>
 let x5 := o.1
 some x5
noncomputable def civil_Text (a : Int) : Option (List UInt8) :=
 let x0 := a
 let x2 := ([] : List UInt8)
 Option.bind (civil_in x0) fun x5 =>
 let x6 := (!x5)
 if x6 then (
  let x2 := ([] : List UInt8)
  some x2)
 else (
  Option.bind (civil_To x0) fun x8 =>
  Option.bind (civil_digits (x8.1, (4 : Int))) fun x11 =>
  Option.bind (if x11.length + ([45] : List UInt8).length ≤ 4611686018427387904 then some (x11 ++ ([45] : List UInt8)) else none) fun x12 =>
  Option.bind (civil_digits (x8.2.1, (2 : Int))) fun x15 =>
  Option.bind (if x12.length + x15.length ≤ 4611686018427387904 then some (x12 ++ x15) else none) fun x16 =>
  Option.bind (if x16.length + ([45] : List UInt8).length ≤ 4611686018427387904 then some (x16 ++ ([45] : List UInt8)) else none) fun x17 =>
  Option.bind (civil_digits (x8.2.2, (2 : Int))) fun x20 =>
  Option.bind (if x17.length + x20.length ≤ 4611686018427387904 then some (x17 ++ x20) else none) fun x21 =>
  some x21)
noncomputable def fact_until (a : Int) : Option (List UInt8) :=
 let x0 := a
 let x2 := ([] : List UInt8)
 let x5 := (x0 == (0 : Int))
 if x5 then (
  let x2 := ([45] : List UInt8)
  some x2)
 else (
  let x7 := (x0 == (84006 : Int))
  if x7 then (
   let x2 := ([101, 110, 100] : List UInt8)
   some x2)
  else (
   Option.bind (civil_Text x0) fun x9 =>
   some x9))
noncomputable def fact_dash (a : (List UInt8)) : Option (List UInt8) :=
 let x0 := a
 let x2 := ([] : List UInt8)
 let x4 := ((x0 == ([] : List UInt8)))
 if x4 then (
  let x2 := ([45] : List UInt8)
  some x2)
 else (
  some x0)
noncomputable def fact_Fact_Line (a : (Int × Int × Int × Int × Int × (List UInt8) × Int × (List UInt8))) : Option ((List UInt8) × Int) :=
 let x0 := a
 let x2 := ([] : List UInt8)
 Option.bind (fact_Fact_Check (x0.1, x0.2.1, x0.2.2.1, x0.2.2.2.1, x0.2.2.2.2.1, x0.2.2.2.2.2.1, x0.2.2.2.2.2.2.1, x0.2.2.2.2.2.2.2)) fun x7 =>
 let x9 := (x7 != (0 : Int))
 if x9 then (
  let x2 := ([] : List UInt8)
  some (x2, x7))
 else (
  Option.bind (fact_Name x0.2.2.1) fun x13 =>
  let x16 := IntKind.u64.wrap x0.1
  Option.bind (strconv_FormatUint (x16, (10 : Int))) fun x17 =>
  let x20 := IntKind.u64.wrap x0.2.1
  Option.bind (strconv_FormatUint (x20, (10 : Int))) fun x21 =>
  Option.bind (civil_Text x0.2.2.2.1) fun x24 =>
  Option.bind (fact_until x0.2.2.2.2.1) fun x27 =>
  Option.bind (fact_dash x0.2.2.2.2.2.1) fun x30 =>
  Option.bind (strconv_FormatInt (x0.2.2.2.2.2.2.1, (10 : Int))) fun x33 =>
  let l34 := ([x13, x17, x21, x24, x27, x30, x33] : List (List UInt8))
  Option.bind (show Option (((List (List UInt8)) × (Unit) × Unit)) from (
   let x37 := (!(x0.2.2.2.2.2.2.2 == ([] : List UInt8)))
   if x37 then (
       let l41 := ([x0.2.2.2.2.2.2.2] : List (List UInt8))
       Option.bind (if ((l34.length : Int) + (l41.length : Int)) * (16 : Int) ≤ 140737488355328 ∧ (l34.length : Int) + (l41.length : Int) ≤ 4611686018427387904 then some (l34 ++ l41) else none) fun l34 =>
       some (l34, (), ()))
   else (
       some (l34, (), ())))) fun o =>
  let l34 := o.1
  Option.bind (strings_Join (l34, ([32] : List UInt8))) fun x44 =>
  some (x44, (0 : Int)))
noncomputable def fact_Fact_Covers (a : (Int × Int × Int × Int × Int × (List UInt8) × Int × (List UInt8)) × Int) : Option (Bool) :=
 let x0 := a.1
 let x1 := a.2
 Option.bind (fact_Fact_Check (x0.1, x0.2.1, x0.2.2.1, x0.2.2.2.1, x0.2.2.2.2.1, x0.2.2.2.2.2.1, x0.2.2.2.2.2.2.1, x0.2.2.2.2.2.2.2)) fun x7 =>
 let x8 := (x7 != (0 : Int))
 let x10 := (if x8 = false then some () else none)
 Option.bind (if x8 = false then (x10.map (fun z41 => x0.2.2.1)).map some else some none) fun x11 =>
 Option.bind (if x8 = false then ((x11.bind (fun z42 => some (z42, (18 : Int)))).map (fun z44 => (z44.1 == z44.2))).map some else some none) fun x12 =>
 Option.bind (if x8 then some true else x12.map (fun z45 => z45)) fun x13 =>
 if x13 then (
  some false)
 else (
  Option.bind (fact_rules ()) fun x15 =>
  let x15q6 := x15.2.2.2.2.2.2
  let x15q12 := x15q6.2.2.2.2.2.2
  let x15q18 := x15q12.2.2.2.2.2.2
  let x15q24 := x15q18.2.2.2.2.2.2
  let x15q30 := x15q24.2.2.2.2.2.2
  let x15q36 := x15q30.2.2.2.2.2.2
  let x15q42 := x15q36.2.2.2.2.2.2
  let x15q48 := x15q42.2.2.2.2.2.2
  let x15q54 := x15q48.2.2.2.2.2.2
  let x15q60 := x15q54.2.2.2.2.2.2
  let x15q66 := x15q60.2.2.2.2.2.2
  let x15q72 := x15q66.2.2.2.2.2.2
  let x15q78 := x15q72.2.2.2.2.2.2
  let x15q84 := x15q78.2.2.2.2.2.2
  let x15q90 := x15q84.2.2.2.2.2.2
  let x15q96 := x15q90.2.2.2.2.2.2
  let x15q102 := x15q96.2.2.2.2.2.2
  let x15q108 := x15q102.2.2.2.2.2.2
  let x15q114 := x15q108.2.2.2.2.2.2
  let x15q120 := x15q114.2.2.2.2.2.2
  let x15q126 := x15q120.2.2.2.2.2.2
  let x15q132 := x15q126.2.2.2.2.2.2
  Option.bind (lAt ([(x15.1, x15.2.1, x15.2.2.1, x15.2.2.2.1, x15.2.2.2.2.1, x15.2.2.2.2.2.1, x15q6.1), (x15q6.2.1, x15q6.2.2.1, x15q6.2.2.2.1, x15q6.2.2.2.2.1, x15q6.2.2.2.2.2.1, x15q12.1, x15q12.2.1), (x15q12.2.2.1, x15q12.2.2.2.1, x15q12.2.2.2.2.1, x15q12.2.2.2.2.2.1, x15q18.1, x15q18.2.1, x15q18.2.2.1), (x15q18.2.2.2.1, x15q18.2.2.2.2.1, x15q18.2.2.2.2.2.1, x15q24.1, x15q24.2.1, x15q24.2.2.1, x15q24.2.2.2.1), (x15q24.2.2.2.2.1, x15q24.2.2.2.2.2.1, x15q30.1, x15q30.2.1, x15q30.2.2.1, x15q30.2.2.2.1, x15q30.2.2.2.2.1), (x15q30.2.2.2.2.2.1, x15q36.1, x15q36.2.1, x15q36.2.2.1, x15q36.2.2.2.1, x15q36.2.2.2.2.1, x15q36.2.2.2.2.2.1), (x15q42.1, x15q42.2.1, x15q42.2.2.1, x15q42.2.2.2.1, x15q42.2.2.2.2.1, x15q42.2.2.2.2.2.1, x15q48.1), (x15q48.2.1, x15q48.2.2.1, x15q48.2.2.2.1, x15q48.2.2.2.2.1, x15q48.2.2.2.2.2.1, x15q54.1, x15q54.2.1), (x15q54.2.2.1, x15q54.2.2.2.1, x15q54.2.2.2.2.1, x15q54.2.2.2.2.2.1, x15q60.1, x15q60.2.1, x15q60.2.2.1), (x15q60.2.2.2.1, x15q60.2.2.2.2.1, x15q60.2.2.2.2.2.1, x15q66.1, x15q66.2.1, x15q66.2.2.1, x15q66.2.2.2.1), (x15q66.2.2.2.2.1, x15q66.2.2.2.2.2.1, x15q72.1, x15q72.2.1, x15q72.2.2.1, x15q72.2.2.2.1, x15q72.2.2.2.2.1), (x15q72.2.2.2.2.2.1, x15q78.1, x15q78.2.1, x15q78.2.2.1, x15q78.2.2.2.1, x15q78.2.2.2.2.1, x15q78.2.2.2.2.2.1), (x15q84.1, x15q84.2.1, x15q84.2.2.1, x15q84.2.2.2.1, x15q84.2.2.2.2.1, x15q84.2.2.2.2.2.1, x15q90.1), (x15q90.2.1, x15q90.2.2.1, x15q90.2.2.2.1, x15q90.2.2.2.2.1, x15q90.2.2.2.2.2.1, x15q96.1, x15q96.2.1), (x15q96.2.2.1, x15q96.2.2.2.1, x15q96.2.2.2.2.1, x15q96.2.2.2.2.2.1, x15q102.1, x15q102.2.1, x15q102.2.2.1), (x15q102.2.2.2.1, x15q102.2.2.2.2.1, x15q102.2.2.2.2.2.1, x15q108.1, x15q108.2.1, x15q108.2.2.1, x15q108.2.2.2.1), (x15q108.2.2.2.2.1, x15q108.2.2.2.2.2.1, x15q114.1, x15q114.2.1, x15q114.2.2.1, x15q114.2.2.2.1, x15q114.2.2.2.2.1), (x15q114.2.2.2.2.2.1, x15q120.1, x15q120.2.1, x15q120.2.2.1, x15q120.2.2.2.1, x15q120.2.2.2.2.1, x15q120.2.2.2.2.2.1), (x15q126.1, x15q126.2.1, x15q126.2.2.1, x15q126.2.2.2.1, x15q126.2.2.2.2.1, x15q126.2.2.2.2.2.1, x15q132)] : List ((List UInt8) × Bool × Bool × (U5) × Int × Int × (U9))) x0.2.2.1) fun x18 =>
  if x18.2.2.1 then (
   let x23 := (decide (x1 ≥ x0.2.2.2.1))
   let x25 := (if x23 = true then some () else none)
   Option.bind (if x23 = true then (x25.map (fun z66 => x0.2.2.2.2.1)).map some else some none) fun x26 =>
   Option.bind (if x23 = true then ((x26.bind (fun z67 => some (z67, (0 : Int)))).map (fun z69 => (z69.1 == z69.2))).map some else some none) fun x27 =>
   Option.bind (if x23 = true then x27.map some else some none) fun x28 =>
   let x29 := (if x28 = some false then some x1 else none)
   let x30 := (if x28 = some false then some () else none)
   Option.bind (if x28 = some false then (x30.map (fun z70 => x0.2.2.2.2.1)).map some else some none) fun x31 =>
   Option.bind (if x28 = some false then ((x29.bind (fun z71 => x31.map (fun z72 => (z71, z72)))).map (fun z73 => (decide (z73.1 < z73.2)))).map some else some none) fun x32 =>
   Option.bind (if x23 = true then (x28.bind (fun z75 => if z75 then some true else x32.map (fun z74 => z74))).map some else some none) fun x33 =>
   Option.bind (if x23 then x33 else some false) fun x34 =>
   some x34)
  else (
   let x38 := (x1 == x0.2.2.2.1)
   some x38))
noncomputable def law08_awake (a : Unit) : Option (Bool) :=
 Option.bind (fact_Parse ([115, 97, 108, 97, 114, 121, 32, 55, 32, 49, 50, 32, 50, 48, 50, 52, 45, 48, 49, 45, 48, 49, 32, 45, 32, 45, 32, 54, 48, 48, 48, 48, 48, 48] : List UInt8)) fun x6 =>
 Option.bind (fact_Fact_Line (x6.1.1, x6.1.2.1, x6.1.2.2.1, x6.1.2.2.2.1, x6.1.2.2.2.2.1, x6.1.2.2.2.2.2.1, x6.1.2.2.2.2.2.2.1, x6.1.2.2.2.2.2.2.2)) fun x11 =>
 let x15 := (x6.2 == (0 : Int))
 let x17 := (if x15 = true then some x11.2 else none)
 Option.bind (if x15 = true then ((x17.bind (fun z79 => some (z79, (0 : Int)))).map (fun z81 => (z81.1 == z81.2))).map some else some none) fun x18 =>
 Option.bind (if x15 then x18 else some false) fun x19 =>
 let x21 := (if x19 = true then some x11.1 else none)
 Option.bind (if x19 = true then ((x21.bind (fun z82 => some (z82, ([115, 97, 108, 97, 114, 121, 32, 55, 32, 49, 50, 32, 50, 48, 50, 52, 45, 48, 49, 45, 48, 49, 32, 45, 32, 45, 32, 54, 48, 48, 48, 48, 48, 48] : List UInt8)))).map (fun z84 => ((z84.1 == z84.2)))).map some else some none) fun x22 =>
 Option.bind (if x19 then x22 else some false) fun x23 =>
 let x25 := (if x23 = true then some () else none)
 Option.bind (if x23 = true then (x25.map (fun z85 => x6.1.2.2.1)).map some else some none) fun x26 =>
 Option.bind (if x23 = true then ((x26.bind (fun z86 => some (z86, (2 : Int)))).map (fun z88 => (z88.1 == z88.2))).map some else some none) fun x27 =>
 Option.bind (if x23 then x27 else some false) fun x28 =>
 let x30 := (if x28 = true then some () else none)
 Option.bind (if x28 = true then (x30.map (fun z89 => x6.1.1)).map some else some none) fun x31 =>
 Option.bind (if x28 = true then ((x31.bind (fun z90 => some (z90, (7 : Int)))).map (fun z92 => (z92.1 == z92.2))).map some else some none) fun x32 =>
 Option.bind (if x28 then x32 else some false) fun x33 =>
 let x35 := (if x33 = true then some () else none)
 Option.bind (if x33 = true then (x35.map (fun z93 => x6.1.2.1)).map some else some none) fun x36 =>
 Option.bind (if x33 = true then ((x36.bind (fun z94 => some (z94, (12 : Int)))).map (fun z96 => (z96.1 == z96.2))).map some else some none) fun x37 =>
 Option.bind (if x33 then x37 else some false) fun x38 =>
 let x40 := (if x38 = true then some () else none)
 Option.bind (if x38 = true then (x40.map (fun z97 => x6.1.2.2.2.2.2.2.1)).map some else some none) fun x41 =>
 Option.bind (if x38 = true then ((x41.bind (fun z98 => some (z98, (6000000 : Int)))).map (fun z100 => (z100.1 == z100.2))).map some else some none) fun x42 =>
 Option.bind (if x38 then x42 else some false) fun x43 =>
 let x45 := (if x43 = true then some (x6.1.1, x6.1.2.1, x6.1.2.2.1, x6.1.2.2.2.1, x6.1.2.2.2.2.1, x6.1.2.2.2.2.2.1, x6.1.2.2.2.2.2.2.1, x6.1.2.2.2.2.2.2.2) else none)
 Option.bind (if x43 = true then ((x45.map (fun z101 => z101)).bind (fun z102 => fact_Fact_Check z102)).map some else some none) fun x46 =>
 Option.bind (if x43 = true then ((x46.bind (fun z103 => some (z103, (0 : Int)))).map (fun z105 => (z105.1 == z105.2))).map some else some none) fun x47 =>
 Option.bind (if x43 then x47 else some false) fun x48 =>
 let x50 := (if x48 = true then some (x6.1.1, x6.1.2.1, x6.1.2.2.1, x6.1.2.2.2.1, x6.1.2.2.2.2.1, x6.1.2.2.2.2.2.1, x6.1.2.2.2.2.2.2.1, x6.1.2.2.2.2.2.2.2) else none)
 Option.bind (if x48 = true then (((x50.bind (fun z106 => some (z106, (19723 : Int)))).map (fun z108 => (z108.1, z108.2))).bind (fun z109 => fact_Fact_Covers z109)).map some else some none) fun x51 =>
 Option.bind (if x48 then x51 else some false) fun x52 =>
 let x54 := (if x52 = true then some (x6.1.1, x6.1.2.1, x6.1.2.2.1, x6.1.2.2.2.1, x6.1.2.2.2.2.1, x6.1.2.2.2.2.2.1, x6.1.2.2.2.2.2.2.1, x6.1.2.2.2.2.2.2.2) else none)
 Option.bind (if x52 = true then (((x54.bind (fun z110 => some (z110, (19722 : Int)))).map (fun z112 => (z112.1, z112.2))).bind (fun z113 => fact_Fact_Covers z113)).map some else some none) fun x55 =>
 Option.bind (if x52 = true then (x55.map (fun z114 => (!z114))).map some else some none) fun x56 =>
 Option.bind (if x52 then x56 else some false) fun x57 =>
 Option.bind (if x57 = true then (fact_Name (18 : Int)).map some else some none) fun x59 =>
 Option.bind (if x57 = true then ((x59.bind (fun z115 => some (z115, ([99, 97, 110, 99, 101, 108] : List UInt8)))).map (fun z117 => ((z117.1 == z117.2)))).map some else some none) fun x60 =>
 Option.bind (if x57 then x60 else some false) fun x61 =>
 some x61
noncomputable def ref08_Cut_loop1 (s : (List UInt8) × Int × Int × (List (List UInt8)) × (Unit) × Unit) : Option (((List UInt8) × Int × Int × (List (List UInt8)) × (Unit) × Unit) ⊕ (((List (List UInt8)) × (Unit) × Unit))) :=
 let x0 := s.1
 let x1 := s.2.1
 let x6 := s.2.2.1
 let l7 := s.2.2.2.1
 let x10 := (x0.length : Int)
 let x11 := (decide (x6 < x10))
 if x11 then (
  Option.bind (show Option (((List UInt8) × Int × Int × (List (List UInt8)) × (Unit) × Unit)) from (
   Option.bind (sAt x0 x6) fun x16 =>
   let x18 := (x16 == x1)
   if x18 then (
    let l20 := ([([] : List UInt8)] : List (List UInt8))
    Option.bind (if ((l7.length : Int) + (l20.length : Int)) * (16 : Int) ≤ 140737488355328 ∧ (l7.length : Int) + (l20.length : Int) ≤ 4611686018427387904 then some (l7 ++ l20) else none) fun l7 =>
    some (x0, x1, x6, l7, (), ()))
   else (
    let x24 := (l7.length : Int)
    let x25 := IntKind.i64.wrap (x24 - (1 : Int))
    let x28 := (l7.length : Int)
    let x29 := IntKind.i64.wrap (x28 - (1 : Int))
    Option.bind (if 0 ≤ x29 ∧ x29 < (l7.length : Int) then some x29.toNat else none) fun x30 =>
    Option.bind ((l7[x30]?).map (fun y => y)) fun x31 =>
    let x35 := IntKind.i64.wrap (x6 + (1 : Int))
    Option.bind (lSub x0 x6 x35) fun x36 =>
    Option.bind (if x31.length + x36.length ≤ 4611686018427387904 then some (x31 ++ x36) else none) fun x37 =>
    Option.bind (if 0 ≤ x25 ∧ x25 < (l7.length : Int) then some x25.toNat else none) fun x38 =>
    Option.bind ((l7[x38]?).map (fun el16 => l7.set x38 x37)) fun l7 =>
    some (x0, x1, x6, l7, (), ())))) fun o =>
  let x0 := o.1
  let x1 := o.2.1
  let x6 := o.2.2.1
  let l7 := o.2.2.2.1
  let x13 := IntKind.i64.wrap (x6 + (1 : Int))
  some (Sum.inl (x0, x1, x13, l7, (), ())))
 else (
  some (Sum.inr (l7, (), ())))
noncomputable def ref08_Cut (a : (List UInt8) × Int) : Option (List (List UInt8)) :=
 let x0 := a.1
 let x1 := a.2
 let l7 := ([([] : List UInt8)] : List (List UInt8))
 Option.bind (iter ref08_Cut_loop1 (x0, x1, (0 : Int), l7, (), ())) fun o =>
 let l7 := o.1
 some l7
noncomputable def ref08_Tens_loop1 (s : (List UInt8) × Int × Int × Int × Unit) : Option (((List UInt8) × Int × Int × Int × Unit) ⊕ ((Int × Unit) ⊕ (Int × Bool))) :=
 let x0 := s.1
 let x1 := s.2.1
 let x6 := s.2.2.1
 let x7 := s.2.2.2.1
 let x24 := (x0.length : Int)
 let x25 := (decide (x7 < x24))
 if x25 then (
  Option.bind (sAt x0 x7) fun x30 =>
  let x31 := (decide (x30 < (48 : Int)))
  let x33 := (if x31 = false then some x0 else none)
  let x34 := (if x31 = false then some x7 else none)
  Option.bind (if x31 = false then ((x33.bind (fun z383 => x34.map (fun z384 => (z383, z384)))).bind (fun z385 => sAt z385.1 z385.2)).map some else some none) fun x35 =>
  Option.bind (if x31 = false then ((x35.bind (fun z386 => some (z386, (57 : Int)))).map (fun z388 => (decide (z388.1 > z388.2)))).map some else some none) fun x36 =>
  Option.bind (if x31 then some true else x36.map (fun z389 => z389)) fun x37 =>
  if x37 then (
   some (Sum.inr (Sum.inr ((0 : Int), false))))
  else (
   Option.bind (sAt x0 x7) fun x40 =>
   let x41 := IntKind.u64.wrap x40
   let x42 := IntKind.u64.wrap (x41 - (48 : Int))
   Option.bind (if (10 : Int) = 0 then none else some (IntKind.u64.wrap (x1.tdiv (10 : Int)))) fun x45 =>
   let x46 := (decide (x6 > x45))
   let x48 := (if x46 = false then some x6 else none)
   Option.bind (if x46 = false then ((x48.map (fun z447 => ((10 : Int), z447))).map (fun z448 => IntKind.u64.wrap (z448.1 * z448.2))).map some else some none) fun x49 =>
   let x50 := (if x46 = false then some x1 else none)
   let x51 := (if x46 = false then some x42 else none)
   Option.bind (if x46 = false then ((x50.bind (fun z449 => x51.map (fun z450 => (z449, z450)))).map (fun z451 => IntKind.u64.wrap (z451.1 - z451.2))).map some else some none) fun x52 =>
   Option.bind (if x46 = false then ((x49.bind (fun z452 => x52.map (fun z453 => (z452, z453)))).map (fun z454 => (decide (z454.1 > z454.2)))).map some else some none) fun x53 =>
   Option.bind (if x46 then some true else x53.map (fun z455 => z455)) fun x54 =>
   let x56 := (if x54 = false then some x42 else none)
   let x57 := (if x54 = false then some x1 else none)
   Option.bind (if x54 = false then ((x56.bind (fun z456 => x57.map (fun z457 => (z456, z457)))).map (fun z458 => (decide (z458.1 > z458.2)))).map some else some none) fun x58 =>
   Option.bind (if x54 then some true else x58.map (fun z459 => z459)) fun x59 =>
   if x59 then (
    some (Sum.inr (Sum.inr ((0 : Int), false))))
   else (
    let x61 := IntKind.u64.wrap ((10 : Int) * x6)
    let x63 := IntKind.u64.wrap (x61 + x42)
    let x27 := IntKind.i64.wrap (x7 + (1 : Int))
    some (Sum.inl (x0, x1, x63, x27, ())))))
 else (
  some (Sum.inr (Sum.inl (x6, ()))))
noncomputable def ref08_Tens (a : (List UInt8) × Int) : Option (Int × Bool) :=
 let x0 := a.1
 let x1 := a.2
 let x10 := (x0.length : Int)
 let x11 := (x10 == (0 : Int))
 let x13 := (if x11 = false then some x0 else none)
 Option.bind (if x11 = false then (x13.map (fun z49 => (z49.length : Int))).map some else some none) fun x14 =>
 Option.bind (if x11 = false then ((x14.bind (fun z50 => some (z50, (1 : Int)))).map (fun z52 => (decide (z52.1 > z52.2)))).map some else some none) fun x15 =>
 Option.bind (if x11 = false then x15.map some else some none) fun x16 =>
 let x17 := (if x16 = some true then some x0 else none)
 Option.bind (if x16 = some true then ((x17.bind (fun z53 => some (z53, (0 : Int)))).bind (fun z55 => sAt z55.1 z55.2)).map some else some none) fun x18 =>
 Option.bind (if x16 = some true then ((x18.bind (fun z56 => some (z56, (48 : Int)))).map (fun z58 => (z58.1 == z58.2))).map some else some none) fun x19 =>
 Option.bind (if x11 = false then (x16.bind (fun z59 => if z59 then x19 else some false)).map some else some none) fun x20 =>
 Option.bind (if x11 then some true else x20.map (fun z60 => z60)) fun x21 =>
 if x21 then (
  some ((0 : Int), false))
 else (
  Option.bind (iter ref08_Tens_loop1 (x0, x1, (0 : Int), (0 : Int), ())) fun o =>
  match o with
  | Sum.inl p460 => (
   let x6 := p460.1
   some (x6, true))
  | Sum.inr q461 => (
   some q461))
noncomputable def ref01_Parse_loop1 (s : (List UInt8) × (Bool) × Int × Int × Unit) : Option (((List UInt8) × (Bool) × Int × Int × Unit) ⊕ (((List UInt8) × (Bool) × Int × Unit) ⊕ (Int × Bool))) :=
 let x0 := s.1
 let x4 := s.2.1
 let x5 := s.2.2.1
 let x6 := s.2.2.2.1
 let x36 := (x0.length : Int)
 let x37 := (decide (x6 < x36))
 if x37 then (
  Option.bind (show Option (((List UInt8) × (Bool) × Int × Int × Unit) ⊕ (Int × Bool)) from (
   let x42 := (x0.length : Int)
   let x43 := IntKind.i64.wrap (x42 - (3 : Int))
   let x44 := (x6 == x43)
   if x44 then (
    some (Sum.inl (x0, x4, x5, x6, ())))
   else (
    Option.bind (sAt x0 x6) fun x47 =>
    let x48 := (decide (x47 < (48 : Int)))
    let x50 := (if x48 = false then some x0 else none)
    let x51 := (if x48 = false then some x6 else none)
    Option.bind (if x48 = false then ((x50.bind (fun z225 => x51.map (fun z226 => (z225, z226)))).bind (fun z227 => sAt z227.1 z227.2)).map some else some none) fun x52 =>
    Option.bind (if x48 = false then ((x52.bind (fun z228 => some (z228, (57 : Int)))).map (fun z230 => (decide (z230.1 > z230.2)))).map some else some none) fun x53 =>
    Option.bind (if x48 then some true else x53.map (fun z231 => z231)) fun x54 =>
    if x54 then (
     some (Sum.inr ((0 : Int), false)))
    else (
     let x56 := IntKind.i64.wrap ((10 : Int) * x5)
     Option.bind (sAt x0 x6) fun x59 =>
     let x60 := IntKind.u8.wrap (x59 - (48 : Int))
     let x61 := IntKind.i64.wrap x60
     let x62 := IntKind.i64.wrap (x56 + x61)
     some (Sum.inl (x0, x4, x62, x6, ())))))) fun o =>
  match o with
  | Sum.inl p232 => (
   let x0 := p232.1
   let x4 := p232.2.1
   let x5 := p232.2.2.1
   let x6 := p232.2.2.2.1
   let x39 := IntKind.i64.wrap (x6 + (1 : Int))
   some (Sum.inl (x0, x4, x5, x39, ())))
  | Sum.inr q233 => (
   some (Sum.inr (Sum.inr q233))))
 else (
  some (Sum.inr (Sum.inl (x0, x4, x5, ()))))
noncomputable def ref01_Parse (a : (List UInt8)) : Option (Int × Bool) :=
 let x0 := a
 let x8 := (x0.length : Int)
 let x9 := (decide (x8 > (0 : Int)))
 let x11 := (if x9 = true then some x0 else none)
 Option.bind (if x9 = true then ((x11.bind (fun z13 => some (z13, (0 : Int)))).bind (fun z15 => sAt z15.1 z15.2)).map some else some none) fun x12 =>
 Option.bind (if x9 = true then ((x12.bind (fun z16 => some (z16, (45 : Int)))).map (fun z18 => (z18.1 == z18.2))).map some else some none) fun x13 =>
 Option.bind (if x9 then x13 else some false) fun x14 =>
 Option.bind (show Option (((List UInt8) × (Bool) × Unit)) from (
  if x14 then (
   Option.bind (lSub x0 (1 : Int) (x0.length : Int)) fun x17 =>
   some (x17, x14, ()))
  else (
   some (x0, x14, ())))) fun o =>
 let x0 := o.1
 let x4 := o.2.1
 let x19 := (x0.length : Int)
 let x20 := (decide (x19 < (4 : Int)))
 let x22 := (if x20 = false then some x0 else none)
 Option.bind (if x20 = false then (x22.map (fun z83 => (z83.length : Int))).map some else some none) fun x23 =>
 Option.bind (if x20 = false then ((x23.bind (fun z84 => some (z84, (17 : Int)))).map (fun z86 => (decide (z86.1 > z86.2)))).map some else some none) fun x24 =>
 Option.bind (if x20 then some true else x24.map (fun z87 => z87)) fun x25 =>
 let x27 := (if x25 = false then some x0 else none)
 let x28 := (if x25 = false then some x0 else none)
 Option.bind (if x25 = false then (x28.map (fun z88 => (z88.length : Int))).map some else some none) fun x29 =>
 Option.bind (if x25 = false then ((x29.bind (fun z89 => some (z89, (3 : Int)))).map (fun z91 => IntKind.i64.wrap (z91.1 - z91.2))).map some else some none) fun x30 =>
 Option.bind (if x25 = false then ((x27.bind (fun z92 => x30.map (fun z93 => (z92, z93)))).bind (fun z94 => sAt z94.1 z94.2)).map some else some none) fun x31 =>
 Option.bind (if x25 = false then ((x31.bind (fun z95 => some (z95, (46 : Int)))).map (fun z97 => (z97.1 != z97.2))).map some else some none) fun x32 =>
 Option.bind (if x25 then some true else x32.map (fun z98 => z98)) fun x33 =>
 if x33 then (
  some ((0 : Int), false))
 else (
  Option.bind (iter ref01_Parse_loop1 (x0, x4, (0 : Int), (0 : Int), ())) fun o =>
  match o with
  | Sum.inl p234 => (
   let x0 := p234.1
   let x4 := p234.2.1
   let x5 := p234.2.2.1
   Option.bind (sAt x0 (0 : Int)) fun x64 =>
   let x65 := (x64 == (48 : Int))
   let x67 := (if x65 = true then some x0 else none)
   Option.bind (if x65 = true then (x67.map (fun z288 => (z288.length : Int))).map some else some none) fun x68 =>
   Option.bind (if x65 = true then ((x68.bind (fun z289 => some (z289, (4 : Int)))).map (fun z291 => (decide (z291.1 > z291.2)))).map some else some none) fun x69 =>
   Option.bind (if x65 then x69 else some false) fun x70 =>
   let x72 := (if x70 = false then some x5 else none)
   Option.bind (if x70 = false then ((x72.bind (fun z292 => some (z292, (1125899906842624 : Int)))).map (fun z294 => (decide (z294.1 > z294.2)))).map some else some none) fun x73 =>
   Option.bind (if x70 then some true else x73.map (fun z295 => z295)) fun x74 =>
   let x76 := (if x74 = false then some x4 else none)
   Option.bind (if x74 = false then x76.map some else some none) fun x77 =>
   let x78 := (if x77 = some true then some x5 else none)
   Option.bind (if x77 = some true then ((x78.bind (fun z296 => some (z296, (0 : Int)))).map (fun z298 => (z298.1 == z298.2))).map some else some none) fun x79 =>
   Option.bind (if x74 = false then (x77.bind (fun z299 => if z299 then x79 else some false)).map some else some none) fun x80 =>
   Option.bind (if x74 then some true else x80.map (fun z300 => z300)) fun x81 =>
   if x81 then (
       some ((0 : Int), false))
   else (
       if x4 then (
        let x84 := IntKind.i64.wrap (0 - x5)
        some (x84, true))
       else (
        some (x5, true))))
  | Sum.inr q235 => (
   some q235))
noncomputable def ref08_amount (a : (List UInt8)) : Option (Bool) :=
 let x0 := a
 Option.bind (ref01_Parse x0) fun x7 =>
 let x12 := (if x7.2 = true then some x7.1 else none)
 Option.bind (if x7.2 = true then ((x12.bind (fun z7 => some (z7, (0 : Int)))).map (fun z9 => (decide (z9.1 ≥ z9.2)))).map some else some none) fun x13 =>
 Option.bind (if x7.2 then x13 else some false) fun x14 =>
 some x14
noncomputable def ref02_digits_loop1 (s : (List UInt8) × Int × Int × Unit) : Option (((List UInt8) × Int × Int × Unit) ⊕ ((Int × Unit))) :=
 let x0 := s.1
 let x1 := s.2.1
 let x5 := s.2.2.1
 let x8 := IntKind.i64.wrap (x1 + x5)
 let x10 := (x0.length : Int)
 let x11 := (decide (x8 < x10))
 let x13 := (if x11 = true then some x0 else none)
 let x14 := (if x11 = true then some x1 else none)
 let x15 := (if x11 = true then some x5 else none)
 Option.bind (if x11 = true then ((x14.bind (fun z289 => x15.map (fun z290 => (z289, z290)))).map (fun z291 => IntKind.i64.wrap (z291.1 + z291.2))).map some else some none) fun x16 =>
 Option.bind (if x11 = true then ((x13.bind (fun z292 => x16.map (fun z293 => (z292, z293)))).bind (fun z294 => sAt z294.1 z294.2)).map some else some none) fun x17 =>
 Option.bind (if x11 = true then ((x17.bind (fun z295 => some (z295, (48 : Int)))).map (fun z297 => (decide (z297.1 ≥ z297.2)))).map some else some none) fun x18 =>
 Option.bind (if x11 then x18 else some false) fun x19 =>
 let x21 := (if x19 = true then some x0 else none)
 let x22 := (if x19 = true then some x1 else none)
 let x23 := (if x19 = true then some x5 else none)
 Option.bind (if x19 = true then ((x22.bind (fun z298 => x23.map (fun z299 => (z298, z299)))).map (fun z300 => IntKind.i64.wrap (z300.1 + z300.2))).map some else some none) fun x24 =>
 Option.bind (if x19 = true then ((x21.bind (fun z301 => x24.map (fun z302 => (z301, z302)))).bind (fun z303 => sAt z303.1 z303.2)).map some else some none) fun x25 =>
 Option.bind (if x19 = true then ((x25.bind (fun z304 => some (z304, (57 : Int)))).map (fun z306 => (decide (z306.1 ≤ z306.2)))).map some else some none) fun x26 =>
 Option.bind (if x19 then x26 else some false) fun x27 =>
 if x27 then (
  let x29 := IntKind.i64.wrap (x5 + (1 : Int))
  some (Sum.inl (x0, x1, x29, ())))
 else (
  some (Sum.inr (x5, ())))
noncomputable def ref02_digits (a : (List UInt8) × Int) : Option (Int) :=
 let x0 := a.1
 let x1 := a.2
 Option.bind (iter ref02_digits_loop1 (x0, x1, (0 : Int), ())) fun o =>
 let x5 := o.1
 some x5
noncomputable def ref02_Parse_loop1 (s : (List UInt8) × Int × Int × Int × Int × Int × Int × Unit) : Option (((List UInt8) × Int × Int × Int × Int × Int × Int × Unit) ⊕ ((Int × Int × Unit))) :=
 let x0 := s.1
 let x4 := s.2.1
 let x5 := s.2.2.1
 let x7 := s.2.2.2.1
 let x8 := s.2.2.2.2.1
 let x10 := s.2.2.2.2.2.1
 let x11 := s.2.2.2.2.2.2.1
 let x105 := IntKind.i64.wrap (x4 + x5)
 let x106 := IntKind.i64.wrap (x105 + (1 : Int))
 let x108 := IntKind.i64.wrap (x106 + x7)
 let x109 := (decide (x11 < x108))
 if x109 then (
  Option.bind (sAt x0 x11) fun x116 =>
  let x117 := IntKind.u64.wrap x116
  let x118 := IntKind.u64.wrap (x117 - (48 : Int))
  let x119 := IntKind.u64.wrap (x10 * x118)
  let x120 := IntKind.u64.wrap (x8 + x119)
  Option.bind (if (10 : Int) = 0 then none else some (IntKind.u64.wrap (x10.tdiv (10 : Int)))) fun x122 =>
  let x111 := IntKind.i64.wrap (x11 + (1 : Int))
  some (Sum.inl (x0, x4, x5, x7, x120, x122, x111, ())))
 else (
  some (Sum.inr (x4, x8, ())))
noncomputable def ref02_Parse_loop2 (s : (List UInt8) × Int × Int × Int × Int × Int × Unit) : Option (((List UInt8) × Int × Int × Int × Int × Int × Unit) ⊕ (((List UInt8) × Int × Int × Int × Int × Unit))) :=
 let x0 := s.1
 let x4 := s.2.1
 let x5 := s.2.2.1
 let x7 := s.2.2.2.1
 let x8 := s.2.2.2.2.1
 let x9 := s.2.2.2.2.2.1
 let x82 := IntKind.i64.wrap (x4 + x5)
 let x83 := (decide (x9 < x82))
 if x83 then (
  Option.bind (show Option (((List UInt8) × Int × Int × Int × Int × Int × Unit)) from (
   let x87 := (decide (x8 < (1000000 : Int)))
   if x87 then (
    let x89 := IntKind.u64.wrap ((10 : Int) * x8)
    Option.bind (sAt x0 x9) fun x92 =>
    let x93 := IntKind.u64.wrap x92
    let x94 := IntKind.u64.wrap (x89 + x93)
    let x95 := IntKind.u64.wrap (x94 - (48 : Int))
    some (x0, x4, x5, x7, x95, x9, ()))
   else (
    some (x0, x4, x5, x7, x8, x9, ())))) fun o =>
  let x0 := o.1
  let x4 := o.2.1
  let x5 := o.2.2.1
  let x7 := o.2.2.2.1
  let x8 := o.2.2.2.2.1
  let x9 := o.2.2.2.2.2.1
  let x85 := IntKind.i64.wrap (x9 + (1 : Int))
  some (Sum.inl (x0, x4, x5, x7, x8, x85, ())))
 else (
  some (Sum.inr (x0, x4, x5, x7, x8, ())))
noncomputable def ref02_Parse (a : (List UInt8)) : Option (Int × Int) :=
 let x0 := a
 let x13 := ((x0 == ([] : List UInt8)))
 if x13 then (
  some ((0 : Int), (10 : Int)))
 else (
  Option.bind (show Option (((List UInt8) × Int × Unit)) from (
   Option.bind (sAt x0 (0 : Int)) fun x15 =>
   let x16 := (x15 == (45 : Int))
   if x16 then (
       some (x0, (1 : Int), ()))
   else (
       some (x0, (0 : Int), ())))) fun o =>
  let x0 := o.1
  let x4 := o.2.1
  Option.bind (ref02_digits (x0, x4)) fun x19 =>
  let x21 := (x19 == (0 : Int))
  let x23 := (if x21 = false then some x19 else none)
  Option.bind (if x21 = false then ((x23.bind (fun z45 => some (z45, (1 : Int)))).map (fun z47 => (decide (z47.1 > z47.2)))).map some else some none) fun x24 =>
  Option.bind (if x21 = false then x24.map some else some none) fun x25 =>
  let x26 := (if x25 = some true then some x0 else none)
  let x27 := (if x25 = some true then some x4 else none)
  Option.bind (if x25 = some true then ((x26.bind (fun z48 => x27.map (fun z49 => (z48, z49)))).bind (fun z50 => sAt z50.1 z50.2)).map some else some none) fun x28 =>
  Option.bind (if x25 = some true then ((x28.bind (fun z51 => some (z51, (48 : Int)))).map (fun z53 => (z53.1 == z53.2))).map some else some none) fun x29 =>
  Option.bind (if x21 = false then (x25.bind (fun z54 => if z54 then x29 else some false)).map some else some none) fun x30 =>
  Option.bind (if x21 then some true else x30.map (fun z55 => z55)) fun x31 =>
  if x31 then (
   some ((0 : Int), (3 : Int)))
  else (
   let x34 := IntKind.i64.wrap (x4 + x19)
   Option.bind (show Option (((List UInt8) × Int × Int × Int × Int × Unit) ⊕ (Int × Int)) from (
       let x37 := (x0.length : Int)
       let x38 := (decide (x34 < x37))
       let x40 := (if x38 = true then some x0 else none)
       let x41 := (if x38 = true then some x34 else none)
       Option.bind (if x38 = true then ((x40.bind (fun z108 => x41.map (fun z109 => (z108, z109)))).bind (fun z110 => sAt z110.1 z110.2)).map some else some none) fun x42 =>
       Option.bind (if x38 = true then ((x42.bind (fun z111 => some (z111, (46 : Int)))).map (fun z113 => (z113.1 == z113.2))).map some else some none) fun x43 =>
       Option.bind (if x38 then x43 else some false) fun x44 =>
       if x44 then (
        let x47 := IntKind.i64.wrap (x34 + (1 : Int))
        Option.bind (ref02_digits (x0, x47)) fun x48 =>
        let x50 := (x48 == (0 : Int))
        let x52 := (if x50 = false then some x48 else none)
        Option.bind (if x50 = false then ((x52.bind (fun z170 => some (z170, (4 : Int)))).map (fun z172 => (decide (z172.1 > z172.2)))).map some else some none) fun x53 =>
        Option.bind (if x50 then some true else x53.map (fun z173 => z173)) fun x54 =>
        let x56 := (if x54 = false then some x0 else none)
        let x57 := (if x54 = false then some x34 else none)
        let x58 := (if x54 = false then some x48 else none)
        Option.bind (if x54 = false then ((x57.bind (fun z174 => x58.map (fun z175 => (z174, z175)))).map (fun z176 => IntKind.i64.wrap (z176.1 + z176.2))).map some else some none) fun x59 =>
        Option.bind (if x54 = false then ((x56.bind (fun z177 => x59.map (fun z178 => (z177, z178)))).bind (fun z179 => sAt z179.1 z179.2)).map some else some none) fun x60 =>
        Option.bind (if x54 = false then ((x60.bind (fun z180 => some (z180, (48 : Int)))).map (fun z182 => (z182.1 == z182.2))).map some else some none) fun x61 =>
        Option.bind (if x54 then some true else x61.map (fun z183 => z183)) fun x62 =>
        if x62 then (
         some (Sum.inr ((0 : Int), (3 : Int))))
        else (
         let x64 := IntKind.i64.wrap (x34 + (1 : Int))
         let x66 := IntKind.i64.wrap (x64 + x48)
         some (Sum.inl (x0, x4, x19, x66, x48, ()))))
       else (
        some (Sum.inl (x0, x4, x19, x34, (0 : Int), ()))))) fun o =>
   match o with
   | Sum.inl p184 => (
       let x0 := p184.1
       let x4 := p184.2.1
       let x5 := p184.2.2.1
       let x6 := p184.2.2.2.1
       let x7 := p184.2.2.2.2.1
       let x69 := (x0.length : Int)
       let x70 := IntKind.i64.wrap (x69 - (1 : Int))
       let x71 := (x6 != x70)
       let x73 := (if x71 = false then some x0 else none)
       let x74 := (if x71 = false then some x6 else none)
       Option.bind (if x71 = false then ((x73.bind (fun z214 => x74.map (fun z215 => (z214, z215)))).bind (fun z216 => sAt z216.1 z216.2)).map some else some none) fun x75 =>
       Option.bind (if x71 = false then ((x75.bind (fun z217 => some (z217, (37 : Int)))).map (fun z219 => (z219.1 != z219.2))).map some else some none) fun x76 =>
       Option.bind (if x71 then some true else x76.map (fun z220 => z220)) fun x77 =>
       if x77 then (
        some ((0 : Int), (3 : Int)))
       else (
        Option.bind (iter ref02_Parse_loop2 (x0, x4, x5, x7, (0 : Int), x4, ())) fun o =>
        let x0 := o.1
        let x4 := o.2.1
        let x5 := o.2.2.1
        let x7 := o.2.2.2.1
        let x8 := o.2.2.2.2.1
        let x97 := IntKind.u64.wrap ((10000 : Int) * x8)
        let x100 := IntKind.i64.wrap (x4 + x5)
        let x101 := IntKind.i64.wrap (x100 + (1 : Int))
        Option.bind (iter ref02_Parse_loop1 (x0, x4, x5, x7, x97, (1000 : Int), x101, ())) fun o =>
        let x4 := o.1
        let x8 := o.2.1
        let x124 := (x8 == (0 : Int))
        let x126 := (if x124 = true then some x4 else none)
        Option.bind (if x124 = true then ((x126.bind (fun z233 => some (z233, (1 : Int)))).map (fun z235 => (z235.1 == z235.2))).map some else some none) fun x127 =>
        Option.bind (if x124 then x127 else some false) fun x128 =>
        if x128 then (
         some ((0 : Int), (3 : Int)))
        else (
         let x130 := (decide (x8 > (1000000000 : Int)))
         if x130 then (
             some ((0 : Int), (2 : Int)))
         else (
             let x132 := (x4 == (1 : Int))
             if x132 then (
              let x134 := IntKind.i64.wrap x8
              let x135 := IntKind.i64.wrap (0 - x134)
              some (x135, (0 : Int)))
             else (
              let x137 := IntKind.i64.wrap x8
              some (x137, (0 : Int)))))))
   | Sum.inr q185 => (
       some q185)))
noncomputable def ref08_order (a : (List UInt8)) : Option (Bool) :=
 let x0 := a
 Option.bind (ref08_Cut (x0, (32 : Int))) fun x9 =>
 let x11 := (x9.length : Int)
 let x12 := (x11 != (4 : Int))
 let x14 := (if x12 = false then some x9 else none)
 Option.bind (if x12 = false then ((x14.bind (fun z65 => some (z65, (2 : Int)))).bind (fun z67 => (lAt z67.1 z67.2).map (fun y => y))).map some else some none) fun x15 =>
 Option.bind (if x12 = false then (x15.map (fun z68 => z68)).map some else some none) fun x16 =>
 Option.bind (if x12 = false then ((x16.map (fun z69 => z69)).bind (fun z70 => ref08_amount z70)).map some else some none) fun x17 =>
 Option.bind (if x12 = false then (x17.map (fun z71 => (!z71))).map some else some none) fun x18 =>
 Option.bind (if x12 then some true else x18.map (fun z72 => z72)) fun x19 =>
 let x21 := (if x19 = false then some x9 else none)
 Option.bind (if x19 = false then ((x21.bind (fun z73 => some (z73, (3 : Int)))).bind (fun z75 => (lAt z75.1 z75.2).map (fun y => y))).map some else some none) fun x22 =>
 Option.bind (if x19 = false then (x22.map (fun z76 => z76)).map some else some none) fun x23 =>
 Option.bind (if x19 = false then ((x23.map (fun z77 => z77)).bind (fun z78 => ref08_amount z78)).map some else some none) fun x24 =>
 Option.bind (if x19 = false then (x24.map (fun z79 => (!z79))).map some else some none) fun x25 =>
 Option.bind (if x19 then some true else x25.map (fun z80 => z80)) fun x26 =>
 if x26 then (
  some false)
 else (
  Option.bind ((lAt x9 (0 : Int)).map (fun y => y)) fun x29 =>
  Option.bind (ref08_Tens (x29, (99 : Int))) fun x31 =>
  Option.bind ((lAt x9 (1 : Int)).map (fun y => y)) fun x36 =>
  Option.bind (ref02_Parse x36) fun x38 =>
  let x43 := (if x31.2 = true then some x38.2 else none)
  Option.bind (if x31.2 = true then ((x43.bind (fun z99 => some (z99, (0 : Int)))).map (fun z101 => (z101.1 == z101.2))).map some else some none) fun x44 =>
  Option.bind (if x31.2 then x44 else some false) fun x45 =>
  let x47 := (if x45 = true then some x38.1 else none)
  Option.bind (if x45 = true then ((x47.bind (fun z102 => some (z102, (0 : Int)))).map (fun z104 => (decide (z104.1 ≥ z104.2)))).map some else some none) fun x48 =>
  Option.bind (if x45 then x48 else some false) fun x49 =>
  let x51 := (if x49 = true then some x38.1 else none)
  Option.bind (if x49 = true then ((x51.bind (fun z105 => some (z105, (1000000 : Int)))).map (fun z107 => (decide (z107.1 ≤ z107.2)))).map some else some none) fun x52 =>
  Option.bind (if x49 then x52 else some false) fun x53 =>
  some x53)
noncomputable def fact_Fact_Same (a : (Int × Int × Int × Int × Int × (List UInt8) × Int × (List UInt8)) × (Int × Int × Int × Int × Int × (List UInt8) × Int × (List UInt8))) : Option (Bool) :=
 let x0 := a.1
 let x1 := a.2
 let x10 := ((x0.1 == x0.1) && ((x0.2.1 == x1.2.1) && ((x0.2.2.1 == x1.2.2.1) && ((x0.2.2.2.1 == x1.2.2.2.1) && ((x0.2.2.2.2.1 == x1.2.2.2.2.1) && ((x0.2.2.2.2.2.1 == x1.2.2.2.2.2.1) && ((x0.2.2.2.2.2.2.1 == x1.2.2.2.2.2.2.1) && (x0.2.2.2.2.2.2.2 == x1.2.2.2.2.2.2.2))))))))
 some x10
noncomputable def law08_FactIDs (a : (Int × Int × Int × Int × Int × (List UInt8) × Int × (List UInt8)) × Int × Int) : Option (Bool) :=
 let x0 := a.1
 let x1 := a.2.1
 let x2 := a.2.2
 Option.bind (law08_awake ()) fun x14 =>
 let x15 := (!x14)
 if x15 then (
  some false)
 else (
  let x18 := (x0.2.2.2.2.2.1.length : Int)
  let x19 := (decide (x18 > (300 : Int)))
  let x21 := (if x19 = false then some () else none)
  Option.bind (if x19 = false then (x21.map (fun z25 => x0.2.2.2.2.2.2.2)).map some else some none) fun x22 =>
  Option.bind (if x19 = false then (x22.map (fun z26 => (z26.length : Int))).map some else some none) fun x23 =>
  Option.bind (if x19 = false then ((x23.bind (fun z27 => some (z27, (4200 : Int)))).map (fun z29 => (decide (z29.1 > z29.2)))).map some else some none) fun x24 =>
  Option.bind (if x19 then some true else x24.map (fun z30 => z30)) fun x25 =>
  if x25 then (
   some true)
  else (
   Option.bind (fact_Fact_Line (x1, x0.2.1, x0.2.2.1, x0.2.2.2.1, x0.2.2.2.2.1, x0.2.2.2.2.2.1, x0.2.2.2.2.2.2.1, x0.2.2.2.2.2.2.2)) fun x33 =>
   Option.bind (fact_Fact_Line (x2, x0.2.1, x0.2.2.1, x0.2.2.2.1, x0.2.2.2.2.1, x0.2.2.2.2.2.1, x0.2.2.2.2.2.2.1, x0.2.2.2.2.2.2.2)) fun x38 =>
   let x43 := (x33.2 != x38.2)
   let x45 := (if x43 = false then some (x1, x0.2.1, x0.2.2.1, x0.2.2.2.1, x0.2.2.2.2.1, x0.2.2.2.2.2.1, x0.2.2.2.2.2.2.1, x0.2.2.2.2.2.2.2) else none)
   Option.bind (if x43 = false then ((x45.map (fun z87 => z87)).bind (fun z88 => fact_Fact_Check z88)).map some else some none) fun x46 =>
   let x47 := (if x43 = false then some (x2, x0.2.1, x0.2.2.1, x0.2.2.2.1, x0.2.2.2.2.1, x0.2.2.2.2.2.1, x0.2.2.2.2.2.2.1, x0.2.2.2.2.2.2.2) else none)
   Option.bind (if x43 = false then ((x47.map (fun z89 => z89)).bind (fun z90 => fact_Fact_Check z90)).map some else some none) fun x48 =>
   Option.bind (if x43 = false then ((x46.bind (fun z91 => x48.map (fun z92 => (z91, z92)))).map (fun z93 => (z93.1 != z93.2))).map some else some none) fun x49 =>
   Option.bind (if x43 then some true else x49.map (fun z94 => z94)) fun x50 =>
   let x52 := (if x50 = false then some (x1, x0.2.1, x0.2.2.1, x0.2.2.2.1, x0.2.2.2.2.1, x0.2.2.2.2.2.1, x0.2.2.2.2.2.2.1, x0.2.2.2.2.2.2.2) else none)
   let x53 := (if x50 = false then some (x2, x0.2.1, x0.2.2.1, x0.2.2.2.1, x0.2.2.2.2.1, x0.2.2.2.2.2.1, x0.2.2.2.2.2.2.1, x0.2.2.2.2.2.2.2) else none)
   Option.bind (if x50 = false then (((x52.bind (fun z95 => x53.map (fun z96 => (z95, z96)))).map (fun z97 => (z97.1, z97.2))).bind (fun z98 => fact_Fact_Same z98)).map some else some none) fun x54 =>
   Option.bind (if x50 = false then (x54.map (fun z99 => (!z99))).map some else some none) fun x55 =>
   Option.bind (if x50 then some true else x55.map (fun z100 => z100)) fun x56 =>
   if x56 then (
       some false)
   else (
       let x58 := (x33.2 != (0 : Int))
       if x58 then (
        let x60 := ((x33.1 == ([] : List UInt8)))
        let x62 := (if x60 = true then some x38.1 else none)
        Option.bind (if x60 = true then ((x62.bind (fun z113 => some (z113, ([] : List UInt8)))).map (fun z115 => ((z115.1 == z115.2)))).map some else some none) fun x63 =>
        Option.bind (if x60 then x63 else some false) fun x64 =>
        some x64)
       else (
        Option.bind (fact_Parse x33.1) fun x67 =>
        let x71 := (x67.2 == (0 : Int))
        let x73 := (if x71 = true then some () else none)
        Option.bind (if x71 = true then (x73.map (fun z142 => x67.1.1)).map some else some none) fun x74 =>
        let x75 := (if x71 = true then some x1 else none)
        Option.bind (if x71 = true then ((x74.bind (fun z143 => x75.map (fun z144 => (z143, z144)))).map (fun z145 => (z145.1 == z145.2))).map some else some none) fun x76 =>
        Option.bind (if x71 then x76 else some false) fun x77 =>
        let x79 := (if x77 = true then some x33.1 else none)
        let x80 := (if x77 = true then some x38.1 else none)
        Option.bind (if x77 = true then ((x79.bind (fun z146 => x80.map (fun z147 => (z146, z147)))).map (fun z148 => ((z148.1 == z148.2)))).map some else some none) fun x81 =>
        let x82 := (if x77 = true then some x1 else none)
        let x83 := (if x77 = true then some x2 else none)
        Option.bind (if x77 = true then ((x82.bind (fun z149 => x83.map (fun z150 => (z149, z150)))).map (fun z151 => (z151.1 == z151.2))).map some else some none) fun x84 =>
        Option.bind (if x77 = true then ((x81.bind (fun z152 => x84.map (fun z153 => (z152, z153)))).map (fun z154 => (z154.1 == z154.2))).map some else some none) fun x85 =>
        Option.bind (if x77 then x85 else some false) fun x86 =>
        some x86))))
end WB
namespace WB
open Go Go.RowKit
set_option linter.unusedSimpArgs false
set_option linter.unusedVariables false
def kinds8 : List (List UInt8) := [[], [101, 109, 112, 108, 111, 121], [115, 97, 108, 97, 114, 121], [112, 97, 114, 116], [104, 111, 117, 114, 115], [99, 111, 115, 116], [115, 104, 101, 101, 116], [97, 98, 115, 101, 110, 116], [98, 111, 110, 117, 115], [101, 110, 114, 111, 108], [100, 101, 100, 117, 99, 116], [99, 97, 114, 100], [97, 116, 116, 97, 99, 104], [98, 97, 110, 107], [114, 117, 108, 101], [101, 108, 101, 109, 101, 110, 116], [104, 111, 108, 105, 100, 97, 121], [103, 114, 97, 110, 116], [99, 97, 110, 99, 101, 108]]
def kname (k : Int) : List UInt8 := if 1 ≤ k ∧ k ≤ 18 then kinds8.getD k.toNat [] else []
theorem fact_known_eq (k : Int) : fact_known k = some (decide (1 ≤ k ∧ k ≤ 18)) := by
 unfold fact_known
 simp only [gPi, gSS, gPb, gPm, gPs, gM, gM2, gAnd, gOr, gAndI, gOrI, gAA, gAO, gOA, gOO, gAAf, gAOf, gOAf, gOOf, gAMf, gOMf, gId]
 by_cases h1 : 1 ≤ k <;> by_cases h2 : k ≤ 18 <;> simp [h1, h2]
theorem fact_Name_eq (k : Int) : fact_Name k = some (kname k) := by
 by_cases h : 1 ≤ k ∧ k ≤ 18
 ·have hk : k = 1 ∨ k = 2 ∨ k = 3 ∨ k = 4 ∨ k = 5 ∨ k = 6 ∨ k = 7 ∨ k = 8 ∨ k = 9 ∨ k = 10 ∨ k = 11 ∨ k = 12 ∨ k = 13 ∨ k = 14 ∨ k = 15 ∨ k = 16 ∨ k = 17 ∨ k = 18 := by omega
  rcases hk with rfl | rfl | rfl | rfl | rfl | rfl | rfl | rfl | rfl | rfl | rfl | rfl | rfl | rfl | rfl | rfl | rfl | rfl <;> rfl
 ·unfold fact_Name
  simp only [fact_known_eq, Option.bind_some, decide_eq_false h, Bool.not_false, if_true]
  unfold kname
  rw [if_neg h]
theorem kname_inj0 : ∀ i : Nat, i < 19 → ∀ j : Nat, j < 19 → kname (i : Int) = kname (j : Int) → 1 ≤ i → i = j := by decide
end WB

