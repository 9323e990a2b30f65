/-
 FUNCTIONS READ OVER PLAIN DATA (printed by wip/genseat.py).
-/
import Derived.Test.YtpkakpifnjiebaaGreatDoorK4
import Derived.Test.YtpkakpifnjiebaaGreatDoorK6
import Derived.Test.YtpkakpifnjiebaaGreatDoorK7
set_option linter.unusedVariables false
set_option linter.unusedSimpArgs false
namespace WB
open Go Go.RowKit
set_option linter.unusedVariables false
noncomputable def paper_dated (a : Int × Int) : Option (Int) :=
 let x0 := a.1
 let x1 := a.2
 let x6 := (decide (x0 < (1 : Int)))
 let x8 := (if x6 = false then some x1 else none)
 Option.bind (if x6 = false then ((x8.bind (fun z33 => some (z33, (1900 : Int)))).map (fun z35 => (decide (z35.1 < z35.2)))).map some else some none) fun x9 =>
 Option.bind (if x6 then some true else x9.map (fun z36 => z36)) fun x10 =>
 let x12 := (if x10 = false then some x1 else none)
 Option.bind (if x10 = false then ((x12.bind (fun z37 => some (z37, (2199 : Int)))).map (fun z39 => (decide (z39.1 > z39.2)))).map some else some none) fun x13 =>
 Option.bind (if x10 then some true else x13.map (fun z40 => z40)) fun x14 =>
 if x14 then (
  some (2 : Int))
 else (
  some (0 : Int))
noncomputable def slip_code_loop1 (s : (List (Int)) × (Int) × (Int) × Unit) : Option (((List (Int)) × (Int) × (Int) × Unit) ⊕ ((Unit) ⊕ (Bool))) :=
 let x17 := s.1
 let x18 := s.2.1
 let x19 := s.2.2.1
 let x20 := (decide (x19 < x18))
 if x20 then (
  Option.bind ((lAt x17 x19).map (fun y => y)) fun x21 =>
  Option.bind (show Option (((List (Int)) × (Int) × (Int) × (Bool) × Unit)) from (
   let x25 := (decide (x21 ≥ (97 : Int)))
   let x27 := (if x25 = true then some x21 else none)
   Option.bind (if x25 = true then ((x27.bind (fun z148 => some (z148, (122 : Int)))).map (fun z150 => (decide (z150.1 ≤ z150.2)))).map some else some none) fun x28 =>
   Option.bind (if x25 then x28 else some false) fun x29 =>
   if x29 then (
    some (x17, x18, x19, x29, ()))
   else (
    let x31 := (decide (x21 ≥ (48 : Int)))
    let x33 := (if x31 = true then some x21 else none)
    Option.bind (if x31 = true then ((x33.bind (fun z157 => some (z157, (57 : Int)))).map (fun z159 => (decide (z159.1 ≤ z159.2)))).map some else some none) fun x34 =>
    Option.bind (if x31 then x34 else some false) fun x35 =>
    if x35 then (
     some (x17, x18, x19, x35, ()))
    else (
     let x37 := (x21 == (46 : Int))
     if x37 then (
         some (x17, x18, x19, x37, ()))
     else (
         let x39 := (x21 == (95 : Int))
         if x39 then (
          some (x17, x18, x19, x39, ()))
         else (
          let x41 := (x21 == (45 : Int))
          some (x17, x18, x19, x41, ()))))))) fun o =>
  let x17 := o.1
  let x18 := o.2.1
  let x19 := o.2.2.1
  let x23 := o.2.2.2.1
  if x23 then (
   let x42 := IntKind.i64.wrap (x19 + (1 : Int))
   some (Sum.inl (x17, x18, x42, ())))
  else (
   some (Sum.inr (Sum.inr false))))
 else (
  some (Sum.inr (Sum.inl (()))))
noncomputable def slip_code (a : (List UInt8)) : Option (Bool) :=
 let x0 := a
 let x6 := ((x0 == ([] : List UInt8)))
 let x8 := (if x6 = false then some x0 else none)
 Option.bind (if x6 = false then ((x8.bind (fun z37 => some (z37, ([45] : List UInt8)))).map (fun z39 => ((z39.1 == z39.2)))).map some else some none) fun x9 =>
 Option.bind (if x6 then some true else x9.map (fun z40 => z40)) fun x10 =>
 let x12 := (if x10 = false then some x0 else none)
 Option.bind (if x10 = false then (x12.map (fun z41 => (z41.length : Int))).map some else some none) fun x13 =>
 Option.bind (if x10 = false then ((x13.bind (fun z42 => some (z42, (32 : Int)))).map (fun z44 => (decide (z44.1 > z44.2)))).map some else some none) fun x14 =>
 Option.bind (if x10 then some true else x14.map (fun z45 => z45)) fun x15 =>
 if x15 then (
  some false)
 else (
  Option.bind (if x0.length ≤ 70368744177664 then some (x0.map fun b => (b.toNat : Int)) else none) fun x17 =>
  let x18 := (x17.length : Int)
  Option.bind (iter slip_code_loop1 (x17, x18, (0 : Int), ())) fun o =>
  match o with
  | Sum.inl p160 => (
   some true)
  | Sum.inr q161 => (
   some q161))
noncomputable def cents_Fits (a : Int) : Option (Bool) :=
 let x0 := a
 let x4 := (decide (x0 ≥ (-1125899906842624 : Int)))
 let x6 := (if x4 = true then some x0 else none)
 Option.bind (if x4 = true then ((x6.bind (fun z7 => some (z7, (1125899906842624 : Int)))).map (fun z9 => (decide (z9.1 ≤ z9.2)))).map some else some none) fun x7 =>
 Option.bind (if x4 then x7 else some false) fun x8 =>
 some x8
noncomputable def slip_line (a : (Int × (List UInt8) × Int)) : Option (Int) :=
 let x0 := a
 let x6 := (decide (x0.1 < (0 : Int)))
 let x8 := (if x6 = false then some () else none)
 Option.bind (if x6 = false then (x8.map (fun z21 => x0.1)).map some else some none) fun x9 =>
 Option.bind (if x6 = false then ((x9.bind (fun z22 => some (z22, (7 : Int)))).map (fun z24 => (decide (z24.1 ≥ z24.2)))).map some else some none) fun x10 =>
 Option.bind (if x6 then some true else x10.map (fun z25 => z25)) fun x11 =>
 if x11 then (
  some (11 : Int))
 else (
  Option.bind (slip_code x0.2.1) fun x15 =>
  let x16 := (!x15)
  if x16 then (
   some (12 : Int))
  else (
   let x20 := (x0.2.2 == (0 : Int))
   if x20 then (
       some (22 : Int))
   else (
       Option.bind (cents_Fits x0.2.2) fun x24 =>
       let x25 := (!x24)
       if x25 then (
        some (9 : Int))
       else (
        some (0 : Int)))))
noncomputable def slip_less (a : (Int × (List UInt8) × Int) × (Int × (List UInt8) × Int)) : Option (Bool) :=
 let x0 := a.1
 let x1 := a.2
 let x9 := (decide (x0.1 < x1.1))
 let x11 := (if x9 = false then some () else none)
 Option.bind (if x9 = false then (x11.map (fun z25 => x0.1)).map some else some none) fun x12 =>
 let x13 := (if x9 = false then some () else none)
 Option.bind (if x9 = false then (x13.map (fun z26 => x1.1)).map some else some none) fun x14 =>
 Option.bind (if x9 = false then ((x12.bind (fun z27 => x14.map (fun z28 => (z27, z28)))).map (fun z29 => (z29.1 == z29.2))).map some else some none) fun x15 =>
 Option.bind (if x9 = false then x15.map some else some none) fun x16 =>
 let x17 := (if x16 = some true then some () else none)
 Option.bind (if x16 = some true then (x17.map (fun z30 => x0.2.1)).map some else some none) fun x18 =>
 let x19 := (if x16 = some true then some () else none)
 Option.bind (if x16 = some true then (x19.map (fun z31 => x1.2.1)).map some else some none) fun x20 =>
 Option.bind (if x16 = some true then ((x18.bind (fun z32 => x20.map (fun z33 => (z32, z33)))).map (fun z34 => (sLess z34.1 z34.2))).map some else some none) fun x21 =>
 Option.bind (if x9 = false then (x16.bind (fun z35 => if z35 then x21 else some false)).map some else some none) fun x22 =>
 Option.bind (if x9 then some true else x22.map (fun z36 => z36)) fun x23 =>
 some x23
noncomputable def slip_Check_loop1 (s : (List (Int × (List UInt8) × Int)) × (Int) × (Int) × (Int) × (Int) × (List (Int × (List UInt8) × Int)) × (Unit) × (Unit) × Unit) : Option (((List (Int × (List UInt8) × Int)) × (Int) × (Int) × (Int) × (Int) × (List (Int × (List UInt8) × Int)) × (Unit) × (Unit) × Unit) ⊕ ((Unit) ⊕ (Int))) :=
 let x30 := s.1
 let x31 := s.2.1
 let x32 := s.2.2.1
 let c1_0 := s.2.2.2.1
 let c1_1 := s.2.2.2.2.1
 let c1_2 := s.2.2.2.2.2.1
 let x33 := (decide (x32 < x31))
 if x33 then (
  Option.bind (show Option (((List (Int × (List UInt8) × Int)) × (Int) × (Int) × (Int) × (Int) × (List (Int × (List UInt8) × Int)) × (Unit) × (Unit) × Unit) ⊕ (Int)) from (
   Option.bind ((lAt x30 x32).map (fun y => y)) fun x35 =>
   Option.bind (slip_line (x35.1, x35.2.1, x35.2.2)) fun x38 =>
   let x40 := (x38 != (0 : Int))
   if x40 then (
    some (Sum.inr x38))
   else (
    let x43 := (x32 == (0 : Int))
    if x43 then (
     some (Sum.inl (x30, x31, x32, c1_0, c1_1, c1_2, (), (), ())))
    else (
     let x47 := IntKind.i64.wrap (x32 - (1 : Int))
     Option.bind ((lAt c1_2 x47).map (fun y => y)) fun x48 =>
     let x55 := (x48.1 == x35.1)
     let x57 := (if x55 = true then some () else none)
     Option.bind (if x55 = true then (x57.map (fun z146 => x48.2.1)).map some else some none) fun x58 =>
     let x59 := (if x55 = true then some () else none)
     Option.bind (if x55 = true then (x59.map (fun z147 => x35.2.1)).map some else some none) fun x60 =>
     Option.bind (if x55 = true then ((x58.bind (fun z148 => x60.map (fun z149 => (z148, z149)))).map (fun z150 => ((z150.1 == z150.2)))).map some else some none) fun x61 =>
     Option.bind (if x55 then x61 else some false) fun x62 =>
     if x62 then (
         some (Sum.inr (7 : Int)))
     else (
         Option.bind (slip_less ((x48.1, x48.2.1, x48.2.2), (x35.1, x35.2.1, x35.2.2))) fun x66 =>
         let x67 := (!x66)
         if x67 then (
          some (Sum.inr (8 : Int)))
         else (
          some (Sum.inl (x30, x31, x32, c1_0, c1_1, c1_2, (), (), ())))))))) fun o =>
  match o with
  | Sum.inl p151 => (
   let x30 := p151.1
   let x31 := p151.2.1
   let x32 := p151.2.2.1
   let c1_0 := p151.2.2.2.1
   let c1_1 := p151.2.2.2.2.1
   let c1_2 := p151.2.2.2.2.2.1
   let x68 := IntKind.i64.wrap (x32 + (1 : Int))
   some (Sum.inl (x30, x31, x68, c1_0, c1_1, c1_2, (), (), ())))
  | Sum.inr q152 => (
   some (Sum.inr (Sum.inr q152))))
 else (
  some (Sum.inr (Sum.inl (()))))
noncomputable def slip_Check (a : (Int × Int × (List (Int × (List UInt8) × Int)))) : Option (Int) :=
 let x0 := a
 Option.bind (show Option (((Bool) × (Int) × (Int) × (List (Int × (List UInt8) × Int)) × (Unit) × (Unit) × Unit)) from (
  let x10 := (decide (x0.1 < (1900 : Int)))
  let x12 := (if x10 = false then some () else none)
  Option.bind (if x10 = false then (x12.map (fun z51 => x0.1)).map some else some none) fun x13 =>
  Option.bind (if x10 = false then ((x13.bind (fun z52 => some (z52, (2199 : Int)))).map (fun z54 => (decide (z54.1 > z54.2)))).map some else some none) fun x14 =>
  Option.bind (if x10 then some true else x14.map (fun z55 => z55)) fun x15 =>
  if x15 then (
   some (x15, x0.1, x0.2.1, x0.2.2, (), (), ()))
  else (
   let x18 := (decide (x0.2.1 < (1 : Int)))
   let x20 := (if x18 = false then some () else none)
   Option.bind (if x18 = false then (x20.map (fun z61 => x0.2.1)).map some else some none) fun x21 =>
   Option.bind (if x18 = false then ((x21.bind (fun z62 => some (z62, (400 : Int)))).map (fun z64 => (decide (z64.1 > z64.2)))).map some else some none) fun x22 =>
   Option.bind (if x18 then some true else x22.map (fun z65 => z65)) fun x23 =>
   some (x23, x0.1, x0.2.1, x0.2.2, (), (), ())))) fun o =>
 let x7 := o.1
 let c1_0 := o.2.1
 let c1_1 := o.2.2.1
 let c1_2 := o.2.2.2.1
 if x7 then (
  some (2 : Int))
 else (
  let x27 := (c1_2.length : Int)
  let x28 := (decide (x27 > (448 : Int)))
  if x28 then (
   some (5 : Int))
  else (
   let x31 := (c1_2.length : Int)
   Option.bind (iter slip_Check_loop1 (c1_2, x31, (0 : Int), c1_0, c1_1, c1_2, (), (), ())) fun o =>
   match o with
   | Sum.inl p153 => (
       some (0 : Int))
   | Sum.inr q154 => (
       some q154)))
noncomputable def paper_check_loop1 (s : (Int) × (List (Int × Int × (List (Int × (List UInt8) × Int)))) × (Int) × (Int) × (List ((Int) × (Bool))) × (Unit) × Unit) : Option (((Int) × (List (Int × Int × (List (Int × (List UInt8) × Int)))) × (Int) × (Int) × (List ((Int) × (Bool))) × (Unit) × Unit) ⊕ ((Unit) ⊕ (Int))) :=
 let x0 := s.1
 let x10 := s.2.1
 let x11 := s.2.2.1
 let x12 := s.2.2.2.1
 let l9 := s.2.2.2.2.1
 let x13 := (decide (x12 < x11))
 if x13 then (
  Option.bind ((lAt x10 x12).map (fun y => y)) fun x14 =>
  Option.bind (slip_Check (x14.1, x14.2.1, x14.2.2)) fun x17 =>
  let x20 := (x17 != (0 : Int))
  if x20 then (
   some (Sum.inr (Sum.inr x17)))
  else (
   let x26 := (x14.1 != x0)
   if x26 then (
    some (Sum.inr (Sum.inr (18 : Int))))
   else (
    let x31 := (alGet (eqZ (.int .i64)) (zeroT .bool) x14.2.1 l9).1
    if x31 then (
        some (Sum.inr (Sum.inr (7 : Int))))
    else (
        let l9 := alPut (eqZ (.int .i64)) x14.2.1 true l9
        let x35 := IntKind.i64.wrap (x12 + (1 : Int))
        some (Sum.inl (x0, x10, x11, x35, l9, (), ()))))))
 else (
  some (Sum.inr (Sum.inl (()))))
noncomputable def paper_check (a : Int × (List (Int × Int × (List (Int × (List UInt8) × Int))))) : Option (Int) :=
 let x0 := a.1
 let x1 := a.2
 let x11 := (x1.length : Int)
 Option.bind (iter paper_check_loop1 (x0, x1, x11, (0 : Int), ([] : List ((Int) × (Bool))), (), ())) fun o =>
 match o with
 | Sum.inl p1 => (
  some (0 : Int))
 | Sum.inr q2 => (
  some q2)
noncomputable def paper_box (a : Int × (List UInt8)) : Option (List UInt8) :=
 let x0 := a.1
 let x1 := a.2
 let x4 := ([] : List UInt8)
 Option.bind (lAt ([([103, 114, 111, 115, 115] : List UInt8), ([98, 101, 102, 111, 114, 101] : List UInt8), ([119, 111, 114, 107, 101, 114] : List UInt8), ([116, 97, 120] : List UInt8), ([97, 102, 116, 101, 114] : List UInt8), ([111, 114, 100, 101, 114, 115] : List UInt8), ([102, 105, 114, 109] : List UInt8)] : List ((List UInt8))) x0) fun x6 =>
 Option.bind (if x6.length + ([47] : List UInt8).length ≤ 4611686018427387904 then some (x6 ++ ([47] : List UInt8)) else none) fun x8 =>
 Option.bind (if x8.length + x1.length ≤ 4611686018427387904 then some (x8 ++ x1) else none) fun x10 =>
 some x10
noncomputable def maps_Keys (a : (List ((List UInt8) × (Int)))) : Option (((List ((List UInt8) × (Int))))) :=
 let x0 := a
 some x0
noncomputable def paper_boxes_loop1 (s : (List ((List UInt8) × (Int))) × (List (List UInt8)) × (Int) × (Int) × (List ((List UInt8) × Int)) × (Unit) × Unit) : Option (((List ((List UInt8) × (Int))) × (List (List UInt8)) × (Int) × (Int) × (List ((List UInt8) × Int)) × (Unit) × Unit) ⊕ (((List ((List UInt8) × Int)) × (Unit) × Unit) ⊕ ((List ((List UInt8) × Int)) × Int))) :=
 let x0 := s.1
 let x10 := s.2.1
 let x11 := s.2.2.1
 let x12 := s.2.2.2.1
 let l1004 := s.2.2.2.2.1
 let x13 := (decide (x12 < x11))
 if x13 then (
  Option.bind (show Option (((List ((List UInt8) × (Int))) × (List (List UInt8)) × (Int) × (Int) × (List ((List UInt8) × Int)) × (Unit) × Unit) ⊕ ((List ((List UInt8) × Int)) × Int)) from (
   Option.bind ((lAt x10 x12).map (fun y => y)) fun x14 =>
   let x18 := (alGet (eqZ .str) (zeroT (.int .i64)) x14 x0).1
   Option.bind (cents_Fits x18) fun x20 =>
   let x21 := (!x20)
   if x21 then (
    some (Sum.inr (([] : List ((List UInt8) × Int)), (9 : Int))))
   else (
    let x23 := (x18 != (0 : Int))
    if x23 then (
     let l28 := ([(x14, x18)] : List ((List UInt8) × Int))
     Option.bind (if ((l1004.length : Int) + (l28.length : Int)) * (24 : Int) ≤ 140737488355328 ∧ (l1004.length : Int) + (l28.length : Int) ≤ 4611686018427387904 then some (l1004 ++ l28) else none) fun l1004 =>
     some (Sum.inl (x0, x10, x11, x12, l1004, (), ())))
    else (
     some (Sum.inl (x0, x10, x11, x12, l1004, (), ())))))) fun o =>
  match o with
  | Sum.inl p1 => (
   let x0 := p1.1
   let x10 := p1.2.1
   let x11 := p1.2.2.1
   let x12 := p1.2.2.2.1
   let l1004 := p1.2.2.2.2.1
   let x30 := IntKind.i64.wrap (x12 + (1 : Int))
   some (Sum.inl (x0, x10, x11, x30, l1004, (), ())))
  | Sum.inr q2 => (
   some (Sum.inr (Sum.inr q2))))
 else (
  some (Sum.inr (Sum.inl (l1004, (), ()))))
noncomputable def paper_boxes (a : (List ((List UInt8) × (Int)))) : Option ((List ((List UInt8) × Int)) × Int) :=
 let x0 := a
 Option.bind (maps_Keys x0) fun x9 =>
 Option.bind (slices_Sorted x9) fun x10 =>
 let x11 := (x10.length : Int)
 Option.bind (iter paper_boxes_loop1 (x0, x10, x11, (0 : Int), ([] : List ((List UInt8) × Int)), (), ())) fun o =>
 match o with
 | Sum.inl p3 => (
  let l1004 := p3.1
  some (l1004, (0 : Int)))
 | Sum.inr q4 => (
  some q4)
noncomputable def paper_Of_loop1 (s : (Int) × (Int) × (List (Int × Int × (List (Int × (List UInt8) × Int)))) × (Int) × (Int) × (List (Int × (List UInt8) × Int)) × (Int) × (Int) × (Int) × (Int) × (Int) × (List ((List UInt8) × (Int))) × (Unit) × (Unit) × (Unit) × (Unit) × Unit) : Option (((Int) × (Int) × (List (Int × Int × (List (Int × (List UInt8) × Int)))) × (Int) × (Int) × (List (Int × (List UInt8) × Int)) × (Int) × (Int) × (Int) × (Int) × (Int) × (List ((List UInt8) × (Int))) × (Unit) × (Unit) × (Unit) × (Unit) × Unit) ⊕ (((Int) × (Int) × (List (Int × Int × (List (Int × (List UInt8) × Int)))) × (Int) × (Int) × (Int) × (Int) × (Int) × (List ((List UInt8) × (Int))) × (Unit) × (Unit) × (Unit) × (Unit) × Unit))) :=
 let sq6 := s.2.2.2.2.2.2
 let x0 := s.1
 let x1 := s.2.1
 let x36 := s.2.2.1
 let x37 := s.2.2.2.1
 let x38 := s.2.2.2.2.1
 let x43 := s.2.2.2.2.2.1
 let x44 := sq6.1
 let x45 := sq6.2.1
 let c6_0 := sq6.2.2.1
 let c6_1 := sq6.2.2.2.1
 let c6_3 := sq6.2.2.2.2.1
 let l35 := sq6.2.2.2.2.2.1
 let x46 := (decide (x45 < x44))
 if x46 then (
  Option.bind ((lAt x43 x45).map (fun y => y)) fun x47 =>
  Option.bind (paper_box (x47.1, x47.2.1)) fun x54 =>
  let x55 := (alGet (eqZ .str) (zeroT (.int .i64)) x54 l35).1
  let x58 := IntKind.i64.wrap (x55 + x47.2.2)
  let l35 := alPut (eqZ .str) x54 x58 l35
  let x59 := IntKind.i64.wrap (x45 + (1 : Int))
  some (Sum.inl (x0, x1, x36, x37, x38, x43, x44, x59, c6_0, c6_1, c6_3, l35, (), (), (), (), ())))
 else (
  some (Sum.inr (x0, x1, x36, x37, x38, c6_0, c6_1, c6_3, l35, (), (), (), (), ())))
noncomputable def paper_Of_loop2 (s : (Int) × (Int) × (List (Int × Int × (List (Int × (List UInt8) × Int)))) × (Int) × (Int) × (Int) × (Int) × (Int) × (List ((List UInt8) × (Int))) × (Unit) × (Unit) × (Unit) × (Unit) × Unit) : Option (((Int) × (Int) × (List (Int × Int × (List (Int × (List UInt8) × Int)))) × (Int) × (Int) × (Int) × (Int) × (Int) × (List ((List UInt8) × (Int))) × (Unit) × (Unit) × (Unit) × (Unit) × Unit) ⊕ (((Int) × (Int) × (Int) × (Int) × (Int) × (List ((List UInt8) × (Int))) × (Unit) × (Unit) × (Unit) × (Unit) × Unit))) :=
 let x0 := s.1
 let x1 := s.2.1
 let x36 := s.2.2.1
 let x37 := s.2.2.2.1
 let x38 := s.2.2.2.2.1
 let c6_0 := s.2.2.2.2.2.1
 let c6_1 := s.2.2.2.2.2.2.1
 let c6_3 := s.2.2.2.2.2.2.2.1
 let l35 := s.2.2.2.2.2.2.2.2.1
 let x39 := (decide (x38 < x37))
 if x39 then (
  Option.bind ((lAt x36 x38).map (fun y => y)) fun x40 =>
  let x44 := (x40.2.2.length : Int)
  Option.bind (iter paper_Of_loop1 (x0, x1, x36, x37, x38, x40.2.2, x44, (0 : Int), c6_0, c6_1, c6_3, l35, (), (), (), (), ())) fun o =>
  let x0 := o.1
  let x1 := o.2.1
  let x36 := o.2.2.1
  let x37 := o.2.2.2.1
  let x38 := o.2.2.2.2.1
  let c6_0 := o.2.2.2.2.2.1
  let c6_1 := o.2.2.2.2.2.2.1
  let c6_3 := o.2.2.2.2.2.2.2.1
  let l35 := o.2.2.2.2.2.2.2.2.1
  let x60 := IntKind.i64.wrap (x38 + (1 : Int))
  some (Sum.inl (x0, x1, x36, x37, x60, c6_0, c6_1, c6_3, l35, (), (), (), (), ())))
 else (
  some (Sum.inr (x0, x1, c6_0, c6_1, c6_3, l35, (), (), (), (), ())))
noncomputable def paper_Of (a : Int × Int × (List (Int × Int × (List (Int × (List UInt8) × Int))))) : Option ((Int × Int × (List ((List UInt8) × Int)) × Int) × Int) :=
 let x0 := a.1
 let x1 := a.2.1
 let x2 := a.2.2
 Option.bind (paper_dated (x0, x1)) fun x19 =>
 let x21 := (x19 != (0 : Int))
 if x21 then (
  some (((0 : Int), (0 : Int), ([] : List ((List UInt8) × Int)), (0 : Int)), x19))
 else (
  let x25 := (x2.length : Int)
  let x26 := (decide (x25 > (400 : Int)))
  if x26 then (
   some (((0 : Int), (0 : Int), ([] : List ((List UInt8) × Int)), (0 : Int)), (5 : Int)))
  else (
   Option.bind (paper_check (x1, x2)) fun x30 =>
   let x32 := (x30 != (0 : Int))
   if x32 then (
       some (((0 : Int), (0 : Int), ([] : List ((List UInt8) × Int)), (0 : Int)), x30))
   else (
       let x37 := (x2.length : Int)
       Option.bind (iter paper_Of_loop2 (x0, x1, x2, x37, (0 : Int), (0 : Int), (0 : Int), (0 : Int), ([] : List ((List UInt8) × (Int))), (), (), (), (), ())) fun o =>
       let x0 := o.1
       let x1 := o.2.1
       let c6_0 := o.2.2.1
       let c6_1 := o.2.2.2.1
       let c6_3 := o.2.2.2.2.1
       let l35 := o.2.2.2.2.2.1
       Option.bind (paper_boxes l35) fun x63 =>
       Option.bind (show Option (((Int) × (Int) × (List ((List UInt8) × Int)) × (Int) × (Int) × (Int) × (Int) × (Unit) × (Unit) × (Unit) × Unit)) from (
        let x67 := (x63.2 == (0 : Int))
        let x69 := (if x67 = true then some x63.1 else none)
        Option.bind (if x67 = true then (x69.map (fun z17 => (z17.length : Int))).map some else some none) fun x70 =>
        Option.bind (if x67 = true then ((x70.bind (fun z18 => some (z18, (448 : Int)))).map (fun z20 => (decide (z20.1 > z20.2)))).map some else some none) fun x71 =>
        Option.bind (if x67 then x71 else some false) fun x72 =>
        if x72 then (
         some (x0, x1, x63.1, (5 : Int), c6_0, c6_1, c6_3, (), (), (), ()))
        else (
         some (x0, x1, x63.1, x63.2, c6_0, c6_1, c6_3, (), (), (), ())))) fun o =>
       let x0 := o.1
       let x1 := o.2.1
       let x15 := o.2.2.1
       let x16 := o.2.2.2.1
       let c6_0 := o.2.2.2.2.1
       let c6_1 := o.2.2.2.2.2.1
       let c6_3 := o.2.2.2.2.2.2.1
       let x74 := (x16 != (0 : Int))
       if x74 then (
        some (((0 : Int), (0 : Int), ([] : List ((List UInt8) × Int)), (0 : Int)), x16))
       else (
        some ((x0, x1, x15, (0 : Int)), (0 : Int))))))
noncomputable def internal_stringslite_Cut (a : (List UInt8) × (List UInt8)) : Option ((List UInt8) × (List UInt8) × Bool) :=
 let x0 := a.1
 let x1 := a.2
 let x4 := ([] : List UInt8)
 let x5 := ([] : List UInt8)
 Option.bind (internal_stringslite_Index (x0, x1)) fun x10 =>
 let x12 := (decide (x10 ≥ (0 : Int)))
 if x12 then (
  Option.bind (lSub x0 (0 : Int) x10) fun x15 =>
  let x19 := (x1.length : Int)
  let x20 := IntKind.i64.wrap (x10 + x19)
  Option.bind (lSub x0 x20 (x0.length : Int)) fun x21 =>
  some (x15, x21, true))
 else (
  let x5 := ([] : List UInt8)
  some (x0, x5, false))
noncomputable def strings_Cut (a : (List UInt8) × (List UInt8)) : Option ((List UInt8) × (List UInt8) × Bool) :=
 let x0 := a.1
 let x1 := a.2
 let x4 := ([] : List UInt8)
 let x5 := ([] : List UInt8)
 Option.bind (internal_stringslite_Cut (x0, x1)) fun x9 =>
 some (x9.1, x9.2.1, x9.2.2)
noncomputable def slices_Index_loop1 (s : (List (List UInt8)) × (List UInt8) × (Int) × (Int) × Unit) : Option (((List (List UInt8)) × (List UInt8) × (Int) × (Int) × Unit) ⊕ ((Unit) ⊕ (Int))) :=
 let x0 := s.1
 let x1 := s.2.1
 let x7 := s.2.2.1
 let x8 := s.2.2.2.1
 let x9 := (decide (x8 < x7))
 if x9 then (
  Option.bind ((lAt x0 x8).map (fun y => y)) fun x14 =>
  let x16 := ((x1 == x14))
  if x16 then (
   some (Sum.inr (Sum.inr x8)))
  else (
   let x18 := IntKind.i64.wrap (x8 + (1 : Int))
   some (Sum.inl (x0, x1, x7, x18, ()))))
 else (
  some (Sum.inr (Sum.inl (()))))
noncomputable def slices_Index (a : (List (List UInt8)) × (List UInt8)) : Option (Int) :=
 let x0 := a.1
 let x1 := a.2
 let x7 := (x0.length : Int)
 Option.bind (iter slices_Index_loop1 (x0, x1, x7, (0 : Int), ())) fun o =>
 match o with
 | Sum.inl p1 => (
  some (-1 : Int))
 | Sum.inr q2 => (
  some q2)
def paper_words : List (List UInt8) := [[103, 114, 111, 115, 115], [98, 101, 102, 111, 114, 101], [119, 111, 114, 107, 101, 114], [116, 97, 120], [97, 102, 116, 101, 114], [111, 114, 100, 101, 114, 115], [102, 105, 114, 109]]
noncomputable def paper_coded (a : List UInt8) : Option Bool :=
 Option.bind (strings_Cut (a, ([47] : List UInt8))) fun c =>
 Option.bind (slices_Index (paper_words, c.1)) fun i =>
 if (0 : Int) ≤ i then (
  Option.bind (slip_Check ((1900 : Int), (1 : Int), [(i, c.2.1, (1 : Int))])) fun e => some (e == 0))
 else (
  some false)
noncomputable def paper_Paper_right_loop1 (s : (List ((List UInt8) × Int)) × (Int) × (Int) × (Int) × (Int) × (List ((List UInt8) × Int)) × (Int) × (Unit) × (Unit) × Unit) : Option (((List ((List UInt8) × Int)) × (Int) × (Int) × (Int) × (Int) × (List ((List UInt8) × Int)) × (Int) × (Unit) × (Unit) × Unit) ⊕ ((Unit) ⊕ (Bool))) :=
 let x28 := s.1
 let x29 := s.2.1
 let x30 := s.2.2.1
 let c1_0 := s.2.2.2.1
 let c1_1 := s.2.2.2.2.1
 let c1_2 := s.2.2.2.2.2.1
 let c1_3 := s.2.2.2.2.2.2.1
 let x31 := (decide (x30 < x29))
 if x31 then (
  Option.bind ((lAt x28 x30).map (fun y => y)) fun x33 =>
  Option.bind (paper_coded x33.1) fun x37 =>
  let x38 := (!x37)
  let x40 := (if x38 = false then some () else none)
  Option.bind (if x38 = false then (x40.map (fun z529 => x33.2)).map some else some none) fun x41 =>
  Option.bind (if x38 = false then ((x41.map (fun z530 => z530)).bind (fun z531 => cents_Fits z531)).map some else some none) fun x42 =>
  Option.bind (if x38 = false then (x42.map (fun z532 => (!z532))).map some else some none) fun x43 =>
  Option.bind (if x38 then some true else x43.map (fun z533 => z533)) fun x44 =>
  let x46 := (if x44 = false then some () else none)
  Option.bind (if x44 = false then (x46.map (fun z534 => x33.2)).map some else some none) fun x47 =>
  Option.bind (if x44 = false then ((x47.bind (fun z535 => some (z535, (0 : Int)))).map (fun z537 => (z537.1 == z537.2))).map some else some none) fun x48 =>
  Option.bind (if x44 then some true else x48.map (fun z538 => z538)) fun x49 =>
  let x51 := (if x49 = false then some x30 else none)
  Option.bind (if x49 = false then ((x51.bind (fun z539 => some (z539, (0 : Int)))).map (fun z541 => (decide (z541.1 > z541.2)))).map some else some none) fun x52 =>
  Option.bind (if x49 = false then x52.map some else some none) fun x53 =>
  let x54 := (if x53 = some true then some () else none)
  Option.bind (if x53 = some true then (x54.map (fun z542 => c1_2)).map some else some none) fun x55 =>
  let x56 := (if x53 = some true then some x30 else none)
  Option.bind (if x53 = some true then ((x56.bind (fun z543 => some (z543, (1 : Int)))).map (fun z545 => IntKind.i64.wrap (z545.1 - z545.2))).map some else some none) fun x57 =>
  Option.bind (if x53 = some true then ((x55.bind (fun z546 => x57.map (fun z547 => (z546, z547)))).bind (fun z548 => (lAt z548.1 z548.2).map (fun y => y))).map some else some none) fun x58 =>
  Option.bind (if x53 = some true then (x58.map (fun z549 => z549)).map some else some none) fun x59 =>
  Option.bind (if x53 = some true then (x59.map (fun z550 => z550.1)).map some else some none) fun x60 =>
  let x61 := (if x53 = some true then some () else none)
  Option.bind (if x53 = some true then (x61.map (fun z551 => x33.1)).map some else some none) fun x62 =>
  Option.bind (if x53 = some true then ((x60.bind (fun z552 => x62.map (fun z553 => (z552, z553)))).map (fun z554 => (!(sLess z554.1 z554.2)))).map some else some none) fun x63 =>
  Option.bind (if x49 = false then (x53.bind (fun z555 => if z555 then x63 else some false)).map some else some none) fun x64 =>
  Option.bind (if x49 then some true else x64.map (fun z556 => z556)) fun x65 =>
  if x65 then (
   some (Sum.inr (Sum.inr false)))
  else (
   let x66 := IntKind.i64.wrap (x30 + (1 : Int))
   some (Sum.inl (x28, x29, x66, c1_0, c1_1, c1_2, c1_3, (), (), ()))))
 else (
  some (Sum.inr (Sum.inl (()))))
noncomputable def paper_Paper_right (a : (Int × Int × (List ((List UInt8) × Int)) × Int)) : Option (Bool) :=
 let x0 := a
 Option.bind (paper_dated (x0.1, x0.2.1)) fun x9 =>
 let x10 := (x9 != (0 : Int))
 let x12 := (if x10 = false then some () else none)
 Option.bind (if x10 = false then (x12.map (fun z65 => x0.2.2.1)).map some else some none) fun x13 =>
 Option.bind (if x10 = false then (x13.map (fun z66 => (z66.length : Int))).map some else some none) fun x14 =>
 Option.bind (if x10 = false then ((x14.bind (fun z67 => some (z67, (448 : Int)))).map (fun z69 => (decide (z69.1 > z69.2)))).map some else some none) fun x15 =>
 Option.bind (if x10 then some true else x15.map (fun z70 => z70)) fun x16 =>
 let x18 := (if x16 = false then some () else none)
 Option.bind (if x16 = false then (x18.map (fun z71 => x0.2.2.2)).map some else some none) fun x19 =>
 Option.bind (if x16 = false then ((x19.bind (fun z72 => some (z72, (0 : Int)))).map (fun z74 => (decide (z74.1 < z74.2)))).map some else some none) fun x20 =>
 Option.bind (if x16 then some true else x20.map (fun z75 => z75)) fun x21 =>
 let x23 := (if x21 = false then some () else none)
 Option.bind (if x21 = false then (x23.map (fun z76 => x0.2.2.2)).map some else some none) fun x24 =>
 Option.bind (if x21 = false then ((x24.bind (fun z77 => some (z77, (4096 : Int)))).map (fun z79 => (decide (z79.1 > z79.2)))).map some else some none) fun x25 =>
 Option.bind (if x21 then some true else x25.map (fun z80 => z80)) fun x26 =>
 if x26 then (
  some false)
 else (
  let x29 := (x0.2.2.1.length : Int)
  Option.bind (iter paper_Paper_right_loop1 (x0.2.2.1, x29, (0 : Int), x0.1, x0.2.1, x0.2.2.1, x0.2.2.2, (), (), ())) fun o =>
  match o with
  | Sum.inl p557 => (
   some true)
  | Sum.inr q558 => (
   some q558))
noncomputable def cents_whole_loop1 (s : (Int) × (List UInt8) × Unit) : Option (((Int) × (List UInt8) × Unit) ⊕ (((Int) × (List UInt8) × Unit))) :=
 let x0 := s.1
 let x3 := s.2.1
 let x5 := (decide (x0 > (9 : Int)))
 if x5 then (
  Option.bind (if (10 : Int) = 0 then none else some (x0.tmod (10 : Int))) fun x7 =>
  let x8 := IntKind.i64.wrap ((48 : Int) + x7)
  let x9 := IntKind.i32.wrap x8
  let x10 := (Utf8.encode x9).data.toList
  Option.bind (if x10.length + x3.length ≤ 4611686018427387904 then some (x10 ++ x3) else none) fun x12 =>
  Option.bind (if (10 : Int) = 0 then none else some (IntKind.i64.wrap (x0.tdiv (10 : Int)))) fun x14 =>
  some (Sum.inl (x14, x12, ())))
 else (
  some (Sum.inr (x0, x3, ())))
noncomputable def cents_whole (a : Int) : Option (List UInt8) :=
 let x0 := a
 let x2 := ([] : List UInt8)
 let x3 := ([] : List UInt8)
 Option.bind (iter cents_whole_loop1 (x0, x3, ())) fun o =>
 let x0 := o.1
 let x3 := o.2.1
 let x16 := IntKind.i64.wrap ((48 : Int) + x0)
 let x17 := IntKind.i32.wrap x16
 let x18 := (Utf8.encode x17).data.toList
 Option.bind (if x18.length + x3.length ≤ 4611686018427387904 then some (x18 ++ x3) else none) fun x20 =>
 some x20
noncomputable def cents_Text (a : Int) : Option (List UInt8) :=
 let x0 := a
 let x2 := ([] : List UInt8)
 Option.bind (cents_Fits x0) fun x6 =>
 let x7 := (!x6)
 if x7 then (
  let x2 := ([] : List UInt8)
  some x2)
 else (
  let x3 := ([] : List UInt8)
  Option.bind (show Option (((Int) × (List UInt8) × Unit)) from (
   let x9 := (decide (x0 < (0 : Int)))
   if x9 then (
       let x11 := IntKind.i64.wrap (0 - x0)
       let x3 := ([45] : List UInt8)
       some (x11, x3, ()))
   else (
       some (x0, x3, ())))) fun o =>
  let x0 := o.1
  let x3 := o.2.1
  Option.bind (if (100 : Int) = 0 then none else some (x0.tmod (100 : Int))) fun x13 =>
  Option.bind (if (100 : Int) = 0 then none else some (IntKind.i64.wrap (x0.tdiv (100 : Int)))) fun x16 =>
  Option.bind (cents_whole x16) fun x17 =>
  Option.bind (if x3.length + x17.length ≤ 4611686018427387904 then some (x3 ++ x17) else none) fun x18 =>
  Option.bind (if x18.length + ([46] : List UInt8).length ≤ 4611686018427387904 then some (x18 ++ ([46] : List UInt8)) else none) fun x19 =>
  Option.bind (if (10 : Int) = 0 then none else some (IntKind.i64.wrap (x13.tdiv (10 : Int)))) fun x21 =>
  Option.bind (cents_whole x21) fun x22 =>
  Option.bind (if x19.length + x22.length ≤ 4611686018427387904 then some (x19 ++ x22) else none) fun x23 =>
  Option.bind (if (10 : Int) = 0 then none else some (x13.tmod (10 : Int))) fun x25 =>
  Option.bind (cents_whole x25) fun x26 =>
  Option.bind (if x23.length + x26.length ≤ 4611686018427387904 then some (x23 ++ x26) else none) fun x27 =>
  some x27)
noncomputable def paper_Text_loop : List ((List UInt8) × Int) → (List UInt8) → Option (List UInt8)
 | [], acc => some acc
 | x :: l, acc => Option.bind (cents_Text x.2) fun t => paper_Text_loop l (acc ++ (x.1 ++ [32] ++ t ++ [10]))
noncomputable def paper_Paper_Text (a : (Int × Int × (List ((List UInt8) × Int)) × Int)) : Option (List UInt8) :=
 Option.bind (paper_Paper_right a) fun b =>
 if b then (
  Option.bind (strconv_FormatUint (IntKind.u64.wrap a.1, (10 : Int))) fun su =>
  Option.bind (strconv_Itoa a.2.1) fun sy =>
  Option.bind (strconv_Itoa a.2.2.2) fun sa =>
  Option.bind (paper_Text_loop a.2.2.1 ([112, 97, 112, 101, 114, 32] ++ su ++ [32] ++ sy ++ [32] ++ sa ++ [10])) fun t =>
  if t.length ≤ 140737488355328 ∧ a.2.2.1.length ≤ 1000000 then some t else none)
 else (
  some [])
noncomputable def law37_awake (a : Unit) : Option (Bool) :=
 let l6 := ([((0 : Int), ([115, 97, 108, 97, 114, 121] : List UInt8), (10000 : Int)), ((3 : Int), ([116, 97, 120] : List UInt8), (2000 : Int))] : List (Int × (List UInt8) × Int))
 let l9 := ([((0 : Int), ([115, 97, 108, 97, 114, 121] : List UInt8), (10000 : Int))] : List (Int × (List UInt8) × Int))
 let l11 := ([((2024 : Int), (1 : Int), l6), ((2024 : Int), (2 : Int), l9)] : List (Int × Int × (List (Int × (List UInt8) × Int))))
 Option.bind (paper_Of ((1 : Int), (2024 : Int), l11)) fun x12 =>
 let x16 := (x12.2 == (0 : Int))
 let x18 := (if x16 = true then some (x12.1.1, x12.1.2.1, x12.1.2.2.1, x12.1.2.2.2) else none)
 Option.bind (if x16 = true then ((x18.map (fun z11 => z11)).bind (fun z12 => paper_Paper_Text z12)).map some else some none) fun x19 =>
 Option.bind (if x16 = true then ((x19.bind (fun z13 => some (z13, ([112, 97, 112, 101, 114, 32, 49, 32, 50, 48, 50, 52, 32, 48, 10, 103, 114, 111, 115, 115, 47, 115, 97, 108, 97, 114, 121, 32, 50, 48, 48, 46, 48, 48, 10, 116, 97, 120, 47, 116, 97, 120, 32, 50, 48, 46, 48, 48, 10] : List UInt8)))).map (fun z15 => ((z15.1 == z15.2)))).map some else some none) fun x20 =>
 Option.bind (if x16 then x20 else some false) fun x21 =>
 some x21
noncomputable def ref37_word (a : Int) : Option (List UInt8) :=
 let x0 := a
 let x2 := ([] : List UInt8)
 let l4 := ([([103, 114, 111, 115, 115] : List UInt8), ([98, 101, 102, 111, 114, 101] : List UInt8), ([119, 111, 114, 107, 101, 114] : List UInt8), ([116, 97, 120] : List UInt8), ([97, 102, 116, 101, 114] : List UInt8), ([111, 114, 100, 101, 114, 115] : List UInt8), ([102, 105, 114, 109] : List UInt8)] : List (List UInt8))
 Option.bind (if 0 ≤ x0 ∧ x0 < (l4.length : Int) then some x0.toNat else none) fun x7 =>
 Option.bind ((l4[x7]?).map (fun y => y)) fun x8 =>
 some x8
noncomputable def ref25_Name_loop1 (s : (List UInt8) × (Int) × Unit) : Option (((List UInt8) × (Int) × Unit) ⊕ ((Unit) ⊕ (Bool))) :=
 let x0 := s.1
 let x3 := s.2.1
 let x17 := (x0.length : Int)
 let x18 := (decide (x3 < x17))
 if x18 then (
  Option.bind (sAt x0 x3) fun x23 =>
  let x24 := (decide (x23 ≥ (97 : Int)))
  let x26 := (if x24 = true then some x0 else none)
  let x27 := (if x24 = true then some x3 else none)
  Option.bind (if x24 = true then ((x26.bind (fun z702 => x27.map (fun z703 => (z702, z703)))).bind (fun z704 => sAt z704.1 z704.2)).map some else some none) fun x28 =>
  Option.bind (if x24 = true then ((x28.bind (fun z705 => some (z705, (122 : Int)))).map (fun z707 => (decide (z707.1 ≤ z707.2)))).map some else some none) fun x29 =>
  Option.bind (if x24 then x29 else some false) fun x30 =>
  let x32 := (if x30 = false then some x0 else none)
  let x33 := (if x30 = false then some x3 else none)
  Option.bind (if x30 = false then ((x32.bind (fun z708 => x33.map (fun z709 => (z708, z709)))).bind (fun z710 => sAt z710.1 z710.2)).map some else some none) fun x34 =>
  Option.bind (if x30 = false then ((x34.bind (fun z711 => some (z711, (48 : Int)))).map (fun z713 => (decide (z713.1 ≥ z713.2)))).map some else some none) fun x35 =>
  Option.bind (if x30 = false then x35.map some else some none) fun x36 =>
  let x37 := (if x36 = some true then some x0 else none)
  let x38 := (if x36 = some true then some x3 else none)
  Option.bind (if x36 = some true then ((x37.bind (fun z714 => x38.map (fun z715 => (z714, z715)))).bind (fun z716 => sAt z716.1 z716.2)).map some else some none) fun x39 =>
  Option.bind (if x36 = some true then ((x39.bind (fun z717 => some (z717, (57 : Int)))).map (fun z719 => (decide (z719.1 ≤ z719.2)))).map some else some none) fun x40 =>
  Option.bind (if x30 = false then (x36.bind (fun z720 => if z720 then x40 else some false)).map some else some none) fun x41 =>
  Option.bind (if x30 then some true else x41.map (fun z721 => z721)) fun x42 =>
  let x44 := (if x42 = false then some x0 else none)
  let x45 := (if x42 = false then some x3 else none)
  Option.bind (if x42 = false then ((x44.bind (fun z722 => x45.map (fun z723 => (z722, z723)))).bind (fun z724 => sAt z724.1 z724.2)).map some else some none) fun x46 =>
  Option.bind (if x42 = false then ((x46.bind (fun z725 => some (z725, (46 : Int)))).map (fun z727 => (z727.1 == z727.2))).map some else some none) fun x47 =>
  Option.bind (if x42 then some true else x47.map (fun z728 => z728)) fun x48 =>
  let x50 := (if x48 = false then some x0 else none)
  let x51 := (if x48 = false then some x3 else none)
  Option.bind (if x48 = false then ((x50.bind (fun z729 => x51.map (fun z730 => (z729, z730)))).bind (fun z731 => sAt z731.1 z731.2)).map some else some none) fun x52 =>
  Option.bind (if x48 = false then ((x52.bind (fun z732 => some (z732, (95 : Int)))).map (fun z734 => (z734.1 == z734.2))).map some else some none) fun x53 =>
  Option.bind (if x48 then some true else x53.map (fun z735 => z735)) fun x54 =>
  let x56 := (if x54 = false then some x0 else none)
  let x57 := (if x54 = false then some x3 else none)
  Option.bind (if x54 = false then ((x56.bind (fun z736 => x57.map (fun z737 => (z736, z737)))).bind (fun z738 => sAt z738.1 z738.2)).map some else some none) fun x58 =>
  Option.bind (if x54 = false then ((x58.bind (fun z739 => some (z739, (45 : Int)))).map (fun z741 => (z741.1 == z741.2))).map some else some none) fun x59 =>
  Option.bind (if x54 then some true else x59.map (fun z742 => z742)) fun x60 =>
  let x61 := (!x60)
  if x61 then (
   some (Sum.inr (Sum.inr false)))
  else (
   let x20 := IntKind.i64.wrap (x3 + (1 : Int))
   some (Sum.inl (x0, x20, ()))))
 else (
  some (Sum.inr (Sum.inl (()))))
noncomputable def ref25_Name (a : (List UInt8)) : Option (Bool) :=
 let x0 := a
 let x5 := ((x0 == ([] : List UInt8)))
 let x7 := (if x5 = false then some x0 else none)
 Option.bind (if x5 = false then ((x7.bind (fun z37 => some (z37, ([45] : List UInt8)))).map (fun z39 => ((z39.1 == z39.2)))).map some else some none) fun x8 =>
 Option.bind (if x5 then some true else x8.map (fun z40 => z40)) fun x9 =>
 let x11 := (if x9 = false then some x0 else none)
 Option.bind (if x9 = false then (x11.map (fun z41 => (z41.length : Int))).map some else some none) fun x12 =>
 Option.bind (if x9 = false then ((x12.bind (fun z42 => some (z42, (32 : Int)))).map (fun z44 => (decide (z44.1 > z44.2)))).map some else some none) fun x13 =>
 Option.bind (if x9 then some true else x13.map (fun z45 => z45)) fun x14 =>
 if x14 then (
  some false)
 else (
  Option.bind (iter ref25_Name_loop1 (x0, (0 : Int), ())) fun o =>
  match o with
  | Sum.inl p743 => (
   some true)
  | Sum.inr q744 => (
   some q744))
noncomputable def ref37_code_loop1 (s : (List UInt8) × (Int) × Unit) : Option (((List UInt8) × (Int) × Unit) ⊕ ((Unit) ⊕ (Bool))) :=
 let x0 := s.1
 let x3 := s.2.1
 let x6 := (decide (x3 < (7 : Int)))
 if x6 then (
  Option.bind (ref37_word x3) fun x10 =>
  Option.bind (if x10.length + ([47] : List UInt8).length ≤ 4611686018427387904 then some (x10 ++ ([47] : List UInt8)) else none) fun x11 =>
  let x13 := (x0.length : Int)
  let x15 := (x11.length : Int)
  let x16 := (decide (x13 > x15))
  let x18 := (if x16 = true then some x0 else none)
  let x19 := (if x16 = true then some x11 else none)
  Option.bind (if x16 = true then (x19.map (fun z369 => (z369.length : Int))).map some else some none) fun x20 =>
  Option.bind (if x16 = true then (((x18.bind (fun z370 => x20.map (fun z371 => (z370, z371)))).map (fun z372 => (z372.1, (0 : Int), z372.2))).bind (fun z373 => lSub z373.1 z373.2.1 z373.2.2)).map some else some none) fun x21 =>
  let x22 := (if x16 = true then some x11 else none)
  Option.bind (if x16 = true then ((x21.bind (fun z374 => x22.map (fun z375 => (z374, z375)))).map (fun z376 => ((z376.1 == z376.2)))).map some else some none) fun x23 =>
  Option.bind (if x16 then x23 else some false) fun x24 =>
  let x26 := (if x24 = true then some x0 else none)
  let x27 := (if x24 = true then some x11 else none)
  Option.bind (if x24 = true then (x27.map (fun z377 => (z377.length : Int))).map some else some none) fun x28 =>
  Option.bind (if x24 = true then (((x26.bind (fun z378 => x28.map (fun z379 => (z378, z379)))).map (fun z380 => (z380.1, z380.2, (z380.1.length : Int)))).bind (fun z381 => lSub z381.1 z381.2.1 z381.2.2)).map some else some none) fun x29 =>
  Option.bind (if x24 = true then ((x29.bind (fun z382 => some (z382, ([45] : List UInt8)))).map (fun z384 => (!(z384.1 == z384.2)))).map some else some none) fun x30 =>
  Option.bind (if x24 then x30 else some false) fun x31 =>
  let x33 := (if x31 = true then some x0 else none)
  let x34 := (if x31 = true then some x11 else none)
  Option.bind (if x31 = true then (x34.map (fun z385 => (z385.length : Int))).map some else some none) fun x35 =>
  Option.bind (if x31 = true then (((x33.bind (fun z386 => x35.map (fun z387 => (z386, z387)))).map (fun z388 => (z388.1, z388.2, (z388.1.length : Int)))).bind (fun z389 => lSub z389.1 z389.2.1 z389.2.2)).map some else some none) fun x36 =>
  Option.bind (if x31 = true then ((x36.map (fun z390 => z390)).bind (fun z391 => ref25_Name z391)).map some else some none) fun x37 =>
  Option.bind (if x31 then x37 else some false) fun x38 =>
  if x38 then (
   some (Sum.inr (Sum.inr true)))
  else (
   let x8 := IntKind.i64.wrap (x3 + (1 : Int))
   some (Sum.inl (x0, x8, ()))))
 else (
  some (Sum.inr (Sum.inl (()))))
noncomputable def ref37_code (a : (List UInt8)) : Option (Bool) :=
 let x0 := a
 Option.bind (iter ref37_code_loop1 (x0, (0 : Int), ())) fun o =>
 match o with
 | Sum.inl p392 => (
  some false)
 | Sum.inr q393 => (
  some q393)
noncomputable def ref01_Fits (a : Int) : Option (Bool) :=
 let x0 := a
 let x4 := (decide (x0 ≤ (1125899906842624 : Int)))
 let x6 := (if x4 = true then some x0 else none)
 Option.bind (if x4 = true then ((x6.bind (fun z7 => some (z7, (-1125899906842624 : Int)))).map (fun z9 => (decide (z9.1 ≥ z9.2)))).map some else some none) fun x7 =>
 Option.bind (if x4 then x7 else some false) fun x8 =>
 some x8
noncomputable def ref37_Right_loop1 (s : (Int) × (Int) × (Int) × (List ((List UInt8) × Int)) × (Int) × (Unit) × (Unit) × Unit) : Option (((Int) × (Int) × (Int) × (List ((List UInt8) × Int)) × (Int) × (Unit) × (Unit) × Unit) ⊕ ((Unit) ⊕ (Bool))) :=
 let x3 := s.1
 let c1_0 := s.2.1
 let c1_1 := s.2.2.1
 let c1_2 := s.2.2.2.1
 let c1_3 := s.2.2.2.2.1
 let x37 := (c1_2.length : Int)
 let x38 := (decide (x3 < x37))
 if x38 then (
  Option.bind ((lAt c1_2 x3).map (fun y => y)) fun x44 =>
  Option.bind (ref37_code x44.1) fun x48 =>
  let x49 := (!x48)
  let x51 := (if x49 = false then some () else none)
  Option.bind (if x49 = false then (x51.map (fun z579 => x44.2)).map some else some none) fun x52 =>
  Option.bind (if x49 = false then ((x52.map (fun z580 => z580)).bind (fun z581 => ref01_Fits z581)).map some else some none) fun x53 =>
  Option.bind (if x49 = false then (x53.map (fun z582 => (!z582))).map some else some none) fun x54 =>
  Option.bind (if x49 then some true else x54.map (fun z583 => z583)) fun x55 =>
  let x57 := (if x55 = false then some () else none)
  Option.bind (if x55 = false then (x57.map (fun z584 => x44.2)).map some else some none) fun x58 =>
  Option.bind (if x55 = false then ((x58.bind (fun z585 => some (z585, (0 : Int)))).map (fun z587 => (z587.1 == z587.2))).map some else some none) fun x59 =>
  Option.bind (if x55 then some true else x59.map (fun z588 => z588)) fun x60 =>
  let x62 := (if x60 = false then some x3 else none)
  Option.bind (if x60 = false then ((x62.bind (fun z589 => some (z589, (0 : Int)))).map (fun z591 => (decide (z591.1 > z591.2)))).map some else some none) fun x63 =>
  Option.bind (if x60 = false then x63.map some else some none) fun x64 =>
  let x65 := (if x64 = some true then some () else none)
  Option.bind (if x64 = some true then (x65.map (fun z592 => x44.1)).map some else some none) fun x66 =>
  let x67 := (if x64 = some true then some () else none)
  Option.bind (if x64 = some true then (x67.map (fun z593 => c1_2)).map some else some none) fun x68 =>
  let x69 := (if x64 = some true then some x3 else none)
  Option.bind (if x64 = some true then ((x69.bind (fun z594 => some (z594, (1 : Int)))).map (fun z596 => IntKind.i64.wrap (z596.1 - z596.2))).map some else some none) fun x70 =>
  Option.bind (if x64 = some true then ((x68.bind (fun z597 => x70.map (fun z598 => (z597, z598)))).bind (fun z599 => (lAt z599.1 z599.2).map (fun y => y))).map some else some none) fun x71 =>
  Option.bind (if x64 = some true then (x71.map (fun z600 => z600)).map some else some none) fun x72 =>
  Option.bind (if x64 = some true then (x72.map (fun z601 => z601.1)).map some else some none) fun x73 =>
  Option.bind (if x64 = some true then ((x66.bind (fun z602 => x73.map (fun z603 => (z602, z603)))).map (fun z604 => (sLess z604.1 z604.2 || z604.1 == z604.2))).map some else some none) fun x74 =>
  Option.bind (if x60 = false then (x64.bind (fun z605 => if z605 then x74 else some false)).map some else some none) fun x75 =>
  Option.bind (if x60 then some true else x75.map (fun z606 => z606)) fun x76 =>
  if x76 then (
   some (Sum.inr (Sum.inr false)))
  else (
   let x40 := IntKind.i64.wrap (x3 + (1 : Int))
   some (Sum.inl (x40, c1_0, c1_1, c1_2, c1_3, (), (), ()))))
 else (
  some (Sum.inr (Sum.inl (()))))
noncomputable def ref37_Right (a : (Int × Int × (List ((List UInt8) × Int)) × Int)) : Option (Bool) :=
 let x0 := a
 let x7 := (decide (x0.1 < (1 : Int)))
 let x9 := (if x7 = false then some () else none)
 Option.bind (if x7 = false then (x9.map (fun z105 => x0.2.1)).map some else some none) fun x10 =>
 Option.bind (if x7 = false then ((x10.bind (fun z106 => some (z106, (1900 : Int)))).map (fun z108 => (decide (z108.1 < z108.2)))).map some else some none) fun x11 =>
 Option.bind (if x7 then some true else x11.map (fun z109 => z109)) fun x12 =>
 let x14 := (if x12 = false then some () else none)
 Option.bind (if x12 = false then (x14.map (fun z110 => x0.2.1)).map some else some none) fun x15 =>
 Option.bind (if x12 = false then ((x15.bind (fun z111 => some (z111, (2199 : Int)))).map (fun z113 => (decide (z113.1 > z113.2)))).map some else some none) fun x16 =>
 Option.bind (if x12 then some true else x16.map (fun z114 => z114)) fun x17 =>
 let x19 := (if x17 = false then some () else none)
 Option.bind (if x17 = false then (x19.map (fun z115 => x0.2.2.1)).map some else some none) fun x20 =>
 Option.bind (if x17 = false then (x20.map (fun z116 => (z116.length : Int))).map some else some none) fun x21 =>
 Option.bind (if x17 = false then ((x21.bind (fun z117 => some (z117, (448 : Int)))).map (fun z119 => (decide (z119.1 > z119.2)))).map some else some none) fun x22 =>
 Option.bind (if x17 then some true else x22.map (fun z120 => z120)) fun x23 =>
 let x25 := (if x23 = false then some () else none)
 Option.bind (if x23 = false then (x25.map (fun z121 => x0.2.2.2)).map some else some none) fun x26 =>
 Option.bind (if x23 = false then ((x26.bind (fun z122 => some (z122, (0 : Int)))).map (fun z124 => (decide (z124.1 < z124.2)))).map some else some none) fun x27 =>
 Option.bind (if x23 then some true else x27.map (fun z125 => z125)) fun x28 =>
 let x30 := (if x28 = false then some () else none)
 Option.bind (if x28 = false then (x30.map (fun z126 => x0.2.2.2)).map some else some none) fun x31 =>
 Option.bind (if x28 = false then ((x31.bind (fun z127 => some (z127, (4096 : Int)))).map (fun z129 => (decide (z129.1 > z129.2)))).map some else some none) fun x32 =>
 Option.bind (if x28 then some true else x32.map (fun z130 => z130)) fun x33 =>
 if x33 then (
  some false)
 else (
  Option.bind (iter ref37_Right_loop1 ((0 : Int), x0.1, x0.2.1, x0.2.2.1, x0.2.2.2, (), (), ())) fun o =>
  match o with
  | Sum.inl p607 => (
   some true)
  | Sum.inr q608 => (
   some q608))
noncomputable def unicode_utf8_RuneCountInString (a : (List UInt8)) : Option (Int) :=
 let x0 := a
 none
noncomputable def unicode_utf8_decodeRuneInStringSlow (a : (List UInt8)) : Option (Int × Int) :=
 let x0 := a
 let x14 := (x0.length : Int)
 let x16 := (decide (x14 < (1 : Int)))
 if x16 then (
  some ((65533 : Int), (0 : Int)))
 else (
  Option.bind (sAt x0 (0 : Int)) fun x18 =>
  none)
noncomputable def unicode_utf8_DecodeRuneInString (a : (List UInt8)) : Option (Int × Int) :=
 let x0 := a
 let x5 := (!(x0 == ([] : List UInt8)))
 let x7 := (if x5 = true then some x0 else none)
 Option.bind (if x5 = true then ((x7.bind (fun z25 => some (z25, (0 : Int)))).bind (fun z27 => sAt z27.1 z27.2)).map some else some none) fun x8 =>
 Option.bind (if x5 = true then ((x8.bind (fun z28 => some (z28, (128 : Int)))).map (fun z30 => (decide (z30.1 < z30.2)))).map some else some none) fun x9 =>
 Option.bind (if x5 then x9 else some false) fun x10 =>
 if x10 then (
  Option.bind (sAt x0 (0 : Int)) fun x12 =>
  let x13 := IntKind.i32.wrap x12
  some (x13, (1 : Int)))
 else (
  Option.bind (unicode_utf8_decodeRuneInStringSlow x0) fun x16 =>
  some (x16.1, x16.2))
noncomputable def strings_explode_loop1 (s : (List UInt8) × (Int) × (Int) × (List (List UInt8)) × (Unit) × Unit) : Option (((List UInt8) × (Int) × (Int) × (List (List UInt8)) × (Unit) × Unit) ⊕ (((List UInt8) × (Int) × (List (List UInt8)) × (Unit) × Unit))) :=
 let x0 := s.1
 let x1 := s.2.1
 let x7 := s.2.2.1
 let l21 := s.2.2.2.1
 let x24 := IntKind.i64.wrap (x1 - (1 : Int))
 let x25 := (decide (x7 < x24))
 if x25 then (
  Option.bind (unicode_utf8_DecodeRuneInString x0) fun x30 =>
  Option.bind (lSub x0 (0 : Int) x30.2) fun x37 =>
  Option.bind (if 0 ≤ x7 ∧ x7 < (l21.length : Int) then some x7.toNat else none) fun x38 =>
  Option.bind ((l21[x38]?).map (fun el37 => l21.set x38 x37)) fun l21 =>
  Option.bind (lSub x0 x30.2 (x0.length : Int)) fun x41 =>
  let x27 := IntKind.i64.wrap (x7 + (1 : Int))
  some (Sum.inl (x41, x1, x27, l21, (), ())))
 else (
  some (Sum.inr (x0, x1, l21, (), ())))
noncomputable def strings_explode (a : (List UInt8) × Int) : Option (List (List UInt8)) :=
 let x0 := a.1
 let x1 := a.2
 Option.bind (unicode_utf8_RuneCountInString x0) fun x11 =>
 Option.bind (show Option (((List UInt8) × (Int) × Unit)) from (
  let x13 := (decide (x1 < (0 : Int)))
  let x15 := (if x13 = false then some x1 else none)
  let x16 := (if x13 = false then some x11 else none)
  Option.bind (if x13 = false then ((x15.bind (fun z17 => x16.map (fun z18 => (z17, z18)))).map (fun z19 => (decide (z19.1 > z19.2)))).map some else some none) fun x17 =>
  Option.bind (if x13 then some true else x17.map (fun z20 => z20)) fun x18 =>
  if x18 then (
   some (x0, x11, ()))
  else (
   some (x0, x1, ())))) fun o =>
 let x0 := o.1
 let x1 := o.2.1
 Option.bind (if 0 ≤ x1 ∧ x1 ≤ x1 ∧ x1 * (16 : Int) ≤ 140737488355328 ∧ x1 ≤ 4611686018427387904 then some (List.replicate x1.toNat ([] : List UInt8)) else none) fun l21 =>
 Option.bind (iter strings_explode_loop1 (x0, x1, (0 : Int), l21, (), ())) fun o =>
 let x0 := o.1
 let x1 := o.2.1
 let l21 := o.2.2.1
 Option.bind (show Option (((List (List UInt8)) × (Unit) × Unit)) from (
  let x43 := (decide (x1 > (0 : Int)))
  if x43 then (
   let x46 := IntKind.i64.wrap (x1 - (1 : Int))
   Option.bind (if 0 ≤ x46 ∧ x46 < (l21.length : Int) then some x46.toNat else none) fun x48 =>
   Option.bind ((l21[x48]?).map (fun el41 => l21.set x48 x0)) fun l21 =>
   some (l21, (), ()))
  else (
   some (l21, (), ())))) fun o =>
 let l21 := o.1
 some l21
noncomputable def strings_Index (a : (List UInt8) × (List UInt8)) : Option (Int) :=
 let x0 := a.1
 let x1 := a.2
 Option.bind (internal_stringslite_Index (x0, x1)) fun x7 =>
 some x7
noncomputable def strings_genSplit_loop1 (s : (List UInt8) × (List UInt8) × (Int) × (Int) × (Int) × (List (List UInt8)) × (Unit) × Unit) : Option (((List UInt8) × (List UInt8) × (Int) × (Int) × (Int) × (List (List UInt8)) × (Unit) × Unit) ⊕ (((List UInt8) × (Int) × (List (List UInt8)) × (Unit) × Unit))) :=
 let x0 := s.1
 let x1 := s.2.1
 let x2 := s.2.2.1
 let x3 := s.2.2.2.1
 let x10 := s.2.2.2.2.1
 let l31 := s.2.2.2.2.2.1
 let x36 := (decide (x10 < x3))
 if x36 then (
  Option.bind (strings_Index (x0, x1)) fun x39 =>
  let x41 := (decide (x39 < (0 : Int)))
  if x41 then (
   some (Sum.inr (x0, x10, l31, (), ())))
  else (
   let x47 := IntKind.i64.wrap (x39 + x2)
   Option.bind (lSub x0 (0 : Int) x47) fun x48 =>
   Option.bind (if 0 ≤ x10 ∧ x10 < (l31.length : Int) then some x10.toNat else none) fun x49 =>
   Option.bind ((l31[x49]?).map (fun el15 => l31.set x49 x48)) fun l31 =>
   let x53 := (x1.length : Int)
   let x54 := IntKind.i64.wrap (x39 + x53)
   Option.bind (lSub x0 x54 (x0.length : Int)) fun x55 =>
   let x57 := IntKind.i64.wrap (x10 + (1 : Int))
   some (Sum.inl (x55, x1, x2, x3, x57, l31, (), ()))))
 else (
  some (Sum.inr (x0, x10, l31, (), ())))
noncomputable def strings_genSplit (a : (List UInt8) × (List UInt8) × Int × Int) : Option (List (List UInt8)) :=
 let x0 := a.1
 let x1 := a.2.1
 let x2 := a.2.2.1
 let x3 := a.2.2.2
 let x13 := (x3 == (0 : Int))
 if x13 then (
  some ([] : List (List UInt8)))
 else (
  let x15 := ((x1 == ([] : List UInt8)))
  if x15 then (
   Option.bind (strings_explode (x0, x3)) fun x18 =>
   some x18)
  else (
   Option.bind (show Option (((List UInt8) × (List UInt8) × (Int) × (Int) × Unit)) from (
       let x20 := (decide (x3 < (0 : Int)))
       if x20 then (
        Option.bind (strings_Count (x0, x1)) fun x23 =>
        let x24 := IntKind.i64.wrap (x23 + (1 : Int))
        some (x0, x1, x2, x24, ()))
       else (
        some (x0, x1, x2, x3, ())))) fun o =>
   let x0 := o.1
   let x1 := o.2.1
   let x2 := o.2.2.1
   let x3 := o.2.2.2.1
   let x27 := (x0.length : Int)
   let x28 := IntKind.i64.wrap (x27 + (1 : Int))
   let x29 := (min x3 x28)
   Option.bind (if 0 ≤ x29 ∧ x29 ≤ x29 ∧ x29 * (16 : Int) ≤ 140737488355328 ∧ x29 ≤ 4611686018427387904 then some (List.replicate x29.toNat ([] : List UInt8)) else none) fun l31 =>
   let x33 := IntKind.i64.wrap (x29 - (1 : Int))
   Option.bind (show Option (((List UInt8) × (Int) × (List (List UInt8)) × (Unit) × Unit)) from (
       Option.bind (iter strings_genSplit_loop1 (x0, x1, x2, x33, (0 : Int), l31, (), ())) fun o =>
       let x0 := o.1
       let x10 := o.2.1
       let l31 := o.2.2.1
       some (x0, x10, l31, (), ()))) fun o =>
   let x0 := o.1
   let x10 := o.2.1
   let l31 := o.2.2.1
   Option.bind (if 0 ≤ x10 ∧ x10 < (l31.length : Int) then some x10.toNat else none) fun x61 =>
   Option.bind ((l31[x61]?).map (fun el18 => l31.set x61 x0)) fun l31 =>
   let x64 := IntKind.i64.wrap (x10 + (1 : Int))
   Option.bind (lSub l31 (0 : Int) x64) fun x65 =>
   some x65))
noncomputable def strings_Split (a : (List UInt8) × (List UInt8)) : Option (List (List UInt8)) :=
 let x0 := a.1
 let x1 := a.2
 Option.bind (strings_genSplit (x0, x1, (0 : Int), (-1 : Int))) fun x7 =>
 some x7
noncomputable def paper_head (a : (List UInt8)) : Option ((Int × Int × Unit × Int) × Bool) :=
 let x0 := a
 Option.bind (strings_Split (x0, ([32] : List UInt8))) fun x12 =>
 let x14 := (x12.length : Int)
 let x15 := (x14 != (4 : Int))
 if x15 then (
  some (((0 : Int), (0 : Int), (), (0 : Int)), false))
 else (
  Option.bind ((lAt x12 (1 : Int)).map (fun y => y)) fun x19 =>
  Option.bind (strconv_ParseUint (x19, (10 : Int), (32 : Int))) fun x21 =>
  Option.bind ((lAt x12 (2 : Int)).map (fun y => y)) fun x26 =>
  Option.bind (strconv_Atoi x26) fun x28 =>
  Option.bind ((lAt x12 (3 : Int)).map (fun y => y)) fun x33 =>
  Option.bind (strconv_Atoi x33) fun x35 =>
  let x39 := IntKind.u32.wrap x21.1
  let x46 := (if x21.2 = true then some x28.2 else none)
  Option.bind (if x21.2 = true then (x46.map (fun z5 => z5)).map some else some none) fun x47 =>
  Option.bind (if x21.2 then x47 else some false) fun x48 =>
  let x50 := (if x48 = true then some x35.2 else none)
  Option.bind (if x48 = true then (x50.map (fun z6 => z6)).map some else some none) fun x51 =>
  Option.bind (if x48 then x51 else some false) fun x52 =>
  some ((x39, x28.1, (), x35.1), x52))
noncomputable def cents_Parse_loop1 (s : (List UInt8) × (Int) × (Bool) × (Int) × (Int) × Unit) : Option (((List UInt8) × (Int) × (Bool) × (Int) × (Int) × Unit) ⊕ (((List UInt8) × (Int) × (Bool) × Unit) ⊕ (Int × Int))) :=
 let x0 := s.1
 let x4 := s.2.1
 let x5 := s.2.2.1
 let x9 := s.2.2.2.1
 let x10 := s.2.2.2.2.1
 let x11 := (decide (x10 < x9))
 if x11 then (
  Option.bind (show Option (((List UInt8) × (Int) × (Bool) × (Int) × (Int) × Unit) ⊕ (Int × Int)) from (
   Option.bind (sAt x0 x10) fun x15 =>
   let x24 := (x10 == (0 : Int))
   let x26 := (if x24 = true then some x15 else none)
   Option.bind (if x24 = true then ((x26.bind (fun z161 => some (z161, (45 : Int)))).map (fun z163 => (z163.1 == z163.2))).map some else some none) fun x27 =>
   Option.bind (if x24 then x27 else some false) fun x28 =>
   if x28 then (
    some (Sum.inl (x0, x4, true, x9, x10, ())))
   else (
    let x31 := (x15 == (46 : Int))
    if x31 then (
     some (Sum.inl (x0, x4, x5, x9, x10, ())))
    else (
     let x34 := (decide (x15 < (48 : Int)))
     let x36 := (if x34 = false then some x15 else none)
     Option.bind (if x34 = false then ((x36.bind (fun z180 => some (z180, (57 : Int)))).map (fun z182 => (decide (z182.1 > z182.2)))).map some else some none) fun x37 =>
     Option.bind (if x34 then some true else x37.map (fun z183 => z183)) fun x38 =>
     let x40 := (if x38 = false then some x4 else none)
     Option.bind (if x38 = false then ((x40.bind (fun z184 => some (z184, (1125899906842624 : Int)))).map (fun z186 => (decide (z186.1 > z186.2)))).map some else some none) fun x41 =>
     Option.bind (if x38 then some true else x41.map (fun z187 => z187)) fun x42 =>
     if x42 then (
         some (Sum.inr ((0 : Int), (3 : Int))))
     else (
         let x17 := IntKind.i64.wrap ((10 : Int) * x4)
         let x19 := IntKind.u8.wrap (x15 - (48 : Int))
         let x20 := IntKind.i64.wrap x19
         let x21 := IntKind.i64.wrap (x17 + x20)
         some (Sum.inl (x0, x21, x5, x9, x10, ()))))))) fun o =>
  match o with
  | Sum.inl p188 => (
   let x0 := p188.1
   let x4 := p188.2.1
   let x5 := p188.2.2.1
   let x9 := p188.2.2.2.1
   let x10 := p188.2.2.2.2.1
   let x43 := IntKind.i64.wrap (x10 + (1 : Int))
   some (Sum.inl (x0, x4, x5, x9, x43, ())))
  | Sum.inr q189 => (
   some (Sum.inr (Sum.inr q189))))
 else (
  some (Sum.inr (Sum.inl (x0, x4, x5, ()))))
noncomputable def cents_Parse (a : (List UInt8)) : Option (Int × Int) :=
 let x0 := a
 let x9 := (x0.length : Int)
 Option.bind (iter cents_Parse_loop1 (x0, (0 : Int), false, x9, (0 : Int), ())) fun o =>
 match o with
 | Sum.inl p190 => (
  let x0 := p190.1
  let x4 := p190.2.1
  let x5 := p190.2.2.1
  Option.bind (show Option (((List UInt8) × (Int) × Unit)) from (
   if x5 then (
    let x46 := IntKind.i64.wrap (0 - x4)
    some (x0, x46, ()))
   else (
    some (x0, x4, ())))) fun o =>
  let x0 := o.1
  let x4 := o.2.1
  let x48 := ((x0 == ([] : List UInt8)))
  let x50 := (if x48 = false then some x4 else none)
  Option.bind (if x48 = false then ((x50.map (fun z216 => z216)).bind (fun z217 => cents_Text z217)).map some else some none) fun x51 =>
  let x52 := (if x48 = false then some x0 else none)
  Option.bind (if x48 = false then ((x51.bind (fun z218 => x52.map (fun z219 => (z218, z219)))).map (fun z220 => (!(z220.1 == z220.2)))).map some else some none) fun x53 =>
  Option.bind (if x48 then some true else x53.map (fun z221 => z221)) fun x54 =>
  if x54 then (
   some ((0 : Int), (3 : Int)))
  else (
   some (x4, (0 : Int))))
 | Sum.inr q191 => (
  some q191)
noncomputable def paper_Parse_loop1 (s : (List UInt8) × (List (List UInt8)) × (Int) × (Int) × (Int) × (Int) × (Int) × (Int) × (Int) × (Int) × (List ((List UInt8) × Int)) × (Unit) × (Unit) × (Unit) × (Unit) × (Unit) × (Unit) × Unit) : Option (((List UInt8) × (List (List UInt8)) × (Int) × (Int) × (Int) × (Int) × (Int) × (Int) × (Int) × (Int) × (List ((List UInt8) × Int)) × (Unit) × (Unit) × (Unit) × (Unit) × (Unit) × (Unit) × Unit) ⊕ (((List UInt8) × (Int) × (Int) × (Int) × (Int) × (Int) × (Int) × (List ((List UInt8) × Int)) × (Unit) × (Unit) × (Unit) × (Unit) × (Unit) × (Unit) × Unit) ⊕ ((Int × Int × (List ((List UInt8) × Int)) × Int) × Int))) :=
 let x0 := s.1
 let x36 := s.2.1
 let x37 := s.2.2.1
 let x38 := s.2.2.2.1
 let c2_0 := s.2.2.2.2.1
 let c2_1 := s.2.2.2.2.2.1
 let c2_3 := s.2.2.2.2.2.2.1
 let c5_0 := s.2.2.2.2.2.2.2.1
 let c5_1 := s.2.2.2.2.2.2.2.2.1
 let c5_3 := s.2.2.2.2.2.2.2.2.2.1
 let l100502 := s.2.2.2.2.2.2.2.2.2.2.1
 let x39 := (decide (x38 < x37))
 if x39 then (
  Option.bind ((lAt x36 x38).map (fun y => y)) fun x40 =>
  Option.bind (strings_Cut (x40, ([32] : List UInt8))) fun x44 =>
  Option.bind (cents_Parse x44.2.1) fun x50 =>
  let x54 := (x50.2 != (0 : Int))
  if x54 then (
   some (Sum.inr (Sum.inr (((0 : Int), (0 : Int), ([] : List ((List UInt8) × Int)), (0 : Int)), (3 : Int)))))
  else (
   let l61 := ([(x44.1, x50.1)] : List ((List UInt8) × Int))
   Option.bind (if ((l100502.length : Int) + (l61.length : Int)) * (24 : Int) ≤ 140737488355328 ∧ (l100502.length : Int) + (l61.length : Int) ≤ 4611686018427387904 then some (l100502 ++ l61) else none) fun l100502 =>
   let x64 := IntKind.i64.wrap (x38 + (1 : Int))
   some (Sum.inl (x0, x36, x37, x64, c2_0, c2_1, c2_3, c5_0, c5_1, c5_3, l100502, (), (), (), (), (), (), ()))))
 else (
  some (Sum.inr (Sum.inl (x0, c2_0, c2_1, c2_3, c5_0, c5_1, c5_3, l100502, (), (), (), (), (), (), ()))))
noncomputable def paper_Parse (a : (List UInt8)) : Option ((Int × Int × (List ((List UInt8) × Int)) × Int) × Int) :=
 let x0 := a
 Option.bind (strings_Split (x0, ([10] : List UInt8))) fun x15 =>
 Option.bind ((lAt x15 (0 : Int)).map (fun y => y)) fun x18 =>
 Option.bind (paper_head x18) fun x20 =>
 let x24 := (!x20.2)
 let x26 := (if x24 = false then some x15 else none)
 Option.bind (if x24 = false then (x26.map (fun z21 => (z21.length : Int))).map some else some none) fun x27 =>
 Option.bind (if x24 = false then ((x27.bind (fun z22 => some (z22, (450 : Int)))).map (fun z24 => (decide (z24.1 > z24.2)))).map some else some none) fun x28 =>
 Option.bind (if x24 then some true else x28.map (fun z25 => z25)) fun x29 =>
 if x29 then (
  some (((0 : Int), (0 : Int), ([] : List ((List UInt8) × Int)), (0 : Int)), (3 : Int)))
 else (
  let x33 := (x15.length : Int)
  let x34 := IntKind.i64.wrap (x33 - (1 : Int))
  let x35 := (max (1 : Int) x34)
  Option.bind (lSub x15 (1 : Int) x35) fun x36 =>
  let x37 := (x36.length : Int)
  Option.bind (iter paper_Parse_loop1 (x0, x36, x37, (0 : Int), (0 : Int), (0 : Int), (0 : Int), x20.1.1, x20.1.2.1, x20.1.2.2.2, ([] : List ((List UInt8) × Int)), (), (), (), (), (), (), ())) fun o =>
  match o with
  | Sum.inl p26 => (
   let x0 := p26.1
   let c2_0 := p26.2.1
   let c2_1 := p26.2.2.1
   let c2_3 := p26.2.2.2.1
   let c5_0 := p26.2.2.2.2.1
   let c5_1 := p26.2.2.2.2.2.1
   let c5_3 := p26.2.2.2.2.2.2.1
   let l100502 := p26.2.2.2.2.2.2.2.1
   Option.bind (paper_Paper_Text (c5_0, c5_1, l100502, c5_3)) fun x66 =>
   let x67 := ((x66 == ([] : List UInt8)))
   let x69 := (if x67 = false then some (c5_0, c5_1, l100502, c5_3) else none)
   Option.bind (if x67 = false then ((x69.map (fun z52 => z52)).bind (fun z53 => paper_Paper_Text z53)).map some else some none) fun x70 =>
   let x71 := (if x67 = false then some x0 else none)
   Option.bind (if x67 = false then ((x70.bind (fun z54 => x71.map (fun z55 => (z54, z55)))).map (fun z56 => (!(z56.1 == z56.2)))).map some else some none) fun x72 =>
   Option.bind (if x67 then some true else x72.map (fun z57 => z57)) fun x73 =>
   if x73 then (
       some (((0 : Int), (0 : Int), ([] : List ((List UInt8) × Int)), (0 : Int)), (3 : Int)))
   else (
       some ((c5_0, c5_1, l100502, c5_3), (0 : Int))))
  | Sum.inr q27 => (
   some q27))
noncomputable def ref25_Same_loop1 (s : (List ((List UInt8) × Int)) × (List ((List UInt8) × Int)) × (Int) × Unit) : Option (((List ((List UInt8) × Int)) × (List ((List UInt8) × Int)) × (Int) × Unit) ⊕ ((Unit) ⊕ (Bool))) :=
 let x0 := s.1
 let x1 := s.2.1
 let x5 := s.2.2.1
 let x13 := (x0.length : Int)
 let x14 := (decide (x5 < x13))
 if x14 then (
  Option.bind ((lAt x0 x5).map (fun y => y)) fun x19 =>
  Option.bind ((lAt x1 x5).map (fun y => y)) fun x23 =>
  let x25 := (!((x19.1 == x23.1) && (x19.2 == x23.2)))
  if x25 then (
   some (Sum.inr (Sum.inr false)))
  else (
   let x16 := IntKind.i64.wrap (x5 + (1 : Int))
   some (Sum.inl (x0, x1, x16, ()))))
 else (
  some (Sum.inr (Sum.inl (()))))
noncomputable def ref25_Same (a : (List ((List UInt8) × Int)) × (List ((List UInt8) × Int))) : Option (Bool) :=
 let x0 := a.1
 let x1 := a.2
 let x7 := (x0.length : Int)
 let x9 := (x1.length : Int)
 let x10 := (x7 != x9)
 if x10 then (
  some false)
 else (
  Option.bind (iter ref25_Same_loop1 (x0, x1, (0 : Int), ())) fun o =>
  match o with
  | Sum.inl p1 => (
   some true)
  | Sum.inr q2 => (
   some q2))
noncomputable def law37_same (a : (Int × Int × (List ((List UInt8) × Int)) × Int) × (Int × Int × (List ((List UInt8) × Int)) × Int)) : Option (Bool) :=
 let x0 := a.1
 let x1 := a.2
 let x9 := (x0.1 == x1.1)
 let x11 := (if x9 = true then some () else none)
 Option.bind (if x9 = true then (x11.map (fun z33 => x0.2.1)).map some else some none) fun x12 =>
 let x13 := (if x9 = true then some () else none)
 Option.bind (if x9 = true then (x13.map (fun z34 => x1.2.1)).map some else some none) fun x14 =>
 Option.bind (if x9 = true then ((x12.bind (fun z35 => x14.map (fun z36 => (z35, z36)))).map (fun z37 => (z37.1 == z37.2))).map some else some none) fun x15 =>
 Option.bind (if x9 then x15 else some false) fun x16 =>
 let x18 := (if x16 = true then some () else none)
 Option.bind (if x16 = true then (x18.map (fun z38 => x0.2.2.2)).map some else some none) fun x19 =>
 let x20 := (if x16 = true then some () else none)
 Option.bind (if x16 = true then (x20.map (fun z39 => x1.2.2.2)).map some else some none) fun x21 =>
 Option.bind (if x16 = true then ((x19.bind (fun z40 => x21.map (fun z41 => (z40, z41)))).map (fun z42 => (z42.1 == z42.2))).map some else some none) fun x22 =>
 Option.bind (if x16 then x22 else some false) fun x23 =>
 let x25 := (if x23 = true then some () else none)
 Option.bind (if x23 = true then (x25.map (fun z43 => x0.2.2.1)).map some else some none) fun x26 =>
 let x27 := (if x23 = true then some () else none)
 Option.bind (if x23 = true then (x27.map (fun z44 => x1.2.2.1)).map some else some none) fun x28 =>
 Option.bind (if x23 = true then (((x26.bind (fun z45 => x28.map (fun z46 => (z45, z46)))).map (fun z47 => (z47.1, z47.2))).bind (fun z48 => ref25_Same z48)).map some else some none) fun x29 =>
 Option.bind (if x23 then x29 else some false) fun x30 =>
 some x30
noncomputable def ref37_words_loop1 (s : (List UInt8) × (Int) × (List (List UInt8)) × (Unit) × Unit) : Option (((List UInt8) × (Int) × (List (List UInt8)) × (Unit) × Unit) ⊕ (((List (List UInt8)) × (Unit) × Unit))) :=
 let x0 := s.1
 let x4 := s.2.1
 let l5 := s.2.2.1
 let x8 := (x0.length : Int)
 let x9 := (decide (x4 < x8))
 if x9 then (
  Option.bind (show Option (((List UInt8) × (Int) × (List (List UInt8)) × (Unit) × Unit)) from (
   Option.bind (sAt x0 x4) fun x14 =>
   let x15 := (x14 == (32 : Int))
   if x15 then (
    let l17 := ([([] : List UInt8)] : List (List UInt8))
    Option.bind (if ((l5.length : Int) + (l17.length : Int)) * (16 : Int) ≤ 140737488355328 ∧ (l5.length : Int) + (l17.length : Int) ≤ 4611686018427387904 then some (l5 ++ l17) else none) fun l5 =>
    some (x0, x4, l5, (), ()))
   else (
    let x21 := (l5.length : Int)
    let x22 := IntKind.i64.wrap (x21 - (1 : Int))
    let x25 := (l5.length : Int)
    let x26 := IntKind.i64.wrap (x25 - (1 : Int))
    Option.bind (if 0 ≤ x26 ∧ x26 < (l5.length : Int) then some x26.toNat else none) fun x27 =>
    Option.bind ((l5[x27]?).map (fun y => y)) fun x28 =>
    let x32 := IntKind.i64.wrap (x4 + (1 : Int))
    Option.bind (lSub x0 x4 x32) fun x33 =>
    Option.bind (if x28.length + x33.length ≤ 4611686018427387904 then some (x28 ++ x33) else none) fun x34 =>
    Option.bind (if 0 ≤ x22 ∧ x22 < (l5.length : Int) then some x22.toNat else none) fun x35 =>
    Option.bind ((l5[x35]?).map (fun el16 => l5.set x35 x34)) fun l5 =>
    some (x0, x4, l5, (), ())))) fun o =>
  let x0 := o.1
  let x4 := o.2.1
  let l5 := o.2.2.1
  let x11 := IntKind.i64.wrap (x4 + (1 : Int))
  some (Sum.inl (x0, x11, l5, (), ())))
 else (
  some (Sum.inr (l5, (), ())))
noncomputable def ref37_words (a : (List UInt8)) : Option (List (List UInt8)) :=
 let x0 := a
 let l5 := ([([] : List UInt8)] : List (List UInt8))
 Option.bind (iter ref37_words_loop1 (x0, (0 : Int), l5, (), ())) fun o =>
 let l5 := o.1
 some l5
noncomputable def ref37_number_loop1 (s : (List UInt8) × (Int) × (Int) × Unit) : Option (((List UInt8) × (Int) × (Int) × Unit) ⊕ (((Int) × Unit) ⊕ (Int × Bool))) :=
 let x0 := s.1
 let x4 := s.2.1
 let x5 := s.2.2.1
 let x25 := (x0.length : Int)
 let x26 := (decide (x5 < x25))
 if x26 then (
  Option.bind (sAt x0 x5) fun x31 =>
  let x32 := (decide (x31 < (48 : Int)))
  let x34 := (if x32 = false then some x0 else none)
  let x35 := (if x32 = false then some x5 else none)
  Option.bind (if x32 = false then ((x34.bind (fun z207 => x35.map (fun z208 => (z207, z208)))).bind (fun z209 => sAt z209.1 z209.2)).map some else some none) fun x36 =>
  Option.bind (if x32 = false then ((x36.bind (fun z210 => some (z210, (57 : Int)))).map (fun z212 => (decide (z212.1 > z212.2)))).map some else some none) fun x37 =>
  Option.bind (if x32 then some true else x37.map (fun z213 => z213)) fun x38 =>
  if x38 then (
   some (Sum.inr (Sum.inr ((0 : Int), false))))
  else (
   let x40 := IntKind.i64.wrap ((10 : Int) * x4)
   Option.bind (sAt x0 x5) fun x43 =>
   let x44 := IntKind.u8.wrap (x43 - (48 : Int))
   let x45 := IntKind.i64.wrap x44
   let x46 := IntKind.i64.wrap (x40 + x45)
   let x28 := IntKind.i64.wrap (x5 + (1 : Int))
   some (Sum.inl (x0, x46, x28, ()))))
 else (
  some (Sum.inr (Sum.inl (x4, ()))))
noncomputable def ref37_number (a : (List UInt8)) : Option (Int × Bool) :=
 let x0 := a
 let x7 := (x0.length : Int)
 let x8 := (decide (x7 < (1 : Int)))
 let x10 := (if x8 = false then some x0 else none)
 Option.bind (if x8 = false then (x10.map (fun z65 => (z65.length : Int))).map some else some none) fun x11 =>
 Option.bind (if x8 = false then ((x11.bind (fun z66 => some (z66, (10 : Int)))).map (fun z68 => (decide (z68.1 > z68.2)))).map some else some none) fun x12 =>
 Option.bind (if x8 then some true else x12.map (fun z69 => z69)) fun x13 =>
 let x15 := (if x13 = false then some x0 else none)
 Option.bind (if x13 = false then ((x15.bind (fun z70 => some (z70, (0 : Int)))).bind (fun z72 => sAt z72.1 z72.2)).map some else some none) fun x16 =>
 Option.bind (if x13 = false then ((x16.bind (fun z73 => some (z73, (48 : Int)))).map (fun z75 => (z75.1 == z75.2))).map some else some none) fun x17 =>
 Option.bind (if x13 = false then x17.map some else some none) fun x18 =>
 let x19 := (if x18 = some true then some x0 else none)
 Option.bind (if x18 = some true then ((x19.bind (fun z76 => some (z76, ([48] : List UInt8)))).map (fun z78 => (!(z78.1 == z78.2)))).map some else some none) fun x20 =>
 Option.bind (if x13 = false then (x18.bind (fun z79 => if z79 then x20 else some false)).map some else some none) fun x21 =>
 Option.bind (if x13 then some true else x21.map (fun z80 => z80)) fun x22 =>
 if x22 then (
  some ((0 : Int), false))
 else (
  Option.bind (iter ref37_number_loop1 (x0, (0 : Int), (0 : Int), ())) fun o =>
  match o with
  | Sum.inl p214 => (
   let x4 := p214.1
   some (x4, true))
  | Sum.inr q215 => (
   some q215))
noncomputable def ref01_Parse_loop1 (s : (List UInt8) × (Bool) × (Int) × (Int) × Unit) : Option (((List UInt8) × (Bool) × (Int) × (Int) × Unit) ⊕ (((List UInt8) × (Bool) × (Int) × Unit) ⊕ (Int × Bool))) :=
 let x0 := s.1
 let x4 := s.2.1
 let x5 := s.2.2.1
 let x6 := s.2.2.2.1
 let x36 := (x0.length : Int)
 let x37 := (decide (x6 < x36))
 if x37 then (
  Option.bind (show Option (((List UInt8) × (Bool) × (Int) × (Int) × Unit) ⊕ (Int × Bool)) from (
   let x42 := (x0.length : Int)
   let x43 := IntKind.i64.wrap (x42 - (3 : Int))
   let x44 := (x6 == x43)
   if x44 then (
    some (Sum.inl (x0, x4, x5, x6, ())))
   else (
    Option.bind (sAt x0 x6) fun x47 =>
    let x48 := (decide (x47 < (48 : Int)))
    let x50 := (if x48 = false then some x0 else none)
    let x51 := (if x48 = false then some x6 else none)
    Option.bind (if x48 = false then ((x50.bind (fun z225 => x51.map (fun z226 => (z225, z226)))).bind (fun z227 => sAt z227.1 z227.2)).map some else some none) fun x52 =>
    Option.bind (if x48 = false then ((x52.bind (fun z228 => some (z228, (57 : Int)))).map (fun z230 => (decide (z230.1 > z230.2)))).map some else some none) fun x53 =>
    Option.bind (if x48 then some true else x53.map (fun z231 => z231)) fun x54 =>
    if x54 then (
     some (Sum.inr ((0 : Int), false)))
    else (
     let x56 := IntKind.i64.wrap ((10 : Int) * x5)
     Option.bind (sAt x0 x6) fun x59 =>
     let x60 := IntKind.u8.wrap (x59 - (48 : Int))
     let x61 := IntKind.i64.wrap x60
     let x62 := IntKind.i64.wrap (x56 + x61)
     some (Sum.inl (x0, x4, x62, x6, ())))))) fun o =>
  match o with
  | Sum.inl p232 => (
   let x0 := p232.1
   let x4 := p232.2.1
   let x5 := p232.2.2.1
   let x6 := p232.2.2.2.1
   let x39 := IntKind.i64.wrap (x6 + (1 : Int))
   some (Sum.inl (x0, x4, x5, x39, ())))
  | Sum.inr q233 => (
   some (Sum.inr (Sum.inr q233))))
 else (
  some (Sum.inr (Sum.inl (x0, x4, x5, ()))))
noncomputable def ref01_Parse (a : (List UInt8)) : Option (Int × Bool) :=
 let x0 := a
 let x8 := (x0.length : Int)
 let x9 := (decide (x8 > (0 : Int)))
 let x11 := (if x9 = true then some x0 else none)
 Option.bind (if x9 = true then ((x11.bind (fun z13 => some (z13, (0 : Int)))).bind (fun z15 => sAt z15.1 z15.2)).map some else some none) fun x12 =>
 Option.bind (if x9 = true then ((x12.bind (fun z16 => some (z16, (45 : Int)))).map (fun z18 => (z18.1 == z18.2))).map some else some none) fun x13 =>
 Option.bind (if x9 then x13 else some false) fun x14 =>
 Option.bind (show Option (((List UInt8) × (Bool) × Unit)) from (
  if x14 then (
   Option.bind (lSub x0 (1 : Int) (x0.length : Int)) fun x17 =>
   some (x17, x14, ()))
  else (
   some (x0, x14, ())))) fun o =>
 let x0 := o.1
 let x4 := o.2.1
 let x19 := (x0.length : Int)
 let x20 := (decide (x19 < (4 : Int)))
 let x22 := (if x20 = false then some x0 else none)
 Option.bind (if x20 = false then (x22.map (fun z83 => (z83.length : Int))).map some else some none) fun x23 =>
 Option.bind (if x20 = false then ((x23.bind (fun z84 => some (z84, (17 : Int)))).map (fun z86 => (decide (z86.1 > z86.2)))).map some else some none) fun x24 =>
 Option.bind (if x20 then some true else x24.map (fun z87 => z87)) fun x25 =>
 let x27 := (if x25 = false then some x0 else none)
 let x28 := (if x25 = false then some x0 else none)
 Option.bind (if x25 = false then (x28.map (fun z88 => (z88.length : Int))).map some else some none) fun x29 =>
 Option.bind (if x25 = false then ((x29.bind (fun z89 => some (z89, (3 : Int)))).map (fun z91 => IntKind.i64.wrap (z91.1 - z91.2))).map some else some none) fun x30 =>
 Option.bind (if x25 = false then ((x27.bind (fun z92 => x30.map (fun z93 => (z92, z93)))).bind (fun z94 => sAt z94.1 z94.2)).map some else some none) fun x31 =>
 Option.bind (if x25 = false then ((x31.bind (fun z95 => some (z95, (46 : Int)))).map (fun z97 => (z97.1 != z97.2))).map some else some none) fun x32 =>
 Option.bind (if x25 then some true else x32.map (fun z98 => z98)) fun x33 =>
 if x33 then (
  some ((0 : Int), false))
 else (
  Option.bind (iter ref01_Parse_loop1 (x0, x4, (0 : Int), (0 : Int), ())) fun o =>
  match o with
  | Sum.inl p234 => (
   let x0 := p234.1
   let x4 := p234.2.1
   let x5 := p234.2.2.1
   Option.bind (sAt x0 (0 : Int)) fun x64 =>
   let x65 := (x64 == (48 : Int))
   let x67 := (if x65 = true then some x0 else none)
   Option.bind (if x65 = true then (x67.map (fun z288 => (z288.length : Int))).map some else some none) fun x68 =>
   Option.bind (if x65 = true then ((x68.bind (fun z289 => some (z289, (4 : Int)))).map (fun z291 => (decide (z291.1 > z291.2)))).map some else some none) fun x69 =>
   Option.bind (if x65 then x69 else some false) fun x70 =>
   let x72 := (if x70 = false then some x5 else none)
   Option.bind (if x70 = false then ((x72.bind (fun z292 => some (z292, (1125899906842624 : Int)))).map (fun z294 => (decide (z294.1 > z294.2)))).map some else some none) fun x73 =>
   Option.bind (if x70 then some true else x73.map (fun z295 => z295)) fun x74 =>
   let x76 := (if x74 = false then some x4 else none)
   Option.bind (if x74 = false then x76.map some else some none) fun x77 =>
   let x78 := (if x77 = some true then some x5 else none)
   Option.bind (if x77 = some true then ((x78.bind (fun z296 => some (z296, (0 : Int)))).map (fun z298 => (z298.1 == z298.2))).map some else some none) fun x79 =>
   Option.bind (if x74 = false then (x77.bind (fun z299 => if z299 then x79 else some false)).map some else some none) fun x80 =>
   Option.bind (if x74 then some true else x80.map (fun z300 => z300)) fun x81 =>
   if x81 then (
       some ((0 : Int), false))
   else (
       if x4 then (
        let x84 := IntKind.i64.wrap (0 - x5)
        some (x84, true))
       else (
        some (x5, true))))
  | Sum.inr q235 => (
   some q235))
noncomputable def ref37_Parse_loop1 (s : (List UInt8) × (Int) × (Int) × (Int) × (Int) × (Int) × (Int) × (Int) × (Int) × (Int) × (List ((List UInt8) × Int)) × (Unit) × (Unit) × (Unit) × (Unit) × (Unit) × (Unit) × Unit) : Option (((List UInt8) × (Int) × (Int) × (Int) × (Int) × (Int) × (Int) × (Int) × (Int) × (Int) × (List ((List UInt8) × Int)) × (Unit) × (Unit) × (Unit) × (Unit) × (Unit) × (Unit) × Unit) ⊕ (((List UInt8) × (Int) × (Int) × (Int) × (Int) × (Int) × (Int) × (Int) × (Int) × (List ((List UInt8) × Int)) × (Unit) × (Unit) × (Unit) × (Unit) × (Unit) × (Unit) × Unit) ⊕ ((Int × Int × (List ((List UInt8) × Int)) × Int) × Bool))) :=
 let x0 := s.1
 let x5 := s.2.1
 let x6 := s.2.2.1
 let x7 := s.2.2.2.1
 let c2_0 := s.2.2.2.2.1
 let c2_1 := s.2.2.2.2.2.1
 let c2_3 := s.2.2.2.2.2.2.1
 let c4_0 := s.2.2.2.2.2.2.2.1
 let c4_1 := s.2.2.2.2.2.2.2.2.1
 let c4_3 := s.2.2.2.2.2.2.2.2.2.1
 let l100402 := s.2.2.2.2.2.2.2.2.2.2.1
 let x19 := (x0.length : Int)
 let x20 := (decide (x7 < x19))
 if x20 then (
  Option.bind (show Option (((List UInt8) × (Int) × (Int) × (Int) × (Int) × (Int) × (Int) × (Int) × (Int) × (Int) × (List ((List UInt8) × Int)) × (Unit) × (Unit) × (Unit) × (Unit) × (Unit) × (Unit) × Unit) ⊕ ((Int × Int × (List ((List UInt8) × Int)) × Int) × Bool)) from (
   Option.bind (sAt x0 x7) fun x25 =>
   let x26 := (x25 != (10 : Int))
   if x26 then (
    some (Sum.inl (x0, x5, x6, x7, c2_0, c2_1, c2_3, c4_0, c4_1, c4_3, l100402, (), (), (), (), (), (), ())))
   else (
    Option.bind (lSub x0 x5 x7) fun x30 =>
    Option.bind (ref37_words x30) fun x31 =>
    let x33 := IntKind.i64.wrap (x7 + (1 : Int))
    let x35 := IntKind.i64.wrap (x6 + (1 : Int))
    let x37 := (x35 == (1 : Int))
    if x37 then (
     let x39 := (x31.length : Int)
     let x40 := (x39 != (4 : Int))
     let x42 := (if x40 = false then some x31 else none)
     Option.bind (if x40 = false then ((x42.bind (fun z289 => some (z289, (0 : Int)))).bind (fun z291 => (lAt z291.1 z291.2).map (fun y => y))).map some else some none) fun x43 =>
     Option.bind (if x40 = false then (x43.map (fun z292 => z292)).map some else some none) fun x44 =>
     Option.bind (if x40 = false then ((x44.bind (fun z293 => some (z293, ([112, 97, 112, 101, 114] : List UInt8)))).map (fun z295 => (!(z295.1 == z295.2)))).map some else some none) fun x45 =>
     Option.bind (if x40 then some true else x45.map (fun z296 => z296)) fun x46 =>
     if x46 then (
         some (Sum.inr (((0 : Int), (0 : Int), ([] : List ((List UInt8) × Int)), (0 : Int)), false)))
     else (
         Option.bind ((lAt x31 (1 : Int)).map (fun y => y)) fun x50 =>
         Option.bind (ref37_number x50) fun x52 =>
         Option.bind ((lAt x31 (2 : Int)).map (fun y => y)) fun x57 =>
         Option.bind (ref37_number x57) fun x59 =>
         Option.bind ((lAt x31 (3 : Int)).map (fun y => y)) fun x64 =>
         Option.bind (ref37_number x64) fun x66 =>
         let x70 := (!x52.2)
         let x72 := (if x70 = false then some x59.2 else none)
         Option.bind (if x70 = false then (x72.map (fun z329 => (!z329))).map some else some none) fun x73 =>
         Option.bind (if x70 then some true else x73.map (fun z330 => z330)) fun x74 =>
         let x76 := (if x74 = false then some x66.2 else none)
         Option.bind (if x74 = false then (x76.map (fun z331 => (!z331))).map some else some none) fun x77 =>
         Option.bind (if x74 then some true else x77.map (fun z332 => z332)) fun x78 =>
         let x80 := (if x78 = false then some x52.1 else none)
         Option.bind (if x78 = false then ((x80.bind (fun z333 => some (z333, (4294967295 : Int)))).map (fun z335 => (decide (z335.1 > z335.2)))).map some else some none) fun x81 =>
         Option.bind (if x78 then some true else x81.map (fun z336 => z336)) fun x82 =>
         if x82 then (
          some (Sum.inr (((0 : Int), (0 : Int), ([] : List ((List UInt8) × Int)), (0 : Int)), false)))
         else (
          let x85 := IntKind.u32.wrap x52.1
          some (Sum.inl (x0, x33, x35, x7, c2_0, c2_1, c2_3, x85, x59.1, x66.1, l100402, (), (), (), (), (), (), ())))))
    else (
     let x92 := (x31.length : Int)
     let x93 := (x92 != (2 : Int))
     if x93 then (
         some (Sum.inr (((0 : Int), (0 : Int), ([] : List ((List UInt8) × Int)), (0 : Int)), false)))
     else (
         Option.bind ((lAt x31 (1 : Int)).map (fun y => y)) fun x97 =>
         Option.bind (ref01_Parse x97) fun x99 =>
         let x103 := (!x99.2)
         if x103 then (
          some (Sum.inr (((0 : Int), (0 : Int), ([] : List ((List UInt8) × Int)), (0 : Int)), false)))
         else (
          Option.bind ((lAt x31 (0 : Int)).map (fun y => y)) fun x108 =>
          let l112 := ([(x108, x99.1)] : List ((List UInt8) × Int))
          Option.bind (if ((l100402.length : Int) + (l112.length : Int)) * (24 : Int) ≤ 140737488355328 ∧ (l100402.length : Int) + (l112.length : Int) ≤ 4611686018427387904 then some (l100402 ++ l112) else none) fun l100402 =>
          some (Sum.inl (x0, x33, x35, x7, c2_0, c2_1, c2_3, c4_0, c4_1, c4_3, l100402, (), (), (), (), (), (), ())))))))) fun o =>
  match o with
  | Sum.inl p337 => (
   let x0 := p337.1
   let x5 := p337.2.1
   let x6 := p337.2.2.1
   let x7 := p337.2.2.2.1
   let c2_0 := p337.2.2.2.2.1
   let c2_1 := p337.2.2.2.2.2.1
   let c2_3 := p337.2.2.2.2.2.2.1
   let c4_0 := p337.2.2.2.2.2.2.2.1
   let c4_1 := p337.2.2.2.2.2.2.2.2.1
   let c4_3 := p337.2.2.2.2.2.2.2.2.2.1
   let l100402 := p337.2.2.2.2.2.2.2.2.2.2.1
   let x22 := IntKind.i64.wrap (x7 + (1 : Int))
   some (Sum.inl (x0, x5, x6, x22, c2_0, c2_1, c2_3, c4_0, c4_1, c4_3, l100402, (), (), (), (), (), (), ())))
  | Sum.inr q338 => (
   some (Sum.inr (Sum.inr q338))))
 else (
  some (Sum.inr (Sum.inl (x0, x5, x6, c2_0, c2_1, c2_3, c4_0, c4_1, c4_3, l100402, (), (), (), (), (), (), ()))))
noncomputable def ref37_Parse (a : (List UInt8)) : Option ((Int × Int × (List ((List UInt8) × Int)) × Int) × Bool) :=
 let x0 := a
 Option.bind (iter ref37_Parse_loop1 (x0, (0 : Int), (0 : Int), (0 : Int), (0 : Int), (0 : Int), (0 : Int), (0 : Int), (0 : Int), (0 : Int), ([] : List ((List UInt8) × Int)), (), (), (), (), (), (), ())) fun o =>
 match o with
 | Sum.inl p339 => (
  let x0 := p339.1
  let x5 := p339.2.1
  let x6 := p339.2.2.1
  let c2_0 := p339.2.2.2.1
  let c2_1 := p339.2.2.2.2.1
  let c2_3 := p339.2.2.2.2.2.1
  let c4_0 := p339.2.2.2.2.2.2.1
  let c4_1 := p339.2.2.2.2.2.2.2.1
  let c4_3 := p339.2.2.2.2.2.2.2.2.1
  let l100402 := p339.2.2.2.2.2.2.2.2.2.1
  let x116 := (x6 == (0 : Int))
  let x118 := (if x116 = false then some x5 else none)
  let x119 := (if x116 = false then some x0 else none)
  Option.bind (if x116 = false then (x119.map (fun z377 => (z377.length : Int))).map some else some none) fun x120 =>
  Option.bind (if x116 = false then ((x118.bind (fun z378 => x120.map (fun z379 => (z378, z379)))).map (fun z380 => (z380.1 != z380.2))).map some else some none) fun x121 =>
  Option.bind (if x116 then some true else x121.map (fun z381 => z381)) fun x122 =>
  let x124 := (if x122 = false then some (c4_0, c4_1, l100402, c4_3) else none)
  Option.bind (if x122 = false then ((x124.map (fun z382 => z382)).bind (fun z383 => ref37_Right z383)).map some else some none) fun x125 =>
  Option.bind (if x122 = false then (x125.map (fun z384 => (!z384))).map some else some none) fun x126 =>
  Option.bind (if x122 then some true else x126.map (fun z385 => z385)) fun x127 =>
  if x127 then (
   some (((0 : Int), (0 : Int), ([] : List ((List UInt8) × Int)), (0 : Int)), false))
  else (
   some ((c4_0, c4_1, l100402, c4_3), true)))
 | Sum.inr q340 => (
  some q340)
noncomputable def law37_PaperParses (a : (List UInt8)) : Option (Bool) :=
 let x0 := a
 let x8 := (x0.length : Int)
 let x9 := (decide (x8 > (1500 : Int)))
 if x9 then (
  Option.bind (law37_awake ()) fun x10 =>
  some x10)
 else (
  Option.bind (paper_Parse x0) fun x13 =>
  Option.bind (ref37_Parse x0) fun x18 =>
  Option.bind (law37_same ((x13.1.1, x13.1.2.1, x13.1.2.2.1, x13.1.2.2.2), (x18.1.1, x18.1.2.1, x18.1.2.2.1, x18.1.2.2.2))) fun x23 =>
  let x25 := (if x23 = true then some x13.2 else none)
  Option.bind (if x23 = true then ((x25.bind (fun z23 => some (z23, (0 : Int)))).map (fun z25 => (z25.1 == z25.2))).map some else some none) fun x26 =>
  let x27 := (if x23 = true then some x18.2 else none)
  Option.bind (if x23 = true then ((x26.bind (fun z26 => x27.map (fun z27 => (z26, z27)))).map (fun z28 => (z28.1 == z28.2))).map some else some none) fun x28 =>
  Option.bind (if x23 then x28 else some false) fun x29 =>
  let x31 := (if x29 = true then some x18.2 else none)
  Option.bind (if x29 = true then x31.map some else some none) fun x32 =>
  let x33 := (if x32 = some false then some x13.2 else none)
  Option.bind (if x32 = some false then ((x33.bind (fun z29 => some (z29, (3 : Int)))).map (fun z31 => (z31.1 == z31.2))).map some else some none) fun x34 =>
  Option.bind (if x29 = true then (x32.bind (fun z33 => if z33 then some true else x34.map (fun z32 => z32))).map some else some none) fun x35 =>
  Option.bind (if x29 then x35 else some false) fun x36 =>
  Option.bind (if x36 = true then (law37_awake ()).map some else some none) fun x38 =>
  Option.bind (if x36 then x38 else some false) fun x39 =>
  some x39)
end WB

