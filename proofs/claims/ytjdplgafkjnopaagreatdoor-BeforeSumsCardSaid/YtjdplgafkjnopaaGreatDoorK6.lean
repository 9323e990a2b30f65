/-
  FUNCTIONS READ OVER PLAIN DATA (printed by wip/genseat.py).
-/
import Derived.Test.YtjdplgafkjnopaaGreatDoorK4
set_option linter.unusedVariables false
set_option linter.unusedSimpArgs false
namespace WB
open Go Go.RowKit
set_option linter.unusedVariables false
noncomputable def law25_great (a : (Int × (List ((List UInt8) × Int)) × (List ((List UInt8) × Int)) × (List ((List UInt8) × Int × Int)))) : Option (Bool) :=
  let x0 := a
  let x5 := (x0.2.1.length : Int)
  let x6 := (decide (x5 > (80 : Int)))
  let x8 := (if x6 = false then some () else none)
  Option.bind (if x6 = false then (x8.map (fun z25 => x0.2.2.1)).map some else some none) fun x9 =>
  Option.bind (if x6 = false then (x9.map (fun z26 => (z26.length : Int))).map some else some none) fun x10 =>
  Option.bind (if x6 = false then ((x10.bind (fun z27 => some (z27, (80 : Int)))).map (fun z29 => (decide (z29.1 > z29.2)))).map some else some none) fun x11 =>
  Option.bind (if x6 then some true else x11.map (fun z30 => z30)) fun x12 =>
  let x14 := (if x12 = false then some () else none)
  Option.bind (if x12 = false then (x14.map (fun z31 => x0.2.2.2)).map some else some none) fun x15 =>
  Option.bind (if x12 = false then (x15.map (fun z32 => (z32.length : Int))).map some else some none) fun x16 =>
  Option.bind (if x12 = false then ((x16.bind (fun z33 => some (z33, (80 : Int)))).map (fun z35 => (decide (z35.1 > z35.2)))).map some else some none) fun x17 =>
  Option.bind (if x12 then some true else x17.map (fun z36 => z36)) fun x18 =>
  some x18
noncomputable def cents_Fits (a : Int) : Option (Bool) :=
  let x0 := a
  let x4 := (decide (x0 ≥ (-1125899906842624 : Int)))
  let x6 := (if x4 = true then some x0 else none)
  Option.bind (if x4 = true then ((x6.bind (fun z7 => some (z7, (1125899906842624 : Int)))).map (fun z9 => (decide (z9.1 ≤ z9.2)))).map some else some none) fun x7 =>
  Option.bind (if x4 then x7 else some false) fun x8 =>
  some x8
noncomputable def fact_known (a : Int) : Option (Bool) :=
  let x0 := a
  let x4 := (decide (x0 ≥ (1 : Int)))
  let x6 := (if x4 = true then some x0 else none)
  Option.bind (if x4 = true then ((x6.bind (fun z7 => some (z7, (18 : Int)))).map (fun z9 => (decide (z9.1 ≤ z9.2)))).map some else some none) fun x7 =>
  Option.bind (if x4 then x7 else some false) fun x8 =>
  some x8
noncomputable def fact_isName_loop1 (s : (List UInt8) × (Int) × (Int) × Unit) : Option (((List UInt8) × (Int) × (Int) × Unit) ⊕ (((List UInt8) × Unit) ⊕ (Bool))) :=
  let x0 := s.1
  let x6 := s.2.1
  let x7 := s.2.2.1
  let x8 := (decide (x7 < x6))
  if x8 then (
    Option.bind (sAt x0 x7) fun x12 =>
    let x14 := (decide (x12 < (97 : Int)))
    let x16 := (if x14 = false then some x12 else none)
    Option.bind (if x14 = false then ((x16.bind (fun z253 => some (z253, (122 : Int)))).map (fun z255 => (decide (z255.1 > z255.2)))).map some else some none) fun x17 =>
    Option.bind (if x14 then some true else x17.map (fun z256 => z256)) fun x18 =>
    let x20 := (if x18 = true then some x12 else none)
    Option.bind (if x18 = true then ((x20.bind (fun z257 => some (z257, (48 : Int)))).map (fun z259 => (decide (z259.1 < z259.2)))).map some else some none) fun x21 =>
    Option.bind (if x18 = true then x21.map some else some none) fun x22 =>
    let x23 := (if x22 = some false then some x12 else none)
    Option.bind (if x22 = some false then ((x23.bind (fun z260 => some (z260, (57 : Int)))).map (fun z262 => (decide (z262.1 > z262.2)))).map some else some none) fun x24 =>
    Option.bind (if x18 = true then (x22.bind (fun z264 => if z264 then some true else x24.map (fun z263 => z263))).map some else some none) fun x25 =>
    Option.bind (if x18 then x25 else some false) fun x26 =>
    let x28 := (if x26 = true then some x12 else none)
    Option.bind (if x26 = true then ((x28.bind (fun z265 => some (z265, (46 : Int)))).map (fun z267 => (z267.1 != z267.2))).map some else some none) fun x29 =>
    Option.bind (if x26 then x29 else some false) fun x30 =>
    let x32 := (if x30 = true then some x12 else none)
    Option.bind (if x30 = true then ((x32.bind (fun z268 => some (z268, (95 : Int)))).map (fun z270 => (z270.1 != z270.2))).map some else some none) fun x33 =>
    Option.bind (if x30 then x33 else some false) fun x34 =>
    let x36 := (if x34 = true then some x12 else none)
    Option.bind (if x34 = true then ((x36.bind (fun z271 => some (z271, (45 : Int)))).map (fun z273 => (z273.1 != z273.2))).map some else some none) fun x37 =>
    Option.bind (if x34 then x37 else some false) fun x38 =>
    if x38 then (
      some (Sum.inr (Sum.inr false)))
    else (
      let x39 := IntKind.i64.wrap (x7 + (1 : Int))
      some (Sum.inl (x0, x6, x39, ()))))
  else (
    some (Sum.inr (Sum.inl (x0, ()))))
noncomputable def fact_isName (a : (List UInt8)) : Option (Bool) :=
  let x0 := a
  let x6 := (x0.length : Int)
  Option.bind (iter fact_isName_loop1 (x0, x6, (0 : Int), ())) fun o =>
  match o with
  | Sum.inl p274 => (
    let x0 := p274.1
    let x41 := (!(x0 == ([] : List UInt8)))
    let x43 := (if x41 = true then some x0 else none)
    Option.bind (if x41 = true then ((x43.bind (fun z290 => some (z290, ([45] : List UInt8)))).map (fun z292 => (!(z292.1 == z292.2)))).map some else some none) fun x44 =>
    Option.bind (if x41 then x44 else some false) fun x45 =>
    let x47 := (if x45 = true then some x0 else none)
    Option.bind (if x45 = true then (x47.map (fun z293 => (z293.length : Int))).map some else some none) fun x48 =>
    Option.bind (if x45 = true then ((x48.bind (fun z294 => some (z294, (32 : Int)))).map (fun z296 => (decide (z296.1 ≤ z296.2)))).map some else some none) fun x49 =>
    Option.bind (if x45 then x49 else some false) fun x50 =>
    some x50)
  | Sum.inr q275 => (
    some q275)
noncomputable def fact_rules_1 (a : (List UInt8)) : Option (Bool) :=
  let x0 := a
  let x4 := ((x0 == ([] : List UInt8)))
  let x6 := (if x4 = false then some x0 else none)
  Option.bind (if x4 = false then ((x6.map (fun z7 => z7)).bind (fun z8 => fact_isName z8)).map some else some none) fun x7 =>
  Option.bind (if x4 then some true else x7.map (fun z9 => z9)) fun x8 =>
  some x8
noncomputable def fact_rules_2 (a : (Int × Int × Int × Int × Int × (List UInt8) × Int × (List UInt8))) : Option (Bool) :=
  let x0 := a
  Option.bind (fact_isName x0.2.2.2.2.2.2.2) fun x5 =>
  some x5
noncomputable def fact_plain_loop1 (s : (List UInt8) × (Int) × (Int) × Unit) : Option (((List UInt8) × (Int) × (Int) × Unit) ⊕ ((Unit) ⊕ (Bool))) :=
  let x0 := s.1
  let x5 := s.2.1
  let x6 := s.2.2.1
  let x7 := (decide (x6 < x5))
  if x7 then (
    Option.bind (sAt x0 x6) fun x11 =>
    let x12 := (decide (x11 < (32 : Int)))
    let x14 := (if x12 = false then some x0 else none)
    let x15 := (if x12 = false then some x6 else none)
    Option.bind (if x12 = false then ((x14.bind (fun z85 => x15.map (fun z86 => (z85, z86)))).bind (fun z87 => sAt z87.1 z87.2)).map some else some none) fun x16 =>
    Option.bind (if x12 = false then ((x16.bind (fun z88 => some (z88, (126 : Int)))).map (fun z90 => (decide (z90.1 > z90.2)))).map some else some none) fun x17 =>
    Option.bind (if x12 then some true else x17.map (fun z91 => z91)) fun x18 =>
    if x18 then (
      some (Sum.inr (Sum.inr false)))
    else (
      let x19 := IntKind.i64.wrap (x6 + (1 : Int))
      some (Sum.inl (x0, x5, x19, ()))))
  else (
    some (Sum.inr (Sum.inl (()))))
noncomputable def fact_plain (a : (List UInt8)) : Option (Bool) :=
  let x0 := a
  let x5 := (x0.length : Int)
  Option.bind (iter fact_plain_loop1 (x0, x5, (0 : Int), ())) fun o =>
  match o with
  | Sum.inl p92 => (
    some true)
  | Sum.inr q93 => (
    some q93)
noncomputable def fact_rules_3 (a : (Int × Int × Int × Int × Int × (List UInt8) × Int × (List UInt8))) : Option (Bool) :=
  let x0 := a
  Option.bind (fact_plain x0.2.2.2.2.2.2.2) fun x5 =>
  some x5
noncomputable def fact_rules_4 (a : (Int × Int × Int × Int × Int × (List UInt8) × Int × (List UInt8))) : Option (Bool) :=
  let x0 := a
  let x5 := (!(x0.2.2.2.2.2.2.2 == ([] : List UInt8)))
  let x7 := (if x5 = true then some () else none)
  Option.bind (if x5 = true then (x7.map (fun z7 => x0.2.2.2.2.2.2.2)).map some else some none) fun x8 =>
  Option.bind (if x5 = true then ((x8.map (fun z8 => z8)).bind (fun z9 => fact_plain z9)).map some else some none) fun x9 =>
  Option.bind (if x5 then x9 else some false) fun x10 =>
  some x10
noncomputable def fact_empty (a : (List UInt8)) : Option (Bool) :=
  let x0 := a
  let x4 := ((x0 == ([] : List UInt8)))
  some x4
noncomputable def fact_silent (a : (Int × Int × Int × Int × Int × (List UInt8) × Int × (List UInt8))) : Option (Bool) :=
  let x0 := a
  let x5 := ((x0.2.2.2.2.2.2.2 == ([] : List UInt8)))
  some x5
noncomputable def week_Week_right_loop1 (s : (Int × Int × Int × Int × Int × Int × Int) × (Int) × Unit) : Option (((Int × Int × Int × Int × Int × Int × Int) × (Int) × Unit) ⊕ ((Unit) ⊕ (Bool))) :=
  let x5 := s.1
  let x6 := s.2.1
  let x7 := (decide (x6 < (7 : Int)))
  if x7 then (
    Option.bind ((lAt ([x5.1, x5.2.1, x5.2.2.1, x5.2.2.2.1, x5.2.2.2.2.1, x5.2.2.2.2.2.1, x5.2.2.2.2.2.2] : List (Int)) x6).map (fun y => y)) fun x8 =>
    let x10 := (decide (x8 < (0 : Int)))
    let x12 := (if x10 = false then some x8 else none)
    Option.bind (if x10 = false then ((x12.bind (fun z49 => some (z49, (1440 : Int)))).map (fun z51 => (decide (z51.1 > z51.2)))).map some else some none) fun x13 =>
    Option.bind (if x10 then some true else x13.map (fun z52 => z52)) fun x14 =>
    if x14 then (
      some (Sum.inr (Sum.inr false)))
    else (
      let x15 := IntKind.i64.wrap (x6 + (1 : Int))
      some (Sum.inl (x5, x15, ()))))
  else (
    some (Sum.inr (Sum.inl (()))))
noncomputable def week_Week_right (a : (Int × Int × Int × Int × Int × Int × Int)) : Option (Bool) :=
  let x0 := a
  Option.bind (iter week_Week_right_loop1 ((x0.1, x0.2.1, x0.2.2.1, x0.2.2.2.1, x0.2.2.2.2.1, x0.2.2.2.2.2.1, x0.2.2.2.2.2.2), (0 : Int), ())) fun o =>
  match o with
  | Sum.inl p53 => (
    some true)
  | Sum.inr q54 => (
    some q54)
noncomputable def week_Parse_loop1 (s : (Int) × (Int) × (Int) × (List (Int)) × (Int) × (Int) × (Int) × (Int) × (Int) × (Int) × (Int) × (Int) × (Int) × (Int) × (Int) × (Int) × (Int) × (Int) × (Int) × (Int) × (Unit) × (Unit) × (Unit) × (Unit) × Unit) : Option (((Int) × (Int) × (Int) × (List (Int)) × (Int) × (Int) × (Int) × (Int) × (Int) × (Int) × (Int) × (Int) × (Int) × (Int) × (Int) × (Int) × (Int) × (Int) × (Int) × (Int) × (Unit) × (Unit) × (Unit) × (Unit) × Unit) ⊕ (((Int) × (Int) × (Int) × (Int) × (Int) × (Int) × (Int) × (Int) × (Int) × (Int) × (Int) × (Int) × (Int) × (Int) × (Int) × (Int) × (Unit) × (Unit) × (Unit) × (Unit) × Unit) ⊕ ((Int × Int × Int × Int × Int × Int × Int) × Int))) :=
  let x5 := s.1
  let x6 := s.2.1
  let x7 := s.2.2.1
  let x11 := s.2.2.2.1
  let x12 := s.2.2.2.2.1
  let x13 := s.2.2.2.2.2.1
  let c2_0 := s.2.2.2.2.2.2.1
  let c2_1 := s.2.2.2.2.2.2.2.1
  let c2_2 := s.2.2.2.2.2.2.2.2.1
  let c2_3 := s.2.2.2.2.2.2.2.2.2.1
  let c2_4 := s.2.2.2.2.2.2.2.2.2.2.1
  let c2_5 := s.2.2.2.2.2.2.2.2.2.2.2.1
  let c2_6 := s.2.2.2.2.2.2.2.2.2.2.2.2.1
  let c4_0 := s.2.2.2.2.2.2.2.2.2.2.2.2.2.1
  let c4_1 := s.2.2.2.2.2.2.2.2.2.2.2.2.2.2.1
  let c4_2 := s.2.2.2.2.2.2.2.2.2.2.2.2.2.2.2.1
  let c4_3 := s.2.2.2.2.2.2.2.2.2.2.2.2.2.2.2.2.1
  let c4_4 := s.2.2.2.2.2.2.2.2.2.2.2.2.2.2.2.2.2.1
  let c4_5 := s.2.2.2.2.2.2.2.2.2.2.2.2.2.2.2.2.2.2.1
  let c4_6 := s.2.2.2.2.2.2.2.2.2.2.2.2.2.2.2.2.2.2.2.1
  let x14 := (decide (x13 < x12))
  if x14 then (
    Option.bind (show Option (((Int) × (Int) × (Int) × (List (Int)) × (Int) × (Int) × (Int) × (Int) × (Int) × (Int) × (Int) × (Int) × (Int) × (Int) × (Int) × (Int) × (Int) × (Int) × (Int) × (Int) × (Unit) × (Unit) × (Unit) × (Unit) × Unit) ⊕ ((Int × Int × Int × Int × Int × Int × Int) × Int)) from (
      Option.bind ((lAt x11 x13).map (fun y => y)) fun x15 =>
      let x35 := (x15 == (32 : Int))
      let x37 := (if x35 = true then some x6 else none)
      Option.bind (if x35 = true then ((x37.bind (fun z103 => some (z103, (0 : Int)))).map (fun z105 => (decide (z105.1 > z105.2)))).map some else some none) fun x38 =>
      Option.bind (if x35 then x38 else some false) fun x39 =>
      let x41 := (if x39 = true then some x5 else none)
      Option.bind (if x39 = true then ((x41.bind (fun z106 => some (z106, (6 : Int)))).map (fun z108 => (decide (z108.1 < z108.2)))).map some else some none) fun x42 =>
      Option.bind (if x39 then x42 else some false) fun x43 =>
      if x43 then (
        let x45 := IntKind.i64.wrap (x5 + (1 : Int))
        some (Sum.inl (x45, (0 : Int), x7, x11, x12, x13, c2_0, c2_1, c2_2, c2_3, c2_4, c2_5, c2_6, c4_0, c4_1, c4_2, c4_3, c4_4, c4_5, c4_6, (), (), (), (), ())))
      else (
        Option.bind (show Option (((Int) × (Int) × (Int) × (Int) × (List (Int)) × (Int) × (Int) × (Bool) × (Int) × (Int) × (Int) × (Int) × (Int) × (Int) × (Int) × (Int) × (Int) × (Int) × (Int) × (Int) × (Int) × (Int) × (Unit) × (Unit) × (Unit) × (Unit) × Unit)) from (
          let x48 := (decide (x15 < (48 : Int)))
          if x48 then (
            some (x5, x6, x7, x15, x11, x12, x13, x48, c2_0, c2_1, c2_2, c2_3, c2_4, c2_5, c2_6, c4_0, c4_1, c4_2, c4_3, c4_4, c4_5, c4_6, (), (), (), (), ()))
          else (
            let x50 := (decide (x15 > (57 : Int)))
            if x50 then (
              some (x5, x6, x7, x15, x11, x12, x13, x50, c2_0, c2_1, c2_2, c2_3, c2_4, c2_5, c2_6, c4_0, c4_1, c4_2, c4_3, c4_4, c4_5, c4_6, (), (), (), (), ()))
            else (
              let x52 := (decide (x6 > (0 : Int)))
              let x54 := (if x52 = true then some x7 else none)
              Option.bind (if x52 = true then ((x54.bind (fun z118 => some (z118, (48 : Int)))).map (fun z120 => (z120.1 == z120.2))).map some else some none) fun x55 =>
              Option.bind (if x52 then x55 else some false) fun x56 =>
              some (x5, x6, x7, x15, x11, x12, x13, x56, c2_0, c2_1, c2_2, c2_3, c2_4, c2_5, c2_6, c4_0, c4_1, c4_2, c4_3, c4_4, c4_5, c4_6, (), (), (), (), ()))))) fun o =>
        let x5 := o.1
        let x6 := o.2.1
        let x7 := o.2.2.1
        let x9 := o.2.2.2.1
        let x11 := o.2.2.2.2.1
        let x12 := o.2.2.2.2.2.1
        let x13 := o.2.2.2.2.2.2.1
        let x46 := o.2.2.2.2.2.2.2.1
        let c2_0 := o.2.2.2.2.2.2.2.2.1
        let c2_1 := o.2.2.2.2.2.2.2.2.2.1
        let c2_2 := o.2.2.2.2.2.2.2.2.2.2.1
        let c2_3 := o.2.2.2.2.2.2.2.2.2.2.2.1
        let c2_4 := o.2.2.2.2.2.2.2.2.2.2.2.2.1
        let c2_5 := o.2.2.2.2.2.2.2.2.2.2.2.2.2.1
        let c2_6 := o.2.2.2.2.2.2.2.2.2.2.2.2.2.2.1
        let c4_0 := o.2.2.2.2.2.2.2.2.2.2.2.2.2.2.2.1
        let c4_1 := o.2.2.2.2.2.2.2.2.2.2.2.2.2.2.2.2.1
        let c4_2 := o.2.2.2.2.2.2.2.2.2.2.2.2.2.2.2.2.2.1
        let c4_3 := o.2.2.2.2.2.2.2.2.2.2.2.2.2.2.2.2.2.2.1
        let c4_4 := o.2.2.2.2.2.2.2.2.2.2.2.2.2.2.2.2.2.2.2.1
        let c4_5 := o.2.2.2.2.2.2.2.2.2.2.2.2.2.2.2.2.2.2.2.2.1
        let c4_6 := o.2.2.2.2.2.2.2.2.2.2.2.2.2.2.2.2.2.2.2.2.2.1
        if x46 then (
          some (Sum.inr (((0 : Int), (0 : Int), (0 : Int), (0 : Int), (0 : Int), (0 : Int), (0 : Int)), (3 : Int))))
        else (
          Option.bind (show Option (((Int) × (Int) × (Int) × (Int) × (List (Int)) × (Int) × (Int) × (Int) × (Int) × (Int) × (Int) × (Int) × (Int) × (Int) × (Int) × (Int) × (Int) × (Int) × (Int) × (Int) × (Int) × (Unit) × (Unit) × (Unit) × (Unit) × Unit)) from (
            let x18 := (x6 == (0 : Int))
            if x18 then (
              some (x5, x6, x9, x9, x11, x12, x13, c2_0, c2_1, c2_2, c2_3, c2_4, c2_5, c2_6, c4_0, c4_1, c4_2, c4_3, c4_4, c4_5, c4_6, (), (), (), (), ()))
            else (
              some (x5, x6, x7, x9, x11, x12, x13, c2_0, c2_1, c2_2, c2_3, c2_4, c2_5, c2_6, c4_0, c4_1, c4_2, c4_3, c4_4, c4_5, c4_6, (), (), (), (), ())))) fun o =>
          let x5 := o.1
          let x6 := o.2.1
          let x7 := o.2.2.1
          let x9 := o.2.2.2.1
          let x11 := o.2.2.2.2.1
          let x12 := o.2.2.2.2.2.1
          let x13 := o.2.2.2.2.2.2.1
          let c2_0 := o.2.2.2.2.2.2.2.1
          let c2_1 := o.2.2.2.2.2.2.2.2.1
          let c2_2 := o.2.2.2.2.2.2.2.2.2.1
          let c2_3 := o.2.2.2.2.2.2.2.2.2.2.1
          let c2_4 := o.2.2.2.2.2.2.2.2.2.2.2.1
          let c2_5 := o.2.2.2.2.2.2.2.2.2.2.2.2.1
          let c2_6 := o.2.2.2.2.2.2.2.2.2.2.2.2.2.1
          let c4_0 := o.2.2.2.2.2.2.2.2.2.2.2.2.2.2.1
          let c4_1 := o.2.2.2.2.2.2.2.2.2.2.2.2.2.2.2.1
          let c4_2 := o.2.2.2.2.2.2.2.2.2.2.2.2.2.2.2.2.1
          let c4_3 := o.2.2.2.2.2.2.2.2.2.2.2.2.2.2.2.2.2.1
          let c4_4 := o.2.2.2.2.2.2.2.2.2.2.2.2.2.2.2.2.2.2.1
          let c4_5 := o.2.2.2.2.2.2.2.2.2.2.2.2.2.2.2.2.2.2.2.1
          let c4_6 := o.2.2.2.2.2.2.2.2.2.2.2.2.2.2.2.2.2.2.2.2.1
          Option.bind (if 0 ≤ x5 ∧ x5 < (7 : Int) then some x5.toNat else none) fun x22 =>
          Option.bind (([c4_0, c4_1, c4_2, c4_3, c4_4, c4_5, c4_6] : List (Int))[x22]?) fun x23 =>
          let x24 := IntKind.i64.wrap ((10 : Int) * x23)
          let x26 := IntKind.u8.wrap (x9 - (48 : Int))
          let x27 := IntKind.i64.wrap x26
          let x28 := IntKind.i64.wrap (x24 + x27)
          let x29 := (min x28 (1441 : Int))
          let x31 := IntKind.i64.wrap (x6 + (1 : Int))
          Option.bind (if 0 ≤ x5 ∧ x5 < (7 : Int) then some x5.toNat else none) fun x32 =>
          let c4_0 := (if x32 = 0 then x29 else c4_0)
          let c4_1 := (if x32 = 1 then x29 else c4_1)
          let c4_2 := (if x32 = 2 then x29 else c4_2)
          let c4_3 := (if x32 = 3 then x29 else c4_3)
          let c4_4 := (if x32 = 4 then x29 else c4_4)
          let c4_5 := (if x32 = 5 then x29 else c4_5)
          let c4_6 := (if x32 = 6 then x29 else c4_6)
          some (Sum.inl (x5, x31, x7, x11, x12, x13, c2_0, c2_1, c2_2, c2_3, c2_4, c2_5, c2_6, c4_0, c4_1, c4_2, c4_3, c4_4, c4_5, c4_6, (), (), (), (), ())))))) fun o =>
    match o with
    | Sum.inl p121 => (
      let x5 := p121.1
      let x6 := p121.2.1
      let x7 := p121.2.2.1
      let x11 := p121.2.2.2.1
      let x12 := p121.2.2.2.2.1
      let x13 := p121.2.2.2.2.2.1
      let c2_0 := p121.2.2.2.2.2.2.1
      let c2_1 := p121.2.2.2.2.2.2.2.1
      let c2_2 := p121.2.2.2.2.2.2.2.2.1
      let c2_3 := p121.2.2.2.2.2.2.2.2.2.1
      let c2_4 := p121.2.2.2.2.2.2.2.2.2.2.1
      let c2_5 := p121.2.2.2.2.2.2.2.2.2.2.2.1
      let c2_6 := p121.2.2.2.2.2.2.2.2.2.2.2.2.1
      let c4_0 := p121.2.2.2.2.2.2.2.2.2.2.2.2.2.1
      let c4_1 := p121.2.2.2.2.2.2.2.2.2.2.2.2.2.2.1
      let c4_2 := p121.2.2.2.2.2.2.2.2.2.2.2.2.2.2.2.1
      let c4_3 := p121.2.2.2.2.2.2.2.2.2.2.2.2.2.2.2.2.1
      let c4_4 := p121.2.2.2.2.2.2.2.2.2.2.2.2.2.2.2.2.2.1
      let c4_5 := p121.2.2.2.2.2.2.2.2.2.2.2.2.2.2.2.2.2.2.1
      let c4_6 := p121.2.2.2.2.2.2.2.2.2.2.2.2.2.2.2.2.2.2.2.1
      let x58 := IntKind.i64.wrap (x13 + (1 : Int))
      some (Sum.inl (x5, x6, x7, x11, x12, x58, c2_0, c2_1, c2_2, c2_3, c2_4, c2_5, c2_6, c4_0, c4_1, c4_2, c4_3, c4_4, c4_5, c4_6, (), (), (), (), ())))
    | Sum.inr q122 => (
      some (Sum.inr (Sum.inr q122))))
  else (
    some (Sum.inr (Sum.inl (x5, x6, c2_0, c2_1, c2_2, c2_3, c2_4, c2_5, c2_6, c4_0, c4_1, c4_2, c4_3, c4_4, c4_5, c4_6, (), (), (), (), ()))))
noncomputable def week_Parse (a : (List UInt8)) : Option ((Int × Int × Int × Int × Int × Int × Int) × Int) :=
  let x0 := a
  Option.bind (if x0.length ≤ 70368744177664 then some (x0.map fun b => (b.toNat : Int)) else none) fun x11 =>
  let x12 := (x11.length : Int)
  Option.bind (iter week_Parse_loop1 ((0 : Int), (0 : Int), (0 : Int), x11, x12, (0 : Int), (0 : Int), (0 : Int), (0 : Int), (0 : Int), (0 : Int), (0 : Int), (0 : Int), (0 : Int), (0 : Int), (0 : Int), (0 : Int), (0 : Int), (0 : Int), (0 : Int), (), (), (), (), ())) fun o =>
  match o with
  | Sum.inl p123 => (
    let x5 := p123.1
    let x6 := p123.2.1
    let c2_0 := p123.2.2.1
    let c2_1 := p123.2.2.2.1
    let c2_2 := p123.2.2.2.2.1
    let c2_3 := p123.2.2.2.2.2.1
    let c2_4 := p123.2.2.2.2.2.2.1
    let c2_5 := p123.2.2.2.2.2.2.2.1
    let c2_6 := p123.2.2.2.2.2.2.2.2.1
    let c4_0 := p123.2.2.2.2.2.2.2.2.2.1
    let c4_1 := p123.2.2.2.2.2.2.2.2.2.2.1
    let c4_2 := p123.2.2.2.2.2.2.2.2.2.2.2.1
    let c4_3 := p123.2.2.2.2.2.2.2.2.2.2.2.2.1
    let c4_4 := p123.2.2.2.2.2.2.2.2.2.2.2.2.2.1
    let c4_5 := p123.2.2.2.2.2.2.2.2.2.2.2.2.2.2.1
    let c4_6 := p123.2.2.2.2.2.2.2.2.2.2.2.2.2.2.2.1
    Option.bind (show Option (((Bool) × (Int) × (Int) × (Int) × (Int) × (Int) × (Int) × (Int) × (Int) × (Int) × (Int) × (Int) × (Int) × (Int) × (Int) × (Unit) × (Unit) × (Unit) × (Unit) × Unit)) from (
      let x61 := (x5 != (6 : Int))
      if x61 then (
        some (x61, c2_0, c2_1, c2_2, c2_3, c2_4, c2_5, c2_6, c4_0, c4_1, c4_2, c4_3, c4_4, c4_5, c4_6, (), (), (), (), ()))
      else (
        let x63 := (x6 == (0 : Int))
        some (x63, c2_0, c2_1, c2_2, c2_3, c2_4, c2_5, c2_6, c4_0, c4_1, c4_2, c4_3, c4_4, c4_5, c4_6, (), (), (), (), ())))) fun o =>
    let x59 := o.1
    let c2_0 := o.2.1
    let c2_1 := o.2.2.1
    let c2_2 := o.2.2.2.1
    let c2_3 := o.2.2.2.2.1
    let c2_4 := o.2.2.2.2.2.1
    let c2_5 := o.2.2.2.2.2.2.1
    let c2_6 := o.2.2.2.2.2.2.2.1
    let c4_0 := o.2.2.2.2.2.2.2.2.1
    let c4_1 := o.2.2.2.2.2.2.2.2.2.1
    let c4_2 := o.2.2.2.2.2.2.2.2.2.2.1
    let c4_3 := o.2.2.2.2.2.2.2.2.2.2.2.1
    let c4_4 := o.2.2.2.2.2.2.2.2.2.2.2.2.1
    let c4_5 := o.2.2.2.2.2.2.2.2.2.2.2.2.2.1
    let c4_6 := o.2.2.2.2.2.2.2.2.2.2.2.2.2.2.1
    if x59 then (
      some (((0 : Int), (0 : Int), (0 : Int), (0 : Int), (0 : Int), (0 : Int), (0 : Int)), (3 : Int)))
    else (
      Option.bind (week_Week_right (c4_0, c4_1, c4_2, c4_3, c4_4, c4_5, c4_6)) fun x67 =>
      let x68 := (!x67)
      if x68 then (
        some (((0 : Int), (0 : Int), (0 : Int), (0 : Int), (0 : Int), (0 : Int), (0 : Int)), (2 : Int)))
      else (
        some ((c4_0, c4_1, c4_2, c4_3, c4_4, c4_5, c4_6), (0 : Int)))))
  | Sum.inr q124 => (
    some q124)
noncomputable def fact_weekly (a : (Int × Int × Int × Int × Int × (List UInt8) × Int × (List UInt8))) : Option (Bool) :=
  let x0 := a
  Option.bind (week_Parse x0.2.2.2.2.2.2.2) fun x8 =>
  let x12 := (x8.2 == (0 : Int))
  some x12
noncomputable def unicode_utf8_RuneCountInString (a : (List UInt8)) : Option (Int) :=
  let x0 := a
  none
noncomputable def unicode_utf8_decodeRuneInStringSlow (a : (List UInt8)) : Option (Int × Int) :=
  let x0 := a
  let x14 := (x0.length : Int)
  let x16 := (decide (x14 < (1 : Int)))
  if x16 then (
    some ((65533 : Int), (0 : Int)))
  else (
    Option.bind (sAt x0 (0 : Int)) fun x18 =>
    none)
noncomputable def unicode_utf8_DecodeRuneInString (a : (List UInt8)) : Option (Int × Int) :=
  let x0 := a
  let x5 := (!(x0 == ([] : List UInt8)))
  let x7 := (if x5 = true then some x0 else none)
  Option.bind (if x5 = true then ((x7.bind (fun z25 => some (z25, (0 : Int)))).bind (fun z27 => sAt z27.1 z27.2)).map some else some none) fun x8 =>
  Option.bind (if x5 = true then ((x8.bind (fun z28 => some (z28, (128 : Int)))).map (fun z30 => (decide (z30.1 < z30.2)))).map some else some none) fun x9 =>
  Option.bind (if x5 then x9 else some false) fun x10 =>
  if x10 then (
    Option.bind (sAt x0 (0 : Int)) fun x12 =>
    let x13 := IntKind.i32.wrap x12
    some (x13, (1 : Int)))
  else (
    Option.bind (unicode_utf8_decodeRuneInStringSlow x0) fun x16 =>
    some (x16.1, x16.2))
noncomputable def strings_explode_loop1 (s : (List UInt8) × (Int) × (Int) × (List (List UInt8)) × (Unit) × Unit) : Option (((List UInt8) × (Int) × (Int) × (List (List UInt8)) × (Unit) × Unit) ⊕ (((List UInt8) × (Int) × (List (List UInt8)) × (Unit) × Unit))) :=
  let x0 := s.1
  let x1 := s.2.1
  let x7 := s.2.2.1
  let l21 := s.2.2.2.1
  let x24 := IntKind.i64.wrap (x1 - (1 : Int))
  let x25 := (decide (x7 < x24))
  if x25 then (
    Option.bind (unicode_utf8_DecodeRuneInString x0) fun x30 =>
    Option.bind (lSub x0 (0 : Int) x30.2) fun x37 =>
    Option.bind (if 0 ≤ x7 ∧ x7 < (l21.length : Int) then some x7.toNat else none) fun x38 =>
    Option.bind ((l21[x38]?).map (fun el33 => l21.set x38 x37)) fun l21 =>
    Option.bind (lSub x0 x30.2 (x0.length : Int)) fun x41 =>
    let x27 := IntKind.i64.wrap (x7 + (1 : Int))
    some (Sum.inl (x41, x1, x27, l21, (), ())))
  else (
    some (Sum.inr (x0, x1, l21, (), ())))
noncomputable def strings_explode (a : (List UInt8) × Int) : Option (List (List UInt8)) :=
  let x0 := a.1
  let x1 := a.2
  Option.bind (unicode_utf8_RuneCountInString x0) fun x11 =>
  Option.bind (show Option (((List UInt8) × (Int) × Unit)) from (
    let x13 := (decide (x1 < (0 : Int)))
    let x15 := (if x13 = false then some x1 else none)
    let x16 := (if x13 = false then some x11 else none)
    Option.bind (if x13 = false then ((x15.bind (fun z17 => x16.map (fun z18 => (z17, z18)))).map (fun z19 => (decide (z19.1 > z19.2)))).map some else some none) fun x17 =>
    Option.bind (if x13 then some true else x17.map (fun z20 => z20)) fun x18 =>
    if x18 then (
      some (x0, x11, ()))
    else (
      some (x0, x1, ())))) fun o =>
  let x0 := o.1
  let x1 := o.2.1
  Option.bind (if 0 ≤ x1 ∧ x1 ≤ x1 ∧ x1 * (16 : Int) ≤ 140737488355328 ∧ x1 ≤ 4611686018427387904 then some (List.replicate x1.toNat ([] : List UInt8)) else none) fun l21 =>
  Option.bind (iter strings_explode_loop1 (x0, x1, (0 : Int), l21, (), ())) fun o =>
  let x0 := o.1
  let x1 := o.2.1
  let l21 := o.2.2.1
  Option.bind (show Option (((List (List UInt8)) × (Unit) × Unit)) from (
    let x43 := (decide (x1 > (0 : Int)))
    if x43 then (
      let x46 := IntKind.i64.wrap (x1 - (1 : Int))
      Option.bind (if 0 ≤ x46 ∧ x46 < (l21.length : Int) then some x46.toNat else none) fun x48 =>
      Option.bind ((l21[x48]?).map (fun el37 => l21.set x48 x0)) fun l21 =>
      some (l21, (), ()))
    else (
      some (l21, (), ())))) fun o =>
  let l21 := o.1
  some l21
noncomputable def strings_Index (a : (List UInt8) × (List UInt8)) : Option (Int) :=
  let x0 := a.1
  let x1 := a.2
  Option.bind (internal_stringslite_Index (x0, x1)) fun x7 =>
  some x7
noncomputable def strings_Count_loop1 (s : (List UInt8) × (List UInt8) × (Int) × Unit) : Option (((List UInt8) × (List UInt8) × (Int) × Unit) ⊕ ((Int))) :=
  let x0 := s.1
  let x1 := s.2.1
  let x5 := s.2.2.1
  Option.bind (strings_Index (x0, x1)) fun x22 =>
  let x24 := (x22 == (-1 : Int))
  if x24 then (
    some (Sum.inr x5))
  else (
    let x27 := IntKind.i64.wrap (x5 + (1 : Int))
    let x31 := (x1.length : Int)
    let x32 := IntKind.i64.wrap (x22 + x31)
    Option.bind (lSub x0 x32 (x0.length : Int)) fun x33 =>
    some (Sum.inl (x33, x1, x27, ())))
noncomputable def strings_Count (a : (List UInt8) × (List UInt8)) : Option (Int) :=
  let x0 := a.1
  let x1 := a.2
  let x8 := (x1.length : Int)
  let x9 := (x8 == (0 : Int))
  if x9 then (
    Option.bind (unicode_utf8_RuneCountInString x0) fun x11 =>
    let x12 := IntKind.i64.wrap (x11 + (1 : Int))
    some x12)
  else (
    let x14 := (x1.length : Int)
    let x15 := (x14 == (1 : Int))
    if x15 then (
      none)
    else (
      Option.bind (iter strings_Count_loop1 (x0, x1, (0 : Int), ())) fun o =>
      some o))
noncomputable def strings_genSplit_loop1 (s : (List UInt8) × (List UInt8) × (Int) × (Int) × (Int) × (List (List UInt8)) × (Unit) × Unit) : Option (((List UInt8) × (List UInt8) × (Int) × (Int) × (Int) × (List (List UInt8)) × (Unit) × Unit) ⊕ (((List UInt8) × (Int) × (List (List UInt8)) × (Unit) × Unit))) :=
  let x0 := s.1
  let x1 := s.2.1
  let x2 := s.2.2.1
  let x3 := s.2.2.2.1
  let x10 := s.2.2.2.2.1
  let l31 := s.2.2.2.2.2.1
  let x36 := (decide (x10 < x3))
  if x36 then (
    Option.bind (strings_Index (x0, x1)) fun x39 =>
    let x41 := (decide (x39 < (0 : Int)))
    if x41 then (
      some (Sum.inr (x0, x10, l31, (), ())))
    else (
      let x47 := IntKind.i64.wrap (x39 + x2)
      Option.bind (lSub x0 (0 : Int) x47) fun x48 =>
      Option.bind (if 0 ≤ x10 ∧ x10 < (l31.length : Int) then some x10.toNat else none) fun x49 =>
      Option.bind ((l31[x49]?).map (fun el11 => l31.set x49 x48)) fun l31 =>
      let x53 := (x1.length : Int)
      let x54 := IntKind.i64.wrap (x39 + x53)
      Option.bind (lSub x0 x54 (x0.length : Int)) fun x55 =>
      let x57 := IntKind.i64.wrap (x10 + (1 : Int))
      some (Sum.inl (x55, x1, x2, x3, x57, l31, (), ()))))
  else (
    some (Sum.inr (x0, x10, l31, (), ())))
noncomputable def strings_genSplit (a : (List UInt8) × (List UInt8) × Int × Int) : Option (List (List UInt8)) :=
  let x0 := a.1
  let x1 := a.2.1
  let x2 := a.2.2.1
  let x3 := a.2.2.2
  let x13 := (x3 == (0 : Int))
  if x13 then (
    some ([] : List (List UInt8)))
  else (
    let x15 := ((x1 == ([] : List UInt8)))
    if x15 then (
      Option.bind (strings_explode (x0, x3)) fun x18 =>
      some x18)
    else (
      Option.bind (show Option (((List UInt8) × (List UInt8) × (Int) × (Int) × Unit)) from (
        let x20 := (decide (x3 < (0 : Int)))
        if x20 then (
          Option.bind (strings_Count (x0, x1)) fun x23 =>
          let x24 := IntKind.i64.wrap (x23 + (1 : Int))
          some (x0, x1, x2, x24, ()))
        else (
          some (x0, x1, x2, x3, ())))) fun o =>
      let x0 := o.1
      let x1 := o.2.1
      let x2 := o.2.2.1
      let x3 := o.2.2.2.1
      let x27 := (x0.length : Int)
      let x28 := IntKind.i64.wrap (x27 + (1 : Int))
      let x29 := (min x3 x28)
      Option.bind (if 0 ≤ x29 ∧ x29 ≤ x29 ∧ x29 * (16 : Int) ≤ 140737488355328 ∧ x29 ≤ 4611686018427387904 then some (List.replicate x29.toNat ([] : List UInt8)) else none) fun l31 =>
      let x33 := IntKind.i64.wrap (x29 - (1 : Int))
      Option.bind (show Option (((List UInt8) × (Int) × (List (List UInt8)) × (Unit) × Unit)) from (
        Option.bind (iter strings_genSplit_loop1 (x0, x1, x2, x33, (0 : Int), l31, (), ())) fun o =>
        let x0 := o.1
        let x10 := o.2.1
        let l31 := o.2.2.1
        some (x0, x10, l31, (), ()))) fun o =>
      let x0 := o.1
      let x10 := o.2.1
      let l31 := o.2.2.1
      Option.bind (if 0 ≤ x10 ∧ x10 < (l31.length : Int) then some x10.toNat else none) fun x61 =>
      Option.bind ((l31[x61]?).map (fun el14 => l31.set x61 x0)) fun l31 =>
      let x64 := IntKind.i64.wrap (x10 + (1 : Int))
      Option.bind (lSub l31 (0 : Int) x64) fun x65 =>
      some x65))
noncomputable def strings_Split (a : (List UInt8) × (List UInt8)) : Option (List (List UInt8)) :=
  let x0 := a.1
  let x1 := a.2
  Option.bind (strings_genSplit (x0, x1, (0 : Int), (-1 : Int))) fun x7 =>
  some x7
noncomputable def internal_stringslite_Cut (a : (List UInt8) × (List UInt8)) : Option ((List UInt8) × (List UInt8) × Bool) :=
  let x0 := a.1
  let x1 := a.2
  let x4 := ([] : List UInt8)
  let x5 := ([] : List UInt8)
  Option.bind (internal_stringslite_Index (x0, x1)) fun x10 =>
  let x12 := (decide (x10 ≥ (0 : Int)))
  if x12 then (
    Option.bind (lSub x0 (0 : Int) x10) fun x15 =>
    let x19 := (x1.length : Int)
    let x20 := IntKind.i64.wrap (x10 + x19)
    Option.bind (lSub x0 x20 (x0.length : Int)) fun x21 =>
    some (x15, x21, true))
  else (
    let x5 := ([] : List UInt8)
    some (x0, x5, false))
noncomputable def strings_Cut (a : (List UInt8) × (List UInt8)) : Option ((List UInt8) × (List UInt8) × Bool) :=
  let x0 := a.1
  let x1 := a.2
  let x4 := ([] : List UInt8)
  let x5 := ([] : List UInt8)
  Option.bind (internal_stringslite_Cut (x0, x1)) fun x9 =>
  some (x9.1, x9.2.1, x9.2.2)
noncomputable def internal_strconv_lower (a : Int) : Option (Int) :=
  let x0 := a
  let x4 := bitZ .or .u8 x0 (32 : Int)
  some x4
noncomputable def internal_strconv_underscoreOK_loop1 (s : (List UInt8) × (Int) × (Int) × (Bool) × Unit) : Option (((List UInt8) × (Int) × (Int) × (Bool) × Unit) ⊕ (((Int) × Unit) ⊕ (Bool))) :=
  let x0 := s.1
  let x3 := s.2.1
  let x4 := s.2.2.1
  let x5 := s.2.2.2.1
  let x53 := (x0.length : Int)
  let x54 := (decide (x4 < x53))
  if x54 then (
    Option.bind (show Option (((List UInt8) × (Int) × (Int) × (Bool) × Unit) ⊕ (Bool)) from (
      Option.bind (sAt x0 x4) fun x59 =>
      let x60 := (decide ((48 : Int) ≤ x59))
      let x62 := (if x60 = true then some x0 else none)
      let x63 := (if x60 = true then some x4 else none)
      Option.bind (if x60 = true then ((x62.bind (fun z591 => x63.map (fun z592 => (z591, z592)))).bind (fun z593 => sAt z593.1 z593.2)).map some else some none) fun x64 =>
      Option.bind (if x60 = true then ((x64.bind (fun z594 => some (z594, (57 : Int)))).map (fun z596 => (decide (z596.1 ≤ z596.2)))).map some else some none) fun x65 =>
      Option.bind (if x60 then x65 else some false) fun x66 =>
      let x68 := (if x66 = false then some x5 else none)
      Option.bind (if x66 = false then x68.map some else some none) fun x69 =>
      let x70 := (if x69 = some true then some x0 else none)
      let x71 := (if x69 = some true then some x4 else none)
      Option.bind (if x69 = some true then ((x70.bind (fun z597 => x71.map (fun z598 => (z597, z598)))).bind (fun z599 => sAt z599.1 z599.2)).map some else some none) fun x72 =>
      Option.bind (if x69 = some true then ((x72.map (fun z600 => z600)).bind (fun z601 => internal_strconv_lower z601)).map some else some none) fun x73 =>
      Option.bind (if x69 = some true then ((x73.map (fun z603 => ((97 : Int), z603))).map (fun z604 => (decide (z604.1 ≤ z604.2)))).map some else some none) fun x74 =>
      Option.bind (if x66 = false then (x69.bind (fun z605 => if z605 then x74 else some false)).map some else some none) fun x75 =>
      Option.bind (if x66 = false then x75.map some else some none) fun x76 =>
      let x77 := (if x76 = some true then some x0 else none)
      let x78 := (if x76 = some true then some x4 else none)
      Option.bind (if x76 = some true then ((x77.bind (fun z606 => x78.map (fun z607 => (z606, z607)))).bind (fun z608 => sAt z608.1 z608.2)).map some else some none) fun x79 =>
      Option.bind (if x76 = some true then ((x79.map (fun z609 => z609)).bind (fun z610 => internal_strconv_lower z610)).map some else some none) fun x80 =>
      Option.bind (if x76 = some true then ((x80.bind (fun z611 => some (z611, (102 : Int)))).map (fun z613 => (decide (z613.1 ≤ z613.2)))).map some else some none) fun x81 =>
      Option.bind (if x66 = false then (x76.bind (fun z614 => if z614 then x81 else some false)).map some else some none) fun x82 =>
      Option.bind (if x66 then some true else x82.map (fun z615 => z615)) fun x83 =>
      if x83 then (
        some (Sum.inl (x0, (48 : Int), x4, x5, ())))
      else (
        Option.bind (sAt x0 x4) fun x86 =>
        let x87 := (x86 == (95 : Int))
        if x87 then (
          let x89 := (x3 != (48 : Int))
          if x89 then (
            some (Sum.inr false))
          else (
            some (Sum.inl (x0, (95 : Int), x4, x5, ()))))
        else (
          let x91 := (x3 == (95 : Int))
          if x91 then (
            some (Sum.inr false))
          else (
            some (Sum.inl (x0, (33 : Int), x4, x5, ()))))))) fun o =>
    match o with
    | Sum.inl p616 => (
      let x0 := p616.1
      let x3 := p616.2.1
      let x4 := p616.2.2.1
      let x5 := p616.2.2.2.1
      let x56 := IntKind.i64.wrap (x4 + (1 : Int))
      some (Sum.inl (x0, x3, x56, x5, ())))
    | Sum.inr q617 => (
      some (Sum.inr (Sum.inr q617))))
  else (
    some (Sum.inr (Sum.inl (x3, ()))))
noncomputable def internal_strconv_underscoreOK (a : (List UInt8)) : Option (Bool) :=
  let x0 := a
  Option.bind (show Option (((List UInt8) × (Int) × (Int) × Unit)) from (
    let x7 := (x0.length : Int)
    let x8 := (decide (x7 ≥ (1 : Int)))
    let x10 := (if x8 = true then some x0 else none)
    Option.bind (if x8 = true then ((x10.bind (fun z57 => some (z57, (0 : Int)))).bind (fun z59 => sAt z59.1 z59.2)).map some else some none) fun x11 =>
    Option.bind (if x8 = true then ((x11.bind (fun z60 => some (z60, (45 : Int)))).map (fun z62 => (z62.1 == z62.2))).map some else some none) fun x12 =>
    Option.bind (if x8 = true then x12.map some else some none) fun x13 =>
    let x14 := (if x13 = some false then some x0 else none)
    Option.bind (if x13 = some false then ((x14.bind (fun z63 => some (z63, (0 : Int)))).bind (fun z65 => sAt z65.1 z65.2)).map some else some none) fun x15 =>
    Option.bind (if x13 = some false then ((x15.bind (fun z66 => some (z66, (43 : Int)))).map (fun z68 => (z68.1 == z68.2))).map some else some none) fun x16 =>
    Option.bind (if x8 = true then (x13.bind (fun z70 => if z70 then some true else x16.map (fun z69 => z69))).map some else some none) fun x17 =>
    Option.bind (if x8 then x17 else some false) fun x18 =>
    if x18 then (
      Option.bind (lSub x0 (1 : Int) (x0.length : Int)) fun x20 =>
      some (x20, (94 : Int), (0 : Int), ()))
    else (
      some (x0, (94 : Int), (0 : Int), ())))) fun o =>
  let x0 := o.1
  let x3 := o.2.1
  let x4 := o.2.2.1
  Option.bind (show Option (((List UInt8) × (Int) × (Int) × (Bool) × Unit)) from (
    let x22 := (x0.length : Int)
    let x23 := (decide (x22 ≥ (2 : Int)))
    let x25 := (if x23 = true then some x0 else none)
    Option.bind (if x23 = true then ((x25.bind (fun z207 => some (z207, (0 : Int)))).bind (fun z209 => sAt z209.1 z209.2)).map some else some none) fun x26 =>
    Option.bind (if x23 = true then ((x26.bind (fun z210 => some (z210, (48 : Int)))).map (fun z212 => (z212.1 == z212.2))).map some else some none) fun x27 =>
    Option.bind (if x23 then x27 else some false) fun x28 =>
    let x30 := (if x28 = true then some x0 else none)
    Option.bind (if x28 = true then ((x30.bind (fun z213 => some (z213, (1 : Int)))).bind (fun z215 => sAt z215.1 z215.2)).map some else some none) fun x31 =>
    Option.bind (if x28 = true then ((x31.map (fun z216 => z216)).bind (fun z217 => internal_strconv_lower z217)).map some else some none) fun x32 =>
    Option.bind (if x28 = true then ((x32.bind (fun z218 => some (z218, (98 : Int)))).map (fun z220 => (z220.1 == z220.2))).map some else some none) fun x33 =>
    Option.bind (if x28 = true then x33.map some else some none) fun x34 =>
    let x35 := (if x34 = some false then some x0 else none)
    Option.bind (if x34 = some false then ((x35.bind (fun z221 => some (z221, (1 : Int)))).bind (fun z223 => sAt z223.1 z223.2)).map some else some none) fun x36 =>
    Option.bind (if x34 = some false then ((x36.map (fun z224 => z224)).bind (fun z225 => internal_strconv_lower z225)).map some else some none) fun x37 =>
    Option.bind (if x34 = some false then ((x37.bind (fun z226 => some (z226, (111 : Int)))).map (fun z228 => (z228.1 == z228.2))).map some else some none) fun x38 =>
    Option.bind (if x28 = true then (x34.bind (fun z230 => if z230 then some true else x38.map (fun z229 => z229))).map some else some none) fun x39 =>
    Option.bind (if x28 = true then x39.map some else some none) fun x40 =>
    let x41 := (if x40 = some false then some x0 else none)
    Option.bind (if x40 = some false then ((x41.bind (fun z231 => some (z231, (1 : Int)))).bind (fun z233 => sAt z233.1 z233.2)).map some else some none) fun x42 =>
    Option.bind (if x40 = some false then ((x42.map (fun z234 => z234)).bind (fun z235 => internal_strconv_lower z235)).map some else some none) fun x43 =>
    Option.bind (if x40 = some false then ((x43.bind (fun z236 => some (z236, (120 : Int)))).map (fun z238 => (z238.1 == z238.2))).map some else some none) fun x44 =>
    Option.bind (if x28 = true then (x40.bind (fun z240 => if z240 then some true else x44.map (fun z239 => z239))).map some else some none) fun x45 =>
    Option.bind (if x28 then x45 else some false) fun x46 =>
    if x46 then (
      Option.bind (sAt x0 (1 : Int)) fun x48 =>
      Option.bind (internal_strconv_lower x48) fun x49 =>
      let x50 := (x49 == (120 : Int))
      some (x0, (48 : Int), (2 : Int), x50, ()))
    else (
      some (x0, x3, x4, false, ())))) fun o =>
  let x0 := o.1
  let x3 := o.2.1
  let x4 := o.2.2.1
  let x5 := o.2.2.2.1
  Option.bind (iter internal_strconv_underscoreOK_loop1 (x0, x3, x4, x5, ())) fun o =>
  match o with
  | Sum.inl p618 => (
    let x3 := p618.1
    let x93 := (x3 != (95 : Int))
    some x93)
  | Sum.inr q619 => (
    some q619)
noncomputable def internal_strconv_ParseUint_loop1 (s : (Int) × (Bool) × (List UInt8) × (Int) × (Int) × (Bool) × (Int) × (List (Int)) × (Int) × (Int) × Unit) : Option (((Int) × (Bool) × (List UInt8) × (Int) × (Int) × (Bool) × (Int) × (List (Int)) × (Int) × (Int) × Unit) ⊕ (((List UInt8) × (Bool) × (Int) × Unit))) :=
  let x1 := s.1
  let x8 := s.2.1
  let x9 := s.2.2.1
  let x10 := s.2.2.2.1
  let x11 := s.2.2.2.2.1
  let x12 := s.2.2.2.2.2.1
  let x13 := s.2.2.2.2.2.2.1
  let x99 := s.2.2.2.2.2.2.2.1
  let x100 := s.2.2.2.2.2.2.2.2.1
  let x101 := s.2.2.2.2.2.2.2.2.2.1
  let x102 := (decide (x101 < x100))
  if x102 then (
    Option.bind (show Option (((Int) × (Bool) × (List UInt8) × (Int) × (Int) × (Bool) × (Int) × (List (Int)) × (Int) × (Int) × Unit)) from (
      Option.bind ((lAt x99 x101).map (fun y => y)) fun x103 =>
      Option.bind (show Option (((Int) × (Bool) × (List UInt8) × (Int) × (Int) × (Bool) × (Int) × (Int) × (List (Int)) × (Int) × (Int) × Unit) ⊕ ((Int) × (Bool) × (List UInt8) × (Int) × (Int) × (Bool) × (Int) × (List (Int)) × (Int) × (Int) × Unit)) from (
        let x108 := (x103 == (95 : Int))
        let x110 := (if x108 = true then some x8 else none)
        Option.bind (if x108 then x110 else some false) fun x111 =>
        if x111 then (
          some (Sum.inr (x1, x8, x9, x10, x11, true, x13, x99, x100, x101, ())))
        else (
          let x114 := (decide ((48 : Int) ≤ x103))
          let x116 := (if x114 = true then some x103 else none)
          Option.bind (if x114 = true then ((x116.bind (fun z298 => some (z298, (57 : Int)))).map (fun z300 => (decide (z300.1 ≤ z300.2)))).map some else some none) fun x117 =>
          Option.bind (if x114 then x117 else some false) fun x118 =>
          if x118 then (
            let x120 := IntKind.u8.wrap (x103 - (48 : Int))
            some (Sum.inl (x1, x8, x9, x10, x11, x12, x13, x120, x99, x100, x101, ())))
          else (
            Option.bind (internal_strconv_lower x103) fun x123 =>
            let x124 := (decide ((97 : Int) ≤ x123))
            let x126 := (if x124 = true then some x103 else none)
            Option.bind (if x124 = true then ((x126.map (fun z311 => z311)).bind (fun z312 => internal_strconv_lower z312)).map some else some none) fun x127 =>
            Option.bind (if x124 = true then ((x127.bind (fun z313 => some (z313, (122 : Int)))).map (fun z315 => (decide (z315.1 ≤ z315.2)))).map some else some none) fun x128 =>
            Option.bind (if x124 then x128 else some false) fun x129 =>
            if x129 then (
              Option.bind (internal_strconv_lower x103) fun x131 =>
              let x132 := IntKind.u8.wrap (x131 - (97 : Int))
              let x133 := IntKind.u8.wrap (x132 + (10 : Int))
              some (Sum.inl (x1, x8, x9, x10, x11, x12, x13, x133, x99, x100, x101, ())))
            else (
              none))))) fun o =>
      match o with
      | Sum.inl p316 => (
        let x1 := p316.1
        let x8 := p316.2.1
        let x9 := p316.2.2.1
        let x10 := p316.2.2.2.1
        let x11 := p316.2.2.2.2.1
        let x12 := p316.2.2.2.2.2.1
        let x13 := p316.2.2.2.2.2.2.1
        let x16 := p316.2.2.2.2.2.2.2.1
        let x99 := p316.2.2.2.2.2.2.2.2.1
        let x100 := p316.2.2.2.2.2.2.2.2.2.1
        let x101 := p316.2.2.2.2.2.2.2.2.2.2.1
        let x136 := IntKind.u8.wrap x1
        let x137 := (decide (x16 ≥ x136))
        if x137 then (
          none)
        else (
          let x141 := (decide (x13 ≥ x10))
          if x141 then (
            none)
          else (
            let x146 := IntKind.u64.wrap x1
            let x147 := IntKind.u64.wrap (x13 * x146)
            let x150 := IntKind.u64.wrap x16
            let x151 := IntKind.u64.wrap (x147 + x150)
            let x154 := (decide (x151 < x147))
            let x156 := (if x154 = false then some x151 else none)
            let x157 := (if x154 = false then some x11 else none)
            Option.bind (if x154 = false then ((x156.bind (fun z334 => x157.map (fun z335 => (z334, z335)))).map (fun z336 => (decide (z336.1 > z336.2)))).map some else some none) fun x158 =>
            Option.bind (if x154 then some true else x158.map (fun z337 => z337)) fun x159 =>
            if x159 then (
              none)
            else (
              some (x1, x8, x9, x10, x11, x12, x151, x99, x100, x101, ())))))
      | Sum.inr q317 => (
        let x1 := q317.1
        let x8 := q317.2.1
        let x9 := q317.2.2.1
        let x10 := q317.2.2.2.1
        let x11 := q317.2.2.2.2.1
        let x12 := q317.2.2.2.2.2.1
        let x13 := q317.2.2.2.2.2.2.1
        let x99 := q317.2.2.2.2.2.2.2.1
        let x100 := q317.2.2.2.2.2.2.2.2.1
        let x101 := q317.2.2.2.2.2.2.2.2.2.1
        some (x1, x8, x9, x10, x11, x12, x13, x99, x100, x101, ())))) fun o =>
    let x1 := o.1
    let x8 := o.2.1
    let x9 := o.2.2.1
    let x10 := o.2.2.2.1
    let x11 := o.2.2.2.2.1
    let x12 := o.2.2.2.2.2.1
    let x13 := o.2.2.2.2.2.2.1
    let x99 := o.2.2.2.2.2.2.2.1
    let x100 := o.2.2.2.2.2.2.2.2.1
    let x101 := o.2.2.2.2.2.2.2.2.2.1
    let x163 := IntKind.i64.wrap (x101 + (1 : Int))
    some (Sum.inl (x1, x8, x9, x10, x11, x12, x13, x99, x100, x163, ())))
  else (
    some (Sum.inr (x9, x12, x13, ())))
noncomputable def internal_strconv_ParseUint (a : (List UInt8) × Int × Int) : Option (Int × Bool) :=
  let x0 := a.1
  let x1 := a.2.1
  let x2 := a.2.2
  let x19 := ((x0 == ([] : List UInt8)))
  if x19 then (
    none)
  else (
    let x22 := (x1 == (0 : Int))
    Option.bind (show Option (((List UInt8) × (Int) × (Int) × (Bool) × (List UInt8) × Unit)) from (
      let x27 := (decide ((2 : Int) ≤ x1))
      let x29 := (if x27 = true then some x1 else none)
      Option.bind (if x27 = true then ((x29.bind (fun z61 => some (z61, (36 : Int)))).map (fun z63 => (decide (z63.1 ≤ z63.2)))).map some else some none) fun x30 =>
      Option.bind (if x27 then x30 else some false) fun x31 =>
      if x31 then (
        some (x0, x1, x2, x22, x0, ()))
      else (
        let x34 := (x1 == (0 : Int))
        if x34 then (
          Option.bind (sAt x0 (0 : Int)) fun x36 =>
          let x37 := (x36 == (48 : Int))
          if x37 then (
            let x42 := (x0.length : Int)
            let x43 := (decide (x42 ≥ (3 : Int)))
            let x45 := (if x43 = true then some x0 else none)
            Option.bind (if x43 = true then ((x45.bind (fun z80 => some (z80, (1 : Int)))).bind (fun z82 => sAt z82.1 z82.2)).map some else some none) fun x46 =>
            Option.bind (if x43 = true then ((x46.map (fun z83 => z83)).bind (fun z84 => internal_strconv_lower z84)).map some else some none) fun x47 =>
            Option.bind (if x43 = true then ((x47.bind (fun z85 => some (z85, (98 : Int)))).map (fun z87 => (z87.1 == z87.2))).map some else some none) fun x48 =>
            Option.bind (if x43 then x48 else some false) fun x49 =>
            if x49 then (
              Option.bind (lSub x0 (2 : Int) (x0.length : Int)) fun x51 =>
              some (x51, (2 : Int), x2, x22, x0, ()))
            else (
              let x54 := (x0.length : Int)
              let x55 := (decide (x54 ≥ (3 : Int)))
              let x57 := (if x55 = true then some x0 else none)
              Option.bind (if x55 = true then ((x57.bind (fun z104 => some (z104, (1 : Int)))).bind (fun z106 => sAt z106.1 z106.2)).map some else some none) fun x58 =>
              Option.bind (if x55 = true then ((x58.map (fun z107 => z107)).bind (fun z108 => internal_strconv_lower z108)).map some else some none) fun x59 =>
              Option.bind (if x55 = true then ((x59.bind (fun z109 => some (z109, (111 : Int)))).map (fun z111 => (z111.1 == z111.2))).map some else some none) fun x60 =>
              Option.bind (if x55 then x60 else some false) fun x61 =>
              if x61 then (
                Option.bind (lSub x0 (2 : Int) (x0.length : Int)) fun x63 =>
                some (x63, (8 : Int), x2, x22, x0, ()))
              else (
                let x66 := (x0.length : Int)
                let x67 := (decide (x66 ≥ (3 : Int)))
                let x69 := (if x67 = true then some x0 else none)
                Option.bind (if x67 = true then ((x69.bind (fun z128 => some (z128, (1 : Int)))).bind (fun z130 => sAt z130.1 z130.2)).map some else some none) fun x70 =>
                Option.bind (if x67 = true then ((x70.map (fun z131 => z131)).bind (fun z132 => internal_strconv_lower z132)).map some else some none) fun x71 =>
                Option.bind (if x67 = true then ((x71.bind (fun z133 => some (z133, (120 : Int)))).map (fun z135 => (z135.1 == z135.2))).map some else some none) fun x72 =>
                Option.bind (if x67 then x72 else some false) fun x73 =>
                if x73 then (
                  Option.bind (lSub x0 (2 : Int) (x0.length : Int)) fun x75 =>
                  some (x75, (16 : Int), x2, x22, x0, ()))
                else (
                  Option.bind (lSub x0 (1 : Int) (x0.length : Int)) fun x39 =>
                  some (x39, (8 : Int), x2, x22, x0, ())))))
          else (
            some (x0, (10 : Int), x2, x22, x0, ())))
        else (
          none)))) fun o =>
    let x0 := o.1
    let x1 := o.2.1
    let x2 := o.2.2.1
    let x8 := o.2.2.2.1
    let x9 := o.2.2.2.2.1
    Option.bind (show Option (((List UInt8) × (Int) × (Int) × (Bool) × (List UInt8) × Unit)) from (
      let x77 := (x2 == (0 : Int))
      if x77 then (
        some (x0, x1, (64 : Int), x8, x9, ()))
      else (
        let x79 := (decide (x2 < (0 : Int)))
        let x81 := (if x79 = false then some x2 else none)
        Option.bind (if x79 = false then ((x81.bind (fun z152 => some (z152, (64 : Int)))).map (fun z154 => (decide (z154.1 > z154.2)))).map some else some none) fun x82 =>
        Option.bind (if x79 then some true else x82.map (fun z155 => z155)) fun x83 =>
        if x83 then (
          none)
        else (
          some (x0, x1, x2, x8, x9, ()))))) fun o =>
    let x0 := o.1
    let x1 := o.2.1
    let x2 := o.2.2.1
    let x8 := o.2.2.2.1
    let x9 := o.2.2.2.2.1
    Option.bind (show Option (((List UInt8) × (Int) × (Int) × (Bool) × (List UInt8) × (Int) × Unit)) from (
      let x91 := (x1 == (10 : Int))
      if x91 then (
        some (x0, x1, x2, x8, x9, (1844674407370955162 : Int), ()))
      else (
        let x93 := (x1 == (16 : Int))
        if x93 then (
          some (x0, x1, x2, x8, x9, (1152921504606846976 : Int), ()))
        else (
          let x87 := IntKind.u64.wrap x1
          Option.bind (if x87 = 0 then none else some (IntKind.u64.wrap ((18446744073709551615 : Int).tdiv x87))) fun x88 =>
          let x89 := IntKind.u64.wrap (x88 + (1 : Int))
          some (x0, x1, x2, x8, x9, x89, ()))))) fun o =>
    let x0 := o.1
    let x1 := o.2.1
    let x2 := o.2.2.1
    let x8 := o.2.2.2.1
    let x9 := o.2.2.2.2.1
    let x10 := o.2.2.2.2.2.1
    let x95 := IntKind.u64.wrap x2
    Option.bind (if x95 < 0 then none else some (IntKind.u64.wrap ((1 : Int) * 2 ^ (min x95.toNat 64)))) fun x96 =>
    let x97 := IntKind.u64.wrap (x96 - (1 : Int))
    Option.bind (if x0.length ≤ 70368744177664 then some (x0.map fun b => (b.toNat : Int)) else none) fun x99 =>
    let x100 := (x99.length : Int)
    Option.bind (iter internal_strconv_ParseUint_loop1 (x1, x8, x9, x10, x97, false, (0 : Int), x99, x100, (0 : Int), ())) fun o =>
    let x9 := o.1
    let x12 := o.2.1
    let x13 := o.2.2.1
    let x166 := (if x12 = true then some x9 else none)
    Option.bind (if x12 = true then ((x166.map (fun z350 => z350)).bind (fun z351 => internal_strconv_underscoreOK z351)).map some else some none) fun x167 =>
    Option.bind (if x12 = true then (x167.map (fun z352 => (!z352))).map some else some none) fun x168 =>
    Option.bind (if x12 then x168 else some false) fun x169 =>
    if x169 then (
      none)
    else (
      some (x13, true)))
noncomputable def strconv_toError (a : (List UInt8) × (List UInt8) × Int × Int × Bool) : Option (Bool) :=
  let x0 := a.1
  let x1 := a.2.1
  let x2 := a.2.2.1
  let x3 := a.2.2.2.1
  let x4 := a.2.2.2.2
  none
noncomputable def strconv_ParseUint (a : (List UInt8) × Int × Int) : Option (Int × Bool) :=
  let x0 := a.1
  let x1 := a.2.1
  let x2 := a.2.2
  Option.bind (internal_strconv_ParseUint (x0, x1, x2)) fun x14 =>
  let x18 := (!x14.2)
  if x18 then (
    Option.bind (strconv_toError (([80, 97, 114, 115, 101, 85, 105, 110, 116] : List UInt8), x0, x1, x2, x14.2)) fun x24 =>
    some (x14.1, x24))
  else (
    some (x14.1, true))
noncomputable def fact_tens_loop1 (s : (List UInt8) × (Int) × (Int) × (Int) × Unit) : Option (((List UInt8) × (Int) × (Int) × (Int) × Unit) ⊕ (((List UInt8) × (Int) × Unit) ⊕ (Int × Bool))) :=
  let x0 := s.1
  let x1 := s.2.1
  let x22 := s.2.2.1
  let x23 := s.2.2.2.1
  let x24 := (decide (x23 < x22))
  if x24 then (
    Option.bind (sAt x0 x23) fun x28 =>
    let x29 := (decide (x28 < (48 : Int)))
    let x31 := (if x29 = false then some x0 else none)
    let x32 := (if x29 = false then some x23 else none)
    Option.bind (if x29 = false then ((x31.bind (fun z145 => x32.map (fun z146 => (z145, z146)))).bind (fun z147 => sAt z147.1 z147.2)).map some else some none) fun x33 =>
    Option.bind (if x29 = false then ((x33.bind (fun z148 => some (z148, (57 : Int)))).map (fun z150 => (decide (z150.1 > z150.2)))).map some else some none) fun x34 =>
    Option.bind (if x29 then some true else x34.map (fun z151 => z151)) fun x35 =>
    if x35 then (
      some (Sum.inr (Sum.inr ((0 : Int), false))))
    else (
      let x36 := IntKind.i64.wrap (x23 + (1 : Int))
      some (Sum.inl (x0, x1, x22, x36, ()))))
  else (
    some (Sum.inr (Sum.inl (x0, x1, ()))))
noncomputable def fact_tens (a : (List UInt8) × Int) : Option (Int × Bool) :=
  let x0 := a.1
  let x1 := a.2
  let x10 := ((x0 == ([] : List UInt8)))
  let x12 := (if x10 = false then some x0 else none)
  Option.bind (if x10 = false then (x12.map (fun z49 => (z49.length : Int))).map some else some none) fun x13 =>
  Option.bind (if x10 = false then ((x13.bind (fun z50 => some (z50, (1 : Int)))).map (fun z52 => (decide (z52.1 > z52.2)))).map some else some none) fun x14 =>
  Option.bind (if x10 = false then x14.map some else some none) fun x15 =>
  let x16 := (if x15 = some true then some x0 else none)
  Option.bind (if x15 = some true then ((x16.bind (fun z53 => some (z53, (0 : Int)))).bind (fun z55 => sAt z55.1 z55.2)).map some else some none) fun x17 =>
  Option.bind (if x15 = some true then ((x17.bind (fun z56 => some (z56, (48 : Int)))).map (fun z58 => (z58.1 == z58.2))).map some else some none) fun x18 =>
  Option.bind (if x10 = false then (x15.bind (fun z59 => if z59 then x18 else some false)).map some else some none) fun x19 =>
  Option.bind (if x10 then some true else x19.map (fun z60 => z60)) fun x20 =>
  if x20 then (
    some ((0 : Int), false))
  else (
    let x22 := (x0.length : Int)
    Option.bind (iter fact_tens_loop1 (x0, x1, x22, (0 : Int), ())) fun o =>
    match o with
    | Sum.inl p152 => (
      let x0 := p152.1
      let x1 := p152.2.1
      Option.bind (strconv_ParseUint (x0, (10 : Int), (64 : Int))) fun x39 =>
      let x46 := (if x39.2 = true then some x39.1 else none)
      let x47 := (if x39.2 = true then some x1 else none)
      Option.bind (if x39.2 = true then ((x46.bind (fun z160 => x47.map (fun z161 => (z160, z161)))).map (fun z162 => (decide (z162.1 ≤ z162.2)))).map some else some none) fun x48 =>
      Option.bind (if x39.2 then x48 else some false) fun x49 =>
      some (x39.1, x49))
    | Sum.inr q153 => (
      some q153))
noncomputable def fact_weights_loop1 (s : (List (List UInt8)) × (List (List UInt8)) × (Int) × (Int) × (List ((List UInt8) × (Int))) × (Unit) × Unit) : Option (((List (List UInt8)) × (List (List UInt8)) × (Int) × (Int) × (List ((List UInt8) × (Int))) × (Unit) × Unit) ⊕ (((List (List UInt8)) × Unit) ⊕ (Bool))) :=
  let x3 := s.1
  let x15 := s.2.1
  let x16 := s.2.2.1
  let x17 := s.2.2.2.1
  let l14 := s.2.2.2.2.1
  let x18 := (decide (x17 < x16))
  if x18 then (
    Option.bind ((lAt x15 x17).map (fun y => y)) fun x19 =>
    Option.bind (strings_Cut (x19, ([58] : List UInt8))) fun x23 =>
    Option.bind (fact_tens (x23.2.1, (1000000 : Int))) fun x29 =>
    let x34 := (alGet (eqZ .str) (zeroT (.int .i64)) x23.1 l14).1
    let x35 := IntKind.i64.wrap (x34 + (1 : Int))
    let l14 := alPut (eqZ .str) x23.1 x35 l14
    let x37 := (!x23.2.2)
    let x39 := (if x37 = false then some x23.1 else none)
    Option.bind (if x37 = false then ((x39.map (fun z217 => z217)).bind (fun z218 => fact_isName z218)).map some else some none) fun x40 =>
    Option.bind (if x37 = false then (x40.map (fun z219 => (!z219))).map some else some none) fun x41 =>
    Option.bind (if x37 then some true else x41.map (fun z220 => z220)) fun x42 =>
    let x44 := (if x42 = false then some x29.2 else none)
    Option.bind (if x42 = false then (x44.map (fun z221 => (!z221))).map some else some none) fun x45 =>
    Option.bind (if x42 then some true else x45.map (fun z222 => z222)) fun x46 =>
    let x48 := (if x46 = false then some x29.1 else none)
    Option.bind (if x46 = false then ((x48.bind (fun z223 => some (z223, (0 : Int)))).map (fun z225 => (z225.1 == z225.2))).map some else some none) fun x49 =>
    Option.bind (if x46 then some true else x49.map (fun z226 => z226)) fun x50 =>
    let x52 := (if x50 = false then some () else none)
    let x53 := (if x50 = false then some x23.1 else none)
    Option.bind (if x50 = false then (((x52.map (fun z227 => l14)).bind (fun z228 => x53.map (fun z229 => (z228, z229)))).map (fun z230 => (alGet (eqZ .str) (zeroT (.int .i64)) z230.2 z230.1).1)).map some else some none) fun x54 =>
    Option.bind (if x50 = false then ((x54.bind (fun z231 => some (z231, (1 : Int)))).map (fun z233 => (decide (z233.1 > z233.2)))).map some else some none) fun x55 =>
    Option.bind (if x50 then some true else x55.map (fun z234 => z234)) fun x56 =>
    if x56 then (
      some (Sum.inr (Sum.inr false)))
    else (
      let x57 := IntKind.i64.wrap (x17 + (1 : Int))
      some (Sum.inl (x3, x15, x16, x57, l14, (), ()))))
  else (
    some (Sum.inr (Sum.inl (x3, ()))))
noncomputable def fact_weights (a : (List UInt8)) : Option (Bool) :=
  let x0 := a
  Option.bind (strings_Split (x0, ([32] : List UInt8))) fun x13 =>
  let x16 := (x13.length : Int)
  Option.bind (iter fact_weights_loop1 (x13, x13, x16, (0 : Int), ([] : List ((List UInt8) × (Int))), (), ())) fun o =>
  match o with
  | Sum.inl p235 => (
    let x3 := p235.1
    let x59 := (x3.length : Int)
    let x60 := (decide (x59 ≤ (64 : Int)))
    some x60)
  | Sum.inr q236 => (
    some q236)
noncomputable def fact_rules_5 (a : (Int × Int × Int × Int × Int × (List UInt8) × Int × (List UInt8))) : Option (Bool) :=
  let x0 := a
  Option.bind (fact_weights x0.2.2.2.2.2.2.2) fun x5 =>
  some x5
noncomputable def fact_night (a : (Int × Int × Int × Int × Int × (List UInt8) × Int × (List UInt8))) : Option (Bool) :=
  let x0 := a
  let x10 := (max x0.2.2.2.2.2.2.1 (0 : Int))
  let x11 := IntKind.u64.wrap x10
  Option.bind (fact_tens (x0.2.2.2.2.2.2.2, x11)) fun x12 =>
  let x17 := ((x0.2.2.2.2.2.2.2 == ([] : List UInt8)))
  let x19 := (if x17 = false then some x12.2 else none)
  Option.bind (if x17 then some true else x19.map (fun z3 => z3)) fun x20 =>
  some x20
noncomputable def slices_Index_loop1 (s : (List (List UInt8)) × (List UInt8) × (Int) × (Int) × Unit) : Option (((List (List UInt8)) × (List UInt8) × (Int) × (Int) × Unit) ⊕ ((Unit) ⊕ (Int))) :=
  let x0 := s.1
  let x1 := s.2.1
  let x7 := s.2.2.1
  let x8 := s.2.2.2.1
  let x9 := (decide (x8 < x7))
  if x9 then (
    Option.bind ((lAt x0 x8).map (fun y => y)) fun x14 =>
    let x16 := ((x1 == x14))
    if x16 then (
      some (Sum.inr (Sum.inr x8)))
    else (
      let x18 := IntKind.i64.wrap (x8 + (1 : Int))
      some (Sum.inl (x0, x1, x7, x18, ()))))
  else (
    some (Sum.inr (Sum.inl (()))))
noncomputable def slices_Index (a : (List (List UInt8)) × (List UInt8)) : Option (Int) :=
  let x0 := a.1
  let x1 := a.2
  let x7 := (x0.length : Int)
  Option.bind (iter slices_Index_loop1 (x0, x1, x7, (0 : Int), ())) fun o =>
  match o with
  | Sum.inl p1 => (
    some (-1 : Int))
  | Sum.inr q2 => (
    some q2)
noncomputable def slices_Contains (a : (List (List UInt8)) × (List UInt8)) : Option (Bool) :=
  let x0 := a.1
  let x1 := a.2
  Option.bind (slices_Index (x0, x1)) fun x7 =>
  let x8 := (decide (x7 ≥ (0 : Int)))
  some x8
noncomputable def fact_absence (a : (List UInt8)) : Option (Bool) :=
  let x0 := a
  let l3 := ([([115, 105, 99, 107] : List UInt8), ([108, 101, 97, 118, 101] : List UInt8), ([117, 110, 112, 97, 105, 100] : List UInt8), ([112, 97, 114, 101, 110, 116, 97, 108] : List UInt8)] : List (List UInt8))
  Option.bind (slices_Contains (l3, x0)) fun x5 =>
  some x5
noncomputable def internal_stringslite_HasPrefix (a : (List UInt8) × (List UInt8)) : Option (Bool) :=
  let x0 := a.1
  let x1 := a.2
  let x6 := (x0.length : Int)
  let x8 := (x1.length : Int)
  let x9 := (decide (x6 ≥ x8))
  let x11 := (if x9 = true then some x0 else none)
  let x12 := (if x9 = true then some x1 else none)
  Option.bind (if x9 = true then (x12.map (fun z17 => (z17.length : Int))).map some else some none) fun x13 =>
  Option.bind (if x9 = true then (((x11.bind (fun z18 => x13.map (fun z19 => (z18, z19)))).map (fun z20 => (z20.1, (0 : Int), z20.2))).bind (fun z21 => lSub z21.1 z21.2.1 z21.2.2)).map some else some none) fun x14 =>
  let x15 := (if x9 = true then some x1 else none)
  Option.bind (if x9 = true then ((x14.bind (fun z22 => x15.map (fun z23 => (z22, z23)))).map (fun z24 => ((z24.1 == z24.2)))).map some else some none) fun x16 =>
  Option.bind (if x9 then x16 else some false) fun x17 =>
  some x17
noncomputable def internal_stringslite_CutPrefix (a : (List UInt8) × (List UInt8)) : Option ((List UInt8) × Bool) :=
  let x0 := a.1
  let x1 := a.2
  let x4 := ([] : List UInt8)
  Option.bind (internal_stringslite_HasPrefix (x0, x1)) fun x8 =>
  let x9 := (!x8)
  if x9 then (
    some (x0, false))
  else (
    let x13 := (x1.length : Int)
    Option.bind (lSub x0 x13 (x0.length : Int)) fun x14 =>
    some (x14, true))
noncomputable def strings_CutPrefix (a : (List UInt8) × (List UInt8)) : Option ((List UInt8) × Bool) :=
  let x0 := a.1
  let x1 := a.2
  let x4 := ([] : List UInt8)
  Option.bind (internal_stringslite_CutPrefix (x0, x1)) fun x8 =>
  some (x8.1, x8.2)
noncomputable def internal_stringslite_HasSuffix (a : (List UInt8) × (List UInt8)) : Option (Bool) :=
  let x0 := a.1
  let x1 := a.2
  let x6 := (x0.length : Int)
  let x8 := (x1.length : Int)
  let x9 := (decide (x6 ≥ x8))
  let x11 := (if x9 = true then some x0 else none)
  let x12 := (if x9 = true then some x0 else none)
  Option.bind (if x9 = true then (x12.map (fun z25 => (z25.length : Int))).map some else some none) fun x13 =>
  let x14 := (if x9 = true then some x1 else none)
  Option.bind (if x9 = true then (x14.map (fun z26 => (z26.length : Int))).map some else some none) fun x15 =>
  Option.bind (if x9 = true then ((x13.bind (fun z27 => x15.map (fun z28 => (z27, z28)))).map (fun z29 => IntKind.i64.wrap (z29.1 - z29.2))).map some else some none) fun x16 =>
  Option.bind (if x9 = true then (((x11.bind (fun z30 => x16.map (fun z31 => (z30, z31)))).map (fun z32 => (z32.1, z32.2, (z32.1.length : Int)))).bind (fun z33 => lSub z33.1 z33.2.1 z33.2.2)).map some else some none) fun x17 =>
  let x18 := (if x9 = true then some x1 else none)
  Option.bind (if x9 = true then ((x17.bind (fun z34 => x18.map (fun z35 => (z34, z35)))).map (fun z36 => ((z36.1 == z36.2)))).map some else some none) fun x19 =>
  Option.bind (if x9 then x19 else some false) fun x20 =>
  some x20
noncomputable def internal_stringslite_CutSuffix (a : (List UInt8) × (List UInt8)) : Option ((List UInt8) × Bool) :=
  let x0 := a.1
  let x1 := a.2
  let x4 := ([] : List UInt8)
  Option.bind (internal_stringslite_HasSuffix (x0, x1)) fun x8 =>
  let x9 := (!x8)
  if x9 then (
    some (x0, false))
  else (
    let x13 := (x0.length : Int)
    let x15 := (x1.length : Int)
    let x16 := IntKind.i64.wrap (x13 - x15)
    Option.bind (lSub x0 (0 : Int) x16) fun x17 =>
    some (x17, true))
noncomputable def strings_CutSuffix (a : (List UInt8) × (List UInt8)) : Option ((List UInt8) × Bool) :=
  let x0 := a.1
  let x1 := a.2
  let x4 := ([] : List UInt8)
  Option.bind (internal_stringslite_CutSuffix (x0, x1)) fun x8 =>
  some (x8.1, x8.2)
noncomputable def rate_digits_loop1 (s : (List UInt8) × (Int) × (Int) × Unit) : Option (((List UInt8) × (Int) × (Int) × Unit) ⊕ (((List UInt8) × Unit) ⊕ (Bool))) :=
  let x0 := s.1
  let x5 := s.2.1
  let x6 := s.2.2.1
  let x7 := (decide (x6 < x5))
  if x7 then (
    Option.bind (sAt x0 x6) fun x11 =>
    let x12 := (decide (x11 < (48 : Int)))
    let x14 := (if x12 = false then some x0 else none)
    let x15 := (if x12 = false then some x6 else none)
    Option.bind (if x12 = false then ((x14.bind (fun z85 => x15.map (fun z86 => (z85, z86)))).bind (fun z87 => sAt z87.1 z87.2)).map some else some none) fun x16 =>
    Option.bind (if x12 = false then ((x16.bind (fun z88 => some (z88, (57 : Int)))).map (fun z90 => (decide (z90.1 > z90.2)))).map some else some none) fun x17 =>
    Option.bind (if x12 then some true else x17.map (fun z91 => z91)) fun x18 =>
    if x18 then (
      some (Sum.inr (Sum.inr false)))
    else (
      let x19 := IntKind.i64.wrap (x6 + (1 : Int))
      some (Sum.inl (x0, x5, x19, ()))))
  else (
    some (Sum.inr (Sum.inl (x0, ()))))
noncomputable def rate_digits (a : (List UInt8)) : Option (Bool) :=
  let x0 := a
  let x5 := (x0.length : Int)
  Option.bind (iter rate_digits_loop1 (x0, x5, (0 : Int), ())) fun o =>
  match o with
  | Sum.inl p92 => (
    let x0 := p92.1
    let x21 := (!(x0 == ([] : List UInt8)))
    some x21)
  | Sum.inr q93 => (
    some q93)
noncomputable def rate_value_loop1 (s : (List UInt8) × (Int) × (Int) × (Int) × (Int) × Unit) : Option (((List UInt8) × (Int) × (Int) × (Int) × (Int) × Unit) ⊕ (((Int) × Unit))) :=
  let x0 := s.1
  let x1 := s.2.1
  let x5 := s.2.2.1
  let x8 := s.2.2.2.1
  let x9 := s.2.2.2.2.1
  let x10 := (decide (x9 < x8))
  if x10 then (
    let x13 := IntKind.i64.wrap (x5 * (10 : Int))
    Option.bind (sAt x0 x9) fun x16 =>
    let x17 := IntKind.u8.wrap (x16 - (48 : Int))
    let x18 := IntKind.i64.wrap x17
    let x19 := IntKind.i64.wrap (x13 + x18)
    let x21 := IntKind.i64.wrap (x1 + (1 : Int))
    let x22 := (min x19 x21)
    let x23 := IntKind.i64.wrap (x9 + (1 : Int))
    some (Sum.inl (x0, x1, x22, x8, x23, ())))
  else (
    some (Sum.inr (x5, ())))
noncomputable def rate_value (a : (List UInt8) × Int) : Option (Int) :=
  let x0 := a.1
  let x1 := a.2
  let x8 := (x0.length : Int)
  Option.bind (iter rate_value_loop1 (x0, x1, (0 : Int), x8, (0 : Int), ())) fun o =>
  let x5 := o.1
  some x5
noncomputable def rate_Parse (a : (List UInt8)) : Option (Int × Int) :=
  let x0 := a
  let x12 := ((x0 == ([] : List UInt8)))
  if x12 then (
    some ((0 : Int), (10 : Int)))
  else (
    Option.bind (strings_CutPrefix (x0, ([45] : List UInt8))) fun x15 =>
    Option.bind (strings_CutSuffix (x15.1, ([37] : List UInt8))) fun x20 =>
    Option.bind (strings_Cut (x20.1, ([46] : List UInt8))) fun x25 =>
    let x31 := (!x20.2)
    let x33 := (if x31 = false then some x25.1 else none)
    Option.bind (if x31 = false then ((x33.map (fun z115 => z115)).bind (fun z116 => rate_digits z116)).map some else some none) fun x34 =>
    Option.bind (if x31 = false then (x34.map (fun z117 => (!z117))).map some else some none) fun x35 =>
    Option.bind (if x31 then some true else x35.map (fun z118 => z118)) fun x36 =>
    let x38 := (if x36 = false then some x25.1 else none)
    Option.bind (if x36 = false then (x38.map (fun z119 => (z119.length : Int))).map some else some none) fun x39 =>
    Option.bind (if x36 = false then ((x39.bind (fun z120 => some (z120, (1 : Int)))).map (fun z122 => (decide (z122.1 > z122.2)))).map some else some none) fun x40 =>
    Option.bind (if x36 = false then x40.map some else some none) fun x41 =>
    let x42 := (if x41 = some true then some x25.1 else none)
    Option.bind (if x41 = some true then ((x42.bind (fun z123 => some (z123, (0 : Int)))).bind (fun z125 => sAt z125.1 z125.2)).map some else some none) fun x43 =>
    Option.bind (if x41 = some true then ((x43.bind (fun z126 => some (z126, (48 : Int)))).map (fun z128 => (z128.1 == z128.2))).map some else some none) fun x44 =>
    Option.bind (if x36 = false then (x41.bind (fun z129 => if z129 then x44 else some false)).map some else some none) fun x45 =>
    Option.bind (if x36 then some true else x45.map (fun z130 => z130)) fun x46 =>
    if x46 then (
      some ((0 : Int), (3 : Int)))
    else (
      let x50 := (if x25.2.2 = true then some x25.2.1 else none)
      Option.bind (if x25.2.2 = true then ((x50.map (fun z173 => z173)).bind (fun z174 => rate_digits z174)).map some else some none) fun x51 =>
      Option.bind (if x25.2.2 = true then (x51.map (fun z175 => (!z175))).map some else some none) fun x52 =>
      Option.bind (if x25.2.2 = true then x52.map some else some none) fun x53 =>
      let x54 := (if x53 = some false then some x25.2.1 else none)
      Option.bind (if x53 = some false then (x54.map (fun z176 => (z176.length : Int))).map some else some none) fun x55 =>
      Option.bind (if x53 = some false then ((x55.bind (fun z177 => some (z177, (4 : Int)))).map (fun z179 => (decide (z179.1 > z179.2)))).map some else some none) fun x56 =>
      Option.bind (if x25.2.2 = true then (x53.bind (fun z181 => if z181 then some true else x56.map (fun z180 => z180))).map some else some none) fun x57 =>
      Option.bind (if x25.2.2 = true then x57.map some else some none) fun x58 =>
      let x59 := (if x58 = some false then some x25.2.1 else none)
      let x60 := (if x58 = some false then some x25.2.1 else none)
      Option.bind (if x58 = some false then (x60.map (fun z182 => (z182.length : Int))).map some else some none) fun x61 =>
      Option.bind (if x58 = some false then ((x61.bind (fun z183 => some (z183, (1 : Int)))).map (fun z185 => IntKind.i64.wrap (z185.1 - z185.2))).map some else some none) fun x62 =>
      Option.bind (if x58 = some false then ((x59.bind (fun z186 => x62.map (fun z187 => (z186, z187)))).bind (fun z188 => sAt z188.1 z188.2)).map some else some none) fun x63 =>
      Option.bind (if x58 = some false then ((x63.bind (fun z189 => some (z189, (48 : Int)))).map (fun z191 => (z191.1 == z191.2))).map some else some none) fun x64 =>
      Option.bind (if x25.2.2 = true then (x58.bind (fun z193 => if z193 then some true else x64.map (fun z192 => z192))).map some else some none) fun x65 =>
      Option.bind (if x25.2.2 then x65 else some false) fun x66 =>
      if x66 then (
        some ((0 : Int), (3 : Int)))
      else (
        let x70 := (if x15.2 = true then some x25.1 else none)
        Option.bind (if x15.2 = true then ((x70.bind (fun z202 => some (z202, ([48] : List UInt8)))).map (fun z204 => ((z204.1 == z204.2)))).map some else some none) fun x71 =>
        Option.bind (if x15.2 then x71 else some false) fun x72 =>
        let x74 := (if x72 = true then some x25.2.2 else none)
        Option.bind (if x72 = true then (x74.map (fun z205 => (!z205))).map some else some none) fun x75 =>
        Option.bind (if x72 then x75 else some false) fun x76 =>
        if x76 then (
          some ((0 : Int), (3 : Int)))
        else (
          Option.bind (rate_value (x25.1, (100000 : Int))) fun x78 =>
          let x79 := IntKind.i64.wrap (x78 * (10000 : Int))
          Option.bind (if x25.2.1.length + ([48, 48, 48, 48] : List UInt8).length ≤ 4611686018427387904 then some (x25.2.1 ++ ([48, 48, 48, 48] : List UInt8)) else none) fun x81 =>
          Option.bind (lSub x81 (0 : Int) (4 : Int)) fun x82 =>
          Option.bind (rate_value (x82, (10000 : Int))) fun x83 =>
          let x84 := IntKind.i64.wrap (x79 + x83)
          let x86 := (decide (x84 > (1000000000 : Int)))
          if x86 then (
            some ((0 : Int), (2 : Int)))
          else (
            Option.bind (show Option (((Int) × Unit)) from (
              if x15.2 then (
                let x89 := IntKind.i64.wrap (0 - x84)
                some (x89, ()))
              else (
                some (x84, ())))) fun o =>
            let x10 := o.1
            some (x10, (0 : Int)))))))
noncomputable def cents_whole_loop1 (s : (Int) × (List UInt8) × Unit) : Option (((Int) × (List UInt8) × Unit) ⊕ (((Int) × (List UInt8) × Unit))) :=
  let x0 := s.1
  let x3 := s.2.1
  let x5 := (decide (x0 > (9 : Int)))
  if x5 then (
    Option.bind (if (10 : Int) = 0 then none else some (x0.tmod (10 : Int))) fun x7 =>
    let x8 := IntKind.i64.wrap ((48 : Int) + x7)
    let x9 := IntKind.i32.wrap x8
    let x10 := (Utf8.encode x9).data.toList
    Option.bind (if x10.length + x3.length ≤ 4611686018427387904 then some (x10 ++ x3) else none) fun x12 =>
    Option.bind (if (10 : Int) = 0 then none else some (IntKind.i64.wrap (x0.tdiv (10 : Int)))) fun x14 =>
    some (Sum.inl (x14, x12, ())))
  else (
    some (Sum.inr (x0, x3, ())))
noncomputable def cents_whole (a : Int) : Option (List UInt8) :=
  let x0 := a
  let x2 := ([] : List UInt8)
  let x3 := ([] : List UInt8)
  Option.bind (iter cents_whole_loop1 (x0, x3, ())) fun o =>
  let x0 := o.1
  let x3 := o.2.1
  let x16 := IntKind.i64.wrap ((48 : Int) + x0)
  let x17 := IntKind.i32.wrap x16
  let x18 := (Utf8.encode x17).data.toList
  Option.bind (if x18.length + x3.length ≤ 4611686018427387904 then some (x18 ++ x3) else none) fun x20 =>
  some x20
noncomputable def cents_Text (a : Int) : Option (List UInt8) :=
  let x0 := a
  let x2 := ([] : List UInt8)
  Option.bind (cents_Fits x0) fun x6 =>
  let x7 := (!x6)
  if x7 then (
    let x2 := ([] : List UInt8)
    some x2)
  else (
    let x3 := ([] : List UInt8)
    Option.bind (show Option (((Int) × (List UInt8) × Unit)) from (
      let x9 := (decide (x0 < (0 : Int)))
      if x9 then (
        let x11 := IntKind.i64.wrap (0 - x0)
        let x3 := ([45] : List UInt8)
        some (x11, x3, ()))
      else (
        some (x0, x3, ())))) fun o =>
    let x0 := o.1
    let x3 := o.2.1
    Option.bind (if (100 : Int) = 0 then none else some (x0.tmod (100 : Int))) fun x13 =>
    Option.bind (if (100 : Int) = 0 then none else some (IntKind.i64.wrap (x0.tdiv (100 : Int)))) fun x16 =>
    Option.bind (cents_whole x16) fun x17 =>
    Option.bind (if x3.length + x17.length ≤ 4611686018427387904 then some (x3 ++ x17) else none) fun x18 =>
    Option.bind (if x18.length + ([46] : List UInt8).length ≤ 4611686018427387904 then some (x18 ++ ([46] : List UInt8)) else none) fun x19 =>
    Option.bind (if (10 : Int) = 0 then none else some (IntKind.i64.wrap (x13.tdiv (10 : Int)))) fun x21 =>
    Option.bind (cents_whole x21) fun x22 =>
    Option.bind (if x19.length + x22.length ≤ 4611686018427387904 then some (x19 ++ x22) else none) fun x23 =>
    Option.bind (if (10 : Int) = 0 then none else some (x13.tmod (10 : Int))) fun x25 =>
    Option.bind (cents_whole x25) fun x26 =>
    Option.bind (if x23.length + x26.length ≤ 4611686018427387904 then some (x23 ++ x26) else none) fun x27 =>
    some x27)
noncomputable def cents_Parse_loop1 (s : (List UInt8) × (Int) × (Bool) × (Int) × (Int) × Unit) : Option (((List UInt8) × (Int) × (Bool) × (Int) × (Int) × Unit) ⊕ (((List UInt8) × (Int) × (Bool) × Unit) ⊕ (Int × Int))) :=
  let x0 := s.1
  let x4 := s.2.1
  let x5 := s.2.2.1
  let x9 := s.2.2.2.1
  let x10 := s.2.2.2.2.1
  let x11 := (decide (x10 < x9))
  if x11 then (
    Option.bind (show Option (((List UInt8) × (Int) × (Bool) × (Int) × (Int) × Unit) ⊕ (Int × Int)) from (
      Option.bind (sAt x0 x10) fun x15 =>
      let x24 := (x10 == (0 : Int))
      let x26 := (if x24 = true then some x15 else none)
      Option.bind (if x24 = true then ((x26.bind (fun z117 => some (z117, (45 : Int)))).map (fun z119 => (z119.1 == z119.2))).map some else some none) fun x27 =>
      Option.bind (if x24 then x27 else some false) fun x28 =>
      if x28 then (
        some (Sum.inl (x0, x4, true, x9, x10, ())))
      else (
        let x31 := (x15 == (46 : Int))
        if x31 then (
          some (Sum.inl (x0, x4, x5, x9, x10, ())))
        else (
          let x34 := (decide (x15 < (48 : Int)))
          let x36 := (if x34 = false then some x15 else none)
          Option.bind (if x34 = false then ((x36.bind (fun z136 => some (z136, (57 : Int)))).map (fun z138 => (decide (z138.1 > z138.2)))).map some else some none) fun x37 =>
          Option.bind (if x34 then some true else x37.map (fun z139 => z139)) fun x38 =>
          let x40 := (if x38 = false then some x4 else none)
          Option.bind (if x38 = false then ((x40.bind (fun z140 => some (z140, (1125899906842624 : Int)))).map (fun z142 => (decide (z142.1 > z142.2)))).map some else some none) fun x41 =>
          Option.bind (if x38 then some true else x41.map (fun z143 => z143)) fun x42 =>
          if x42 then (
            some (Sum.inr ((0 : Int), (3 : Int))))
          else (
            let x17 := IntKind.i64.wrap ((10 : Int) * x4)
            let x19 := IntKind.u8.wrap (x15 - (48 : Int))
            let x20 := IntKind.i64.wrap x19
            let x21 := IntKind.i64.wrap (x17 + x20)
            some (Sum.inl (x0, x21, x5, x9, x10, ()))))))) fun o =>
    match o with
    | Sum.inl p144 => (
      let x0 := p144.1
      let x4 := p144.2.1
      let x5 := p144.2.2.1
      let x9 := p144.2.2.2.1
      let x10 := p144.2.2.2.2.1
      let x43 := IntKind.i64.wrap (x10 + (1 : Int))
      some (Sum.inl (x0, x4, x5, x9, x43, ())))
    | Sum.inr q145 => (
      some (Sum.inr (Sum.inr q145))))
  else (
    some (Sum.inr (Sum.inl (x0, x4, x5, ()))))
noncomputable def cents_Parse (a : (List UInt8)) : Option (Int × Int) :=
  let x0 := a
  let x9 := (x0.length : Int)
  Option.bind (iter cents_Parse_loop1 (x0, (0 : Int), false, x9, (0 : Int), ())) fun o =>
  match o with
  | Sum.inl p146 => (
    let x0 := p146.1
    let x4 := p146.2.1
    let x5 := p146.2.2.1
    Option.bind (show Option (((List UInt8) × (Int) × Unit)) from (
      if x5 then (
        let x46 := IntKind.i64.wrap (0 - x4)
        some (x0, x46, ()))
      else (
        some (x0, x4, ())))) fun o =>
    let x0 := o.1
    let x4 := o.2.1
    let x48 := ((x0 == ([] : List UInt8)))
    let x50 := (if x48 = false then some x4 else none)
    Option.bind (if x48 = false then ((x50.map (fun z172 => z172)).bind (fun z173 => cents_Text z173)).map some else some none) fun x51 =>
    let x52 := (if x48 = false then some x0 else none)
    Option.bind (if x48 = false then ((x51.bind (fun z174 => x52.map (fun z175 => (z174, z175)))).map (fun z176 => (!(z176.1 == z176.2)))).map some else some none) fun x53 =>
    Option.bind (if x48 then some true else x53.map (fun z177 => z177)) fun x54 =>
    if x54 then (
      some ((0 : Int), (3 : Int)))
    else (
      some (x4, (0 : Int))))
  | Sum.inr q147 => (
    some q147)
noncomputable def fact_amount (a : (List UInt8)) : Option (Bool) :=
  let x0 := a
  Option.bind (cents_Parse x0) fun x7 =>
  let x11 := (x7.2 == (0 : Int))
  let x13 := (if x11 = true then some x7.1 else none)
  Option.bind (if x11 = true then ((x13.bind (fun z7 => some (z7, (0 : Int)))).map (fun z9 => (decide (z9.1 ≥ z9.2)))).map some else some none) fun x14 =>
  Option.bind (if x11 then x14 else some false) fun x15 =>
  some x15
noncomputable def fact_order (a : (List UInt8)) : Option (Bool) :=
  let x0 := a
  Option.bind (strings_Split (x0, ([32] : List UInt8))) fun x9 =>
  let x11 := (x9.length : Int)
  let x12 := (x11 != (4 : Int))
  if x12 then (
    some false)
  else (
    Option.bind ((lAt x9 (0 : Int)).map (fun y => y)) fun x15 =>
    Option.bind (fact_tens (x15, (99 : Int))) fun x17 =>
    Option.bind ((lAt x9 (1 : Int)).map (fun y => y)) fun x22 =>
    Option.bind (rate_Parse x22) fun x24 =>
    let x29 := (if x17.2 = true then some x24.2 else none)
    Option.bind (if x17.2 = true then ((x29.bind (fun z43 => some (z43, (0 : Int)))).map (fun z45 => (z45.1 == z45.2))).map some else some none) fun x30 =>
    Option.bind (if x17.2 then x30 else some false) fun x31 =>
    let x33 := (if x31 = true then some x24.1 else none)
    Option.bind (if x31 = true then ((x33.bind (fun z46 => some (z46, (0 : Int)))).map (fun z48 => (decide (z48.1 ≥ z48.2)))).map some else some none) fun x34 =>
    Option.bind (if x31 then x34 else some false) fun x35 =>
    let x37 := (if x35 = true then some x24.1 else none)
    Option.bind (if x35 = true then ((x37.bind (fun z49 => some (z49, (1000000 : Int)))).map (fun z51 => (decide (z51.1 ≤ z51.2)))).map some else some none) fun x38 =>
    Option.bind (if x35 then x38 else some false) fun x39 =>
    let x41 := (if x39 = true then some x9 else none)
    Option.bind (if x39 = true then ((x41.bind (fun z52 => some (z52, (2 : Int)))).bind (fun z54 => (lAt z54.1 z54.2).map (fun y => y))).map some else some none) fun x42 =>
    Option.bind (if x39 = true then (x42.map (fun z55 => z55)).map some else some none) fun x43 =>
    Option.bind (if x39 = true then ((x43.map (fun z56 => z56)).bind (fun z57 => fact_amount z57)).map some else some none) fun x44 =>
    Option.bind (if x39 then x44 else some false) fun x45 =>
    let x47 := (if x45 = true then some x9 else none)
    Option.bind (if x45 = true then ((x47.bind (fun z58 => some (z58, (3 : Int)))).bind (fun z60 => (lAt z60.1 z60.2).map (fun y => y))).map some else some none) fun x48 =>
    Option.bind (if x45 = true then (x48.map (fun z61 => z61)).map some else some none) fun x49 =>
    Option.bind (if x45 = true then ((x49.map (fun z62 => z62)).bind (fun z63 => fact_amount z63)).map some else some none) fun x50 =>
    Option.bind (if x45 then x50 else some false) fun x51 =>
    some x51)
noncomputable def fact_rules_6 (a : (Int × Int × Int × Int × Int × (List UInt8) × Int × (List UInt8))) : Option (Bool) :=
  let x0 := a
  Option.bind (fact_order x0.2.2.2.2.2.2.2) fun x5 =>
  some x5
noncomputable def fact_rules (a : Unit) : Option ((List UInt8) × Bool × Bool × (((Unit) ⊕ (((Unit) ⊕ (((Unit) ⊕ (((Unit) ⊕ (Unit))))))))) × Int × Int × (((Unit) ⊕ (((Unit) ⊕ (((Unit) ⊕ (((Unit) ⊕ (((Unit) ⊕ (((Unit) ⊕ (((Unit) ⊕ (((Unit) ⊕ (Unit))))))))))))))))) × (List UInt8) × Bool × Bool × (((Unit) ⊕ (((Unit) ⊕ (((Unit) ⊕ (((Unit) ⊕ (Unit))))))))) × Int × Int × (((Unit) ⊕ (((Unit) ⊕ (((Unit) ⊕ (((Unit) ⊕ (((Unit) ⊕ (((Unit) ⊕ (((Unit) ⊕ (((Unit) ⊕ (Unit))))))))))))))))) × (List UInt8) × Bool × Bool × (((Unit) ⊕ (((Unit) ⊕ (((Unit) ⊕ (((Unit) ⊕ (Unit))))))))) × Int × Int × (((Unit) ⊕ (((Unit) ⊕ (((Unit) ⊕ (((Unit) ⊕ (((Unit) ⊕ (((Unit) ⊕ (((Unit) ⊕ (((Unit) ⊕ (Unit))))))))))))))))) × (List UInt8) × Bool × Bool × (((Unit) ⊕ (((Unit) ⊕ (((Unit) ⊕ (((Unit) ⊕ (Unit))))))))) × Int × Int × (((Unit) ⊕ (((Unit) ⊕ (((Unit) ⊕ (((Unit) ⊕ (((Unit) ⊕ (((Unit) ⊕ (((Unit) ⊕ (((Unit) ⊕ (Unit))))))))))))))))) × (List UInt8) × Bool × Bool × (((Unit) ⊕ (((Unit) ⊕ (((Unit) ⊕ (((Unit) ⊕ (Unit))))))))) × Int × Int × (((Unit) ⊕ (((Unit) ⊕ (((Unit) ⊕ (((Unit) ⊕ (((Unit) ⊕ (((Unit) ⊕ (((Unit) ⊕ (((Unit) ⊕ (Unit))))))))))))))))) × (List UInt8) × Bool × Bool × (((Unit) ⊕ (((Unit) ⊕ (((Unit) ⊕ (((Unit) ⊕ (Unit))))))))) × Int × Int × (((Unit) ⊕ (((Unit) ⊕ (((Unit) ⊕ (((Unit) ⊕ (((Unit) ⊕ (((Unit) ⊕ (((Unit) ⊕ (((Unit) ⊕ (Unit))))))))))))))))) × (List UInt8) × Bool × Bool × (((Unit) ⊕ (((Unit) ⊕ (((Unit) ⊕ (((Unit) ⊕ (Unit))))))))) × Int × Int × (((Unit) ⊕ (((Unit) ⊕ (((Unit) ⊕ (((Unit) ⊕ (((Unit) ⊕ (((Unit) ⊕ (((Unit) ⊕ (((Unit) ⊕ (Unit))))))))))))))))) × (List UInt8) × Bool × Bool × (((Unit) ⊕ (((Unit) ⊕ (((Unit) ⊕ (((Unit) ⊕ (Unit))))))))) × Int × Int × (((Unit) ⊕ (((Unit) ⊕ (((Unit) ⊕ (((Unit) ⊕ (((Unit) ⊕ (((Unit) ⊕ (((Unit) ⊕ (((Unit) ⊕ (Unit))))))))))))))))) × (List UInt8) × Bool × Bool × (((Unit) ⊕ (((Unit) ⊕ (((Unit) ⊕ (((Unit) ⊕ (Unit))))))))) × Int × Int × (((Unit) ⊕ (((Unit) ⊕ (((Unit) ⊕ (((Unit) ⊕ (((Unit) ⊕ (((Unit) ⊕ (((Unit) ⊕ (((Unit) ⊕ (Unit))))))))))))))))) × (List UInt8) × Bool × Bool × (((Unit) ⊕ (((Unit) ⊕ (((Unit) ⊕ (((Unit) ⊕ (Unit))))))))) × Int × Int × (((Unit) ⊕ (((Unit) ⊕ (((Unit) ⊕ (((Unit) ⊕ (((Unit) ⊕ (((Unit) ⊕ (((Unit) ⊕ (((Unit) ⊕ (Unit))))))))))))))))) × (List UInt8) × Bool × Bool × (((Unit) ⊕ (((Unit) ⊕ (((Unit) ⊕ (((Unit) ⊕ (Unit))))))))) × Int × Int × (((Unit) ⊕ (((Unit) ⊕ (((Unit) ⊕ (((Unit) ⊕ (((Unit) ⊕ (((Unit) ⊕ (((Unit) ⊕ (((Unit) ⊕ (Unit))))))))))))))))) × (List UInt8) × Bool × Bool × (((Unit) ⊕ (((Unit) ⊕ (((Unit) ⊕ (((Unit) ⊕ (Unit))))))))) × Int × Int × (((Unit) ⊕ (((Unit) ⊕ (((Unit) ⊕ (((Unit) ⊕ (((Unit) ⊕ (((Unit) ⊕ (((Unit) ⊕ (((Unit) ⊕ (Unit))))))))))))))))) × (List UInt8) × Bool × Bool × (((Unit) ⊕ (((Unit) ⊕ (((Unit) ⊕ (((Unit) ⊕ (Unit))))))))) × Int × Int × (((Unit) ⊕ (((Unit) ⊕ (((Unit) ⊕ (((Unit) ⊕ (((Unit) ⊕ (((Unit) ⊕ (((Unit) ⊕ (((Unit) ⊕ (Unit))))))))))))))))) × (List UInt8) × Bool × Bool × (((Unit) ⊕ (((Unit) ⊕ (((Unit) ⊕ (((Unit) ⊕ (Unit))))))))) × Int × Int × (((Unit) ⊕ (((Unit) ⊕ (((Unit) ⊕ (((Unit) ⊕ (((Unit) ⊕ (((Unit) ⊕ (((Unit) ⊕ (((Unit) ⊕ (Unit))))))))))))))))) × (List UInt8) × Bool × Bool × (((Unit) ⊕ (((Unit) ⊕ (((Unit) ⊕ (((Unit) ⊕ (Unit))))))))) × Int × Int × (((Unit) ⊕ (((Unit) ⊕ (((Unit) ⊕ (((Unit) ⊕ (((Unit) ⊕ (((Unit) ⊕ (((Unit) ⊕ (((Unit) ⊕ (Unit))))))))))))))))) × (List UInt8) × Bool × Bool × (((Unit) ⊕ (((Unit) ⊕ (((Unit) ⊕ (((Unit) ⊕ (Unit))))))))) × Int × Int × (((Unit) ⊕ (((Unit) ⊕ (((Unit) ⊕ (((Unit) ⊕ (((Unit) ⊕ (((Unit) ⊕ (((Unit) ⊕ (((Unit) ⊕ (Unit))))))))))))))))) × (List UInt8) × Bool × Bool × (((Unit) ⊕ (((Unit) ⊕ (((Unit) ⊕ (((Unit) ⊕ (Unit))))))))) × Int × Int × (((Unit) ⊕ (((Unit) ⊕ (((Unit) ⊕ (((Unit) ⊕ (((Unit) ⊕ (((Unit) ⊕ (((Unit) ⊕ (((Unit) ⊕ (Unit))))))))))))))))) × (List UInt8) × Bool × Bool × (((Unit) ⊕ (((Unit) ⊕ (((Unit) ⊕ (((Unit) ⊕ (Unit))))))))) × Int × Int × (((Unit) ⊕ (((Unit) ⊕ (((Unit) ⊕ (((Unit) ⊕ (((Unit) ⊕ (((Unit) ⊕ (((Unit) ⊕ (((Unit) ⊕ (Unit))))))))))))))))) × (List UInt8) × Bool × Bool × (((Unit) ⊕ (((Unit) ⊕ (((Unit) ⊕ (((Unit) ⊕ (Unit))))))))) × Int × Int × (((Unit) ⊕ (((Unit) ⊕ (((Unit) ⊕ (((Unit) ⊕ (((Unit) ⊕ (((Unit) ⊕ (((Unit) ⊕ (((Unit) ⊕ (Unit)))))))))))))))))) :=
  let x1 := ()
  let x2 := ()
  let x3 := ()
  let x4 := ()
  some (([] : List UInt8), false, false, (Sum.inr (Sum.inr (Sum.inr (Sum.inr ()))) : ((Unit) ⊕ (((Unit) ⊕ (((Unit) ⊕ (((Unit) ⊕ (Unit))))))))), (0 : Int), (0 : Int), (Sum.inr (Sum.inr (Sum.inr (Sum.inr (Sum.inr (Sum.inr (Sum.inr (Sum.inr ()))))))) : ((Unit) ⊕ (((Unit) ⊕ (((Unit) ⊕ (((Unit) ⊕ (((Unit) ⊕ (((Unit) ⊕ (((Unit) ⊕ (((Unit) ⊕ (Unit))))))))))))))))), ([101, 109, 112, 108, 111, 121] : List UInt8), false, true, (Sum.inl () : ((Unit) ⊕ (((Unit) ⊕ (((Unit) ⊕ (((Unit) ⊕ (Unit))))))))), (0 : Int), (1 : Int), (Sum.inl () : ((Unit) ⊕ (((Unit) ⊕ (((Unit) ⊕ (((Unit) ⊕ (((Unit) ⊕ (((Unit) ⊕ (((Unit) ⊕ (((Unit) ⊕ (Unit))))))))))))))))), ([115, 97, 108, 97, 114, 121] : List UInt8), false, true, (Sum.inl () : ((Unit) ⊕ (((Unit) ⊕ (((Unit) ⊕ (((Unit) ⊕ (Unit))))))))), (0 : Int), (1125899906842624 : Int), (Sum.inl () : ((Unit) ⊕ (((Unit) ⊕ (((Unit) ⊕ (((Unit) ⊕ (((Unit) ⊕ (((Unit) ⊕ (((Unit) ⊕ (((Unit) ⊕ (Unit))))))))))))))))), ([112, 97, 114, 116] : List UInt8), false, true, (Sum.inl () : ((Unit) ⊕ (((Unit) ⊕ (((Unit) ⊕ (((Unit) ⊕ (Unit))))))))), (0 : Int), (1000000 : Int), (Sum.inl () : ((Unit) ⊕ (((Unit) ⊕ (((Unit) ⊕ (((Unit) ⊕ (((Unit) ⊕ (((Unit) ⊕ (((Unit) ⊕ (((Unit) ⊕ (Unit))))))))))))))))), ([104, 111, 117, 114, 115] : List UInt8), false, true, (Sum.inl () : ((Unit) ⊕ (((Unit) ⊕ (((Unit) ⊕ (((Unit) ⊕ (Unit))))))))), (0 : Int), (0 : Int), (Sum.inr (Sum.inl ()) : ((Unit) ⊕ (((Unit) ⊕ (((Unit) ⊕ (((Unit) ⊕ (((Unit) ⊕ (((Unit) ⊕ (((Unit) ⊕ (((Unit) ⊕ (Unit))))))))))))))))), ([99, 111, 115, 116] : List UInt8), false, true, (Sum.inl () : ((Unit) ⊕ (((Unit) ⊕ (((Unit) ⊕ (((Unit) ⊕ (Unit))))))))), (0 : Int), (0 : Int), (Sum.inr (Sum.inr (Sum.inl ())) : ((Unit) ⊕ (((Unit) ⊕ (((Unit) ⊕ (((Unit) ⊕ (((Unit) ⊕ (((Unit) ⊕ (((Unit) ⊕ (((Unit) ⊕ (Unit))))))))))))))))), ([115, 104, 101, 101, 116] : List UInt8), false, false, (Sum.inr (Sum.inl x1) : ((Unit) ⊕ (((Unit) ⊕ (((Unit) ⊕ (((Unit) ⊕ (Unit))))))))), (0 : Int), (1440 : Int), (Sum.inr (Sum.inr (Sum.inr (Sum.inl ()))) : ((Unit) ⊕ (((Unit) ⊕ (((Unit) ⊕ (((Unit) ⊕ (((Unit) ⊕ (((Unit) ⊕ (((Unit) ⊕ (((Unit) ⊕ (Unit))))))))))))))))), ([97, 98, 115, 101, 110, 116] : List UInt8), false, true, (Sum.inr (Sum.inr (Sum.inl ())) : ((Unit) ⊕ (((Unit) ⊕ (((Unit) ⊕ (((Unit) ⊕ (Unit))))))))), (0 : Int), (1000000 : Int), (Sum.inl () : ((Unit) ⊕ (((Unit) ⊕ (((Unit) ⊕ (((Unit) ⊕ (((Unit) ⊕ (((Unit) ⊕ (((Unit) ⊕ (((Unit) ⊕ (Unit))))))))))))))))), ([98, 111, 110, 117, 115] : List UInt8), false, false, (Sum.inr (Sum.inr (Sum.inr (Sum.inl ()))) : ((Unit) ⊕ (((Unit) ⊕ (((Unit) ⊕ (((Unit) ⊕ (Unit))))))))), (-1125899906842624 : Int), (1125899906842624 : Int), (Sum.inl () : ((Unit) ⊕ (((Unit) ⊕ (((Unit) ⊕ (((Unit) ⊕ (((Unit) ⊕ (((Unit) ⊕ (((Unit) ⊕ (((Unit) ⊕ (Unit))))))))))))))))), ([101, 110, 114, 111, 108] : List UInt8), false, true, (Sum.inr (Sum.inr (Sum.inr (Sum.inl ()))) : ((Unit) ⊕ (((Unit) ⊕ (((Unit) ⊕ (((Unit) ⊕ (Unit))))))))), (0 : Int), (1125899906842624 : Int), (Sum.inl () : ((Unit) ⊕ (((Unit) ⊕ (((Unit) ⊕ (((Unit) ⊕ (((Unit) ⊕ (((Unit) ⊕ (((Unit) ⊕ (((Unit) ⊕ (Unit))))))))))))))))), ([100, 101, 100, 117, 99, 116] : List UInt8), false, true, (Sum.inr (Sum.inr (Sum.inr (Sum.inl ()))) : ((Unit) ⊕ (((Unit) ⊕ (((Unit) ⊕ (((Unit) ⊕ (Unit))))))))), (0 : Int), (1125899906842624 : Int), (Sum.inl () : ((Unit) ⊕ (((Unit) ⊕ (((Unit) ⊕ (((Unit) ⊕ (((Unit) ⊕ (((Unit) ⊕ (((Unit) ⊕ (((Unit) ⊕ (Unit))))))))))))))))), ([99, 97, 114, 100] : List UInt8), false, true, (Sum.inl () : ((Unit) ⊕ (((Unit) ⊕ (((Unit) ⊕ (((Unit) ⊕ (Unit))))))))), (0 : Int), (1125899906842624 : Int), (Sum.inr (Sum.inr (Sum.inr (Sum.inr (Sum.inl x2)))) : ((Unit) ⊕ (((Unit) ⊕ (((Unit) ⊕ (((Unit) ⊕ (((Unit) ⊕ (((Unit) ⊕ (((Unit) ⊕ (((Unit) ⊕ (Unit))))))))))))))))), ([97, 116, 116, 97, 99, 104] : List UInt8), false, true, (Sum.inr (Sum.inr (Sum.inr (Sum.inl ()))) : ((Unit) ⊕ (((Unit) ⊕ (((Unit) ⊕ (((Unit) ⊕ (Unit))))))))), (0 : Int), (1125899906842624 : Int), (Sum.inr (Sum.inr (Sum.inr (Sum.inr (Sum.inr (Sum.inl ()))))) : ((Unit) ⊕ (((Unit) ⊕ (((Unit) ⊕ (((Unit) ⊕ (((Unit) ⊕ (((Unit) ⊕ (((Unit) ⊕ (((Unit) ⊕ (Unit))))))))))))))))), ([98, 97, 110, 107] : List UInt8), false, true, (Sum.inl () : ((Unit) ⊕ (((Unit) ⊕ (((Unit) ⊕ (((Unit) ⊕ (Unit))))))))), (0 : Int), (0 : Int), (Sum.inr (Sum.inr (Sum.inr (Sum.inr (Sum.inl x2)))) : ((Unit) ⊕ (((Unit) ⊕ (((Unit) ⊕ (((Unit) ⊕ (((Unit) ⊕ (((Unit) ⊕ (((Unit) ⊕ (((Unit) ⊕ (Unit))))))))))))))))), ([114, 117, 108, 101] : List UInt8), true, true, (Sum.inr (Sum.inr (Sum.inr (Sum.inl ()))) : ((Unit) ⊕ (((Unit) ⊕ (((Unit) ⊕ (((Unit) ⊕ (Unit))))))))), (-1125899906842624 : Int), (1125899906842624 : Int), (Sum.inr (Sum.inr (Sum.inr (Sum.inr (Sum.inr (Sum.inr (Sum.inl x3)))))) : ((Unit) ⊕ (((Unit) ⊕ (((Unit) ⊕ (((Unit) ⊕ (((Unit) ⊕ (((Unit) ⊕ (((Unit) ⊕ (((Unit) ⊕ (Unit))))))))))))))))), ([101, 108, 101, 109, 101, 110, 116] : List UInt8), true, true, (Sum.inr (Sum.inr (Sum.inr (Sum.inl ()))) : ((Unit) ⊕ (((Unit) ⊕ (((Unit) ⊕ (((Unit) ⊕ (Unit))))))))), (0 : Int), (0 : Int), (Sum.inr (Sum.inr (Sum.inr (Sum.inr (Sum.inr (Sum.inr (Sum.inr (Sum.inl x4))))))) : ((Unit) ⊕ (((Unit) ⊕ (((Unit) ⊕ (((Unit) ⊕ (((Unit) ⊕ (((Unit) ⊕ (((Unit) ⊕ (((Unit) ⊕ (Unit))))))))))))))))), ([104, 111, 108, 105, 100, 97, 121] : List UInt8), true, false, (Sum.inl () : ((Unit) ⊕ (((Unit) ⊕ (((Unit) ⊕ (((Unit) ⊕ (Unit))))))))), (0 : Int), (0 : Int), (Sum.inl () : ((Unit) ⊕ (((Unit) ⊕ (((Unit) ⊕ (((Unit) ⊕ (((Unit) ⊕ (((Unit) ⊕ (((Unit) ⊕ (((Unit) ⊕ (Unit))))))))))))))))), ([103, 114, 97, 110, 116] : List UInt8), false, false, (Sum.inl () : ((Unit) ⊕ (((Unit) ⊕ (((Unit) ⊕ (((Unit) ⊕ (Unit))))))))), (0 : Int), (100000 : Int), (Sum.inl () : ((Unit) ⊕ (((Unit) ⊕ (((Unit) ⊕ (((Unit) ⊕ (((Unit) ⊕ (((Unit) ⊕ (((Unit) ⊕ (((Unit) ⊕ (Unit))))))))))))))))), ([99, 97, 110, 99, 101, 108] : List UInt8), true, false, (Sum.inl () : ((Unit) ⊕ (((Unit) ⊕ (((Unit) ⊕ (((Unit) ⊕ (Unit))))))))), (1 : Int), (4096 : Int), (Sum.inl () : ((Unit) ⊕ (((Unit) ⊕ (((Unit) ⊕ (((Unit) ⊕ (((Unit) ⊕ (((Unit) ⊕ (((Unit) ⊕ (((Unit) ⊕ (Unit))))))))))))))))))
noncomputable def fact_Fact_days (a : (Int × Int × Int × Int × Int × (List UInt8) × Int × (List UInt8)) × ((List UInt8) × Bool × Bool × (((Unit) ⊕ (((Unit) ⊕ (((Unit) ⊕ (((Unit) ⊕ (Unit))))))))) × Int × Int × (((Unit) ⊕ (((Unit) ⊕ (((Unit) ⊕ (((Unit) ⊕ (((Unit) ⊕ (((Unit) ⊕ (((Unit) ⊕ (((Unit) ⊕ (Unit))))))))))))))))))) : Option (Int) :=
  let x0 := a.1
  let x1 := a.2
  Option.bind (show Option (((Bool) × (Int) × (Int) × (Int) × (Int) × (Int) × (List UInt8) × (Int) × (List UInt8) × (List UInt8) × (Bool) × (Bool) × (((Unit) ⊕ (((Unit) ⊕ (((Unit) ⊕ (((Unit) ⊕ (Unit))))))))) × (Int) × (Int) × (((Unit) ⊕ (((Unit) ⊕ (((Unit) ⊕ (((Unit) ⊕ (((Unit) ⊕ (((Unit) ⊕ (((Unit) ⊕ (((Unit) ⊕ (Unit))))))))))))))))) × (Unit) × (Unit) × (Unit) × (Unit) × Unit)) from (
    let x8 := (x0.2.2.1 == (18 : Int))
    let x10 := (if x8 = true then some () else none)
    Option.bind (if x8 = true then (x10.map (fun z63 => x0.2.2.2.1)).map some else some none) fun x11 =>
    Option.bind (if x8 = true then ((x11.bind (fun z64 => some (z64, (0 : Int)))).map (fun z66 => (z66.1 != z66.2))).map some else some none) fun x12 =>
    Option.bind (if x8 then x12 else some false) fun x13 =>
    if x13 then (
      some (x13, x0.1, x0.2.1, x0.2.2.1, x0.2.2.2.1, x0.2.2.2.2.1, x0.2.2.2.2.2.1, x0.2.2.2.2.2.2.1, x0.2.2.2.2.2.2.2, x1.1, x1.2.1, x1.2.2.1, x1.2.2.2.1, x1.2.2.2.2.1, x1.2.2.2.2.2.1, x1.2.2.2.2.2.2, (), (), (), (), ()))
    else (
      let x16 := (decide (x0.2.2.2.1 < (-25567 : Int)))
      let x18 := (if x16 = false then some () else none)
      Option.bind (if x16 = false then (x18.map (fun z72 => x0.2.2.2.1)).map some else some none) fun x19 =>
      Option.bind (if x16 = false then ((x19.bind (fun z73 => some (z73, (84005 : Int)))).map (fun z75 => (decide (z75.1 > z75.2)))).map some else some none) fun x20 =>
      Option.bind (if x16 then some true else x20.map (fun z76 => z76)) fun x21 =>
      some (x21, x0.1, x0.2.1, x0.2.2.1, x0.2.2.2.1, x0.2.2.2.2.1, x0.2.2.2.2.2.1, x0.2.2.2.2.2.2.1, x0.2.2.2.2.2.2.2, x1.1, x1.2.1, x1.2.2.1, x1.2.2.2.1, x1.2.2.2.2.1, x1.2.2.2.2.2.1, x1.2.2.2.2.2.2, (), (), (), (), ())))) fun o =>
  let x5 := o.1
  let c2_0 := o.2.1
  let c2_1 := o.2.2.1
  let c2_2 := o.2.2.2.1
  let c2_3 := o.2.2.2.2.1
  let c2_4 := o.2.2.2.2.2.1
  let c2_5 := o.2.2.2.2.2.2.1
  let c2_6 := o.2.2.2.2.2.2.2.1
  let c2_7 := o.2.2.2.2.2.2.2.2.1
  let c3_0 := o.2.2.2.2.2.2.2.2.2.1
  let c3_1 := o.2.2.2.2.2.2.2.2.2.2.1
  let c3_2 := o.2.2.2.2.2.2.2.2.2.2.2.1
  let c3_3 := o.2.2.2.2.2.2.2.2.2.2.2.2.1
  let c3_4 := o.2.2.2.2.2.2.2.2.2.2.2.2.2.1
  let c3_5 := o.2.2.2.2.2.2.2.2.2.2.2.2.2.2.1
  let c3_6 := o.2.2.2.2.2.2.2.2.2.2.2.2.2.2.2.1
  if x5 then (
    some (15 : Int))
  else (
    let x25 := (c2_4 != (0 : Int))
    let x27 := (if x25 = true then some () else none)
    Option.bind (if x25 = true then (x27.map (fun z95 => c3_2)).map some else some none) fun x28 =>
    Option.bind (if x25 = true then (x28.map (fun z96 => (!z96))).map some else some none) fun x29 =>
    Option.bind (if x25 = true then x29.map some else some none) fun x30 =>
    let x31 := (if x30 = some false then some () else none)
    Option.bind (if x30 = some false then (x31.map (fun z97 => c2_4)).map some else some none) fun x32 =>
    let x33 := (if x30 = some false then some () else none)
    Option.bind (if x30 = some false then (x33.map (fun z98 => c2_3)).map some else some none) fun x34 =>
    Option.bind (if x30 = some false then ((x32.bind (fun z99 => x34.map (fun z100 => (z99, z100)))).map (fun z101 => (decide (z101.1 ≤ z101.2)))).map some else some none) fun x35 =>
    Option.bind (if x25 = true then (x30.bind (fun z103 => if z103 then some true else x35.map (fun z102 => z102))).map some else some none) fun x36 =>
    Option.bind (if x25 then x36 else some false) fun x37 =>
    if x37 then (
      some (24 : Int))
    else (
      let x41 := (decide (c2_4 > (84006 : Int)))
      if x41 then (
        some (15 : Int))
      else (
        some (0 : Int))))
noncomputable def fact_Fact_Check (a : (Int × Int × Int × Int × Int × (List UInt8) × Int × (List UInt8))) : Option (Int) :=
  let x0 := a
  Option.bind (fact_known x0.2.2.1) fun x7 =>
  let x8 := (!x7)
  if x8 then (
    some (11 : Int))
  else (
    Option.bind (fact_rules ()) fun x9 =>
    Option.bind (lAt ([(x9.1, x9.2.1, x9.2.2.1, x9.2.2.2.1, x9.2.2.2.2.1, x9.2.2.2.2.2.1, x9.2.2.2.2.2.2.1), (x9.2.2.2.2.2.2.2.1, x9.2.2.2.2.2.2.2.2.1, x9.2.2.2.2.2.2.2.2.2.1, x9.2.2.2.2.2.2.2.2.2.2.1, x9.2.2.2.2.2.2.2.2.2.2.2.1, x9.2.2.2.2.2.2.2.2.2.2.2.2.1, x9.2.2.2.2.2.2.2.2.2.2.2.2.2.1), (x9.2.2.2.2.2.2.2.2.2.2.2.2.2.2.1, x9.2.2.2.2.2.2.2.2.2.2.2.2.2.2.2.1, x9.2.2.2.2.2.2.2.2.2.2.2.2.2.2.2.2.1, x9.2.2.2.2.2.2.2.2.2.2.2.2.2.2.2.2.2.1, x9.2.2.2.2.2.2.2.2.2.2.2.2.2.2.2.2.2.2.1, x9.2.2.2.2.2.2.2.2.2.2.2.2.2.2.2.2.2.2.2.1, x9.2.2.2.2.2.2.2.2.2.2.2.2.2.2.2.2.2.2.2.2.1), (x9.2.2.2.2.2.2.2.2.2.2.2.2.2.2.2.2.2.2.2.2.2.1, x9.2.2.2.2.2.2.2.2.2.2.2.2.2.2.2.2.2.2.2.2.2.2.1, x9.2.2.2.2.2.2.2.2.2.2.2.2.2.2.2.2.2.2.2.2.2.2.2.1, x9.2.2.2.2.2.2.2.2.2.2.2.2.2.2.2.2.2.2.2.2.2.2.2.2.1, x9.2.2.2.2.2.2.2.2.2.2.2.2.2.2.2.2.2.2.2.2.2.2.2.2.2.1, x9.2.2.2.2.2.2.2.2.2.2.2.2.2.2.2.2.2.2.2.2.2.2.2.2.2.2.1, x9.2.2.2.2.2.2.2.2.2.2.2.2.2.2.2.2.2.2.2.2.2.2.2.2.2.2.2.1), (x9.2.2.2.2.2.2.2.2.2.2.2.2.2.2.2.2.2.2.2.2.2.2.2.2.2.2.2.2.1, x9.2.2.2.2.2.2.2.2.2.2.2.2.2.2.2.2.2.2.2.2.2.2.2.2.2.2.2.2.2.1, x9.2.2.2.2.2.2.2.2.2.2.2.2.2.2.2.2.2.2.2.2.2.2.2.2.2.2.2.2.2.2.1, x9.2.2.2.2.2.2.2.2.2.2.2.2.2.2.2.2.2.2.2.2.2.2.2.2.2.2.2.2.2.2.2.1, x9.2.2.2.2.2.2.2.2.2.2.2.2.2.2.2.2.2.2.2.2.2.2.2.2.2.2.2.2.2.2.2.2.1, x9.2.2.2.2.2.2.2.2.2.2.2.2.2.2.2.2.2.2.2.2.2.2.2.2.2.2.2.2.2.2.2.2.2.1, x9.2.2.2.2.2.2.2.2.2.2.2.2.2.2.2.2.2.2.2.2.2.2.2.2.2.2.2.2.2.2.2.2.2.2.1), (x9.2.2.2.2.2.2.2.2.2.2.2.2.2.2.2.2.2.2.2.2.2.2.2.2.2.2.2.2.2.2.2.2.2.2.2.1, x9.2.2.2.2.2.2.2.2.2.2.2.2.2.2.2.2.2.2.2.2.2.2.2.2.2.2.2.2.2.2.2.2.2.2.2.2.1, x9.2.2.2.2.2.2.2.2.2.2.2.2.2.2.2.2.2.2.2.2.2.2.2.2.2.2.2.2.2.2.2.2.2.2.2.2.2.1, x9.2.2.2.2.2.2.2.2.2.2.2.2.2.2.2.2.2.2.2.2.2.2.2.2.2.2.2.2.2.2.2.2.2.2.2.2.2.2.1, x9.2.2.2.2.2.2.2.2.2.2.2.2.2.2.2.2.2.2.2.2.2.2.2.2.2.2.2.2.2.2.2.2.2.2.2.2.2.2.2.1, x9.2.2.2.2.2.2.2.2.2.2.2.2.2.2.2.2.2.2.2.2.2.2.2.2.2.2.2.2.2.2.2.2.2.2.2.2.2.2.2.2.1, x9.2.2.2.2.2.2.2.2.2.2.2.2.2.2.2.2.2.2.2.2.2.2.2.2.2.2.2.2.2.2.2.2.2.2.2.2.2.2.2.2.2.1), (x9.2.2.2.2.2.2.2.2.2.2.2.2.2.2.2.2.2.2.2.2.2.2.2.2.2.2.2.2.2.2.2.2.2.2.2.2.2.2.2.2.2.2.1, x9.2.2.2.2.2.2.2.2.2.2.2.2.2.2.2.2.2.2.2.2.2.2.2.2.2.2.2.2.2.2.2.2.2.2.2.2.2.2.2.2.2.2.2.1, x9.2.2.2.2.2.2.2.2.2.2.2.2.2.2.2.2.2.2.2.2.2.2.2.2.2.2.2.2.2.2.2.2.2.2.2.2.2.2.2.2.2.2.2.2.1, x9.2.2.2.2.2.2.2.2.2.2.2.2.2.2.2.2.2.2.2.2.2.2.2.2.2.2.2.2.2.2.2.2.2.2.2.2.2.2.2.2.2.2.2.2.2.1, x9.2.2.2.2.2.2.2.2.2.2.2.2.2.2.2.2.2.2.2.2.2.2.2.2.2.2.2.2.2.2.2.2.2.2.2.2.2.2.2.2.2.2.2.2.2.2.1, x9.2.2.2.2.2.2.2.2.2.2.2.2.2.2.2.2.2.2.2.2.2.2.2.2.2.2.2.2.2.2.2.2.2.2.2.2.2.2.2.2.2.2.2.2.2.2.2.1, x9.2.2.2.2.2.2.2.2.2.2.2.2.2.2.2.2.2.2.2.2.2.2.2.2.2.2.2.2.2.2.2.2.2.2.2.2.2.2.2.2.2.2.2.2.2.2.2.2.1), (x9.2.2.2.2.2.2.2.2.2.2.2.2.2.2.2.2.2.2.2.2.2.2.2.2.2.2.2.2.2.2.2.2.2.2.2.2.2.2.2.2.2.2.2.2.2.2.2.2.2.1, x9.2.2.2.2.2.2.2.2.2.2.2.2.2.2.2.2.2.2.2.2.2.2.2.2.2.2.2.2.2.2.2.2.2.2.2.2.2.2.2.2.2.2.2.2.2.2.2.2.2.2.1, x9.2.2.2.2.2.2.2.2.2.2.2.2.2.2.2.2.2.2.2.2.2.2.2.2.2.2.2.2.2.2.2.2.2.2.2.2.2.2.2.2.2.2.2.2.2.2.2.2.2.2.2.1, x9.2.2.2.2.2.2.2.2.2.2.2.2.2.2.2.2.2.2.2.2.2.2.2.2.2.2.2.2.2.2.2.2.2.2.2.2.2.2.2.2.2.2.2.2.2.2.2.2.2.2.2.2.1, x9.2.2.2.2.2.2.2.2.2.2.2.2.2.2.2.2.2.2.2.2.2.2.2.2.2.2.2.2.2.2.2.2.2.2.2.2.2.2.2.2.2.2.2.2.2.2.2.2.2.2.2.2.2.1, x9.2.2.2.2.2.2.2.2.2.2.2.2.2.2.2.2.2.2.2.2.2.2.2.2.2.2.2.2.2.2.2.2.2.2.2.2.2.2.2.2.2.2.2.2.2.2.2.2.2.2.2.2.2.2.1, x9.2.2.2.2.2.2.2.2.2.2.2.2.2.2.2.2.2.2.2.2.2.2.2.2.2.2.2.2.2.2.2.2.2.2.2.2.2.2.2.2.2.2.2.2.2.2.2.2.2.2.2.2.2.2.2.1), (x9.2.2.2.2.2.2.2.2.2.2.2.2.2.2.2.2.2.2.2.2.2.2.2.2.2.2.2.2.2.2.2.2.2.2.2.2.2.2.2.2.2.2.2.2.2.2.2.2.2.2.2.2.2.2.2.2.1, x9.2.2.2.2.2.2.2.2.2.2.2.2.2.2.2.2.2.2.2.2.2.2.2.2.2.2.2.2.2.2.2.2.2.2.2.2.2.2.2.2.2.2.2.2.2.2.2.2.2.2.2.2.2.2.2.2.2.1, x9.2.2.2.2.2.2.2.2.2.2.2.2.2.2.2.2.2.2.2.2.2.2.2.2.2.2.2.2.2.2.2.2.2.2.2.2.2.2.2.2.2.2.2.2.2.2.2.2.2.2.2.2.2.2.2.2.2.2.1, x9.2.2.2.2.2.2.2.2.2.2.2.2.2.2.2.2.2.2.2.2.2.2.2.2.2.2.2.2.2.2.2.2.2.2.2.2.2.2.2.2.2.2.2.2.2.2.2.2.2.2.2.2.2.2.2.2.2.2.2.1, x9.2.2.2.2.2.2.2.2.2.2.2.2.2.2.2.2.2.2.2.2.2.2.2.2.2.2.2.2.2.2.2.2.2.2.2.2.2.2.2.2.2.2.2.2.2.2.2.2.2.2.2.2.2.2.2.2.2.2.2.2.1, x9.2.2.2.2.2.2.2.2.2.2.2.2.2.2.2.2.2.2.2.2.2.2.2.2.2.2.2.2.2.2.2.2.2.2.2.2.2.2.2.2.2.2.2.2.2.2.2.2.2.2.2.2.2.2.2.2.2.2.2.2.2.1, x9.2.2.2.2.2.2.2.2.2.2.2.2.2.2.2.2.2.2.2.2.2.2.2.2.2.2.2.2.2.2.2.2.2.2.2.2.2.2.2.2.2.2.2.2.2.2.2.2.2.2.2.2.2.2.2.2.2.2.2.2.2.2.1), (x9.2.2.2.2.2.2.2.2.2.2.2.2.2.2.2.2.2.2.2.2.2.2.2.2.2.2.2.2.2.2.2.2.2.2.2.2.2.2.2.2.2.2.2.2.2.2.2.2.2.2.2.2.2.2.2.2.2.2.2.2.2.2.2.1, x9.2.2.2.2.2.2.2.2.2.2.2.2.2.2.2.2.2.2.2.2.2.2.2.2.2.2.2.2.2.2.2.2.2.2.2.2.2.2.2.2.2.2.2.2.2.2.2.2.2.2.2.2.2.2.2.2.2.2.2.2.2.2.2.2.1, x9.2.2.2.2.2.2.2.2.2.2.2.2.2.2.2.2.2.2.2.2.2.2.2.2.2.2.2.2.2.2.2.2.2.2.2.2.2.2.2.2.2.2.2.2.2.2.2.2.2.2.2.2.2.2.2.2.2.2.2.2.2.2.2.2.2.1, x9.2.2.2.2.2.2.2.2.2.2.2.2.2.2.2.2.2.2.2.2.2.2.2.2.2.2.2.2.2.2.2.2.2.2.2.2.2.2.2.2.2.2.2.2.2.2.2.2.2.2.2.2.2.2.2.2.2.2.2.2.2.2.2.2.2.2.1, x9.2.2.2.2.2.2.2.2.2.2.2.2.2.2.2.2.2.2.2.2.2.2.2.2.2.2.2.2.2.2.2.2.2.2.2.2.2.2.2.2.2.2.2.2.2.2.2.2.2.2.2.2.2.2.2.2.2.2.2.2.2.2.2.2.2.2.2.1, x9.2.2.2.2.2.2.2.2.2.2.2.2.2.2.2.2.2.2.2.2.2.2.2.2.2.2.2.2.2.2.2.2.2.2.2.2.2.2.2.2.2.2.2.2.2.2.2.2.2.2.2.2.2.2.2.2.2.2.2.2.2.2.2.2.2.2.2.2.1, x9.2.2.2.2.2.2.2.2.2.2.2.2.2.2.2.2.2.2.2.2.2.2.2.2.2.2.2.2.2.2.2.2.2.2.2.2.2.2.2.2.2.2.2.2.2.2.2.2.2.2.2.2.2.2.2.2.2.2.2.2.2.2.2.2.2.2.2.2.2.1), (x9.2.2.2.2.2.2.2.2.2.2.2.2.2.2.2.2.2.2.2.2.2.2.2.2.2.2.2.2.2.2.2.2.2.2.2.2.2.2.2.2.2.2.2.2.2.2.2.2.2.2.2.2.2.2.2.2.2.2.2.2.2.2.2.2.2.2.2.2.2.2.1, x9.2.2.2.2.2.2.2.2.2.2.2.2.2.2.2.2.2.2.2.2.2.2.2.2.2.2.2.2.2.2.2.2.2.2.2.2.2.2.2.2.2.2.2.2.2.2.2.2.2.2.2.2.2.2.2.2.2.2.2.2.2.2.2.2.2.2.2.2.2.2.2.1, x9.2.2.2.2.2.2.2.2.2.2.2.2.2.2.2.2.2.2.2.2.2.2.2.2.2.2.2.2.2.2.2.2.2.2.2.2.2.2.2.2.2.2.2.2.2.2.2.2.2.2.2.2.2.2.2.2.2.2.2.2.2.2.2.2.2.2.2.2.2.2.2.2.1, x9.2.2.2.2.2.2.2.2.2.2.2.2.2.2.2.2.2.2.2.2.2.2.2.2.2.2.2.2.2.2.2.2.2.2.2.2.2.2.2.2.2.2.2.2.2.2.2.2.2.2.2.2.2.2.2.2.2.2.2.2.2.2.2.2.2.2.2.2.2.2.2.2.2.1, x9.2.2.2.2.2.2.2.2.2.2.2.2.2.2.2.2.2.2.2.2.2.2.2.2.2.2.2.2.2.2.2.2.2.2.2.2.2.2.2.2.2.2.2.2.2.2.2.2.2.2.2.2.2.2.2.2.2.2.2.2.2.2.2.2.2.2.2.2.2.2.2.2.2.2.1, x9.2.2.2.2.2.2.2.2.2.2.2.2.2.2.2.2.2.2.2.2.2.2.2.2.2.2.2.2.2.2.2.2.2.2.2.2.2.2.2.2.2.2.2.2.2.2.2.2.2.2.2.2.2.2.2.2.2.2.2.2.2.2.2.2.2.2.2.2.2.2.2.2.2.2.2.1, x9.2.2.2.2.2.2.2.2.2.2.2.2.2.2.2.2.2.2.2.2.2.2.2.2.2.2.2.2.2.2.2.2.2.2.2.2.2.2.2.2.2.2.2.2.2.2.2.2.2.2.2.2.2.2.2.2.2.2.2.2.2.2.2.2.2.2.2.2.2.2.2.2.2.2.2.2.1), (x9.2.2.2.2.2.2.2.2.2.2.2.2.2.2.2.2.2.2.2.2.2.2.2.2.2.2.2.2.2.2.2.2.2.2.2.2.2.2.2.2.2.2.2.2.2.2.2.2.2.2.2.2.2.2.2.2.2.2.2.2.2.2.2.2.2.2.2.2.2.2.2.2.2.2.2.2.2.1, x9.2.2.2.2.2.2.2.2.2.2.2.2.2.2.2.2.2.2.2.2.2.2.2.2.2.2.2.2.2.2.2.2.2.2.2.2.2.2.2.2.2.2.2.2.2.2.2.2.2.2.2.2.2.2.2.2.2.2.2.2.2.2.2.2.2.2.2.2.2.2.2.2.2.2.2.2.2.2.1, x9.2.2.2.2.2.2.2.2.2.2.2.2.2.2.2.2.2.2.2.2.2.2.2.2.2.2.2.2.2.2.2.2.2.2.2.2.2.2.2.2.2.2.2.2.2.2.2.2.2.2.2.2.2.2.2.2.2.2.2.2.2.2.2.2.2.2.2.2.2.2.2.2.2.2.2.2.2.2.2.1, x9.2.2.2.2.2.2.2.2.2.2.2.2.2.2.2.2.2.2.2.2.2.2.2.2.2.2.2.2.2.2.2.2.2.2.2.2.2.2.2.2.2.2.2.2.2.2.2.2.2.2.2.2.2.2.2.2.2.2.2.2.2.2.2.2.2.2.2.2.2.2.2.2.2.2.2.2.2.2.2.2.1, x9.2.2.2.2.2.2.2.2.2.2.2.2.2.2.2.2.2.2.2.2.2.2.2.2.2.2.2.2.2.2.2.2.2.2.2.2.2.2.2.2.2.2.2.2.2.2.2.2.2.2.2.2.2.2.2.2.2.2.2.2.2.2.2.2.2.2.2.2.2.2.2.2.2.2.2.2.2.2.2.2.2.1, x9.2.2.2.2.2.2.2.2.2.2.2.2.2.2.2.2.2.2.2.2.2.2.2.2.2.2.2.2.2.2.2.2.2.2.2.2.2.2.2.2.2.2.2.2.2.2.2.2.2.2.2.2.2.2.2.2.2.2.2.2.2.2.2.2.2.2.2.2.2.2.2.2.2.2.2.2.2.2.2.2.2.2.1, x9.2.2.2.2.2.2.2.2.2.2.2.2.2.2.2.2.2.2.2.2.2.2.2.2.2.2.2.2.2.2.2.2.2.2.2.2.2.2.2.2.2.2.2.2.2.2.2.2.2.2.2.2.2.2.2.2.2.2.2.2.2.2.2.2.2.2.2.2.2.2.2.2.2.2.2.2.2.2.2.2.2.2.2.1), (x9.2.2.2.2.2.2.2.2.2.2.2.2.2.2.2.2.2.2.2.2.2.2.2.2.2.2.2.2.2.2.2.2.2.2.2.2.2.2.2.2.2.2.2.2.2.2.2.2.2.2.2.2.2.2.2.2.2.2.2.2.2.2.2.2.2.2.2.2.2.2.2.2.2.2.2.2.2.2.2.2.2.2.2.2.1, x9.2.2.2.2.2.2.2.2.2.2.2.2.2.2.2.2.2.2.2.2.2.2.2.2.2.2.2.2.2.2.2.2.2.2.2.2.2.2.2.2.2.2.2.2.2.2.2.2.2.2.2.2.2.2.2.2.2.2.2.2.2.2.2.2.2.2.2.2.2.2.2.2.2.2.2.2.2.2.2.2.2.2.2.2.2.1, x9.2.2.2.2.2.2.2.2.2.2.2.2.2.2.2.2.2.2.2.2.2.2.2.2.2.2.2.2.2.2.2.2.2.2.2.2.2.2.2.2.2.2.2.2.2.2.2.2.2.2.2.2.2.2.2.2.2.2.2.2.2.2.2.2.2.2.2.2.2.2.2.2.2.2.2.2.2.2.2.2.2.2.2.2.2.2.1, x9.2.2.2.2.2.2.2.2.2.2.2.2.2.2.2.2.2.2.2.2.2.2.2.2.2.2.2.2.2.2.2.2.2.2.2.2.2.2.2.2.2.2.2.2.2.2.2.2.2.2.2.2.2.2.2.2.2.2.2.2.2.2.2.2.2.2.2.2.2.2.2.2.2.2.2.2.2.2.2.2.2.2.2.2.2.2.2.1, x9.2.2.2.2.2.2.2.2.2.2.2.2.2.2.2.2.2.2.2.2.2.2.2.2.2.2.2.2.2.2.2.2.2.2.2.2.2.2.2.2.2.2.2.2.2.2.2.2.2.2.2.2.2.2.2.2.2.2.2.2.2.2.2.2.2.2.2.2.2.2.2.2.2.2.2.2.2.2.2.2.2.2.2.2.2.2.2.2.1, x9.2.2.2.2.2.2.2.2.2.2.2.2.2.2.2.2.2.2.2.2.2.2.2.2.2.2.2.2.2.2.2.2.2.2.2.2.2.2.2.2.2.2.2.2.2.2.2.2.2.2.2.2.2.2.2.2.2.2.2.2.2.2.2.2.2.2.2.2.2.2.2.2.2.2.2.2.2.2.2.2.2.2.2.2.2.2.2.2.2.1, x9.2.2.2.2.2.2.2.2.2.2.2.2.2.2.2.2.2.2.2.2.2.2.2.2.2.2.2.2.2.2.2.2.2.2.2.2.2.2.2.2.2.2.2.2.2.2.2.2.2.2.2.2.2.2.2.2.2.2.2.2.2.2.2.2.2.2.2.2.2.2.2.2.2.2.2.2.2.2.2.2.2.2.2.2.2.2.2.2.2.2.1), (x9.2.2.2.2.2.2.2.2.2.2.2.2.2.2.2.2.2.2.2.2.2.2.2.2.2.2.2.2.2.2.2.2.2.2.2.2.2.2.2.2.2.2.2.2.2.2.2.2.2.2.2.2.2.2.2.2.2.2.2.2.2.2.2.2.2.2.2.2.2.2.2.2.2.2.2.2.2.2.2.2.2.2.2.2.2.2.2.2.2.2.2.1, x9.2.2.2.2.2.2.2.2.2.2.2.2.2.2.2.2.2.2.2.2.2.2.2.2.2.2.2.2.2.2.2.2.2.2.2.2.2.2.2.2.2.2.2.2.2.2.2.2.2.2.2.2.2.2.2.2.2.2.2.2.2.2.2.2.2.2.2.2.2.2.2.2.2.2.2.2.2.2.2.2.2.2.2.2.2.2.2.2.2.2.2.2.1, x9.2.2.2.2.2.2.2.2.2.2.2.2.2.2.2.2.2.2.2.2.2.2.2.2.2.2.2.2.2.2.2.2.2.2.2.2.2.2.2.2.2.2.2.2.2.2.2.2.2.2.2.2.2.2.2.2.2.2.2.2.2.2.2.2.2.2.2.2.2.2.2.2.2.2.2.2.2.2.2.2.2.2.2.2.2.2.2.2.2.2.2.2.2.1, x9.2.2.2.2.2.2.2.2.2.2.2.2.2.2.2.2.2.2.2.2.2.2.2.2.2.2.2.2.2.2.2.2.2.2.2.2.2.2.2.2.2.2.2.2.2.2.2.2.2.2.2.2.2.2.2.2.2.2.2.2.2.2.2.2.2.2.2.2.2.2.2.2.2.2.2.2.2.2.2.2.2.2.2.2.2.2.2.2.2.2.2.2.2.2.1, x9.2.2.2.2.2.2.2.2.2.2.2.2.2.2.2.2.2.2.2.2.2.2.2.2.2.2.2.2.2.2.2.2.2.2.2.2.2.2.2.2.2.2.2.2.2.2.2.2.2.2.2.2.2.2.2.2.2.2.2.2.2.2.2.2.2.2.2.2.2.2.2.2.2.2.2.2.2.2.2.2.2.2.2.2.2.2.2.2.2.2.2.2.2.2.2.1, x9.2.2.2.2.2.2.2.2.2.2.2.2.2.2.2.2.2.2.2.2.2.2.2.2.2.2.2.2.2.2.2.2.2.2.2.2.2.2.2.2.2.2.2.2.2.2.2.2.2.2.2.2.2.2.2.2.2.2.2.2.2.2.2.2.2.2.2.2.2.2.2.2.2.2.2.2.2.2.2.2.2.2.2.2.2.2.2.2.2.2.2.2.2.2.2.2.1, x9.2.2.2.2.2.2.2.2.2.2.2.2.2.2.2.2.2.2.2.2.2.2.2.2.2.2.2.2.2.2.2.2.2.2.2.2.2.2.2.2.2.2.2.2.2.2.2.2.2.2.2.2.2.2.2.2.2.2.2.2.2.2.2.2.2.2.2.2.2.2.2.2.2.2.2.2.2.2.2.2.2.2.2.2.2.2.2.2.2.2.2.2.2.2.2.2.2.1), (x9.2.2.2.2.2.2.2.2.2.2.2.2.2.2.2.2.2.2.2.2.2.2.2.2.2.2.2.2.2.2.2.2.2.2.2.2.2.2.2.2.2.2.2.2.2.2.2.2.2.2.2.2.2.2.2.2.2.2.2.2.2.2.2.2.2.2.2.2.2.2.2.2.2.2.2.2.2.2.2.2.2.2.2.2.2.2.2.2.2.2.2.2.2.2.2.2.2.2.1, x9.2.2.2.2.2.2.2.2.2.2.2.2.2.2.2.2.2.2.2.2.2.2.2.2.2.2.2.2.2.2.2.2.2.2.2.2.2.2.2.2.2.2.2.2.2.2.2.2.2.2.2.2.2.2.2.2.2.2.2.2.2.2.2.2.2.2.2.2.2.2.2.2.2.2.2.2.2.2.2.2.2.2.2.2.2.2.2.2.2.2.2.2.2.2.2.2.2.2.2.1, x9.2.2.2.2.2.2.2.2.2.2.2.2.2.2.2.2.2.2.2.2.2.2.2.2.2.2.2.2.2.2.2.2.2.2.2.2.2.2.2.2.2.2.2.2.2.2.2.2.2.2.2.2.2.2.2.2.2.2.2.2.2.2.2.2.2.2.2.2.2.2.2.2.2.2.2.2.2.2.2.2.2.2.2.2.2.2.2.2.2.2.2.2.2.2.2.2.2.2.2.2.1, x9.2.2.2.2.2.2.2.2.2.2.2.2.2.2.2.2.2.2.2.2.2.2.2.2.2.2.2.2.2.2.2.2.2.2.2.2.2.2.2.2.2.2.2.2.2.2.2.2.2.2.2.2.2.2.2.2.2.2.2.2.2.2.2.2.2.2.2.2.2.2.2.2.2.2.2.2.2.2.2.2.2.2.2.2.2.2.2.2.2.2.2.2.2.2.2.2.2.2.2.2.2.1, x9.2.2.2.2.2.2.2.2.2.2.2.2.2.2.2.2.2.2.2.2.2.2.2.2.2.2.2.2.2.2.2.2.2.2.2.2.2.2.2.2.2.2.2.2.2.2.2.2.2.2.2.2.2.2.2.2.2.2.2.2.2.2.2.2.2.2.2.2.2.2.2.2.2.2.2.2.2.2.2.2.2.2.2.2.2.2.2.2.2.2.2.2.2.2.2.2.2.2.2.2.2.2.1, x9.2.2.2.2.2.2.2.2.2.2.2.2.2.2.2.2.2.2.2.2.2.2.2.2.2.2.2.2.2.2.2.2.2.2.2.2.2.2.2.2.2.2.2.2.2.2.2.2.2.2.2.2.2.2.2.2.2.2.2.2.2.2.2.2.2.2.2.2.2.2.2.2.2.2.2.2.2.2.2.2.2.2.2.2.2.2.2.2.2.2.2.2.2.2.2.2.2.2.2.2.2.2.2.1, x9.2.2.2.2.2.2.2.2.2.2.2.2.2.2.2.2.2.2.2.2.2.2.2.2.2.2.2.2.2.2.2.2.2.2.2.2.2.2.2.2.2.2.2.2.2.2.2.2.2.2.2.2.2.2.2.2.2.2.2.2.2.2.2.2.2.2.2.2.2.2.2.2.2.2.2.2.2.2.2.2.2.2.2.2.2.2.2.2.2.2.2.2.2.2.2.2.2.2.2.2.2.2.2.2.1), (x9.2.2.2.2.2.2.2.2.2.2.2.2.2.2.2.2.2.2.2.2.2.2.2.2.2.2.2.2.2.2.2.2.2.2.2.2.2.2.2.2.2.2.2.2.2.2.2.2.2.2.2.2.2.2.2.2.2.2.2.2.2.2.2.2.2.2.2.2.2.2.2.2.2.2.2.2.2.2.2.2.2.2.2.2.2.2.2.2.2.2.2.2.2.2.2.2.2.2.2.2.2.2.2.2.2.1, x9.2.2.2.2.2.2.2.2.2.2.2.2.2.2.2.2.2.2.2.2.2.2.2.2.2.2.2.2.2.2.2.2.2.2.2.2.2.2.2.2.2.2.2.2.2.2.2.2.2.2.2.2.2.2.2.2.2.2.2.2.2.2.2.2.2.2.2.2.2.2.2.2.2.2.2.2.2.2.2.2.2.2.2.2.2.2.2.2.2.2.2.2.2.2.2.2.2.2.2.2.2.2.2.2.2.2.1, x9.2.2.2.2.2.2.2.2.2.2.2.2.2.2.2.2.2.2.2.2.2.2.2.2.2.2.2.2.2.2.2.2.2.2.2.2.2.2.2.2.2.2.2.2.2.2.2.2.2.2.2.2.2.2.2.2.2.2.2.2.2.2.2.2.2.2.2.2.2.2.2.2.2.2.2.2.2.2.2.2.2.2.2.2.2.2.2.2.2.2.2.2.2.2.2.2.2.2.2.2.2.2.2.2.2.2.2.1, x9.2.2.2.2.2.2.2.2.2.2.2.2.2.2.2.2.2.2.2.2.2.2.2.2.2.2.2.2.2.2.2.2.2.2.2.2.2.2.2.2.2.2.2.2.2.2.2.2.2.2.2.2.2.2.2.2.2.2.2.2.2.2.2.2.2.2.2.2.2.2.2.2.2.2.2.2.2.2.2.2.2.2.2.2.2.2.2.2.2.2.2.2.2.2.2.2.2.2.2.2.2.2.2.2.2.2.2.2.1, x9.2.2.2.2.2.2.2.2.2.2.2.2.2.2.2.2.2.2.2.2.2.2.2.2.2.2.2.2.2.2.2.2.2.2.2.2.2.2.2.2.2.2.2.2.2.2.2.2.2.2.2.2.2.2.2.2.2.2.2.2.2.2.2.2.2.2.2.2.2.2.2.2.2.2.2.2.2.2.2.2.2.2.2.2.2.2.2.2.2.2.2.2.2.2.2.2.2.2.2.2.2.2.2.2.2.2.2.2.2.1, x9.2.2.2.2.2.2.2.2.2.2.2.2.2.2.2.2.2.2.2.2.2.2.2.2.2.2.2.2.2.2.2.2.2.2.2.2.2.2.2.2.2.2.2.2.2.2.2.2.2.2.2.2.2.2.2.2.2.2.2.2.2.2.2.2.2.2.2.2.2.2.2.2.2.2.2.2.2.2.2.2.2.2.2.2.2.2.2.2.2.2.2.2.2.2.2.2.2.2.2.2.2.2.2.2.2.2.2.2.2.2.1, x9.2.2.2.2.2.2.2.2.2.2.2.2.2.2.2.2.2.2.2.2.2.2.2.2.2.2.2.2.2.2.2.2.2.2.2.2.2.2.2.2.2.2.2.2.2.2.2.2.2.2.2.2.2.2.2.2.2.2.2.2.2.2.2.2.2.2.2.2.2.2.2.2.2.2.2.2.2.2.2.2.2.2.2.2.2.2.2.2.2.2.2.2.2.2.2.2.2.2.2.2.2.2.2.2.2.2.2.2.2.2.2.1), (x9.2.2.2.2.2.2.2.2.2.2.2.2.2.2.2.2.2.2.2.2.2.2.2.2.2.2.2.2.2.2.2.2.2.2.2.2.2.2.2.2.2.2.2.2.2.2.2.2.2.2.2.2.2.2.2.2.2.2.2.2.2.2.2.2.2.2.2.2.2.2.2.2.2.2.2.2.2.2.2.2.2.2.2.2.2.2.2.2.2.2.2.2.2.2.2.2.2.2.2.2.2.2.2.2.2.2.2.2.2.2.2.2.1, x9.2.2.2.2.2.2.2.2.2.2.2.2.2.2.2.2.2.2.2.2.2.2.2.2.2.2.2.2.2.2.2.2.2.2.2.2.2.2.2.2.2.2.2.2.2.2.2.2.2.2.2.2.2.2.2.2.2.2.2.2.2.2.2.2.2.2.2.2.2.2.2.2.2.2.2.2.2.2.2.2.2.2.2.2.2.2.2.2.2.2.2.2.2.2.2.2.2.2.2.2.2.2.2.2.2.2.2.2.2.2.2.2.2.1, x9.2.2.2.2.2.2.2.2.2.2.2.2.2.2.2.2.2.2.2.2.2.2.2.2.2.2.2.2.2.2.2.2.2.2.2.2.2.2.2.2.2.2.2.2.2.2.2.2.2.2.2.2.2.2.2.2.2.2.2.2.2.2.2.2.2.2.2.2.2.2.2.2.2.2.2.2.2.2.2.2.2.2.2.2.2.2.2.2.2.2.2.2.2.2.2.2.2.2.2.2.2.2.2.2.2.2.2.2.2.2.2.2.2.2.1, x9.2.2.2.2.2.2.2.2.2.2.2.2.2.2.2.2.2.2.2.2.2.2.2.2.2.2.2.2.2.2.2.2.2.2.2.2.2.2.2.2.2.2.2.2.2.2.2.2.2.2.2.2.2.2.2.2.2.2.2.2.2.2.2.2.2.2.2.2.2.2.2.2.2.2.2.2.2.2.2.2.2.2.2.2.2.2.2.2.2.2.2.2.2.2.2.2.2.2.2.2.2.2.2.2.2.2.2.2.2.2.2.2.2.2.2.1, x9.2.2.2.2.2.2.2.2.2.2.2.2.2.2.2.2.2.2.2.2.2.2.2.2.2.2.2.2.2.2.2.2.2.2.2.2.2.2.2.2.2.2.2.2.2.2.2.2.2.2.2.2.2.2.2.2.2.2.2.2.2.2.2.2.2.2.2.2.2.2.2.2.2.2.2.2.2.2.2.2.2.2.2.2.2.2.2.2.2.2.2.2.2.2.2.2.2.2.2.2.2.2.2.2.2.2.2.2.2.2.2.2.2.2.2.2.1, x9.2.2.2.2.2.2.2.2.2.2.2.2.2.2.2.2.2.2.2.2.2.2.2.2.2.2.2.2.2.2.2.2.2.2.2.2.2.2.2.2.2.2.2.2.2.2.2.2.2.2.2.2.2.2.2.2.2.2.2.2.2.2.2.2.2.2.2.2.2.2.2.2.2.2.2.2.2.2.2.2.2.2.2.2.2.2.2.2.2.2.2.2.2.2.2.2.2.2.2.2.2.2.2.2.2.2.2.2.2.2.2.2.2.2.2.2.2.1, x9.2.2.2.2.2.2.2.2.2.2.2.2.2.2.2.2.2.2.2.2.2.2.2.2.2.2.2.2.2.2.2.2.2.2.2.2.2.2.2.2.2.2.2.2.2.2.2.2.2.2.2.2.2.2.2.2.2.2.2.2.2.2.2.2.2.2.2.2.2.2.2.2.2.2.2.2.2.2.2.2.2.2.2.2.2.2.2.2.2.2.2.2.2.2.2.2.2.2.2.2.2.2.2.2.2.2.2.2.2.2.2.2.2.2.2.2.2.2.1), (x9.2.2.2.2.2.2.2.2.2.2.2.2.2.2.2.2.2.2.2.2.2.2.2.2.2.2.2.2.2.2.2.2.2.2.2.2.2.2.2.2.2.2.2.2.2.2.2.2.2.2.2.2.2.2.2.2.2.2.2.2.2.2.2.2.2.2.2.2.2.2.2.2.2.2.2.2.2.2.2.2.2.2.2.2.2.2.2.2.2.2.2.2.2.2.2.2.2.2.2.2.2.2.2.2.2.2.2.2.2.2.2.2.2.2.2.2.2.2.2.1, x9.2.2.2.2.2.2.2.2.2.2.2.2.2.2.2.2.2.2.2.2.2.2.2.2.2.2.2.2.2.2.2.2.2.2.2.2.2.2.2.2.2.2.2.2.2.2.2.2.2.2.2.2.2.2.2.2.2.2.2.2.2.2.2.2.2.2.2.2.2.2.2.2.2.2.2.2.2.2.2.2.2.2.2.2.2.2.2.2.2.2.2.2.2.2.2.2.2.2.2.2.2.2.2.2.2.2.2.2.2.2.2.2.2.2.2.2.2.2.2.2.1, x9.2.2.2.2.2.2.2.2.2.2.2.2.2.2.2.2.2.2.2.2.2.2.2.2.2.2.2.2.2.2.2.2.2.2.2.2.2.2.2.2.2.2.2.2.2.2.2.2.2.2.2.2.2.2.2.2.2.2.2.2.2.2.2.2.2.2.2.2.2.2.2.2.2.2.2.2.2.2.2.2.2.2.2.2.2.2.2.2.2.2.2.2.2.2.2.2.2.2.2.2.2.2.2.2.2.2.2.2.2.2.2.2.2.2.2.2.2.2.2.2.2.1, x9.2.2.2.2.2.2.2.2.2.2.2.2.2.2.2.2.2.2.2.2.2.2.2.2.2.2.2.2.2.2.2.2.2.2.2.2.2.2.2.2.2.2.2.2.2.2.2.2.2.2.2.2.2.2.2.2.2.2.2.2.2.2.2.2.2.2.2.2.2.2.2.2.2.2.2.2.2.2.2.2.2.2.2.2.2.2.2.2.2.2.2.2.2.2.2.2.2.2.2.2.2.2.2.2.2.2.2.2.2.2.2.2.2.2.2.2.2.2.2.2.2.2.1, x9.2.2.2.2.2.2.2.2.2.2.2.2.2.2.2.2.2.2.2.2.2.2.2.2.2.2.2.2.2.2.2.2.2.2.2.2.2.2.2.2.2.2.2.2.2.2.2.2.2.2.2.2.2.2.2.2.2.2.2.2.2.2.2.2.2.2.2.2.2.2.2.2.2.2.2.2.2.2.2.2.2.2.2.2.2.2.2.2.2.2.2.2.2.2.2.2.2.2.2.2.2.2.2.2.2.2.2.2.2.2.2.2.2.2.2.2.2.2.2.2.2.2.2.1, x9.2.2.2.2.2.2.2.2.2.2.2.2.2.2.2.2.2.2.2.2.2.2.2.2.2.2.2.2.2.2.2.2.2.2.2.2.2.2.2.2.2.2.2.2.2.2.2.2.2.2.2.2.2.2.2.2.2.2.2.2.2.2.2.2.2.2.2.2.2.2.2.2.2.2.2.2.2.2.2.2.2.2.2.2.2.2.2.2.2.2.2.2.2.2.2.2.2.2.2.2.2.2.2.2.2.2.2.2.2.2.2.2.2.2.2.2.2.2.2.2.2.2.2.2.1, x9.2.2.2.2.2.2.2.2.2.2.2.2.2.2.2.2.2.2.2.2.2.2.2.2.2.2.2.2.2.2.2.2.2.2.2.2.2.2.2.2.2.2.2.2.2.2.2.2.2.2.2.2.2.2.2.2.2.2.2.2.2.2.2.2.2.2.2.2.2.2.2.2.2.2.2.2.2.2.2.2.2.2.2.2.2.2.2.2.2.2.2.2.2.2.2.2.2.2.2.2.2.2.2.2.2.2.2.2.2.2.2.2.2.2.2.2.2.2.2.2.2.2.2.2.2.1), (x9.2.2.2.2.2.2.2.2.2.2.2.2.2.2.2.2.2.2.2.2.2.2.2.2.2.2.2.2.2.2.2.2.2.2.2.2.2.2.2.2.2.2.2.2.2.2.2.2.2.2.2.2.2.2.2.2.2.2.2.2.2.2.2.2.2.2.2.2.2.2.2.2.2.2.2.2.2.2.2.2.2.2.2.2.2.2.2.2.2.2.2.2.2.2.2.2.2.2.2.2.2.2.2.2.2.2.2.2.2.2.2.2.2.2.2.2.2.2.2.2.2.2.2.2.2.2.1, x9.2.2.2.2.2.2.2.2.2.2.2.2.2.2.2.2.2.2.2.2.2.2.2.2.2.2.2.2.2.2.2.2.2.2.2.2.2.2.2.2.2.2.2.2.2.2.2.2.2.2.2.2.2.2.2.2.2.2.2.2.2.2.2.2.2.2.2.2.2.2.2.2.2.2.2.2.2.2.2.2.2.2.2.2.2.2.2.2.2.2.2.2.2.2.2.2.2.2.2.2.2.2.2.2.2.2.2.2.2.2.2.2.2.2.2.2.2.2.2.2.2.2.2.2.2.2.2.1, x9.2.2.2.2.2.2.2.2.2.2.2.2.2.2.2.2.2.2.2.2.2.2.2.2.2.2.2.2.2.2.2.2.2.2.2.2.2.2.2.2.2.2.2.2.2.2.2.2.2.2.2.2.2.2.2.2.2.2.2.2.2.2.2.2.2.2.2.2.2.2.2.2.2.2.2.2.2.2.2.2.2.2.2.2.2.2.2.2.2.2.2.2.2.2.2.2.2.2.2.2.2.2.2.2.2.2.2.2.2.2.2.2.2.2.2.2.2.2.2.2.2.2.2.2.2.2.2.2.1, x9.2.2.2.2.2.2.2.2.2.2.2.2.2.2.2.2.2.2.2.2.2.2.2.2.2.2.2.2.2.2.2.2.2.2.2.2.2.2.2.2.2.2.2.2.2.2.2.2.2.2.2.2.2.2.2.2.2.2.2.2.2.2.2.2.2.2.2.2.2.2.2.2.2.2.2.2.2.2.2.2.2.2.2.2.2.2.2.2.2.2.2.2.2.2.2.2.2.2.2.2.2.2.2.2.2.2.2.2.2.2.2.2.2.2.2.2.2.2.2.2.2.2.2.2.2.2.2.2.2.1, x9.2.2.2.2.2.2.2.2.2.2.2.2.2.2.2.2.2.2.2.2.2.2.2.2.2.2.2.2.2.2.2.2.2.2.2.2.2.2.2.2.2.2.2.2.2.2.2.2.2.2.2.2.2.2.2.2.2.2.2.2.2.2.2.2.2.2.2.2.2.2.2.2.2.2.2.2.2.2.2.2.2.2.2.2.2.2.2.2.2.2.2.2.2.2.2.2.2.2.2.2.2.2.2.2.2.2.2.2.2.2.2.2.2.2.2.2.2.2.2.2.2.2.2.2.2.2.2.2.2.2.1, x9.2.2.2.2.2.2.2.2.2.2.2.2.2.2.2.2.2.2.2.2.2.2.2.2.2.2.2.2.2.2.2.2.2.2.2.2.2.2.2.2.2.2.2.2.2.2.2.2.2.2.2.2.2.2.2.2.2.2.2.2.2.2.2.2.2.2.2.2.2.2.2.2.2.2.2.2.2.2.2.2.2.2.2.2.2.2.2.2.2.2.2.2.2.2.2.2.2.2.2.2.2.2.2.2.2.2.2.2.2.2.2.2.2.2.2.2.2.2.2.2.2.2.2.2.2.2.2.2.2.2.2.1, x9.2.2.2.2.2.2.2.2.2.2.2.2.2.2.2.2.2.2.2.2.2.2.2.2.2.2.2.2.2.2.2.2.2.2.2.2.2.2.2.2.2.2.2.2.2.2.2.2.2.2.2.2.2.2.2.2.2.2.2.2.2.2.2.2.2.2.2.2.2.2.2.2.2.2.2.2.2.2.2.2.2.2.2.2.2.2.2.2.2.2.2.2.2.2.2.2.2.2.2.2.2.2.2.2.2.2.2.2.2.2.2.2.2.2.2.2.2.2.2.2.2.2.2.2.2.2.2.2.2.2.2.2)] : List ((List UInt8) × Bool × Bool × (((Unit) ⊕ (((Unit) ⊕ (((Unit) ⊕ (((Unit) ⊕ (Unit))))))))) × Int × Int × (((Unit) ⊕ (((Unit) ⊕ (((Unit) ⊕ (((Unit) ⊕ (((Unit) ⊕ (((Unit) ⊕ (((Unit) ⊕ (((Unit) ⊕ (Unit))))))))))))))))))) x0.2.2.1) fun x12 =>
    let x17 := (x0.2.1 == (0 : Int))
    let x18 := (!(x12.2.1 == x17))
    if x18 then (
      some (2 : Int))
    else (
      Option.bind (fact_Fact_days ((x0.1, x0.2.1, x0.2.2.1, x0.2.2.2.1, x0.2.2.2.2.1, x0.2.2.2.2.2.1, x0.2.2.2.2.2.2.1, x0.2.2.2.2.2.2.2), (x12.1, x12.2.1, x12.2.2.1, x12.2.2.2.1, x12.2.2.2.2.1, x12.2.2.2.2.2.1, x12.2.2.2.2.2.2))) fun x21 =>
      let x23 := (x21 != (0 : Int))
      if x23 then (
        some x21)
      else (
        Option.bind (match x12.2.2.2.1 with | Sum.inl c110 => (fact_empty x0.2.2.2.2.2.1).map (fun v109 => v109) | Sum.inr c111 => (match c111 with | Sum.inl c113 => (fact_rules_1 x0.2.2.2.2.2.1).map (fun v112 => v112) | Sum.inr c114 => (match c114 with | Sum.inl c116 => (fact_absence x0.2.2.2.2.2.1).map (fun v115 => v115) | Sum.inr c117 => (match c117 with | Sum.inl c119 => (fact_isName x0.2.2.2.2.2.1).map (fun v118 => v118) | Sum.inr c120 => (none))))) fun x30 =>
        let x31 := (!x30)
        if x31 then (
          some (12 : Int))
        else (
          let x37 := (decide (x0.2.2.2.2.2.2.1 < x12.2.2.2.2.1))
          let x39 := (if x37 = false then some () else none)
          Option.bind (if x37 = false then (x39.map (fun z133 => x0.2.2.2.2.2.2.1)).map some else some none) fun x40 =>
          let x41 := (if x37 = false then some () else none)
          Option.bind (if x37 = false then (x41.map (fun z134 => x12.2.2.2.2.2.1)).map some else some none) fun x42 =>
          Option.bind (if x37 = false then ((x40.bind (fun z135 => x42.map (fun z136 => (z135, z136)))).map (fun z137 => (decide (z137.1 > z137.2)))).map some else some none) fun x43 =>
          Option.bind (if x37 then some true else x43.map (fun z138 => z138)) fun x44 =>
          if x44 then (
            some (2 : Int))
          else (
            let x48 := (x0.2.2.2.2.2.2.2.length : Int)
            let x49 := (decide (x48 > (4096 : Int)))
            if x49 then (
              some (4 : Int))
            else (
              Option.bind (match x12.2.2.2.2.2.2 with | Sum.inl c188 => (fact_silent (x0.1, x0.2.1, x0.2.2.1, x0.2.2.2.1, x0.2.2.2.2.1, x0.2.2.2.2.2.1, x0.2.2.2.2.2.2.1, x0.2.2.2.2.2.2.2)).map (fun v187 => v187) | Sum.inr c189 => (match c189 with | Sum.inl c191 => (fact_weekly (x0.1, x0.2.1, x0.2.2.1, x0.2.2.2.1, x0.2.2.2.2.1, x0.2.2.2.2.2.1, x0.2.2.2.2.2.2.1, x0.2.2.2.2.2.2.2)).map (fun v190 => v190) | Sum.inr c192 => (match c192 with | Sum.inl c194 => (fact_rules_5 (x0.1, x0.2.1, x0.2.2.1, x0.2.2.2.1, x0.2.2.2.2.1, x0.2.2.2.2.2.1, x0.2.2.2.2.2.2.1, x0.2.2.2.2.2.2.2)).map (fun v193 => v193) | Sum.inr c195 => (match c195 with | Sum.inl c197 => (fact_night (x0.1, x0.2.1, x0.2.2.1, x0.2.2.2.1, x0.2.2.2.2.1, x0.2.2.2.2.2.1, x0.2.2.2.2.2.2.1, x0.2.2.2.2.2.2.2)).map (fun v196 => v196) | Sum.inr c198 => (match c198 with | Sum.inl c200 => (fact_rules_2 (x0.1, x0.2.1, x0.2.2.1, x0.2.2.2.1, x0.2.2.2.2.1, x0.2.2.2.2.2.1, x0.2.2.2.2.2.2.1, x0.2.2.2.2.2.2.2)).map (fun v199 => v199) | Sum.inr c201 => (match c201 with | Sum.inl c203 => (fact_rules_6 (x0.1, x0.2.1, x0.2.2.1, x0.2.2.2.1, x0.2.2.2.2.1, x0.2.2.2.2.2.1, x0.2.2.2.2.2.2.1, x0.2.2.2.2.2.2.2)).map (fun v202 => v202) | Sum.inr c204 => (match c204 with | Sum.inl c206 => (fact_rules_3 (x0.1, x0.2.1, x0.2.2.1, x0.2.2.2.1, x0.2.2.2.2.1, x0.2.2.2.2.2.1, x0.2.2.2.2.2.2.1, x0.2.2.2.2.2.2.2)).map (fun v205 => v205) | Sum.inr c207 => (match c207 with | Sum.inl c209 => (fact_rules_4 (x0.1, x0.2.1, x0.2.2.1, x0.2.2.2.1, x0.2.2.2.2.1, x0.2.2.2.2.2.1, x0.2.2.2.2.2.2.1, x0.2.2.2.2.2.2.2)).map (fun v208 => v208) | Sum.inr c210 => (none))))))))) fun x54 =>
              let x55 := (!x54)
              if x55 then (
                some (3 : Int))
              else (
                some (0 : Int))))))))
noncomputable def before_name (a : (List UInt8)) : Option (Bool) :=
  let x0 := a
  Option.bind (fact_Fact_Check ((0 : Int), (1 : Int), (13 : Int), (0 : Int), (0 : Int), ([] : List UInt8), (0 : Int), x0)) fun x5 =>
  let x6 := (x5 == (0 : Int))
  some x6
noncomputable def before_right (a : Int) : Option (Bool) :=
  let x0 := a
  let x4 := (decide (x0 ≥ (0 : Int)))
  let x6 := (if x4 = true then some x0 else none)
  Option.bind (if x4 = true then ((x6.bind (fun z7 => some (z7, (1125899906842624 : Int)))).map (fun z9 => (decide (z9.1 ≤ z9.2)))).map some else some none) fun x7 =>
  Option.bind (if x4 then x7 else some false) fun x8 =>
  some x8
noncomputable def before_bounds_loop1 (s : (List ((List UInt8) × Int × Int)) × (Int) × (Int) × (List ((List UInt8) × ((List UInt8) × Int × Int))) × (Unit) × Unit) : Option (((List ((List UInt8) × Int × Int)) × (Int) × (Int) × (List ((List UInt8) × ((List UInt8) × Int × Int))) × (Unit) × Unit) ⊕ (((List ((List UInt8) × ((List UInt8) × Int × Int))) × (Unit) × Unit) ⊕ ((List ((List UInt8) × ((List UInt8) × Int × Int))) × Int))) :=
  let x13 := s.1
  let x14 := s.2.1
  let x15 := s.2.2.1
  let l12 := s.2.2.2.1
  let x16 := (decide (x15 < x14))
  if x16 then (
    Option.bind ((lAt x13 x15).map (fun y => y)) fun x17 =>
    let x23 := alGet (eqZ .str) (zeroT (.agg (.cons .str (.cons (.int .i64) (.one (.int .i64)))))) x17.1 l12
    Option.bind (before_name x17.1) fun x29 =>
    let x30 := (!x29)
    if x30 then (
      some (Sum.inr (Sum.inr (([] : List ((List UInt8) × ((List UInt8) × Int × Int))), (12 : Int)))))
    else (
      if x23.2 then (
        some (Sum.inr (Sum.inr (([] : List ((List UInt8) × ((List UInt8) × Int × Int))), (7 : Int)))))
      else (
        Option.bind (show Option (((List ((List UInt8) × Int × Int)) × (Int) × (Int) × (Bool) × (List UInt8) × (Int) × (Int) × (List ((List UInt8) × ((List UInt8) × Int × Int))) × (Unit) × (Unit) × (Unit) × Unit)) from (
          let x36 := (decide (x17.2.1 < (0 : Int)))
          if x36 then (
            some (x13, x14, x15, x36, x17.1, x17.2.1, x17.2.2, l12, (), (), (), ()))
          else (
            let x39 := (decide (x17.2.1 > (1000000 : Int)))
            if x39 then (
              some (x13, x14, x15, x39, x17.1, x17.2.1, x17.2.2, l12, (), (), (), ()))
            else (
              Option.bind (before_right x17.2.2) fun x42 =>
              let x43 := (!x42)
              some (x13, x14, x15, x43, x17.1, x17.2.1, x17.2.2, l12, (), (), (), ()))))) fun o =>
        let x13 := o.1
        let x14 := o.2.1
        let x15 := o.2.2.1
        let x33 := o.2.2.2.1
        let c6_0 := o.2.2.2.2.1
        let c6_1 := o.2.2.2.2.2.1
        let c6_2 := o.2.2.2.2.2.2.1
        let l12 := o.2.2.2.2.2.2.2.1
        if x33 then (
          some (Sum.inr (Sum.inr (([] : List ((List UInt8) × ((List UInt8) × Int × Int))), (2 : Int)))))
        else (
          let l12 := alPut (eqZ .str) c6_0 (c6_0, c6_1, c6_2) l12
          let x48 := IntKind.i64.wrap (x15 + (1 : Int))
          some (Sum.inl (x13, x14, x48, l12, (), ()))))))
  else (
    some (Sum.inr (Sum.inl (l12, (), ()))))
noncomputable def before_bounds (a : (List ((List UInt8) × Int × Int))) : Option ((List ((List UInt8) × ((List UInt8) × Int × Int))) × Int) :=
  let x0 := a
  let x10 := (x0.length : Int)
  let x11 := (decide (x10 > (64 : Int)))
  if x11 then (
    some (([] : List ((List UInt8) × ((List UInt8) × Int × Int))), (5 : Int)))
  else (
    let x14 := (x0.length : Int)
    Option.bind (iter before_bounds_loop1 (x0, x14, (0 : Int), ([] : List ((List UInt8) × ((List UInt8) × Int × Int))), (), ())) fun o =>
    match o with
    | Sum.inl p1 => (
      let l12 := p1.1
      some (l12, (0 : Int)))
    | Sum.inr q2 => (
      some q2))
noncomputable def cents_Greatest (a : Int × Int) : Option (Int) :=
  let x0 := a.1
  let x1 := a.2
  let x7 := (max x0 x1)
  some x7
noncomputable def cents_Least (a : Int × Int) : Option (Int) :=
  let x0 := a.1
  let x1 := a.2
  let x7 := (min x0 x1)
  some x7
noncomputable def rate_amount (a : Int) : Option (Bool) :=
  let x0 := a
  let x4 := (decide (x0 ≥ (-1125899906842624 : Int)))
  let x6 := (if x4 = true then some x0 else none)
  Option.bind (if x4 = true then ((x6.bind (fun z7 => some (z7, (1125899906842624 : Int)))).map (fun z9 => (decide (z9.1 ≤ z9.2)))).map some else some none) fun x7 =>
  Option.bind (if x4 then x7 else some false) fun x8 =>
  some x8
noncomputable def rate_right (a : Int) : Option (Bool) :=
  let x0 := a
  let x4 := (decide (x0 ≥ (-1000000000 : Int)))
  let x6 := (if x4 = true then some x0 else none)
  Option.bind (if x4 = true then ((x6.bind (fun z7 => some (z7, (1000000000 : Int)))).map (fun z9 => (decide (z9.1 ≤ z9.2)))).map some else some none) fun x7 =>
  Option.bind (if x4 then x7 else some false) fun x8 =>
  some x8
noncomputable def rate_size (a : Int) : Option (Int) :=
  let x0 := a
  let x4 := (decide (x0 < (0 : Int)))
  if x4 then (
    let x6 := IntKind.u64.wrap x0
    let x7 := IntKind.u64.wrap (0 - x6)
    some x7)
  else (
    let x9 := IntKind.u64.wrap x0
    some x9)
noncomputable def math_bits_Mul64 (a : Int × Int) : Option (Int × Int) :=
  let x0 := a.1
  let x1 := a.2
  let x15 := bitZ .and .u64 x0 (4294967295 : Int)
  Option.bind (if (32 : Int) < 0 then none else some (x0.fdiv (2 ^ (min (32 : Int).toNat 64)))) fun x17 =>
  let x19 := bitZ .and .u64 x1 (4294967295 : Int)
  Option.bind (if (32 : Int) < 0 then none else some (x1.fdiv (2 ^ (min (32 : Int).toNat 64)))) fun x21 =>
  let x24 := IntKind.u64.wrap (x15 * x19)
  let x27 := IntKind.u64.wrap (x17 * x19)
  Option.bind (if (32 : Int) < 0 then none else some (x24.fdiv (2 ^ (min (32 : Int).toNat 64)))) fun x29 =>
  let x30 := IntKind.u64.wrap (x27 + x29)
  let x32 := bitZ .and .u64 x30 (4294967295 : Int)
  Option.bind (if (32 : Int) < 0 then none else some (x30.fdiv (2 ^ (min (32 : Int).toNat 64)))) fun x34 =>
  let x38 := IntKind.u64.wrap (x15 * x21)
  let x39 := IntKind.u64.wrap (x32 + x38)
  let x42 := IntKind.u64.wrap (x17 * x21)
  let x44 := IntKind.u64.wrap (x42 + x34)
  Option.bind (if (32 : Int) < 0 then none else some (x39.fdiv (2 ^ (min (32 : Int).toNat 64)))) fun x46 =>
  let x47 := IntKind.u64.wrap (x44 + x46)
  let x50 := IntKind.u64.wrap (x0 * x1)
  some (x47, x50)
noncomputable def math_bits_Len64 (a : Int) : Option (Int) :=
  let x0 := a
  Option.bind (show Option (((Int) × (Int) × Unit)) from (
    let x4 := (decide (x0 ≥ (4294967296 : Int)))
    if x4 then (
      Option.bind (if (32 : Int) < 0 then none else some (x0.fdiv (2 ^ (min (32 : Int).toNat 64)))) fun x6 =>
      some (x6, (32 : Int), ()))
    else (
      some (x0, (0 : Int), ())))) fun o =>
  let x0 := o.1
  let x2 := o.2.1
  Option.bind (show Option (((Int) × (Int) × Unit)) from (
    let x8 := (decide (x0 ≥ (65536 : Int)))
    if x8 then (
      Option.bind (if (16 : Int) < 0 then none else some (x0.fdiv (2 ^ (min (16 : Int).toNat 64)))) fun x10 =>
      let x12 := IntKind.i64.wrap (x2 + (16 : Int))
      some (x10, x12, ()))
    else (
      some (x0, x2, ())))) fun o =>
  let x0 := o.1
  let x2 := o.2.1
  Option.bind (show Option (((Int) × (Int) × Unit)) from (
    let x14 := (decide (x0 ≥ (256 : Int)))
    if x14 then (
      Option.bind (if (8 : Int) < 0 then none else some (x0.fdiv (2 ^ (min (8 : Int).toNat 64)))) fun x16 =>
      let x18 := IntKind.i64.wrap (x2 + (8 : Int))
      some (x16, x18, ()))
    else (
      some (x0, x2, ())))) fun o =>
  let x0 := o.1
  let x2 := o.2.1
  let x21 := IntKind.u8.wrap x0
  Option.bind (sAt ([0, 1, 2, 2, 3, 3, 3, 3, 4, 4, 4, 4, 4, 4, 4, 4, 5, 5, 5, 5, 5, 5, 5, 5, 5, 5, 5, 5, 5, 5, 5, 5, 6, 6, 6, 6, 6, 6, 6, 6, 6, 6, 6, 6, 6, 6, 6, 6, 6, 6, 6, 6, 6, 6, 6, 6, 6, 6, 6, 6, 6, 6, 6, 6, 7, 7, 7, 7, 7, 7, 7, 7, 7, 7, 7, 7, 7, 7, 7, 7, 7, 7, 7, 7, 7, 7, 7, 7, 7, 7, 7, 7, 7, 7, 7, 7, 7, 7, 7, 7, 7, 7, 7, 7, 7, 7, 7, 7, 7, 7, 7, 7, 7, 7, 7, 7, 7, 7, 7, 7, 7, 7, 7, 7, 7, 7, 7, 7, 8, 8, 8, 8, 8, 8, 8, 8, 8, 8, 8, 8, 8, 8, 8, 8, 8, 8, 8, 8, 8, 8, 8, 8, 8, 8, 8, 8, 8, 8, 8, 8, 8, 8, 8, 8, 8, 8, 8, 8, 8, 8, 8, 8, 8, 8, 8, 8, 8, 8, 8, 8, 8, 8, 8, 8, 8, 8, 8, 8, 8, 8, 8, 8, 8, 8, 8, 8, 8, 8, 8, 8, 8, 8, 8, 8, 8, 8, 8, 8, 8, 8, 8, 8, 8, 8, 8, 8, 8, 8, 8, 8, 8, 8, 8, 8, 8, 8, 8, 8, 8, 8, 8, 8, 8, 8, 8, 8, 8, 8, 8, 8, 8, 8, 8, 8, 8, 8, 8, 8, 8, 8, 8, 8, 8, 8, 8, 8] : List UInt8) x21) fun x22 =>
  let x23 := IntKind.i64.wrap x22
  let x24 := IntKind.i64.wrap (x2 + x23)
  some x24
noncomputable def math_bits_LeadingZeros64 (a : Int) : Option (Int) :=
  let x0 := a
  Option.bind (math_bits_Len64 x0) fun x4 =>
  let x5 := IntKind.i64.wrap ((64 : Int) - x4)
  some x5
noncomputable def math_bits_Div64_loop1 (s : (Int) × (Int) × (Int) × (Int) × (Int) × (Int) × (Int) × (Int) × (Int) × Unit) : Option (((Int) × (Int) × (Int) × (Int) × (Int) × (Int) × (Int) × (Int) × (Int) × Unit) ⊕ (((Int) × (Int) × (Int) × (Int) × (Int) × (Int) × (Int) × (Int) × Unit))) :=
  let x2 := s.1
  let x8 := s.2.1
  let x9 := s.2.2.1
  let x10 := s.2.2.2.1
  let x11 := s.2.2.2.2.1
  let x13 := s.2.2.2.2.2.1
  let x14 := s.2.2.2.2.2.2.1
  let x15 := s.2.2.2.2.2.2.2.1
  let x16 := s.2.2.2.2.2.2.2.2.1
  let x68 := (decide (x15 ≥ (4294967296 : Int)))
  let x70 := (if x68 = false then some x15 else none)
  let x71 := (if x68 = false then some x10 else none)
  Option.bind (if x68 = false then ((x70.bind (fun z157 => x71.map (fun z158 => (z157, z158)))).map (fun z159 => IntKind.u64.wrap (z159.1 * z159.2))).map some else some none) fun x72 =>
  let x73 := (if x68 = false then some x16 else none)
  Option.bind (if x68 = false then ((x73.map (fun z161 => ((4294967296 : Int), z161))).map (fun z162 => IntKind.u64.wrap (z162.1 * z162.2))).map some else some none) fun x74 =>
  let x75 := (if x68 = false then some x13 else none)
  Option.bind (if x68 = false then ((x74.bind (fun z163 => x75.map (fun z164 => (z163, z164)))).map (fun z165 => IntKind.u64.wrap (z165.1 + z165.2))).map some else some none) fun x76 =>
  Option.bind (if x68 = false then ((x72.bind (fun z166 => x76.map (fun z167 => (z166, z167)))).map (fun z168 => (decide (z168.1 > z168.2)))).map some else some none) fun x77 =>
  Option.bind (if x68 then some true else x77.map (fun z169 => z169)) fun x78 =>
  if x78 then (
    let x80 := IntKind.u64.wrap (x15 - (1 : Int))
    let x83 := IntKind.u64.wrap (x16 + x9)
    let x85 := (decide (x83 ≥ (4294967296 : Int)))
    if x85 then (
      some (Sum.inr (x2, x8, x9, x10, x11, x13, x14, x80, ())))
    else (
      some (Sum.inl (x2, x8, x9, x10, x11, x13, x14, x80, x83, ()))))
  else (
    some (Sum.inr (x2, x8, x9, x10, x11, x13, x14, x15, ())))
noncomputable def math_bits_Div64_loop2 (s : (Int) × (Int) × (Int) × (Int) × (Int) × (Int) × (Int) × (Int) × (Int) × Unit) : Option (((Int) × (Int) × (Int) × (Int) × (Int) × (Int) × (Int) × (Int) × (Int) × Unit) ⊕ (((Int) × (Int) × (Int) × (Int) × (Int) × (Int) × Unit))) :=
  let x2 := s.1
  let x8 := s.2.1
  let x9 := s.2.2.1
  let x10 := s.2.2.2.1
  let x14 := s.2.2.2.2.1
  let x15 := s.2.2.2.2.2.1
  let x16 := s.2.2.2.2.2.2.1
  let x17 := s.2.2.2.2.2.2.2.1
  let x18 := s.2.2.2.2.2.2.2.2.1
  let x103 := (decide (x18 ≥ (4294967296 : Int)))
  let x105 := (if x103 = false then some x18 else none)
  let x106 := (if x103 = false then some x10 else none)
  Option.bind (if x103 = false then ((x105.bind (fun z326 => x106.map (fun z327 => (z326, z327)))).map (fun z328 => IntKind.u64.wrap (z328.1 * z328.2))).map some else some none) fun x107 =>
  let x108 := (if x103 = false then some x16 else none)
  Option.bind (if x103 = false then ((x108.map (fun z330 => ((4294967296 : Int), z330))).map (fun z331 => IntKind.u64.wrap (z331.1 * z331.2))).map some else some none) fun x109 =>
  let x110 := (if x103 = false then some x14 else none)
  Option.bind (if x103 = false then ((x109.bind (fun z332 => x110.map (fun z333 => (z332, z333)))).map (fun z334 => IntKind.u64.wrap (z334.1 + z334.2))).map some else some none) fun x111 =>
  Option.bind (if x103 = false then ((x107.bind (fun z335 => x111.map (fun z336 => (z335, z336)))).map (fun z337 => (decide (z337.1 > z337.2)))).map some else some none) fun x112 =>
  Option.bind (if x103 then some true else x112.map (fun z338 => z338)) fun x113 =>
  if x113 then (
    let x115 := IntKind.u64.wrap (x18 - (1 : Int))
    let x118 := IntKind.u64.wrap (x16 + x9)
    let x120 := (decide (x118 ≥ (4294967296 : Int)))
    if x120 then (
      some (Sum.inr (x2, x8, x14, x15, x17, x115, ())))
    else (
      some (Sum.inl (x2, x8, x9, x10, x14, x15, x118, x17, x115, ()))))
  else (
    some (Sum.inr (x2, x8, x14, x15, x17, x18, ())))
noncomputable def math_bits_Div64 (a : Int × Int × Int) : Option (Int × Int) :=
  let x0 := a.1
  let x1 := a.2.1
  let x2 := a.2.2
  let x20 := (x2 == (0 : Int))
  if x20 then (
    none)
  else (
    let x24 := (decide (x2 ≤ x0))
    if x24 then (
      none)
    else (
      let x27 := (x0 == (0 : Int))
      if x27 then (
        Option.bind (if x2 = 0 then none else some (IntKind.u64.wrap (x1.tdiv x2))) fun x30 =>
        Option.bind (if x2 = 0 then none else some (x1.tmod x2)) fun x33 =>
        some (x30, x33))
      else (
        Option.bind (math_bits_LeadingZeros64 x2) fun x35 =>
        let x36 := IntKind.u64.wrap x35
        Option.bind (if x36 < 0 then none else some (IntKind.u64.wrap (x2 * 2 ^ (min x36.toNat 64)))) fun x39 =>
        Option.bind (if (32 : Int) < 0 then none else some (x39.fdiv (2 ^ (min (32 : Int).toNat 64)))) fun x41 =>
        let x43 := bitZ .and .u64 x39 (4294967295 : Int)
        Option.bind (if x36 < 0 then none else some (IntKind.u64.wrap (x0 * 2 ^ (min x36.toNat 64)))) fun x46 =>
        let x49 := IntKind.u64.wrap ((64 : Int) - x36)
        Option.bind (if x49 < 0 then none else some (x1.fdiv (2 ^ (min x49.toNat 64)))) fun x50 =>
        let x51 := bitZ .or .u64 x46 x50
        Option.bind (if x36 < 0 then none else some (IntKind.u64.wrap (x1 * 2 ^ (min x36.toNat 64)))) fun x54 =>
        Option.bind (if (32 : Int) < 0 then none else some (x54.fdiv (2 ^ (min (32 : Int).toNat 64)))) fun x56 =>
        let x58 := bitZ .and .u64 x54 (4294967295 : Int)
        Option.bind (if x41 = 0 then none else some (IntKind.u64.wrap (x51.tdiv x41))) fun x61 =>
        let x65 := IntKind.u64.wrap (x61 * x41)
        let x66 := IntKind.u64.wrap (x51 - x65)
        Option.bind (show Option (((Int) × (Int) × (Int) × (Int) × (Int) × (Int) × (Int) × (Int) × Unit)) from (
          Option.bind (iter math_bits_Div64_loop1 (x39, x36, x41, x43, x51, x56, x58, x61, x66, ())) fun o =>
          let x2 := o.1
          let x8 := o.2.1
          let x9 := o.2.2.1
          let x10 := o.2.2.2.1
          let x11 := o.2.2.2.2.1
          let x13 := o.2.2.2.2.2.1
          let x14 := o.2.2.2.2.2.2.1
          let x15 := o.2.2.2.2.2.2.2.1
          some (x2, x8, x9, x10, x11, x13, x14, x15, ()))) fun o =>
        let x2 := o.1
        let x8 := o.2.1
        let x9 := o.2.2.1
        let x10 := o.2.2.2.1
        let x11 := o.2.2.2.2.1
        let x13 := o.2.2.2.2.2.1
        let x14 := o.2.2.2.2.2.2.1
        let x15 := o.2.2.2.2.2.2.2.1
        let x87 := IntKind.u64.wrap (x11 * (4294967296 : Int))
        let x89 := IntKind.u64.wrap (x87 + x13)
        let x92 := IntKind.u64.wrap (x15 * x2)
        let x93 := IntKind.u64.wrap (x89 - x92)
        Option.bind (if x9 = 0 then none else some (IntKind.u64.wrap (x93.tdiv x9))) fun x96 =>
        let x100 := IntKind.u64.wrap (x96 * x9)
        let x101 := IntKind.u64.wrap (x93 - x100)
        Option.bind (show Option (((Int) × (Int) × (Int) × (Int) × (Int) × (Int) × Unit)) from (
          Option.bind (iter math_bits_Div64_loop2 (x2, x8, x9, x10, x14, x15, x101, x93, x96, ())) fun o =>
          let x2 := o.1
          let x8 := o.2.1
          let x14 := o.2.2.1
          let x15 := o.2.2.2.1
          let x17 := o.2.2.2.2.1
          let x18 := o.2.2.2.2.2.1
          some (x2, x8, x14, x15, x17, x18, ()))) fun o =>
        let x2 := o.1
        let x8 := o.2.1
        let x14 := o.2.2.1
        let x15 := o.2.2.2.1
        let x17 := o.2.2.2.2.1
        let x18 := o.2.2.2.2.2.1
        let x122 := IntKind.u64.wrap (x15 * (4294967296 : Int))
        let x124 := IntKind.u64.wrap (x122 + x18)
        let x126 := IntKind.u64.wrap (x17 * (4294967296 : Int))
        let x128 := IntKind.u64.wrap (x126 + x14)
        let x131 := IntKind.u64.wrap (x18 * x2)
        let x132 := IntKind.u64.wrap (x128 - x131)
        Option.bind (if x8 < 0 then none else some (x132.fdiv (2 ^ (min x8.toNat 64)))) fun x134 =>
        some (x124, x134))))
noncomputable def rate_up (a : Bool × Int × Int × Int × Int) : Option (Bool) :=
  let x0 := a.1
  let x1 := a.2.1
  let x2 := a.2.2.1
  let x3 := a.2.2.2.1
  let x4 := a.2.2.2.2
  Option.bind (show Option (((Bool) × Unit)) from (
    Option.bind (show Option (((Int) × (Int) × Unit) ⊕ ((Bool) × Unit)) from (
      Option.bind (show Option (((Int) × Unit) ⊕ ((Int) × (Int) × (Int) × Unit) ⊕ ((Int) × (Int) × Unit) ⊕ ((Bool) × Unit)) from (
        let x14 := (x4 == (4 : Int))
        if x14 then (
          let x22 := (!x0)
          if x22 then (
            some (Sum.inr (Sum.inr (Sum.inr (false, ())))))
          else (
            some (Sum.inl (x2, ()))))
        else (
          let x16 := (x4 == (3 : Int))
          if x16 then (
            some (Sum.inl (x2, ())))
          else (
            let x18 := (x4 == (2 : Int))
            if x18 then (
              some (Sum.inr (Sum.inl (x1, x2, x3, ()))))
            else (
              let x20 := (x4 == (1 : Int))
              if x20 then (
                some (Sum.inr (Sum.inr (Sum.inl (x2, x3, ())))))
              else (
                some (Sum.inr (Sum.inr (Sum.inr (false, ())))))))))) fun o =>
      match o with
      | Sum.inl p1 => (
        let x2 := p1.1
        let x24 := (decide (x2 > (0 : Int)))
        some (Sum.inr (x24, ())))
      | Sum.inr q2 => (
        match q2 with
        | Sum.inl p3 => (
          let x1 := p3.1
          let x2 := p3.2.1
          let x3 := p3.2.2.1
          let x28 := IntKind.u64.wrap (x3 - x2)
          let x29 := (x2 == x28)
          if x29 then (
            Option.bind (if (2 : Int) = 0 then none else some (x1.tmod (2 : Int))) fun x31 =>
            let x32 := (x31 == (1 : Int))
            some (Sum.inr (x32, ())))
          else (
            some (Sum.inl (x2, x3, ()))))
        | Sum.inr q4 => (
          match q4 with
          | Sum.inl p5 => (
            let x2 := p5.1
            let x3 := p5.2.1
            some (Sum.inl (x2, x3, ())))
          | Sum.inr q6 => (
            let x11 := q6.1
            some (Sum.inr (x11, ()))))))) fun o =>
    match o with
    | Sum.inl p7 => (
      let x2 := p7.1
      let x3 := p7.2.1
      let x36 := IntKind.u64.wrap (x3 - x2)
      let x37 := (decide (x2 ≥ x36))
      some (x37, ()))
    | Sum.inr q8 => (
      let x11 := q8.1
      some (x11, ())))) fun o =>
  let x11 := o.1
  some x11
noncomputable def rate_quotient (a : Int × Int × Int × Int × Int) : Option (Int × Bool) :=
  let x0 := a.1
  let x1 := a.2.1
  let x2 := a.2.2.1
  let x3 := a.2.2.2.1
  let x4 := a.2.2.2.2
  let x18 := (decide (x0 < (0 : Int)))
  let x20 := (decide (x1 < (0 : Int)))
  let x21 := (!(x18 == x20))
  Option.bind (rate_size x0) fun x24 =>
  Option.bind (rate_size x1) fun x26 =>
  Option.bind (math_bits_Mul64 (x24, x26)) fun x27 =>
  let x32 := (decide (x27.1 ≥ x2))
  if x32 then (
    some ((0 : Int), false))
  else (
    Option.bind (math_bits_Div64 (x27.1, x27.2, x2)) fun x37 =>
    let x42 := (decide (x37.1 > x3))
    if x42 then (
      some ((0 : Int), false))
    else (
      Option.bind (show Option (((Int) × (Bool) × (Int) × Unit)) from (
        Option.bind (rate_up (x21, x37.1, x37.2, x2, x4)) fun x48 =>
        if x48 then (
          let x50 := IntKind.u64.wrap (x37.1 + (1 : Int))
          some (x3, x21, x50, ()))
        else (
          some (x3, x21, x37.1, ())))) fun o =>
      let x3 := o.1
      let x12 := o.2.1
      let x15 := o.2.2.1
      let x53 := (decide (x15 > x3))
      if x53 then (
        some ((0 : Int), false))
      else (
        if x12 then (
          let x56 := IntKind.i64.wrap x15
          let x57 := IntKind.i64.wrap (0 - x56)
          some (x57, true))
        else (
          let x59 := IntKind.i64.wrap x15
          some (x59, true)))))
noncomputable def rate_Part (a : Int × Int × Int × Int) : Option (Int × Int) :=
  let x0 := a.1
  let x1 := a.2.1
  let x2 := a.2.2.1
  let x3 := a.2.2.2
  Option.bind (rate_amount x0) fun x14 =>
  let x15 := (!x14)
  if x15 then (
    some ((0 : Int), (2 : Int)))
  else (
    let x18 := (x2 == (0 : Int))
    if x18 then (
      some ((0 : Int), (22 : Int)))
    else (
      let x21 := (decide (x2 < (0 : Int)))
      if x21 then (
        some ((0 : Int), (2 : Int)))
      else (
        let x24 := (decide (x3 < (0 : Int)))
        let x26 := (if x24 = false then some x3 else none)
        Option.bind (if x24 = false then ((x26.bind (fun z17 => some (z17, (4 : Int)))).map (fun z19 => (decide (z19.1 > z19.2)))).map some else some none) fun x27 =>
        Option.bind (if x24 then some true else x27.map (fun z20 => z20)) fun x28 =>
        if x28 then (
          some ((0 : Int), (11 : Int)))
        else (
          let x33 := IntKind.u64.wrap x2
          Option.bind (rate_quotient (x0, x1, x33, (1125899906842624 : Int), x3)) fun x35 =>
          let x39 := (!x35.2)
          if x39 then (
            some ((0 : Int), (9 : Int)))
          else (
            some (x35.1, (0 : Int)))))))
noncomputable def rate_Of (a : Int × Int × Int) : Option (Int × Int) :=
  let x0 := a.1
  let x1 := a.2.1
  let x2 := a.2.2
  Option.bind (rate_amount x0) fun x9 =>
  let x10 := (!x9)
  let x12 := (if x10 = false then some x1 else none)
  Option.bind (if x10 = false then ((x12.map (fun z17 => z17)).bind (fun z18 => rate_right z18)).map some else some none) fun x13 =>
  Option.bind (if x10 = false then (x13.map (fun z19 => (!z19))).map some else some none) fun x14 =>
  Option.bind (if x10 then some true else x14.map (fun z20 => z20)) fun x15 =>
  if x15 then (
    some ((0 : Int), (2 : Int)))
  else (
    Option.bind (rate_Part (x0, x1, (1000000 : Int), x2)) fun x19 =>
    some (x19.1, x19.2))
noncomputable def before_room (a : Int × ((List UInt8) × Int × Int) × Int × Int) : Option (Int) :=
  let x0 := a.1
  let x1 := a.2.1
  let x2 := a.2.2.1
  let x3 := a.2.2.2
  Option.bind (show Option (((Int) × (Int) × (List UInt8) × (Int) × (Int) × (Unit) × (Unit) × Unit)) from (
    let x15 := (x1.2.1 != (1000000 : Int))
    if x15 then (
      Option.bind (rate_Of (x0, x1.2.1, (1 : Int))) fun x20 =>
      let x26 := IntKind.i64.wrap (x20.1 - x2)
      Option.bind (cents_Least (x0, x26)) fun x27 =>
      some (x3, x27, x1.1, x1.2.1, x1.2.2, (), (), ()))
    else (
      some (x3, x0, x1.1, x1.2.1, x1.2.2, (), (), ())))) fun o =>
  let x3 := o.1
  let x9 := o.2.1
  let c5_0 := o.2.2.1
  let c5_1 := o.2.2.2.1
  let c5_2 := o.2.2.2.2.1
  Option.bind (show Option (((Int) × Unit)) from (
    let x30 := (c5_2 != (0 : Int))
    if x30 then (
      let x35 := IntKind.i64.wrap (c5_2 - x3)
      Option.bind (cents_Least (x9, x35)) fun x36 =>
      some (x36, ()))
    else (
      some (x9, ())))) fun o =>
  let x9 := o.1
  Option.bind (cents_Greatest (x9, (0 : Int))) fun x38 =>
  some x38
noncomputable def before_Take_loop1 (s : (Int) × (List ((List UInt8) × (Int))) × (List ((List UInt8) × ((List UInt8) × Int × Int))) × (Int) × (List ((List UInt8) × Int)) × (Int) × (Int) × (List ((List UInt8) × (Int))) × (List ((List UInt8) × (Int))) × (List ((List UInt8) × Int)) × (Unit) × (Unit) × (Unit) × Unit) : Option (((Int) × (List ((List UInt8) × (Int))) × (List ((List UInt8) × ((List UInt8) × Int × Int))) × (Int) × (List ((List UInt8) × Int)) × (Int) × (Int) × (List ((List UInt8) × (Int))) × (List ((List UInt8) × (Int))) × (List ((List UInt8) × Int)) × (Unit) × (Unit) × (Unit) × Unit) ⊕ (((List ((List UInt8) × (Int))) × (List ((List UInt8) × Int)) × (Unit) × (Unit) × Unit) ⊕ ((List ((List UInt8) × Int)) × (List ((List UInt8) × (Int))) × Int))) :=
  let x0 := s.1
  let x1 := s.2.1
  let x11 := s.2.2.1
  let x14 := s.2.2.2.1
  let x45 := s.2.2.2.2.1
  let x46 := s.2.2.2.2.2.1
  let x47 := s.2.2.2.2.2.2.1
  let l40 := s.2.2.2.2.2.2.2.1
  let l41 := s.2.2.2.2.2.2.2.2.1
  let l1013 := s.2.2.2.2.2.2.2.2.2.1
  let x48 := (decide (x47 < x46))
  if x48 then (
    Option.bind (show Option (((Int) × (List ((List UInt8) × (Int))) × (List ((List UInt8) × ((List UInt8) × Int × Int))) × (Int) × (List ((List UInt8) × Int)) × (Int) × (Int) × (List ((List UInt8) × (Int))) × (List ((List UInt8) × (Int))) × (List ((List UInt8) × Int)) × (Unit) × (Unit) × (Unit) × Unit) ⊕ ((List ((List UInt8) × Int)) × (List ((List UInt8) × (Int))) × Int)) from (
      Option.bind ((lAt x45 x47).map (fun y => y)) fun x49 =>
      Option.bind (before_name x49.1) fun x54 =>
      let x55 := (!x54)
      if x55 then (
        some (Sum.inr (([] : List ((List UInt8) × Int)), ([] : List ((List UInt8) × (Int))), (12 : Int))))
      else (
        Option.bind (show Option (((Int) × (List ((List UInt8) × (Int))) × (List ((List UInt8) × ((List UInt8) × Int × Int))) × (Int) × (List ((List UInt8) × Int)) × (Int) × (Int) × (Bool) × (List UInt8) × (Int) × (List ((List UInt8) × (Int))) × (List ((List UInt8) × (Int))) × (List ((List UInt8) × Int)) × (Unit) × (Unit) × (Unit) × (Unit) × (Unit) × Unit)) from (
          Option.bind (before_right x49.2) fun x59 =>
          let x60 := (!x59)
          if x60 then (
            some (x0, x1, x11, x14, x45, x46, x47, x60, x49.1, x49.2, l40, l41, l1013, (), (), (), (), (), ()))
          else (
            let x64 := (alGet (eqZ .str) (zeroT (.int .i64)) x49.1 x1).1
            Option.bind (before_right x64) fun x65 =>
            let x66 := (!x65)
            some (x0, x1, x11, x14, x45, x46, x47, x66, x49.1, x49.2, l40, l41, l1013, (), (), (), (), (), ())))) fun o =>
        let x0 := o.1
        let x1 := o.2.1
        let x11 := o.2.2.1
        let x14 := o.2.2.2.1
        let x45 := o.2.2.2.2.1
        let x46 := o.2.2.2.2.2.1
        let x47 := o.2.2.2.2.2.2.1
        let x56 := o.2.2.2.2.2.2.2.1
        let c18_0 := o.2.2.2.2.2.2.2.2.1
        let c18_1 := o.2.2.2.2.2.2.2.2.2.1
        let l40 := o.2.2.2.2.2.2.2.2.2.2.1
        let l41 := o.2.2.2.2.2.2.2.2.2.2.2.1
        let l1013 := o.2.2.2.2.2.2.2.2.2.2.2.2.1
        if x56 then (
          some (Sum.inr (([] : List ((List UInt8) × Int)), ([] : List ((List UInt8) × (Int))), (2 : Int))))
        else (
          Option.bind (cents_Least (c18_1, x14)) fun x70 =>
          Option.bind (show Option (((Int) × (List ((List UInt8) × (Int))) × (List ((List UInt8) × ((List UInt8) × Int × Int))) × (Int) × (Int) × (List ((List UInt8) × Int)) × (Int) × (Int) × (List UInt8) × (Int) × (List ((List UInt8) × (Int))) × (List ((List UInt8) × (Int))) × (List ((List UInt8) × Int)) × (Unit) × (Unit) × (Unit) × (Unit) × (Unit) × Unit)) from (
            let x75 := alGet (eqZ .str) (zeroT (.agg (.cons .str (.cons (.int .i64) (.one (.int .i64)))))) c18_0 x11
            if x75.2 then (
              Option.bind (cents_Greatest (x0, (0 : Int))) fun x81 =>
              let x86 := (alGet (eqZ .str) (zeroT (.int .i64)) c18_0 l40).1
              let x90 := (alGet (eqZ .str) (zeroT (.int .i64)) c18_0 l41).1
              Option.bind (before_room (x81, (x75.1.1, x75.1.2.1, x75.1.2.2), x86, x90)) fun x91 =>
              Option.bind (cents_Least (x70, x91)) fun x92 =>
              some (x0, x1, x11, x14, x92, x45, x46, x47, c18_0, c18_1, l40, l41, l1013, (), (), (), (), (), ()))
            else (
              some (x0, x1, x11, x14, x70, x45, x46, x47, c18_0, c18_1, l40, l41, l1013, (), (), (), (), (), ())))) fun o =>
          let x0 := o.1
          let x1 := o.2.1
          let x11 := o.2.2.1
          let x14 := o.2.2.2.1
          let x19 := o.2.2.2.2.1
          let x45 := o.2.2.2.2.2.1
          let x46 := o.2.2.2.2.2.2.1
          let x47 := o.2.2.2.2.2.2.2.1
          let c18_0 := o.2.2.2.2.2.2.2.2.1
          let c18_1 := o.2.2.2.2.2.2.2.2.2.1
          let l40 := o.2.2.2.2.2.2.2.2.2.2.1
          let l41 := o.2.2.2.2.2.2.2.2.2.2.2.1
          let l1013 := o.2.2.2.2.2.2.2.2.2.2.2.2.1
          let x96 := (alGet (eqZ .str) (zeroT (.int .i64)) c18_0 l41).1
          let x98 := IntKind.i64.wrap (x96 + x19)
          Option.bind (before_right x98) fun x99 =>
          let x100 := (!x99)
          if x100 then (
            some (Sum.inr (([] : List ((List UInt8) × Int)), ([] : List ((List UInt8) × (Int))), (9 : Int))))
          else (
            let x103 := IntKind.i64.wrap (x14 - x19)
            let x107 := (alGet (eqZ .str) (zeroT (.int .i64)) c18_0 l40).1
            let x109 := IntKind.i64.wrap (x107 + x19)
            let l40 := alPut (eqZ .str) c18_0 x109 l40
            let x113 := (alGet (eqZ .str) (zeroT (.int .i64)) c18_0 l41).1
            let x115 := IntKind.i64.wrap (x113 + x19)
            let l41 := alPut (eqZ .str) c18_0 x115 l41
            let x117 := (decide (x19 > (0 : Int)))
            if x117 then (
              let l123 := ([(c18_0, x19)] : List ((List UInt8) × Int))
              Option.bind (if ((l1013.length : Int) + (l123.length : Int)) * (24 : Int) ≤ 140737488355328 ∧ (l1013.length : Int) + (l123.length : Int) ≤ 4611686018427387904 then some (l1013 ++ l123) else none) fun l1013 =>
              some (Sum.inl (x0, x1, x11, x103, x45, x46, x47, l40, l41, l1013, (), (), (), ())))
            else (
              some (Sum.inl (x0, x1, x11, x103, x45, x46, x47, l40, l41, l1013, (), (), (), ())))))))) fun o =>
    match o with
    | Sum.inl p1 => (
      let x0 := p1.1
      let x1 := p1.2.1
      let x11 := p1.2.2.1
      let x14 := p1.2.2.2.1
      let x45 := p1.2.2.2.2.1
      let x46 := p1.2.2.2.2.2.1
      let x47 := p1.2.2.2.2.2.2.1
      let l40 := p1.2.2.2.2.2.2.2.1
      let l41 := p1.2.2.2.2.2.2.2.2.1
      let l1013 := p1.2.2.2.2.2.2.2.2.2.1
      let x125 := IntKind.i64.wrap (x47 + (1 : Int))
      some (Sum.inl (x0, x1, x11, x14, x45, x46, x125, l40, l41, l1013, (), (), (), ())))
    | Sum.inr q2 => (
      some (Sum.inr (Sum.inr q2))))
  else (
    some (Sum.inr (Sum.inl (l41, l1013, (), (), ()))))
noncomputable def before_Take (a : Int × (List ((List UInt8) × (Int))) × (List ((List UInt8) × Int)) × (List ((List UInt8) × Int × Int))) : Option ((List ((List UInt8) × Int)) × (List ((List UInt8) × (Int))) × Int) :=
  let x0 := a.1
  let x1 := a.2.1
  let x2 := a.2.2.1
  let x3 := a.2.2.2
  Option.bind (cents_Fits x0) fun x23 =>
  let x24 := (!x23)
  if x24 then (
    some (([] : List ((List UInt8) × Int)), ([] : List ((List UInt8) × (Int))), (2 : Int)))
  else (
    Option.bind (before_bounds x3) fun x27 =>
    let x32 := (x27.2 != (0 : Int))
    if x32 then (
      some (([] : List ((List UInt8) × Int)), ([] : List ((List UInt8) × (Int))), x27.2))
    else (
      let x36 := (x2.length : Int)
      let x37 := (decide (x36 > (64 : Int)))
      if x37 then (
        some (([] : List ((List UInt8) × Int)), ([] : List ((List UInt8) × (Int))), (5 : Int)))
      else (
        Option.bind (cents_Greatest (x0, (0 : Int))) fun x39 =>
        Option.bind (mcopyP ([] : List ((List UInt8) × (Int))) x1) fun l41 =>
        let x46 := (x2.length : Int)
        Option.bind (iter before_Take_loop1 (x0, x1, x27.1, x39, x2, x46, (0 : Int), ([] : List ((List UInt8) × (Int))), l41, ([] : List ((List UInt8) × Int)), (), (), (), ())) fun o =>
        match o with
        | Sum.inl p3 => (
          let l41 := p3.1
          let l1013 := p3.2.1
          some (l1013, l41, (0 : Int)))
        | Sum.inr q4 => (
          some q4))))
noncomputable def before_After_loop1 (s : (Int) × (List ((List UInt8) × Int)) × (Int) × (Int) × (List ((List UInt8) × Int)) × (Unit) × Unit) : Option (((Int) × (List ((List UInt8) × Int)) × (Int) × (Int) × (List ((List UInt8) × Int)) × (Unit) × Unit) ⊕ (((Int) × (List ((List UInt8) × Int)) × (Unit) × Unit))) :=
  let x0 := s.1
  let x10 := s.2.1
  let x11 := s.2.2.1
  let x12 := s.2.2.2.1
  let l1006 := s.2.2.2.2.1
  let x13 := (decide (x12 < x11))
  if x13 then (
    Option.bind (show Option (((Int) × (List ((List UInt8) × Int)) × (Int) × (Int) × (List ((List UInt8) × Int)) × (Unit) × Unit)) from (
      Option.bind ((lAt x10 x12).map (fun y => y)) fun x14 =>
      Option.bind (cents_Least (x14.2, x0)) fun x19 =>
      let x21 := (decide (x19 > (0 : Int)))
      if x21 then (
        let l27 := ([(x14.1, x19)] : List ((List UInt8) × Int))
        Option.bind (if ((l1006.length : Int) + (l27.length : Int)) * (24 : Int) ≤ 140737488355328 ∧ (l1006.length : Int) + (l27.length : Int) ≤ 4611686018427387904 then some (l1006 ++ l27) else none) fun l1006 =>
        let x31 := IntKind.i64.wrap (x0 - x19)
        some (x31, x10, x11, x12, l1006, (), ()))
      else (
        some (x0, x10, x11, x12, l1006, (), ())))) fun o =>
    let x0 := o.1
    let x10 := o.2.1
    let x11 := o.2.2.1
    let x12 := o.2.2.2.1
    let l1006 := o.2.2.2.2.1
    let x32 := IntKind.i64.wrap (x12 + (1 : Int))
    some (Sum.inl (x0, x10, x11, x32, l1006, (), ())))
  else (
    some (Sum.inr (x0, l1006, (), ())))
noncomputable def before_After (a : Int × (List ((List UInt8) × Int))) : Option ((List ((List UInt8) × Int)) × Int) :=
  let x0 := a.1
  let x1 := a.2
  let x11 := (x1.length : Int)
  Option.bind (iter before_After_loop1 (x0, x1, x11, (0 : Int), ([] : List ((List UInt8) × Int)), (), ())) fun o =>
  let x0 := o.1
  let l1006 := o.2.1
  some (l1006, x0)
noncomputable def law25_awake (a : Unit) : Option (Bool) :=
  let l8 := ([(([112, 101, 110, 115, 105, 111, 110] : List UInt8), (30000 : Int))] : List ((List UInt8) × Int))
  let l10 := ([(([112, 101, 110, 115, 105, 111, 110] : List UInt8), (100000 : Int), (0 : Int))] : List ((List UInt8) × Int × Int))
  Option.bind (before_Take ((100000 : Int), ([] : List ((List UInt8) × (Int))), l8, l10)) fun x11 =>
  let l18 := ([(([97] : List UInt8), (3000 : Int)), (([98] : List UInt8), (3000 : Int))] : List ((List UInt8) × Int))
  Option.bind (before_After ((5000 : Int), l18)) fun x19 =>
  let x23 := (x11.2.2 == (0 : Int))
  let x25 := (if x23 = true then some x11.1 else none)
  Option.bind (if x23 = true then (x25.map (fun z67 => (z67.length : Int))).map some else some none) fun x26 =>
  Option.bind (if x23 = true then ((x26.bind (fun z68 => some (z68, (1 : Int)))).map (fun z70 => (z70.1 == z70.2))).map some else some none) fun x27 =>
  Option.bind (if x23 then x27 else some false) fun x28 =>
  let x30 := (if x28 = true then some x11.1 else none)
  Option.bind (if x28 = true then ((x30.bind (fun z71 => some (z71, (0 : Int)))).bind (fun z73 => (lAt z73.1 z73.2).map (fun y => y))).map some else some none) fun x31 =>
  Option.bind (if x28 = true then (x31.map (fun z74 => z74.2)).map some else some none) fun x32 =>
  Option.bind (if x28 = true then (x32.map (fun z75 => z75)).map some else some none) fun x33 =>
  Option.bind (if x28 = true then ((x33.bind (fun z76 => some (z76, (10000 : Int)))).map (fun z78 => (z78.1 == z78.2))).map some else some none) fun x34 =>
  Option.bind (if x28 then x34 else some false) fun x35 =>
  let x37 := (if x35 = true then some x11.2.1 else none)
  Option.bind (if x35 = true then ((x37.bind (fun z79 => some (z79, ([112, 101, 110, 115, 105, 111, 110] : List UInt8)))).map (fun z81 => (alGet (eqZ .str) (zeroT (.int .i64)) z81.2 z81.1).1)).map some else some none) fun x38 =>
  Option.bind (if x35 = true then ((x38.bind (fun z82 => some (z82, (10000 : Int)))).map (fun z84 => (z84.1 == z84.2))).map some else some none) fun x39 =>
  Option.bind (if x35 then x39 else some false) fun x40 =>
  let x42 := (if x40 = true then some x19.1 else none)
  Option.bind (if x40 = true then (x42.map (fun z85 => (z85.length : Int))).map some else some none) fun x43 =>
  Option.bind (if x40 = true then ((x43.bind (fun z86 => some (z86, (2 : Int)))).map (fun z88 => (z88.1 == z88.2))).map some else some none) fun x44 =>
  Option.bind (if x40 then x44 else some false) fun x45 =>
  let x47 := (if x45 = true then some x19.1 else none)
  Option.bind (if x45 = true then ((x47.bind (fun z89 => some (z89, (1 : Int)))).bind (fun z91 => (lAt z91.1 z91.2).map (fun y => y))).map some else some none) fun x48 =>
  Option.bind (if x45 = true then (x48.map (fun z92 => z92.2)).map some else some none) fun x49 =>
  Option.bind (if x45 = true then (x49.map (fun z93 => z93)).map some else some none) fun x50 =>
  Option.bind (if x45 = true then ((x50.bind (fun z94 => some (z94, (2000 : Int)))).map (fun z96 => (z96.1 == z96.2))).map some else some none) fun x51 =>
  Option.bind (if x45 then x51 else some false) fun x52 =>
  let x54 := (if x52 = true then some x19.2 else none)
  Option.bind (if x52 = true then ((x54.bind (fun z97 => some (z97, (0 : Int)))).map (fun z99 => (z99.1 == z99.2))).map some else some none) fun x55 =>
  Option.bind (if x52 then x55 else some false) fun x56 =>
  some x56
noncomputable def law25_table_loop1 (s : (List ((List UInt8) × Int)) × (Int) × (List ((List UInt8) × (Int))) × (List ((List UInt8) × Int)) × (Unit) × (Unit) × Unit) : Option (((List ((List UInt8) × Int)) × (Int) × (List ((List UInt8) × (Int))) × (List ((List UInt8) × Int)) × (Unit) × (Unit) × Unit) ⊕ (((List ((List UInt8) × (Int))) × (List ((List UInt8) × Int)) × (Unit) × (Unit) × Unit))) :=
  let x0 := s.1
  let x6 := s.2.1
  let l9 := s.2.2.1
  let l1005 := s.2.2.2.1
  let x12 := (x0.length : Int)
  let x13 := (decide (x6 < x12))
  if x13 then (
    Option.bind (show Option (((List ((List UInt8) × Int)) × (Int) × (List ((List UInt8) × (Int))) × (List ((List UInt8) × Int)) × (Unit) × (Unit) × Unit)) from (
      Option.bind ((lAt x0 x6).map (fun y => y)) fun x20 =>
      let x23 := alGet (eqZ .str) (zeroT (.int .i64)) x20.1 l9
      let x27 := (!x23.2)
      if x27 then (
        Option.bind ((lAt x0 x6).map (fun y => y)) fun x31 =>
        Option.bind ((lAt x0 x6).map (fun y => y)) fun x36 =>
        let l9 := alPut (eqZ .str) x31.1 x36.2 l9
        Option.bind ((lAt x0 x6).map (fun y => y)) fun x42 =>
        let l44 := ([x42] : List ((List UInt8) × Int))
        Option.bind (if ((l1005.length : Int) + (l44.length : Int)) * (24 : Int) ≤ 140737488355328 ∧ (l1005.length : Int) + (l44.length : Int) ≤ 4611686018427387904 then some (l1005 ++ l44) else none) fun l1005 =>
        some (x0, x6, l9, l1005, (), (), ()))
      else (
        some (x0, x6, l9, l1005, (), (), ())))) fun o =>
    let x0 := o.1
    let x6 := o.2.1
    let l9 := o.2.2.1
    let l1005 := o.2.2.2.1
    let x15 := IntKind.i64.wrap (x6 + (1 : Int))
    some (Sum.inl (x0, x15, l9, l1005, (), (), ())))
  else (
    some (Sum.inr (l9, l1005, (), (), ())))
noncomputable def law25_table (a : (List ((List UInt8) × Int))) : Option ((List ((List UInt8) × (Int))) × (List ((List UInt8) × Int))) :=
  let x0 := a
  Option.bind (iter law25_table_loop1 (x0, (0 : Int), ([] : List ((List UInt8) × (Int))), ([] : List ((List UInt8) × Int)), (), (), ())) fun o =>
  let l9 := o.1
  let l1005 := o.2.1
  some (l9, l1005)
noncomputable def ref25_Name_loop1 (s : (List UInt8) × (Int) × Unit) : Option (((List UInt8) × (Int) × Unit) ⊕ ((Unit) ⊕ (Bool))) :=
  let x0 := s.1
  let x3 := s.2.1
  let x17 := (x0.length : Int)
  let x18 := (decide (x3 < x17))
  if x18 then (
    Option.bind (sAt x0 x3) fun x23 =>
    let x24 := (decide (x23 ≥ (97 : Int)))
    let x26 := (if x24 = true then some x0 else none)
    let x27 := (if x24 = true then some x3 else none)
    Option.bind (if x24 = true then ((x26.bind (fun z538 => x27.map (fun z539 => (z538, z539)))).bind (fun z540 => sAt z540.1 z540.2)).map some else some none) fun x28 =>
    Option.bind (if x24 = true then ((x28.bind (fun z541 => some (z541, (122 : Int)))).map (fun z543 => (decide (z543.1 ≤ z543.2)))).map some else some none) fun x29 =>
    Option.bind (if x24 then x29 else some false) fun x30 =>
    let x32 := (if x30 = false then some x0 else none)
    let x33 := (if x30 = false then some x3 else none)
    Option.bind (if x30 = false then ((x32.bind (fun z544 => x33.map (fun z545 => (z544, z545)))).bind (fun z546 => sAt z546.1 z546.2)).map some else some none) fun x34 =>
    Option.bind (if x30 = false then ((x34.bind (fun z547 => some (z547, (48 : Int)))).map (fun z549 => (decide (z549.1 ≥ z549.2)))).map some else some none) fun x35 =>
    Option.bind (if x30 = false then x35.map some else some none) fun x36 =>
    let x37 := (if x36 = some true then some x0 else none)
    let x38 := (if x36 = some true then some x3 else none)
    Option.bind (if x36 = some true then ((x37.bind (fun z550 => x38.map (fun z551 => (z550, z551)))).bind (fun z552 => sAt z552.1 z552.2)).map some else some none) fun x39 =>
    Option.bind (if x36 = some true then ((x39.bind (fun z553 => some (z553, (57 : Int)))).map (fun z555 => (decide (z555.1 ≤ z555.2)))).map some else some none) fun x40 =>
    Option.bind (if x30 = false then (x36.bind (fun z556 => if z556 then x40 else some false)).map some else some none) fun x41 =>
    Option.bind (if x30 then some true else x41.map (fun z557 => z557)) fun x42 =>
    let x44 := (if x42 = false then some x0 else none)
    let x45 := (if x42 = false then some x3 else none)
    Option.bind (if x42 = false then ((x44.bind (fun z558 => x45.map (fun z559 => (z558, z559)))).bind (fun z560 => sAt z560.1 z560.2)).map some else some none) fun x46 =>
    Option.bind (if x42 = false then ((x46.bind (fun z561 => some (z561, (46 : Int)))).map (fun z563 => (z563.1 == z563.2))).map some else some none) fun x47 =>
    Option.bind (if x42 then some true else x47.map (fun z564 => z564)) fun x48 =>
    let x50 := (if x48 = false then some x0 else none)
    let x51 := (if x48 = false then some x3 else none)
    Option.bind (if x48 = false then ((x50.bind (fun z565 => x51.map (fun z566 => (z565, z566)))).bind (fun z567 => sAt z567.1 z567.2)).map some else some none) fun x52 =>
    Option.bind (if x48 = false then ((x52.bind (fun z568 => some (z568, (95 : Int)))).map (fun z570 => (z570.1 == z570.2))).map some else some none) fun x53 =>
    Option.bind (if x48 then some true else x53.map (fun z571 => z571)) fun x54 =>
    let x56 := (if x54 = false then some x0 else none)
    let x57 := (if x54 = false then some x3 else none)
    Option.bind (if x54 = false then ((x56.bind (fun z572 => x57.map (fun z573 => (z572, z573)))).bind (fun z574 => sAt z574.1 z574.2)).map some else some none) fun x58 =>
    Option.bind (if x54 = false then ((x58.bind (fun z575 => some (z575, (45 : Int)))).map (fun z577 => (z577.1 == z577.2))).map some else some none) fun x59 =>
    Option.bind (if x54 then some true else x59.map (fun z578 => z578)) fun x60 =>
    let x61 := (!x60)
    if x61 then (
      some (Sum.inr (Sum.inr false)))
    else (
      let x20 := IntKind.i64.wrap (x3 + (1 : Int))
      some (Sum.inl (x0, x20, ()))))
  else (
    some (Sum.inr (Sum.inl (()))))
noncomputable def ref25_Name (a : (List UInt8)) : Option (Bool) :=
  let x0 := a
  let x5 := ((x0 == ([] : List UInt8)))
  let x7 := (if x5 = false then some x0 else none)
  Option.bind (if x5 = false then ((x7.bind (fun z37 => some (z37, ([45] : List UInt8)))).map (fun z39 => ((z39.1 == z39.2)))).map some else some none) fun x8 =>
  Option.bind (if x5 then some true else x8.map (fun z40 => z40)) fun x9 =>
  let x11 := (if x9 = false then some x0 else none)
  Option.bind (if x9 = false then (x11.map (fun z41 => (z41.length : Int))).map some else some none) fun x12 =>
  Option.bind (if x9 = false then ((x12.bind (fun z42 => some (z42, (32 : Int)))).map (fun z44 => (decide (z44.1 > z44.2)))).map some else some none) fun x13 =>
  Option.bind (if x9 then some true else x13.map (fun z45 => z45)) fun x14 =>
  if x14 then (
    some false)
  else (
    Option.bind (iter ref25_Name_loop1 (x0, (0 : Int), ())) fun o =>
    match o with
    | Sum.inl p579 => (
      some true)
    | Sum.inr q580 => (
      some q580))
noncomputable def ref25_Check_loop1 (s : (List ((List UInt8) × Int × Int)) × (Int) × (Int) × (List UInt8) × (Int) × (Int) × (Unit) × (Unit) × Unit) : Option (((List ((List UInt8) × Int × Int)) × (Int) × (Int) × (List UInt8) × (Int) × (Int) × (Unit) × (Unit) × Unit) ⊕ (((List ((List UInt8) × Int × Int)) × (Int) × (List UInt8) × (Int) × (Int) × (Unit) × (Unit) × Unit) ⊕ (Int))) :=
  let x0 := s.1
  let x3 := s.2.1
  let x5 := s.2.2.1
  let c4_0 := s.2.2.2.1
  let c4_1 := s.2.2.2.2.1
  let c4_2 := s.2.2.2.2.2.1
  let x25 := (decide (x5 < x3))
  if x25 then (
    Option.bind ((lAt x0 x5).map (fun y => y)) fun x30 =>
    let x35 := ((x30.1 == c4_0))
    if x35 then (
      some (Sum.inr (Sum.inr (7 : Int))))
    else (
      let x27 := IntKind.i64.wrap (x5 + (1 : Int))
      some (Sum.inl (x0, x3, x27, c4_0, c4_1, c4_2, (), (), ()))))
  else (
    some (Sum.inr (Sum.inl (x0, x3, c4_0, c4_1, c4_2, (), (), ()))))
noncomputable def ref25_Check_loop2 (s : (List ((List UInt8) × Int × Int)) × (Int) × Unit) : Option (((List ((List UInt8) × Int × Int)) × (Int) × Unit) ⊕ ((Unit) ⊕ (Int))) :=
  let x0 := s.1
  let x3 := s.2.1
  let x11 := (x0.length : Int)
  let x12 := (decide (x3 < x11))
  if x12 then (
    Option.bind ((lAt x0 x3).map (fun y => y)) fun x17 =>
    Option.bind (ref25_Name x17.1) fun x21 =>
    let x22 := (!x21)
    if x22 then (
      some (Sum.inr (Sum.inr (12 : Int))))
    else (
      Option.bind (iter ref25_Check_loop1 (x0, x3, (0 : Int), x17.1, x17.2.1, x17.2.2, (), (), ())) fun o =>
      match o with
      | Sum.inl p151 => (
        let x0 := p151.1
        let x3 := p151.2.1
        let c4_0 := p151.2.2.1
        let c4_1 := p151.2.2.2.1
        let c4_2 := p151.2.2.2.2.1
        let x38 := (decide (c4_1 < (0 : Int)))
        let x40 := (if x38 = false then some () else none)
        Option.bind (if x38 = false then (x40.map (fun z183 => c4_1)).map some else some none) fun x41 =>
        Option.bind (if x38 = false then ((x41.bind (fun z184 => some (z184, (1000000 : Int)))).map (fun z186 => (decide (z186.1 > z186.2)))).map some else some none) fun x42 =>
        Option.bind (if x38 then some true else x42.map (fun z187 => z187)) fun x43 =>
        let x45 := (if x43 = false then some () else none)
        Option.bind (if x43 = false then (x45.map (fun z188 => c4_2)).map some else some none) fun x46 =>
        Option.bind (if x43 = false then ((x46.bind (fun z189 => some (z189, (0 : Int)))).map (fun z191 => (decide (z191.1 < z191.2)))).map some else some none) fun x47 =>
        Option.bind (if x43 then some true else x47.map (fun z192 => z192)) fun x48 =>
        let x50 := (if x48 = false then some () else none)
        Option.bind (if x48 = false then (x50.map (fun z193 => c4_2)).map some else some none) fun x51 =>
        Option.bind (if x48 = false then ((x51.bind (fun z194 => some (z194, (1125899906842624 : Int)))).map (fun z196 => (decide (z196.1 > z196.2)))).map some else some none) fun x52 =>
        Option.bind (if x48 then some true else x52.map (fun z197 => z197)) fun x53 =>
        if x53 then (
          some (Sum.inr (Sum.inr (2 : Int))))
        else (
          let x14 := IntKind.i64.wrap (x3 + (1 : Int))
          some (Sum.inl (x0, x14, ()))))
      | Sum.inr q152 => (
        some (Sum.inr (Sum.inr q152)))))
  else (
    some (Sum.inr (Sum.inl (()))))
noncomputable def ref25_Check (a : (List ((List UInt8) × Int × Int))) : Option (Int) :=
  let x0 := a
  let x7 := (x0.length : Int)
  let x8 := (decide (x7 > (64 : Int)))
  if x8 then (
    some (5 : Int))
  else (
    Option.bind (iter ref25_Check_loop2 (x0, (0 : Int), ())) fun o =>
    match o with
    | Sum.inl p198 => (
      some (0 : Int))
    | Sum.inr q199 => (
      some q199))
noncomputable def ref25_At_loop1 (s : (List ((List UInt8) × Int)) × (List UInt8) × (Int) × Unit) : Option (((List ((List UInt8) × Int)) × (List UInt8) × (Int) × Unit) ⊕ ((Unit) ⊕ (Int))) :=
  let x0 := s.1
  let x1 := s.2.1
  let x5 := s.2.2.1
  let x8 := (x0.length : Int)
  let x9 := (decide (x5 < x8))
  if x9 then (
    Option.bind ((lAt x0 x5).map (fun y => y)) fun x14 =>
    let x18 := ((x14.1 == x1))
    if x18 then (
      Option.bind ((lAt x0 x5).map (fun y => y)) fun x21 =>
      some (Sum.inr (Sum.inr x21.2)))
    else (
      let x11 := IntKind.i64.wrap (x5 + (1 : Int))
      some (Sum.inl (x0, x1, x11, ()))))
  else (
    some (Sum.inr (Sum.inl (()))))
noncomputable def ref25_At (a : (List ((List UInt8) × Int)) × (List UInt8)) : Option (Int) :=
  let x0 := a.1
  let x1 := a.2
  Option.bind (iter ref25_At_loop1 (x0, x1, (0 : Int), ())) fun o =>
  match o with
  | Sum.inl p1 => (
    some (0 : Int))
  | Sum.inr q2 => (
    some q2)
noncomputable def ref25_part (a : Int × Int) : Option (Int) :=
  let x0 := a.1
  let x1 := a.2
  Option.bind (if (1000000 : Int) = 0 then none else some (IntKind.i64.wrap (x0.tdiv (1000000 : Int)))) fun x10 =>
  Option.bind (if (1000000 : Int) = 0 then none else some (x0.tmod (1000000 : Int))) fun x12 =>
  let x15 := IntKind.i64.wrap (x12 * x1)
  let x18 := IntKind.i64.wrap (x10 * x1)
  Option.bind (if (1000000 : Int) = 0 then none else some (IntKind.i64.wrap (x15.tdiv (1000000 : Int)))) fun x20 =>
  let x21 := IntKind.i64.wrap (x18 + x20)
  Option.bind (show Option (((Int) × Unit)) from (
    Option.bind (if (1000000 : Int) = 0 then none else some (x15.tmod (1000000 : Int))) fun x23 =>
    let x24 := IntKind.i64.wrap ((2 : Int) * x23)
    let x25 := (decide (x24 ≥ (1000000 : Int)))
    if x25 then (
      let x27 := IntKind.i64.wrap (x21 + (1 : Int))
      some (x27, ()))
    else (
      some (x21, ())))) fun o =>
  let x8 := o.1
  some x8
noncomputable def ref25_Set_loop1 (s : (List ((List UInt8) × Int)) × (List UInt8) × (Int) × (Int) × (List ((List UInt8) × Int)) × (Unit) × Unit) : Option (((List ((List UInt8) × Int)) × (List UInt8) × (Int) × (Int) × (List ((List UInt8) × Int)) × (Unit) × Unit) ⊕ (((List UInt8) × (Int) × (List ((List UInt8) × Int)) × (Unit) × Unit))) :=
  let x0 := s.1
  let x1 := s.2.1
  let x2 := s.2.2.1
  let x8 := s.2.2.2.1
  let l1007 := s.2.2.2.2.1
  let x11 := (x0.length : Int)
  let x12 := (decide (x8 < x11))
  if x12 then (
    Option.bind (show Option (((List ((List UInt8) × Int)) × (List UInt8) × (Int) × (Int) × (List ((List UInt8) × Int)) × (Unit) × Unit)) from (
      Option.bind ((lAt x0 x8).map (fun y => y)) fun x17 =>
      let x21 := (!(x17.1 == x1))
      if x21 then (
        Option.bind ((lAt x0 x8).map (fun y => y)) fun x25 =>
        let l27 := ([x25] : List ((List UInt8) × Int))
        Option.bind (if ((l1007.length : Int) + (l27.length : Int)) * (24 : Int) ≤ 140737488355328 ∧ (l1007.length : Int) + (l27.length : Int) ≤ 4611686018427387904 then some (l1007 ++ l27) else none) fun l1007 =>
        some (x0, x1, x2, x8, l1007, (), ()))
      else (
        some (x0, x1, x2, x8, l1007, (), ())))) fun o =>
    let x0 := o.1
    let x1 := o.2.1
    let x2 := o.2.2.1
    let x8 := o.2.2.2.1
    let l1007 := o.2.2.2.2.1
    let x14 := IntKind.i64.wrap (x8 + (1 : Int))
    some (Sum.inl (x0, x1, x2, x14, l1007, (), ())))
  else (
    some (Sum.inr (x1, x2, l1007, (), ())))
noncomputable def ref25_Set (a : (List ((List UInt8) × Int)) × (List UInt8) × Int) : Option (List ((List UInt8) × Int)) :=
  let x0 := a.1
  let x1 := a.2.1
  let x2 := a.2.2
  Option.bind (iter ref25_Set_loop1 (x0, x1, x2, (0 : Int), ([] : List ((List UInt8) × Int)), (), ())) fun o =>
  let x1 := o.1
  let x2 := o.2.1
  let l1007 := o.2.2.1
  let l33 := ([(x1, x2)] : List ((List UInt8) × Int))
  Option.bind (if ((l1007.length : Int) + (l33.length : Int)) * (24 : Int) ≤ 140737488355328 ∧ (l1007.length : Int) + (l33.length : Int) ≤ 4611686018427387904 then some (l1007 ++ l33) else none) fun l1007 =>
  some l1007
noncomputable def ref25_Take_loop1 (s : (Int) × (List ((List UInt8) × Int)) × (List ((List UInt8) × Int)) × (List ((List UInt8) × Int × Int)) × (List ((List UInt8) × Int)) × (Int) × (Int) × (Int) × (Int) × (Int) × (Int) × (List UInt8) × (Int) × (List ((List UInt8) × Int)) × (Unit) × (Unit) × (Unit) × Unit) : Option (((Int) × (List ((List UInt8) × Int)) × (List ((List UInt8) × Int)) × (List ((List UInt8) × Int × Int)) × (List ((List UInt8) × Int)) × (Int) × (Int) × (Int) × (Int) × (Int) × (Int) × (List UInt8) × (Int) × (List ((List UInt8) × Int)) × (Unit) × (Unit) × (Unit) × Unit) ⊕ (((Int) × (List ((List UInt8) × Int)) × (List ((List UInt8) × Int)) × (List ((List UInt8) × Int × Int)) × (List ((List UInt8) × Int)) × (Int) × (Int) × (Int) × (Int) × (Int) × (List UInt8) × (Int) × (List ((List UInt8) × Int)) × (Unit) × (Unit) × (Unit) × Unit))) :=
  let x0 := s.1
  let x1 := s.2.1
  let x2 := s.2.2.1
  let x3 := s.2.2.2.1
  let x13 := s.2.2.2.2.1
  let x14 := s.2.2.2.2.2.1
  let x15 := s.2.2.2.2.2.2.1
  let x17 := s.2.2.2.2.2.2.2.1
  let x18 := s.2.2.2.2.2.2.2.2.1
  let x19 := s.2.2.2.2.2.2.2.2.2.1
  let x20 := s.2.2.2.2.2.2.2.2.2.2.1
  let c16_0 := s.2.2.2.2.2.2.2.2.2.2.2.1
  let c16_1 := s.2.2.2.2.2.2.2.2.2.2.2.2.1
  let l1012 := s.2.2.2.2.2.2.2.2.2.2.2.2.2.1
  let x82 := (x3.length : Int)
  let x83 := (decide (x20 < x82))
  if x83 then (
    Option.bind (show Option (((Int) × (List ((List UInt8) × Int)) × (List ((List UInt8) × Int)) × (List ((List UInt8) × Int × Int)) × (List ((List UInt8) × Int)) × (Int) × (Int) × (Int) × (Int) × (Int) × (Int) × (List UInt8) × (Int) × (List ((List UInt8) × Int)) × (Unit) × (Unit) × (Unit) × Unit)) from (
      Option.bind ((lAt x3 x20).map (fun y => y)) fun x88 =>
      let x93 := (!(x88.1 == c16_0))
      if x93 then (
        some (x0, x1, x2, x3, x13, x14, x15, x17, x18, x19, x20, c16_0, c16_1, l1012, (), (), (), ()))
      else (
        Option.bind (show Option (((Int) × (List ((List UInt8) × Int)) × (List ((List UInt8) × Int)) × (List ((List UInt8) × Int × Int)) × (List ((List UInt8) × Int)) × (Int) × (Int) × (Int) × (Int) × (Int) × (Int) × (List UInt8) × (Int) × (List ((List UInt8) × Int)) × (Unit) × (Unit) × (Unit) × Unit)) from (
          Option.bind ((lAt x3 x20).map (fun y => y)) fun x96 =>
          let x99 := (x96.2.1 != (1000000 : Int))
          if x99 then (
            let x102 := (max (0 : Int) x0)
            Option.bind ((lAt x3 x20).map (fun y => y)) fun x105 =>
            Option.bind (ref25_part (x102, x105.2.1)) fun x108 =>
            let x110 := IntKind.i64.wrap (x108 - x18)
            let x111 := (max (0 : Int) x110)
            let x112 := (min x19 x111)
            some (x0, x1, x2, x3, x13, x14, x15, x17, x18, x112, x20, c16_0, c16_1, l1012, (), (), (), ()))
          else (
            some (x0, x1, x2, x3, x13, x14, x15, x17, x18, x19, x20, c16_0, c16_1, l1012, (), (), (), ())))) fun o =>
        let x0 := o.1
        let x1 := o.2.1
        let x2 := o.2.2.1
        let x3 := o.2.2.2.1
        let x13 := o.2.2.2.2.1
        let x14 := o.2.2.2.2.2.1
        let x15 := o.2.2.2.2.2.2.1
        let x17 := o.2.2.2.2.2.2.2.1
        let x18 := o.2.2.2.2.2.2.2.2.1
        let x19 := o.2.2.2.2.2.2.2.2.2.1
        let x20 := o.2.2.2.2.2.2.2.2.2.2.1
        let c16_0 := o.2.2.2.2.2.2.2.2.2.2.2.1
        let c16_1 := o.2.2.2.2.2.2.2.2.2.2.2.2.1
        let l1012 := o.2.2.2.2.2.2.2.2.2.2.2.2.2.1
        Option.bind ((lAt x3 x20).map (fun y => y)) fun x115 =>
        let x118 := (x115.2.2 != (0 : Int))
        if x118 then (
          Option.bind ((lAt x3 x20).map (fun y => y)) fun x122 =>
          let x126 := IntKind.i64.wrap (x122.2.2 - x17)
          let x128 := IntKind.i64.wrap (x126 - x18)
          let x129 := (max (0 : Int) x128)
          let x130 := (min x19 x129)
          some (x0, x1, x2, x3, x13, x14, x15, x17, x18, x130, x20, c16_0, c16_1, l1012, (), (), (), ()))
        else (
          some (x0, x1, x2, x3, x13, x14, x15, x17, x18, x19, x20, c16_0, c16_1, l1012, (), (), (), ()))))) fun o =>
    let x0 := o.1
    let x1 := o.2.1
    let x2 := o.2.2.1
    let x3 := o.2.2.2.1
    let x13 := o.2.2.2.2.1
    let x14 := o.2.2.2.2.2.1
    let x15 := o.2.2.2.2.2.2.1
    let x17 := o.2.2.2.2.2.2.2.1
    let x18 := o.2.2.2.2.2.2.2.2.1
    let x19 := o.2.2.2.2.2.2.2.2.2.1
    let x20 := o.2.2.2.2.2.2.2.2.2.2.1
    let c16_0 := o.2.2.2.2.2.2.2.2.2.2.2.1
    let c16_1 := o.2.2.2.2.2.2.2.2.2.2.2.2.1
    let l1012 := o.2.2.2.2.2.2.2.2.2.2.2.2.2.1
    let x85 := IntKind.i64.wrap (x20 + (1 : Int))
    some (Sum.inl (x0, x1, x2, x3, x13, x14, x15, x17, x18, x19, x85, c16_0, c16_1, l1012, (), (), (), ())))
  else (
    some (Sum.inr (x0, x1, x2, x3, x13, x14, x15, x17, x18, x19, c16_0, c16_1, l1012, (), (), (), ())))
noncomputable def ref25_Take_loop2 (s : (List ((List UInt8) × Int)) × (List ((List UInt8) × Int)) × (Int) × (List ((List UInt8) × Int)) × (Unit) × Unit) : Option (((List ((List UInt8) × Int)) × (List ((List UInt8) × Int)) × (Int) × (List ((List UInt8) × Int)) × (Unit) × Unit) ⊕ (((List ((List UInt8) × Int)) × (List ((List UInt8) × Int)) × (Unit) × Unit))) :=
  let x1 := s.1
  let x13 := s.2.1
  let x21 := s.2.2.1
  let l1012 := s.2.2.2.1
  let x158 := (x13.length : Int)
  let x159 := (decide (x21 < x158))
  if x159 then (
    Option.bind ((lAt x13 x21).map (fun y => y)) fun x165 =>
    Option.bind ((lAt x13 x21).map (fun y => y)) fun x171 =>
    Option.bind (ref25_At (x1, x171.1)) fun x174 =>
    Option.bind ((lAt x13 x21).map (fun y => y)) fun x177 =>
    let x180 := IntKind.i64.wrap (x174 + x177.2)
    Option.bind (ref25_Set (x1, x165.1, x180)) fun x181 =>
    let x161 := IntKind.i64.wrap (x21 + (1 : Int))
    some (Sum.inl (x181, x13, x161, l1012, (), ())))
  else (
    some (Sum.inr (x1, l1012, (), ())))
noncomputable def ref25_Take_loop3 (s : (Int) × (List ((List UInt8) × Int)) × (List ((List UInt8) × Int)) × (List ((List UInt8) × Int × Int)) × (List ((List UInt8) × Int)) × (Int) × (Int) × (List ((List UInt8) × Int)) × (Unit) × Unit) : Option (((Int) × (List ((List UInt8) × Int)) × (List ((List UInt8) × Int)) × (List ((List UInt8) × Int × Int)) × (List ((List UInt8) × Int)) × (Int) × (Int) × (List ((List UInt8) × Int)) × (Unit) × Unit) ⊕ (((List ((List UInt8) × Int)) × (List ((List UInt8) × Int)) × (List ((List UInt8) × Int)) × (Unit) × Unit) ⊕ ((List ((List UInt8) × Int)) × (List ((List UInt8) × Int)) × Int))) :=
  let x0 := s.1
  let x1 := s.2.1
  let x2 := s.2.2.1
  let x3 := s.2.2.2.1
  let x13 := s.2.2.2.2.1
  let x14 := s.2.2.2.2.2.1
  let x15 := s.2.2.2.2.2.2.1
  let l1012 := s.2.2.2.2.2.2.2.1
  let x39 := (x2.length : Int)
  let x40 := (decide (x15 < x39))
  if x40 then (
    Option.bind (show Option (((Int) × (List ((List UInt8) × Int)) × (List ((List UInt8) × Int)) × (List ((List UInt8) × Int × Int)) × (List ((List UInt8) × Int)) × (Int) × (Int) × (List ((List UInt8) × Int)) × (Unit) × Unit) ⊕ ((List ((List UInt8) × Int)) × (List ((List UInt8) × Int)) × Int)) from (
      Option.bind ((lAt x2 x15).map (fun y => y)) fun x45 =>
      Option.bind (ref25_At (x1, x45.1)) fun x50 =>
      Option.bind (ref25_Name x45.1) fun x53 =>
      let x54 := (!x53)
      if x54 then (
        some (Sum.inr (([] : List ((List UInt8) × Int)), ([] : List ((List UInt8) × Int)), (12 : Int))))
      else (
        let x57 := (decide (x45.2 < (0 : Int)))
        let x59 := (if x57 = false then some () else none)
        Option.bind (if x57 = false then (x59.map (fun z255 => x45.2)).map some else some none) fun x60 =>
        Option.bind (if x57 = false then ((x60.bind (fun z256 => some (z256, (1125899906842624 : Int)))).map (fun z258 => (decide (z258.1 > z258.2)))).map some else some none) fun x61 =>
        Option.bind (if x57 then some true else x61.map (fun z259 => z259)) fun x62 =>
        let x64 := (if x62 = false then some x50 else none)
        Option.bind (if x62 = false then ((x64.bind (fun z260 => some (z260, (0 : Int)))).map (fun z262 => (decide (z262.1 < z262.2)))).map some else some none) fun x65 =>
        Option.bind (if x62 then some true else x65.map (fun z263 => z263)) fun x66 =>
        let x68 := (if x66 = false then some x50 else none)
        Option.bind (if x66 = false then ((x68.bind (fun z264 => some (z264, (1125899906842624 : Int)))).map (fun z266 => (decide (z266.1 > z266.2)))).map some else some none) fun x69 =>
        Option.bind (if x66 then some true else x69.map (fun z267 => z267)) fun x70 =>
        if x70 then (
          some (Sum.inr (([] : List ((List UInt8) × Int)), ([] : List ((List UInt8) × Int)), (2 : Int))))
        else (
          Option.bind (ref25_At (x13, x45.1)) fun x74 =>
          let x78 := (min x45.2 x14)
          let x79 := (max (0 : Int) x78)
          Option.bind (iter ref25_Take_loop1 (x0, x1, x2, x3, x13, x14, x15, x50, x74, x79, (0 : Int), x45.1, x45.2, l1012, (), (), (), ())) fun o =>
          let x0 := o.1
          let x1 := o.2.1
          let x2 := o.2.2.1
          let x3 := o.2.2.2.1
          let x13 := o.2.2.2.2.1
          let x14 := o.2.2.2.2.2.1
          let x15 := o.2.2.2.2.2.2.1
          let x17 := o.2.2.2.2.2.2.2.1
          let x18 := o.2.2.2.2.2.2.2.2.1
          let x19 := o.2.2.2.2.2.2.2.2.2.1
          let c16_0 := o.2.2.2.2.2.2.2.2.2.2.1
          let c16_1 := o.2.2.2.2.2.2.2.2.2.2.2.1
          let l1012 := o.2.2.2.2.2.2.2.2.2.2.2.2.1
          let x133 := IntKind.i64.wrap ((1125899906842624 : Int) - x18)
          let x135 := IntKind.i64.wrap (x133 - x19)
          let x136 := (decide (x17 > x135))
          if x136 then (
            some (Sum.inr (([] : List ((List UInt8) × Int)), ([] : List ((List UInt8) × Int)), (9 : Int))))
          else (
            let x142 := IntKind.i64.wrap (x18 + x19)
            Option.bind (ref25_Set (x13, c16_0, x142)) fun x143 =>
            let x146 := IntKind.i64.wrap (x14 - x19)
            let x148 := (decide (x19 > (0 : Int)))
            if x148 then (
              let l154 := ([(c16_0, x19)] : List ((List UInt8) × Int))
              Option.bind (if ((l1012.length : Int) + (l154.length : Int)) * (24 : Int) ≤ 140737488355328 ∧ (l1012.length : Int) + (l154.length : Int) ≤ 4611686018427387904 then some (l1012 ++ l154) else none) fun l1012 =>
              some (Sum.inl (x0, x1, x2, x3, x143, x146, x15, l1012, (), ())))
            else (
              some (Sum.inl (x0, x1, x2, x3, x143, x146, x15, l1012, (), ())))))))) fun o =>
    match o with
    | Sum.inl p268 => (
      let x0 := p268.1
      let x1 := p268.2.1
      let x2 := p268.2.2.1
      let x3 := p268.2.2.2.1
      let x13 := p268.2.2.2.2.1
      let x14 := p268.2.2.2.2.2.1
      let x15 := p268.2.2.2.2.2.2.1
      let l1012 := p268.2.2.2.2.2.2.2.1
      let x42 := IntKind.i64.wrap (x15 + (1 : Int))
      some (Sum.inl (x0, x1, x2, x3, x13, x14, x42, l1012, (), ())))
    | Sum.inr q269 => (
      some (Sum.inr (Sum.inr q269))))
  else (
    some (Sum.inr (Sum.inl (x1, x13, l1012, (), ()))))
noncomputable def ref25_Take (a : Int × (List ((List UInt8) × Int)) × (List ((List UInt8) × Int)) × (List ((List UInt8) × Int × Int))) : Option ((List ((List UInt8) × Int)) × (List ((List UInt8) × Int)) × Int) :=
  let x0 := a.1
  let x1 := a.2.1
  let x2 := a.2.2.1
  let x3 := a.2.2.2
  let x23 := (decide (x0 > (1125899906842624 : Int)))
  let x25 := (if x23 = false then some x0 else none)
  Option.bind (if x23 = false then ((x25.bind (fun z17 => some (z17, (-1125899906842624 : Int)))).map (fun z19 => (decide (z19.1 < z19.2)))).map some else some none) fun x26 =>
  Option.bind (if x23 then some true else x26.map (fun z20 => z20)) fun x27 =>
  if x27 then (
    some (([] : List ((List UInt8) × Int)), ([] : List ((List UInt8) × Int)), (2 : Int)))
  else (
    Option.bind (ref25_Check x3) fun x29 =>
    let x31 := (x29 != (0 : Int))
    if x31 then (
      some (([] : List ((List UInt8) × Int)), ([] : List ((List UInt8) × Int)), x29))
    else (
      let x34 := (x2.length : Int)
      let x35 := (decide (x34 > (64 : Int)))
      if x35 then (
        some (([] : List ((List UInt8) × Int)), ([] : List ((List UInt8) × Int)), (5 : Int)))
      else (
        Option.bind (iter ref25_Take_loop3 (x0, x1, x2, x3, ([] : List ((List UInt8) × Int)), x0, (0 : Int), ([] : List ((List UInt8) × Int)), (), ())) fun o =>
        match o with
        | Sum.inl p270 => (
          let x1 := p270.1
          let x13 := p270.2.1
          let l1012 := p270.2.2.1
          Option.bind (iter ref25_Take_loop2 (x1, x13, (0 : Int), l1012, (), ())) fun o =>
          let x1 := o.1
          let l1012 := o.2.1
          some (l1012, x1, (0 : Int)))
        | Sum.inr q271 => (
          some q271))))
noncomputable def ref25_Same_loop1 (s : (List ((List UInt8) × Int)) × (List ((List UInt8) × Int)) × (Int) × Unit) : Option (((List ((List UInt8) × Int)) × (List ((List UInt8) × Int)) × (Int) × Unit) ⊕ ((Unit) ⊕ (Bool))) :=
  let x0 := s.1
  let x1 := s.2.1
  let x5 := s.2.2.1
  let x13 := (x0.length : Int)
  let x14 := (decide (x5 < x13))
  if x14 then (
    Option.bind ((lAt x0 x5).map (fun y => y)) fun x19 =>
    Option.bind ((lAt x1 x5).map (fun y => y)) fun x23 =>
    let x25 := (!((x19.1 == x23.1) && (x19.2 == x23.2)))
    if x25 then (
      some (Sum.inr (Sum.inr false)))
    else (
      let x16 := IntKind.i64.wrap (x5 + (1 : Int))
      some (Sum.inl (x0, x1, x16, ()))))
  else (
    some (Sum.inr (Sum.inl (()))))
noncomputable def ref25_Same (a : (List ((List UInt8) × Int)) × (List ((List UInt8) × Int))) : Option (Bool) :=
  let x0 := a.1
  let x1 := a.2
  let x7 := (x0.length : Int)
  let x9 := (x1.length : Int)
  let x10 := (x7 != x9)
  if x10 then (
    some false)
  else (
    Option.bind (iter ref25_Same_loop1 (x0, x1, (0 : Int), ())) fun o =>
    match o with
    | Sum.inl p1 => (
      some true)
    | Sum.inr q2 => (
      some q2))
noncomputable def law25_alike_loop1 (s : (List ((List UInt8) × (Int))) × (List ((List UInt8) × Int)) × (Int) × Unit) : Option (((List ((List UInt8) × (Int))) × (List ((List UInt8) × Int)) × (Int) × Unit) ⊕ ((Unit) ⊕ (Bool))) :=
  let x0 := s.1
  let x1 := s.2.1
  let x5 := s.2.2.1
  let x15 := (x1.length : Int)
  let x16 := (decide (x5 < x15))
  if x16 then (
    Option.bind ((lAt x1 x5).map (fun y => y)) fun x23 =>
    let x26 := alGet (eqZ .str) (zeroT (.int .i64)) x23.1 x0
    let x30 := (!x26.2)
    let x32 := (if x30 = false then some x26.1 else none)
    let x33 := (if x30 = false then some x1 else none)
    let x34 := (if x30 = false then some x5 else none)
    Option.bind (if x30 = false then ((x33.bind (fun z109 => x34.map (fun z110 => (z109, z110)))).bind (fun z111 => (lAt z111.1 z111.2).map (fun y => y))).map some else some none) fun x35 =>
    Option.bind (if x30 = false then (x35.map (fun z112 => z112.2)).map some else some none) fun x36 =>
    Option.bind (if x30 = false then (x36.map (fun z113 => z113)).map some else some none) fun x37 =>
    Option.bind (if x30 = false then ((x32.bind (fun z114 => x37.map (fun z115 => (z114, z115)))).map (fun z116 => (z116.1 != z116.2))).map some else some none) fun x38 =>
    Option.bind (if x30 then some true else x38.map (fun z117 => z117)) fun x39 =>
    if x39 then (
      some (Sum.inr (Sum.inr false)))
    else (
      let x18 := IntKind.i64.wrap (x5 + (1 : Int))
      some (Sum.inl (x0, x1, x18, ()))))
  else (
    some (Sum.inr (Sum.inl (()))))
noncomputable def law25_alike (a : (List ((List UInt8) × (Int))) × (List ((List UInt8) × Int))) : Option (Bool) :=
  let x0 := a.1
  let x1 := a.2
  let x9 := (x0.length : Int)
  let x11 := (x1.length : Int)
  let x12 := (x9 != x11)
  if x12 then (
    some false)
  else (
    Option.bind (iter law25_alike_loop1 (x0, x1, (0 : Int), ())) fun o =>
    match o with
    | Sum.inl p118 => (
      some true)
    | Sum.inr q119 => (
      some q119))
noncomputable def law25_BeforeTakes (a : (Int × (List ((List UInt8) × Int)) × (List ((List UInt8) × Int)) × (List ((List UInt8) × Int × Int)))) : Option (Bool) :=
  let x0 := a
  Option.bind (law25_great (x0.1, x0.2.1, x0.2.2.1, x0.2.2.2)) fun x12 =>
  if x12 then (
    Option.bind (law25_awake ()) fun x13 =>
    some x13)
  else (
    Option.bind (law25_table x0.2.1) fun x17 =>
    Option.bind (before_Take (x0.1, x17.1, x0.2.2.1, x0.2.2.2)) fun x28 =>
    Option.bind (ref25_Take (x0.1, x17.2, x0.2.2.1, x0.2.2.2)) fun x40 =>
    let x46 := (x28.2.2 != x40.2.2)
    let x48 := (if x46 = false then some x28.1 else none)
    let x49 := (if x46 = false then some x40.1 else none)
    Option.bind (if x46 = false then (((x48.bind (fun z49 => x49.map (fun z50 => (z49, z50)))).map (fun z51 => (z51.1, z51.2))).bind (fun z52 => ref25_Same z52)).map some else some none) fun x50 =>
    Option.bind (if x46 = false then (x50.map (fun z53 => (!z53))).map some else some none) fun x51 =>
    Option.bind (if x46 then some true else x51.map (fun z54 => z54)) fun x52 =>
    let x54 := (if x52 = false then some x17.1 else none)
    let x55 := (if x52 = false then some x17.2 else none)
    Option.bind (if x52 = false then (((x54.bind (fun z55 => x55.map (fun z56 => (z55, z56)))).map (fun z57 => (z57.1, z57.2))).bind (fun z58 => law25_alike z58)).map some else some none) fun x56 =>
    Option.bind (if x52 = false then (x56.map (fun z59 => (!z59))).map some else some none) fun x57 =>
    Option.bind (if x52 then some true else x57.map (fun z60 => z60)) fun x58 =>
    if x58 then (
      some false)
    else (
      let x60 := (x40.2.2 != (0 : Int))
      let x62 := (if x60 = true then some x28.2.1 else none)
      Option.bind (if x60 = true then (x62.map (fun z87 => (z87.length : Int))).map some else some none) fun x63 =>
      Option.bind (if x60 = true then ((x63.bind (fun z88 => some (z88, (0 : Int)))).map (fun z90 => (z90.1 == z90.2))).map some else some none) fun x64 =>
      Option.bind (if x60 then x64 else some false) fun x65 =>
      let x67 := (if x65 = false then some x40.2.2 else none)
      Option.bind (if x65 = false then ((x67.bind (fun z91 => some (z91, (0 : Int)))).map (fun z93 => (z93.1 == z93.2))).map some else some none) fun x68 =>
      Option.bind (if x65 = false then x68.map some else some none) fun x69 =>
      let x70 := (if x69 = some true then some x28.2.1 else none)
      let x71 := (if x69 = some true then some x40.2.1 else none)
      Option.bind (if x69 = some true then (((x70.bind (fun z94 => x71.map (fun z95 => (z94, z95)))).map (fun z96 => (z96.1, z96.2))).bind (fun z97 => law25_alike z97)).map some else some none) fun x72 =>
      Option.bind (if x65 = false then (x69.bind (fun z98 => if z98 then x72 else some false)).map some else some none) fun x73 =>
      Option.bind (if x65 then some true else x73.map (fun z99 => z99)) fun x74 =>
      Option.bind (if x74 = true then (law25_awake ()).map some else some none) fun x76 =>
      Option.bind (if x74 then x76 else some false) fun x77 =>
      some x77))
noncomputable def law25_BeforeYears_loop1 (s : (List (Int)) × (Int) × (Int) × (List ((List UInt8) × (Int))) × (Int) × (Int) × (Int) × (List ((List UInt8) × Int)) × (Int) × Unit) : Option (((List (Int)) × (Int) × (Int) × (List ((List UInt8) × (Int))) × (Int) × (Int) × (Int) × (List ((List UInt8) × Int)) × (Int) × Unit) ⊕ (((List (Int)) × (Int) × (Int) × (List ((List UInt8) × (Int))) × (Int) × (Int) × (Int) × Unit))) :=
  let x0 := s.1
  let x1 := s.2.1
  let x2 := s.2.2.1
  let x7 := s.2.2.2.1
  let x8 := s.2.2.2.2.1
  let x9 := s.2.2.2.2.2.1
  let x10 := s.2.2.2.2.2.2.1
  let x11 := s.2.2.2.2.2.2.2.1
  let x14 := s.2.2.2.2.2.2.2.2.1
  let x50 := (x11.length : Int)
  let x51 := (decide (x14 < x50))
  if x51 then (
    Option.bind ((lAt x11 x14).map (fun y => y)) fun x57 =>
    let x60 := IntKind.i64.wrap (x8 + x57.2)
    let x53 := IntKind.i64.wrap (x14 + (1 : Int))
    some (Sum.inl (x0, x1, x2, x7, x60, x9, x10, x11, x53, ())))
  else (
    some (Sum.inr (x0, x1, x2, x7, x8, x9, x10, ())))
noncomputable def law25_BeforeYears_loop2 (s : (List (Int)) × (Int) × (Int) × (List ((List UInt8) × (Int))) × (Int) × (Int) × (Int) × Unit) : Option (((List (Int)) × (Int) × (Int) × (List ((List UInt8) × (Int))) × (Int) × (Int) × (Int) × Unit) ⊕ ((Unit) ⊕ (Bool))) :=
  let x0 := s.1
  let x1 := s.2.1
  let x2 := s.2.2.1
  let x7 := s.2.2.2.1
  let x8 := s.2.2.2.2.1
  let x9 := s.2.2.2.2.2.1
  let x10 := s.2.2.2.2.2.2.1
  let x22 := (x0.length : Int)
  let x23 := (decide (x10 < x22))
  if x23 then (
    Option.bind ((lAt x0 x10).map (fun y => y)) fun x29 =>
    let x31 := IntKind.i64.wrap x29
    let x34 := IntKind.i64.wrap x1
    let l36 := ([(([120] : List UInt8), x34)] : List ((List UInt8) × Int))
    let x38 := IntKind.i64.wrap x2
    let l40 := ([(([120] : List UInt8), (1000000 : Int), x38)] : List ((List UInt8) × Int × Int))
    Option.bind (before_Take (x31, x7, l36, l40)) fun x41 =>
    let x46 := (x41.2.2 != (0 : Int))
    if x46 then (
      some (Sum.inr (Sum.inr false)))
    else (
      Option.bind (iter law25_BeforeYears_loop1 (x0, x1, x2, x41.2.1, x8, x9, x10, x41.1, (0 : Int), ())) fun o =>
      let x0 := o.1
      let x1 := o.2.1
      let x2 := o.2.2.1
      let x7 := o.2.2.2.1
      let x8 := o.2.2.2.2.1
      let x9 := o.2.2.2.2.2.1
      let x10 := o.2.2.2.2.2.2.1
      Option.bind ((lAt x0 x10).map (fun y => y)) fun x64 =>
      let x66 := IntKind.i64.wrap x64
      let x68 := IntKind.i64.wrap x1
      let x69 := (min x66 x68)
      let x70 := IntKind.i64.wrap (x9 + x69)
      Option.bind (show Option (((List (Int)) × (Int) × (Int) × (List ((List UInt8) × (Int))) × (Int) × (Int) × (Int) × (Int) × Unit)) from (
        let x73 := (decide (x2 > (0 : Int)))
        if x73 then (
          let x76 := IntKind.i64.wrap x2
          let x77 := (min x70 x76)
          some (x0, x1, x2, x7, x8, x70, x10, x77, ()))
        else (
          some (x0, x1, x2, x7, x8, x70, x10, x70, ())))) fun o =>
      let x0 := o.1
      let x1 := o.2.1
      let x2 := o.2.2.1
      let x7 := o.2.2.2.1
      let x8 := o.2.2.2.2.1
      let x9 := o.2.2.2.2.2.1
      let x10 := o.2.2.2.2.2.2.1
      let x15 := o.2.2.2.2.2.2.2.1
      let x80 := (x8 != x15)
      let x82 := (if x80 = false then some x7 else none)
      Option.bind (if x80 = false then ((x82.bind (fun z113 => some (z113, ([120] : List UInt8)))).map (fun z115 => (alGet (eqZ .str) (zeroT (.int .i64)) z115.2 z115.1).1)).map some else some none) fun x83 =>
      let x84 := (if x80 = false then some x8 else none)
      Option.bind (if x80 = false then ((x83.bind (fun z116 => x84.map (fun z117 => (z116, z117)))).map (fun z118 => (z118.1 != z118.2))).map some else some none) fun x85 =>
      Option.bind (if x80 then some true else x85.map (fun z119 => z119)) fun x86 =>
      if x86 then (
        some (Sum.inr (Sum.inr false)))
      else (
        let x25 := IntKind.i64.wrap (x10 + (1 : Int))
        some (Sum.inl (x0, x1, x2, x7, x8, x9, x25, ())))))
  else (
    some (Sum.inr (Sum.inl (()))))
noncomputable def law25_BeforeYears (a : (List (Int)) × Int × Int) : Option (Bool) :=
  let x0 := a.1
  let x1 := a.2.1
  let x2 := a.2.2
  let x17 := (x0.length : Int)
  let x18 := (decide (x17 > (60 : Int)))
  if x18 then (
    Option.bind (law25_awake ()) fun x19 =>
    some x19)
  else (
    Option.bind (iter law25_BeforeYears_loop2 (x0, x1, x2, ([] : List ((List UInt8) × (Int))), (0 : Int), (0 : Int), (0 : Int), ())) fun o =>
    match o with
    | Sum.inl p120 => (
      Option.bind (law25_awake ()) fun x87 =>
      some x87)
    | Sum.inr q121 => (
      some q121))
noncomputable def ref25_After_loop1 (s : (Int) × (List ((List UInt8) × Int)) × (Int) × (List ((List UInt8) × Int)) × (Unit) × Unit) : Option (((Int) × (List ((List UInt8) × Int)) × (Int) × (List ((List UInt8) × Int)) × (Unit) × Unit) ⊕ (((Int) × (List ((List UInt8) × Int)) × (Unit) × Unit))) :=
  let x0 := s.1
  let x1 := s.2.1
  let x7 := s.2.2.1
  let l1006 := s.2.2.2.1
  let x11 := (x1.length : Int)
  let x12 := (decide (x7 < x11))
  if x12 then (
    Option.bind (show Option (((Int) × (List ((List UInt8) × Int)) × (Int) × (List ((List UInt8) × Int)) × (Unit) × Unit)) from (
      Option.bind ((lAt x1 x7).map (fun y => y)) fun x17 =>
      let x21 := (min x17.2 x0)
      let x23 := (decide (x21 > (0 : Int)))
      if x23 then (
        Option.bind ((lAt x1 x7).map (fun y => y)) fun x27 =>
        let l32 := ([(x27.1, x21)] : List ((List UInt8) × Int))
        Option.bind (if ((l1006.length : Int) + (l32.length : Int)) * (24 : Int) ≤ 140737488355328 ∧ (l1006.length : Int) + (l32.length : Int) ≤ 4611686018427387904 then some (l1006 ++ l32) else none) fun l1006 =>
        let x36 := IntKind.i64.wrap (x0 - x21)
        some (x36, x1, x7, l1006, (), ()))
      else (
        some (x0, x1, x7, l1006, (), ())))) fun o =>
    let x0 := o.1
    let x1 := o.2.1
    let x7 := o.2.2.1
    let l1006 := o.2.2.2.1
    let x14 := IntKind.i64.wrap (x7 + (1 : Int))
    some (Sum.inl (x0, x1, x14, l1006, (), ())))
  else (
    some (Sum.inr (x0, l1006, (), ())))
noncomputable def ref25_After (a : Int × (List ((List UInt8) × Int))) : Option ((List ((List UInt8) × Int)) × Int) :=
  let x0 := a.1
  let x1 := a.2
  Option.bind (iter ref25_After_loop1 (x0, x1, (0 : Int), ([] : List ((List UInt8) × Int)), (), ())) fun o =>
  let x0 := o.1
  let l1006 := o.2.1
  some (l1006, x0)
noncomputable def law25_BeforeAfter_loop1 (s : (List ((List UInt8) × Int)) × (Int) × (Int) × (Int) × (List ((List UInt8) × Int)) × (Int) × (Int) × Unit) : Option (((List ((List UInt8) × Int)) × (Int) × (Int) × (Int) × (List ((List UInt8) × Int)) × (Int) × (Int) × Unit) ⊕ (((List ((List UInt8) × Int)) × (Int) × (Int) × (Int) × (List ((List UInt8) × Int)) × (Int) × Unit))) :=
  let x5 := s.1
  let x6 := s.2.1
  let x7 := s.2.2.1
  let x8 := s.2.2.2.1
  let x9 := s.2.2.2.2.1
  let x10 := s.2.2.2.2.2.1
  let x11 := s.2.2.2.2.2.2.1
  let x35 := (x5.length : Int)
  let x36 := (decide (x11 < x35))
  if x36 then (
    Option.bind ((lAt x5 x11).map (fun y => y)) fun x42 =>
    let x45 := IntKind.i64.wrap (x10 + x42.2)
    let x38 := IntKind.i64.wrap (x11 + (1 : Int))
    some (Sum.inl (x5, x6, x7, x8, x9, x45, x38, ())))
  else (
    some (Sum.inr (x5, x6, x7, x8, x9, x10, ())))
noncomputable def law25_BeforeAfter (a : Int × (List ((List UInt8) × Int))) : Option (Bool) :=
  let x0 := a.1
  let x1 := a.2
  let x13 := (x1.length : Int)
  let x14 := (decide (x13 > (80 : Int)))
  if x14 then (
    Option.bind (law25_awake ()) fun x15 =>
    some x15)
  else (
    Option.bind (before_After (x0, x1)) fun x19 =>
    Option.bind (show Option (((List ((List UInt8) × Int)) × (Int) × (Int) × (Int) × (List ((List UInt8) × Int)) × Unit)) from (
      let x25 := (decide (x0 > (0 : Int)))
      if x25 then (
        Option.bind (ref25_After (x0, x1)) fun x29 =>
        some (x19.1, x19.2, x0, x29.2, x29.1, ()))
      else (
        some (x19.1, x19.2, x0, x0, ([] : List ((List UInt8) × Int)), ())))) fun o =>
    let x5 := o.1
    let x6 := o.2.1
    let x7 := o.2.2.1
    let x8 := o.2.2.2.1
    let x9 := o.2.2.2.2.1
    Option.bind (iter law25_BeforeAfter_loop1 (x5, x6, x7, x8, x9, x6, (0 : Int), ())) fun o =>
    let x5 := o.1
    let x6 := o.2.1
    let x7 := o.2.2.1
    let x8 := o.2.2.2.1
    let x9 := o.2.2.2.2.1
    let x10 := o.2.2.2.2.2.1
    Option.bind (ref25_Same (x5, x9)) fun x48 =>
    let x50 := (if x48 = true then some x6 else none)
    let x51 := (if x48 = true then some x8 else none)
    Option.bind (if x48 = true then ((x50.bind (fun z13 => x51.map (fun z14 => (z13, z14)))).map (fun z15 => (z15.1 == z15.2))).map some else some none) fun x52 =>
    Option.bind (if x48 then x52 else some false) fun x53 =>
    let x55 := (if x53 = true then some x10 else none)
    let x56 := (if x53 = true then some x7 else none)
    Option.bind (if x53 = true then ((x55.bind (fun z16 => x56.map (fun z17 => (z16, z17)))).map (fun z18 => (z18.1 == z18.2))).map some else some none) fun x57 =>
    Option.bind (if x53 then x57 else some false) fun x58 =>
    Option.bind (if x58 = true then (law25_awake ()).map some else some none) fun x60 =>
    Option.bind (if x58 then x60 else some false) fun x61 =>
    some x61)
noncomputable def cents_told (a : Int × Int × Int) : Option (Int × Int) :=
  let x0 := a.1
  let x1 := a.2.1
  let x2 := a.2.2
  Option.bind (show Option (((Int) × (Bool) × Unit)) from (
    Option.bind (cents_Fits x0) fun x10 =>
    let x11 := (!x10)
    if x11 then (
      some (x2, x11, ()))
    else (
      Option.bind (cents_Fits x1) fun x13 =>
      let x14 := (!x13)
      some (x2, x14, ())))) fun o =>
  let x2 := o.1
  let x8 := o.2.1
  if x8 then (
    some ((0 : Int), (2 : Int)))
  else (
    Option.bind (cents_Fits x2) fun x17 =>
    let x18 := (!x17)
    if x18 then (
      some ((0 : Int), (9 : Int)))
    else (
      some (x2, (0 : Int))))
noncomputable def cents_Add (a : Int × Int) : Option (Int × Int) :=
  let x0 := a.1
  let x1 := a.2
  let x10 := IntKind.i64.wrap (x0 + x1)
  Option.bind (cents_told (x0, x1, x10)) fun x11 =>
  some (x11.1, x11.2)
noncomputable def cents_Sum_loop1 (s : (Int) × (List (Int)) × (Int) × (Int) × Unit) : Option (((Int) × (List (Int)) × (Int) × (Int) × Unit) ⊕ (((Int) × Unit) ⊕ (Int × Int))) :=
  let x4 := s.1
  let x9 := s.2.1
  let x10 := s.2.2.1
  let x11 := s.2.2.2.1
  let x12 := (decide (x11 < x10))
  if x12 then (
    Option.bind ((lAt x9 x11).map (fun y => y)) fun x13 =>
    Option.bind (cents_Add (x4, x13)) fun x18 =>
    let x22 := (x18.2 != (0 : Int))
    if x22 then (
      some (Sum.inr (Sum.inr ((0 : Int), x18.2))))
    else (
      let x25 := IntKind.i64.wrap (x11 + (1 : Int))
      some (Sum.inl (x18.1, x9, x10, x25, ()))))
  else (
    some (Sum.inr (Sum.inl (x4, ()))))
noncomputable def cents_Sum (a : (List (Int))) : Option (Int × Int) :=
  let x0 := a
  let x10 := (x0.length : Int)
  Option.bind (iter cents_Sum_loop1 ((0 : Int), x0, x10, (0 : Int), ())) fun o =>
  match o with
  | Sum.inl p1 => (
    let x4 := p1.1
    some (x4, (0 : Int)))
  | Sum.inr q2 => (
    some q2)
noncomputable def before_Sum_loop1 (s : (List ((List UInt8) × Int)) × (Int) × (Int) × (List (Int)) × (Unit) × Unit) : Option (((List ((List UInt8) × Int)) × (Int) × (Int) × (List (Int)) × (Unit) × Unit) ⊕ (((List (Int)) × (Unit) × Unit))) :=
  let x7 := s.1
  let x8 := s.2.1
  let x9 := s.2.2.1
  let l1004 := s.2.2.2.1
  let x10 := (decide (x9 < x8))
  if x10 then (
    Option.bind ((lAt x7 x9).map (fun y => y)) fun x11 =>
    let l16 := ([x11.2] : List (Int))
    Option.bind (if ((l1004.length : Int) + (l16.length : Int)) * (8 : Int) ≤ 140737488355328 ∧ (l1004.length : Int) + (l16.length : Int) ≤ 4611686018427387904 then some (l1004 ++ l16) else none) fun l1004 =>
    let x18 := IntKind.i64.wrap (x9 + (1 : Int))
    some (Sum.inl (x7, x8, x18, l1004, (), ())))
  else (
    some (Sum.inr (l1004, (), ())))
noncomputable def before_Sum (a : (List ((List UInt8) × Int))) : Option (Int × Int) :=
  let x0 := a
  let x8 := (x0.length : Int)
  Option.bind (iter before_Sum_loop1 (x0, x8, (0 : Int), ([] : List (Int)), (), ())) fun o =>
  let l1004 := o.1
  Option.bind (cents_Sum l1004) fun x20 =>
  some (x20.1, x20.2)
noncomputable def law25_BeforeBounds_loop1 (s : (List ((List UInt8) × Int)) × (List ((List UInt8) × Int)) × (List ((List UInt8) × (Int))) × (Int) × (List UInt8) × (Int) × (Int) × (Int) × (List ((List UInt8) × Int)) × (List ((List UInt8) × Int)) × (List ((List UInt8) × Int × Int)) × (Unit) × (Unit) × Unit) : Option (((List ((List UInt8) × Int)) × (List ((List UInt8) × Int)) × (List ((List UInt8) × (Int))) × (Int) × (List UInt8) × (Int) × (Int) × (Int) × (List ((List UInt8) × Int)) × (List ((List UInt8) × Int)) × (List ((List UInt8) × Int × Int)) × (Unit) × (Unit) × Unit) ⊕ (((List ((List UInt8) × Int)) × (List ((List UInt8) × Int)) × (List ((List UInt8) × (Int))) × (Int) × (Int) × (List ((List UInt8) × Int)) × (List ((List UInt8) × Int)) × (List ((List UInt8) × Int × Int)) × (Unit) × (Unit) × Unit) ⊕ (Bool))) :=
  let x4 := s.1
  let x5 := s.2.1
  let x6 := s.2.2.1
  let x10 := s.2.2.2.1
  let x11 := s.2.2.2.2.1
  let x12 := s.2.2.2.2.2.1
  let x16 := s.2.2.2.2.2.2.1
  let c1_0 := s.2.2.2.2.2.2.2.1
  let c1_1 := s.2.2.2.2.2.2.2.2.1
  let c1_2 := s.2.2.2.2.2.2.2.2.2.1
  let c1_3 := s.2.2.2.2.2.2.2.2.2.2.1
  let x130 := (c1_3.length : Int)
  let x131 := (decide (x16 < x130))
  if x131 then (
    Option.bind (show Option (((List ((List UInt8) × Int)) × (List ((List UInt8) × Int)) × (List ((List UInt8) × (Int))) × (Int) × (List UInt8) × (Int) × (Int) × (Int) × (List ((List UInt8) × Int)) × (List ((List UInt8) × Int)) × (List ((List UInt8) × Int × Int)) × (Unit) × (Unit) × Unit) ⊕ (Bool)) from (
      Option.bind ((lAt c1_3 x16).map (fun y => y)) fun x137 =>
      let x142 := (!(x137.1 == x11))
      if x142 then (
        some (Sum.inl (x4, x5, x6, x10, x11, x12, x16, c1_0, c1_1, c1_2, c1_3, (), (), ())))
      else (
        let x145 := (decide (x137.2.2 > (0 : Int)))
        let x147 := (if x145 = true then some x12 else none)
        Option.bind (if x145 = true then ((x147.bind (fun z783 => some (z783, (0 : Int)))).map (fun z785 => (decide (z785.1 > z785.2)))).map some else some none) fun x148 =>
        Option.bind (if x145 then x148 else some false) fun x149 =>
        let x151 := (if x149 = true then some x6 else none)
        let x152 := (if x149 = true then some x11 else none)
        Option.bind (if x149 = true then ((x151.bind (fun z786 => x152.map (fun z787 => (z786, z787)))).map (fun z788 => (alGet (eqZ .str) (zeroT (.int .i64)) z788.2 z788.1).1)).map some else some none) fun x153 =>
        let x154 := (if x149 = true then some () else none)
        Option.bind (if x149 = true then (x154.map (fun z789 => x137.2.2)).map some else some none) fun x155 =>
        Option.bind (if x149 = true then ((x153.bind (fun z790 => x155.map (fun z791 => (z790, z791)))).map (fun z792 => (decide (z792.1 > z792.2)))).map some else some none) fun x156 =>
        Option.bind (if x149 then x156 else some false) fun x157 =>
        let x159 := (if x157 = false then some () else none)
        Option.bind (if x157 = false then (x159.map (fun z793 => x137.2.1)).map some else some none) fun x160 =>
        Option.bind (if x157 = false then ((x160.bind (fun z794 => some (z794, (0 : Int)))).map (fun z796 => (z796.1 == z796.2))).map some else some none) fun x161 =>
        Option.bind (if x157 = false then x161.map some else some none) fun x162 =>
        let x163 := (if x162 = some true then some x12 else none)
        Option.bind (if x162 = some true then ((x163.bind (fun z797 => some (z797, (0 : Int)))).map (fun z799 => (decide (z799.1 > z799.2)))).map some else some none) fun x164 =>
        Option.bind (if x157 = false then (x162.bind (fun z800 => if z800 then x164 else some false)).map some else some none) fun x165 =>
        Option.bind (if x157 then some true else x165.map (fun z801 => z801)) fun x166 =>
        if x166 then (
          some (Sum.inr false))
        else (
          some (Sum.inl (x4, x5, x6, x10, x11, x12, x16, c1_0, c1_1, c1_2, c1_3, (), (), ())))))) fun o =>
    match o with
    | Sum.inl p802 => (
      let x4 := p802.1
      let x5 := p802.2.1
      let x6 := p802.2.2.1
      let x10 := p802.2.2.2.1
      let x11 := p802.2.2.2.2.1
      let x12 := p802.2.2.2.2.2.1
      let x16 := p802.2.2.2.2.2.2.1
      let c1_0 := p802.2.2.2.2.2.2.2.1
      let c1_1 := p802.2.2.2.2.2.2.2.2.1
      let c1_2 := p802.2.2.2.2.2.2.2.2.2.1
      let c1_3 := p802.2.2.2.2.2.2.2.2.2.2.1
      let x133 := IntKind.i64.wrap (x16 + (1 : Int))
      some (Sum.inl (x4, x5, x6, x10, x11, x12, x133, c1_0, c1_1, c1_2, c1_3, (), (), ())))
    | Sum.inr q803 => (
      some (Sum.inr (Sum.inr q803))))
  else (
    some (Sum.inr (Sum.inl (x4, x5, x6, x10, c1_0, c1_1, c1_2, c1_3, (), (), ()))))
noncomputable def law25_BeforeBounds_loop2 (s : (List ((List UInt8) × Int)) × (List ((List UInt8) × Int)) × (List ((List UInt8) × (Int))) × (Int) × (List UInt8) × (Int) × (Int) × (Int) × (Int) × (List ((List UInt8) × Int)) × (List ((List UInt8) × Int)) × (List ((List UInt8) × Int × Int)) × (Unit) × (Unit) × Unit) : Option (((List ((List UInt8) × Int)) × (List ((List UInt8) × Int)) × (List ((List UInt8) × (Int))) × (Int) × (List UInt8) × (Int) × (Int) × (Int) × (Int) × (List ((List UInt8) × Int)) × (List ((List UInt8) × Int)) × (List ((List UInt8) × Int × Int)) × (Unit) × (Unit) × Unit) ⊕ (((List ((List UInt8) × Int)) × (List ((List UInt8) × Int)) × (List ((List UInt8) × (Int))) × (Int) × (List UInt8) × (Int) × (Int) × (Int) × (List ((List UInt8) × Int)) × (List ((List UInt8) × Int)) × (List ((List UInt8) × Int × Int)) × (Unit) × (Unit) × Unit))) :=
  let x4 := s.1
  let x5 := s.2.1
  let x6 := s.2.2.1
  let x10 := s.2.2.2.1
  let x11 := s.2.2.2.2.1
  let x12 := s.2.2.2.2.2.1
  let x13 := s.2.2.2.2.2.2.1
  let x15 := s.2.2.2.2.2.2.2.1
  let c1_0 := s.2.2.2.2.2.2.2.2.1
  let c1_1 := s.2.2.2.2.2.2.2.2.2.1
  let c1_2 := s.2.2.2.2.2.2.2.2.2.2.1
  let c1_3 := s.2.2.2.2.2.2.2.2.2.2.2.1
  let x92 := (c1_2.length : Int)
  let x93 := (decide (x15 < x92))
  if x93 then (
    Option.bind (show Option (((List ((List UInt8) × Int)) × (List ((List UInt8) × Int)) × (List ((List UInt8) × (Int))) × (Int) × (List UInt8) × (Int) × (Int) × (Int) × (Int) × (List ((List UInt8) × Int)) × (List ((List UInt8) × Int)) × (List ((List UInt8) × Int × Int)) × (Unit) × (Unit) × Unit)) from (
      Option.bind ((lAt c1_2 x15).map (fun y => y)) fun x99 =>
      let x103 := ((x99.1 == x11))
      if x103 then (
        Option.bind ((lAt c1_2 x15).map (fun y => y)) fun x108 =>
        let x111 := (min x108.2 (2251799813685248 : Int))
        let x112 := IntKind.i64.wrap (x13 + x111)
        some (x4, x5, x6, x10, x11, x12, x112, x15, c1_0, c1_1, c1_2, c1_3, (), (), ()))
      else (
        some (x4, x5, x6, x10, x11, x12, x13, x15, c1_0, c1_1, c1_2, c1_3, (), (), ())))) fun o =>
    let x4 := o.1
    let x5 := o.2.1
    let x6 := o.2.2.1
    let x10 := o.2.2.2.1
    let x11 := o.2.2.2.2.1
    let x12 := o.2.2.2.2.2.1
    let x13 := o.2.2.2.2.2.2.1
    let x15 := o.2.2.2.2.2.2.2.1
    let c1_0 := o.2.2.2.2.2.2.2.2.1
    let c1_1 := o.2.2.2.2.2.2.2.2.2.1
    let c1_2 := o.2.2.2.2.2.2.2.2.2.2.1
    let c1_3 := o.2.2.2.2.2.2.2.2.2.2.2.1
    let x95 := IntKind.i64.wrap (x15 + (1 : Int))
    some (Sum.inl (x4, x5, x6, x10, x11, x12, x13, x95, c1_0, c1_1, c1_2, c1_3, (), (), ())))
  else (
    some (Sum.inr (x4, x5, x6, x10, x11, x12, x13, c1_0, c1_1, c1_2, c1_3, (), (), ())))
noncomputable def law25_BeforeBounds_loop3 (s : (List ((List UInt8) × Int)) × (List ((List UInt8) × Int)) × (List ((List UInt8) × (Int))) × (Int) × (List UInt8) × (Int) × (Int) × (Int) × (Int) × (List ((List UInt8) × Int)) × (List ((List UInt8) × Int)) × (List ((List UInt8) × Int × Int)) × (Unit) × (Unit) × Unit) : Option (((List ((List UInt8) × Int)) × (List ((List UInt8) × Int)) × (List ((List UInt8) × (Int))) × (Int) × (List UInt8) × (Int) × (Int) × (Int) × (Int) × (List ((List UInt8) × Int)) × (List ((List UInt8) × Int)) × (List ((List UInt8) × Int × Int)) × (Unit) × (Unit) × Unit) ⊕ (((List ((List UInt8) × Int)) × (List ((List UInt8) × Int)) × (List ((List UInt8) × (Int))) × (Int) × (List UInt8) × (Int) × (Int) × (Int) × (List ((List UInt8) × Int)) × (List ((List UInt8) × Int)) × (List ((List UInt8) × Int × Int)) × (Unit) × (Unit) × Unit))) :=
  let x4 := s.1
  let x5 := s.2.1
  let x6 := s.2.2.1
  let x10 := s.2.2.2.1
  let x11 := s.2.2.2.2.1
  let x12 := s.2.2.2.2.2.1
  let x13 := s.2.2.2.2.2.2.1
  let x14 := s.2.2.2.2.2.2.2.1
  let c1_0 := s.2.2.2.2.2.2.2.2.1
  let c1_1 := s.2.2.2.2.2.2.2.2.2.1
  let c1_2 := s.2.2.2.2.2.2.2.2.2.2.1
  let c1_3 := s.2.2.2.2.2.2.2.2.2.2.2.1
  let x71 := (x5.length : Int)
  let x72 := (decide (x14 < x71))
  if x72 then (
    Option.bind (show Option (((List ((List UInt8) × Int)) × (List ((List UInt8) × Int)) × (List ((List UInt8) × (Int))) × (Int) × (List UInt8) × (Int) × (Int) × (Int) × (Int) × (List ((List UInt8) × Int)) × (List ((List UInt8) × Int)) × (List ((List UInt8) × Int × Int)) × (Unit) × (Unit) × Unit)) from (
      Option.bind ((lAt x5 x14).map (fun y => y)) fun x77 =>
      let x81 := ((x77.1 == x11))
      if x81 then (
        Option.bind ((lAt x5 x14).map (fun y => y)) fun x85 =>
        let x88 := IntKind.i64.wrap (x12 + x85.2)
        some (x4, x5, x6, x10, x11, x88, x13, x14, c1_0, c1_1, c1_2, c1_3, (), (), ()))
      else (
        some (x4, x5, x6, x10, x11, x12, x13, x14, c1_0, c1_1, c1_2, c1_3, (), (), ())))) fun o =>
    let x4 := o.1
    let x5 := o.2.1
    let x6 := o.2.2.1
    let x10 := o.2.2.2.1
    let x11 := o.2.2.2.2.1
    let x12 := o.2.2.2.2.2.1
    let x13 := o.2.2.2.2.2.2.1
    let x14 := o.2.2.2.2.2.2.2.1
    let c1_0 := o.2.2.2.2.2.2.2.2.1
    let c1_1 := o.2.2.2.2.2.2.2.2.2.1
    let c1_2 := o.2.2.2.2.2.2.2.2.2.2.1
    let c1_3 := o.2.2.2.2.2.2.2.2.2.2.2.1
    let x74 := IntKind.i64.wrap (x14 + (1 : Int))
    some (Sum.inl (x4, x5, x6, x10, x11, x12, x13, x74, c1_0, c1_1, c1_2, c1_3, (), (), ())))
  else (
    some (Sum.inr (x4, x5, x6, x10, x11, x12, x13, c1_0, c1_1, c1_2, c1_3, (), (), ())))
noncomputable def law25_BeforeBounds_loop4 (s : (List ((List UInt8) × Int)) × (List ((List UInt8) × Int)) × (List ((List UInt8) × (Int))) × (Int) × (Int) × (List ((List UInt8) × Int)) × (List ((List UInt8) × Int)) × (List ((List UInt8) × Int × Int)) × (Unit) × (Unit) × Unit) : Option (((List ((List UInt8) × Int)) × (List ((List UInt8) × Int)) × (List ((List UInt8) × (Int))) × (Int) × (Int) × (List ((List UInt8) × Int)) × (List ((List UInt8) × Int)) × (List ((List UInt8) × Int × Int)) × (Unit) × (Unit) × Unit) ⊕ ((Unit) ⊕ (Bool))) :=
  let x4 := s.1
  let x5 := s.2.1
  let x6 := s.2.2.1
  let x10 := s.2.2.2.1
  let c1_0 := s.2.2.2.2.1
  let c1_1 := s.2.2.2.2.2.1
  let c1_2 := s.2.2.2.2.2.2.1
  let c1_3 := s.2.2.2.2.2.2.2.1
  let x59 := (c1_2.length : Int)
  let x60 := (decide (x10 < x59))
  if x60 then (
    Option.bind ((lAt c1_2 x10).map (fun y => y)) fun x66 =>
    Option.bind (iter law25_BeforeBounds_loop3 (x4, x5, x6, x10, x66.1, (0 : Int), (0 : Int), (0 : Int), c1_0, c1_1, c1_2, c1_3, (), (), ())) fun o =>
    let x4 := o.1
    let x5 := o.2.1
    let x6 := o.2.2.1
    let x10 := o.2.2.2.1
    let x11 := o.2.2.2.2.1
    let x12 := o.2.2.2.2.2.1
    let x13 := o.2.2.2.2.2.2.1
    let c1_0 := o.2.2.2.2.2.2.2.1
    let c1_1 := o.2.2.2.2.2.2.2.2.1
    let c1_2 := o.2.2.2.2.2.2.2.2.2.1
    let c1_3 := o.2.2.2.2.2.2.2.2.2.2.1
    Option.bind (iter law25_BeforeBounds_loop2 (x4, x5, x6, x10, x11, x12, x13, (0 : Int), c1_0, c1_1, c1_2, c1_3, (), (), ())) fun o =>
    let x4 := o.1
    let x5 := o.2.1
    let x6 := o.2.2.1
    let x10 := o.2.2.2.1
    let x11 := o.2.2.2.2.1
    let x12 := o.2.2.2.2.2.1
    let x13 := o.2.2.2.2.2.2.1
    let c1_0 := o.2.2.2.2.2.2.2.1
    let c1_1 := o.2.2.2.2.2.2.2.2.1
    let c1_2 := o.2.2.2.2.2.2.2.2.2.1
    let c1_3 := o.2.2.2.2.2.2.2.2.2.2.1
    let x115 := (decide (x12 > x13))
    let x117 := (if x115 = false then some x6 else none)
    let x118 := (if x115 = false then some x11 else none)
    Option.bind (if x115 = false then ((x117.bind (fun z617 => x118.map (fun z618 => (z617, z618)))).map (fun z619 => (alGet (eqZ .str) (zeroT (.int .i64)) z619.2 z619.1).1)).map some else some none) fun x119 =>
    let x120 := (if x115 = false then some x4 else none)
    let x121 := (if x115 = false then some x11 else none)
    Option.bind (if x115 = false then (((x120.bind (fun z620 => x121.map (fun z621 => (z620, z621)))).map (fun z622 => (z622.1, z622.2))).bind (fun z623 => ref25_At z623)).map some else some none) fun x122 =>
    let x123 := (if x115 = false then some x12 else none)
    Option.bind (if x115 = false then ((x122.bind (fun z624 => x123.map (fun z625 => (z624, z625)))).map (fun z626 => IntKind.i64.wrap (z626.1 + z626.2))).map some else some none) fun x124 =>
    Option.bind (if x115 = false then ((x119.bind (fun z627 => x124.map (fun z628 => (z627, z628)))).map (fun z629 => (z629.1 != z629.2))).map some else some none) fun x125 =>
    Option.bind (if x115 then some true else x125.map (fun z630 => z630)) fun x126 =>
    if x126 then (
      some (Sum.inr (Sum.inr false)))
    else (
      Option.bind (iter law25_BeforeBounds_loop1 (x4, x5, x6, x10, x11, x12, (0 : Int), c1_0, c1_1, c1_2, c1_3, (), (), ())) fun o =>
      match o with
      | Sum.inl p804 => (
        let x4 := p804.1
        let x5 := p804.2.1
        let x6 := p804.2.2.1
        let x10 := p804.2.2.2.1
        let c1_0 := p804.2.2.2.2.1
        let c1_1 := p804.2.2.2.2.2.1
        let c1_2 := p804.2.2.2.2.2.2.1
        let c1_3 := p804.2.2.2.2.2.2.2.1
        let x62 := IntKind.i64.wrap (x10 + (1 : Int))
        some (Sum.inl (x4, x5, x6, x62, c1_0, c1_1, c1_2, c1_3, (), (), ())))
      | Sum.inr q805 => (
        some (Sum.inr (Sum.inr q805)))))
  else (
    some (Sum.inr (Sum.inl (()))))
noncomputable def law25_BeforeBounds (a : (Int × (List ((List UInt8) × Int)) × (List ((List UInt8) × Int)) × (List ((List UInt8) × Int × Int)))) : Option (Bool) :=
  let x0 := a
  Option.bind (law25_great (x0.1, x0.2.1, x0.2.2.1, x0.2.2.2)) fun x19 =>
  if x19 then (
    Option.bind (law25_awake ()) fun x20 =>
    some x20)
  else (
    Option.bind (law25_table x0.2.1) fun x24 =>
    Option.bind (before_Take (x0.1, x24.1, x0.2.2.1, x0.2.2.2)) fun x35 =>
    let x40 := (x35.2.2 != (0 : Int))
    if x40 then (
      Option.bind (law25_awake ()) fun x41 =>
      some x41)
    else (
      Option.bind (before_Sum x35.1) fun x44 =>
      let x48 := (x44.2 != (0 : Int))
      let x50 := (if x48 = false then some x44.1 else none)
      let x51 := (if x48 = false then some () else none)
      Option.bind (if x48 = false then (x51.map (fun z33 => x0.1)).map some else some none) fun x52 =>
      Option.bind (if x48 = false then ((x52.map (fun z35 => ((0 : Int), z35))).map (fun z36 => (max z36.1 z36.2))).map some else some none) fun x53 =>
      Option.bind (if x48 = false then ((x50.bind (fun z37 => x53.map (fun z38 => (z37, z38)))).map (fun z39 => (decide (z39.1 > z39.2)))).map some else some none) fun x54 =>
      Option.bind (if x48 then some true else x54.map (fun z40 => z40)) fun x55 =>
      if x55 then (
        some false)
      else (
        Option.bind (iter law25_BeforeBounds_loop4 (x24.2, x35.1, x35.2.1, (0 : Int), x0.1, x0.2.1, x0.2.2.1, x0.2.2.2, (), (), ())) fun o =>
        match o with
        | Sum.inl p806 => (
          Option.bind (law25_awake ()) fun x167 =>
          some x167)
        | Sum.inr q807 => (
          some q807))))
noncomputable def law25_BeforeLess (a : Int × Int × (Int × Int)) : Option (Bool) :=
  let x0 := a.1
  let x1 := a.2.1
  let x2 := a.2.2
  Option.bind (if 0 ≤ (0 : Int) ∧ (0 : Int) < (2 : Int) then some (0 : Int).toNat else none) fun x25 =>
  Option.bind (([x2.1, x2.2] : List (Int))[x25]?) fun x26 =>
  Option.bind (if (1000001 : Int) = 0 then none else some (x26.tmod (1000001 : Int))) fun x27 =>
  let x28 := IntKind.i64.wrap x27
  Option.bind (if 0 ≤ (1 : Int) ∧ (1 : Int) < (2 : Int) then some (1 : Int).toNat else none) fun x29 =>
  Option.bind (([x2.1, x2.2] : List (Int))[x29]?) fun x30 =>
  Option.bind (if (1000001 : Int) = 0 then none else some (x30.tmod (1000001 : Int))) fun x31 =>
  let x32 := IntKind.i64.wrap x31
  let l35 := ([(([120] : List UInt8), x1)] : List ((List UInt8) × Int))
  let x41 := (min x28 x32)
  let l43 := ([(([120] : List UInt8), x41, (0 : Int))] : List ((List UInt8) × Int × Int))
  Option.bind (before_Take (x0, ([] : List ((List UInt8) × (Int))), l35, l43)) fun x44 =>
  let x53 := (max x28 x32)
  let l55 := ([(([120] : List UInt8), x53, (0 : Int))] : List ((List UInt8) × Int × Int))
  Option.bind (before_Take (x0, ([] : List ((List UInt8) × (Int))), l35, l55)) fun x56 =>
  Option.bind (before_Take (x0, ([] : List ((List UInt8) × (Int))), l35, ([] : List ((List UInt8) × Int × Int)))) fun x63 =>
  let x69 := (x44.2.2 != x56.2.2)
  let x71 := (if x69 = false then some x56.2.2 else none)
  let x72 := (if x69 = false then some x63.2.2 else none)
  Option.bind (if x69 = false then ((x71.bind (fun z17 => x72.map (fun z18 => (z17, z18)))).map (fun z19 => (z19.1 != z19.2))).map some else some none) fun x73 =>
  Option.bind (if x69 then some true else x73.map (fun z20 => z20)) fun x74 =>
  if x74 then (
    some false)
  else (
    Option.bind (before_Sum x44.1) fun x77 =>
    Option.bind (before_Sum x56.1) fun x82 =>
    Option.bind (before_Sum x63.1) fun x87 =>
    let x92 := (decide (x77.1 ≤ x82.1))
    let x94 := (if x92 = true then some x82.1 else none)
    let x95 := (if x92 = true then some x87.1 else none)
    Option.bind (if x92 = true then ((x94.bind (fun z39 => x95.map (fun z40 => (z39, z40)))).map (fun z41 => (decide (z41.1 ≤ z41.2)))).map some else some none) fun x96 =>
    Option.bind (if x92 then x96 else some false) fun x97 =>
    let x99 := (if x97 = true then some x87.1 else none)
    let x100 := (if x97 = true then some x0 else none)
    Option.bind (if x97 = true then ((x100.map (fun z43 => ((0 : Int), z43))).map (fun z44 => (max z44.1 z44.2))).map some else some none) fun x101 =>
    Option.bind (if x97 = true then ((x99.bind (fun z45 => x101.map (fun z46 => (z45, z46)))).map (fun z47 => (decide (z47.1 ≤ z47.2)))).map some else some none) fun x102 =>
    Option.bind (if x97 then x102 else some false) fun x103 =>
    Option.bind (if x103 = true then (law25_awake ()).map some else some none) fun x105 =>
    Option.bind (if x103 then x105 else some false) fun x106 =>
    some x106)
noncomputable def law25_BeforeSums_loop1 (s : (List ((List UInt8) × Int)) × (Int) × (List (Int)) × (Unit) × Unit) : Option (((List ((List UInt8) × Int)) × (Int) × (List (Int)) × (Unit) × Unit) ⊕ (((List ((List UInt8) × Int)) × (List (Int)) × (Unit) × Unit))) :=
  let x0 := s.1
  let x4 := s.2.1
  let l1003 := s.2.2.1
  let x15 := (x0.length : Int)
  let x16 := (decide (x4 < x15))
  if x16 then (
    Option.bind ((lAt x0 x4).map (fun y => y)) fun x22 =>
    let l25 := ([x22.2] : List (Int))
    Option.bind (if ((l1003.length : Int) + (l25.length : Int)) * (8 : Int) ≤ 140737488355328 ∧ (l1003.length : Int) + (l25.length : Int) ≤ 4611686018427387904 then some (l1003 ++ l25) else none) fun l1003 =>
    let x18 := IntKind.i64.wrap (x4 + (1 : Int))
    some (Sum.inl (x0, x18, l1003, (), ())))
  else (
    some (Sum.inr (x0, l1003, (), ())))
noncomputable def law25_BeforeSums (a : (List ((List UInt8) × Int))) : Option (Bool) :=
  let x0 := a
  let x10 := (x0.length : Int)
  let x11 := (decide (x10 > (200 : Int)))
  if x11 then (
    Option.bind (law25_awake ()) fun x12 =>
    some x12)
  else (
    Option.bind (iter law25_BeforeSums_loop1 (x0, (0 : Int), ([] : List (Int)), (), ())) fun o =>
    let x0 := o.1
    let l1003 := o.2.1
    Option.bind (before_Sum x0) fun x29 =>
    Option.bind (cents_Sum l1003) fun x34 =>
    let x39 := (x29.1 == x34.1)
    let x41 := (if x39 = true then some x29.2 else none)
    let x42 := (if x39 = true then some x34.2 else none)
    Option.bind (if x39 = true then ((x41.bind (fun z7 => x42.map (fun z8 => (z7, z8)))).map (fun z9 => (z9.1 == z9.2))).map some else some none) fun x43 =>
    Option.bind (if x39 then x43 else some false) fun x44 =>
    Option.bind (if x44 = true then (law25_awake ()).map some else some none) fun x46 =>
    Option.bind (if x44 then x46 else some false) fun x47 =>
    some x47)
noncomputable def law25_BeforeAll_loop1 (s : (Int) × (List ((List UInt8) × Int)) × (Int) × (Int) × Unit) : Option (((Int) × (List ((List UInt8) × Int)) × (Int) × (Int) × Unit) ⊕ (((Int) × (List ((List UInt8) × Int)) × (Int) × Unit) ⊕ (Bool))) :=
  let x0 := s.1
  let x1 := s.2.1
  let x5 := s.2.2.1
  let x6 := s.2.2.2.1
  let x18 := (x1.length : Int)
  let x19 := (decide (x6 < x18))
  if x19 then (
    Option.bind ((lAt x1 x6).map (fun y => y)) fun x24 =>
    let x27 := (decide (x24.2 > (1099511627776 : Int)))
    if x27 then (
      Option.bind (law25_awake ()) fun x28 =>
      some (Sum.inr (Sum.inr x28)))
    else (
      Option.bind ((lAt x1 x6).map (fun y => y)) fun x32 =>
      let x35 := (max (0 : Int) x32.2)
      let x36 := IntKind.i64.wrap (x5 + x35)
      let x21 := IntKind.i64.wrap (x6 + (1 : Int))
      some (Sum.inl (x0, x1, x36, x21, ()))))
  else (
    some (Sum.inr (Sum.inl (x0, x1, x5, ()))))
noncomputable def law25_BeforeAll (a : Int × (List ((List UInt8) × Int))) : Option (Bool) :=
  let x0 := a.1
  let x1 := a.2
  let x13 := (x1.length : Int)
  let x14 := (decide (x13 > (60 : Int)))
  if x14 then (
    Option.bind (law25_awake ()) fun x15 =>
    some x15)
  else (
    Option.bind (iter law25_BeforeAll_loop1 (x0, x1, (0 : Int), (0 : Int), ())) fun o =>
    match o with
    | Sum.inl p1 => (
      let x0 := p1.1
      let x1 := p1.2.1
      let x5 := p1.2.2.1
      Option.bind (before_Take (x0, ([] : List ((List UInt8) × (Int))), x1, ([] : List ((List UInt8) × Int × Int)))) fun x40 =>
      let x45 := (x40.2.2 != (0 : Int))
      if x45 then (
        Option.bind (law25_awake ()) fun x46 =>
        some x46)
      else (
        Option.bind (before_Sum x40.1) fun x49 =>
        let x53 := (x49.2 == (0 : Int))
        let x55 := (if x53 = true then some x49.1 else none)
        let x56 := (if x53 = true then some x0 else none)
        Option.bind (if x53 = true then ((x56.map (fun z22 => ((0 : Int), z22))).map (fun z23 => (max z23.1 z23.2))).map some else some none) fun x57 =>
        let x58 := (if x53 = true then some x5 else none)
        Option.bind (if x53 = true then ((x57.bind (fun z24 => x58.map (fun z25 => (z24, z25)))).map (fun z26 => (min z26.1 z26.2))).map some else some none) fun x59 =>
        Option.bind (if x53 = true then ((x55.bind (fun z27 => x59.map (fun z28 => (z27, z28)))).map (fun z29 => (z29.1 == z29.2))).map some else some none) fun x60 =>
        Option.bind (if x53 then x60 else some false) fun x61 =>
        Option.bind (if x61 = true then (law25_awake ()).map some else some none) fun x63 =>
        Option.bind (if x61 then x63 else some false) fun x64 =>
        some x64))
    | Sum.inr q2 => (
      some q2))
end WB
