/-
  OWN TEXTS, MERGED (wip/merge.py): PGr, Psr, PostTr. No condition of their own.
-/
import Derived.Test.YtimkfmkhmfcjeaaGreatDoorK5
import Derived.Test.YtimkfmkhmfcjeaaGreatDoorK6
import Derived.Test.YtimkfmkhmfcjeaaGreatDoorK7
set_option linter.unusedVariables false
set_option linter.unusedSimpArgs false
namespace WB
open Go Go.RowKit
set_option linter.unusedVariables false
noncomputable def law34_table_loop1 (s : (List (Int × (List ((List UInt8) × Int)))) × (Int) × (List ((Int) × (List ((List UInt8) × Int)))) × (Unit) × Unit) : Option (((List (Int × (List ((List UInt8) × Int)))) × (Int) × (List ((Int) × (List ((List UInt8) × Int)))) × (Unit) × Unit) ⊕ (((List ((Int) × (List ((List UInt8) × Int)))) × (Unit) × Unit))) :=
  let x0 := s.1
  let x4 := s.2.1
  let l5 := s.2.2.1
  let x8 := (x0.length : Int)
  let x9 := (decide (x4 < x8))
  if x9 then (
    Option.bind ((lAt x0 x4).map (fun y => y)) fun x15 =>
    Option.bind ((lAt x0 x4).map (fun y => y)) fun x20 =>
    let l5 := alPut (eqZ (.int .u32)) x15.1 x20.2 l5
    let x11 := IntKind.i64.wrap (x4 + (1 : Int))
    some (Sum.inl (x0, x11, l5, (), ())))
  else (
    some (Sum.inr (l5, (), ())))
noncomputable def law34_table (a : (List (Int × (List ((List UInt8) × Int))))) : Option (List ((Int) × (List ((List UInt8) × Int)))) :=
  let x0 := a
  Option.bind (iter law34_table_loop1 (x0, (0 : Int), ([] : List ((Int) × (List ((List UInt8) × Int)))), (), ())) fun o =>
  let l5 := o.1
  some l5
noncomputable def post_Run_loop1 (s : (List ((Int) × (List ((List UInt8) × Int)))) × (List (Int × Int × Int × (List (Int × (List UInt8) × Int)) × (List (Int × Int × (List (Int × (List UInt8) × Int)))) × Int × Int × Int)) × (Int) × (Int) × (Int) × (Int) × (Int) × (Int) × (Int) × (List (Int × (List UInt8) × Int)) × (List (Int × Int × (List (Int × (List UInt8) × Int)))) × (Int) × (Int) × (Int) × (List (Int × Int × (List (Int × (List UInt8) × Int)))) × (List ((List UInt8) × (List UInt8) × Int × (List UInt8))) × (Unit) × (Unit) × (Unit) × (Unit) × Unit) : Option (((List ((Int) × (List ((List UInt8) × Int)))) × (List (Int × Int × Int × (List (Int × (List UInt8) × Int)) × (List (Int × Int × (List (Int × (List UInt8) × Int)))) × Int × Int × Int)) × (Int) × (Int) × (Int) × (Int) × (Int) × (Int) × (Int) × (List (Int × (List UInt8) × Int)) × (List (Int × Int × (List (Int × (List UInt8) × Int)))) × (Int) × (Int) × (Int) × (List (Int × Int × (List (Int × (List UInt8) × Int)))) × (List ((List UInt8) × (List UInt8) × Int × (List UInt8))) × (Unit) × (Unit) × (Unit) × (Unit) × Unit) ⊕ (((List ((Int) × (List ((List UInt8) × Int)))) × (List (Int × Int × Int × (List (Int × (List UInt8) × Int)) × (List (Int × Int × (List (Int × (List UInt8) × Int)))) × Int × Int × Int)) × (Int) × (Int) × (List ((List UInt8) × (List UInt8) × Int × (List UInt8))) × (Unit) × Unit) ⊕ ((List ((List UInt8) × (List UInt8) × Int × (List UInt8))) × Int))) :=
  let x1 := s.1
  let x14 := s.2.1
  let x15 := s.2.2.1
  let x16 := s.2.2.2.1
  let x26 := s.2.2.2.2.1
  let x27 := s.2.2.2.2.2.1
  let c8_0 := s.2.2.2.2.2.2.1
  let c8_1 := s.2.2.2.2.2.2.2.1
  let c8_2 := s.2.2.2.2.2.2.2.2.1
  let c8_3 := s.2.2.2.2.2.2.2.2.2.1
  let c8_4 := s.2.2.2.2.2.2.2.2.2.2.1
  let c8_5 := s.2.2.2.2.2.2.2.2.2.2.2.1
  let c8_6 := s.2.2.2.2.2.2.2.2.2.2.2.2.1
  let c8_7 := s.2.2.2.2.2.2.2.2.2.2.2.2.2.1
  let l22 := s.2.2.2.2.2.2.2.2.2.2.2.2.2.2.1
  let l1006 := s.2.2.2.2.2.2.2.2.2.2.2.2.2.2.2.1
  let x28 := (decide (x27 < x26))
  if x28 then (
    Option.bind (if 0 ≤ x27 ∧ x27 < (l22.length : Int) then some x27.toNat else none) fun x29 =>
    Option.bind ((l22[x29]?).map (fun y => y)) fun x30 =>
    let x36 := (alGet (eqZ (.int .u32)) (zeroT (.sl (.agg (.cons .str (.one (.int .i64)))))) c8_0 x1).1
    Option.bind (post_Of ((x30.1, x30.2.1, x30.2.2), x36)) fun x37 =>
    let x41 := (x37.2 != (0 : Int))
    if x41 then (
      some (Sum.inr (Sum.inr (([] : List ((List UInt8) × (List UInt8) × Int × (List UInt8))), x37.2))))
    else (
      Option.bind (if ((l1006.length : Int) + (x37.1.length : Int)) * (56 : Int) ≤ 140737488355328 ∧ (l1006.length : Int) + (x37.1.length : Int) ≤ 4611686018427387904 then some (l1006 ++ x37.1) else none) fun l1006 =>
      let x46 := IntKind.i64.wrap (x27 + (1 : Int))
      some (Sum.inl (x1, x14, x15, x16, x26, x46, c8_0, c8_1, c8_2, c8_3, c8_4, c8_5, c8_6, c8_7, l22, l1006, (), (), (), (), ()))))
  else (
    some (Sum.inr (Sum.inl (x1, x14, x15, x16, l1006, (), ()))))
noncomputable def post_Run_loop2 (s : (List ((Int) × (List ((List UInt8) × Int)))) × (List (Int × Int × Int × (List (Int × (List UInt8) × Int)) × (List (Int × Int × (List (Int × (List UInt8) × Int)))) × Int × Int × Int)) × (Int) × (Int) × (List ((List UInt8) × (List UInt8) × Int × (List UInt8))) × (Unit) × Unit) : Option (((List ((Int) × (List ((List UInt8) × Int)))) × (List (Int × Int × Int × (List (Int × (List UInt8) × Int)) × (List (Int × Int × (List (Int × (List UInt8) × Int)))) × Int × Int × Int)) × (Int) × (Int) × (List ((List UInt8) × (List UInt8) × Int × (List UInt8))) × (Unit) × Unit) ⊕ (((List ((List UInt8) × (List UInt8) × Int × (List UInt8))) × (Unit) × Unit) ⊕ ((List ((List UInt8) × (List UInt8) × Int × (List UInt8))) × Int))) :=
  let x1 := s.1
  let x14 := s.2.1
  let x15 := s.2.2.1
  let x16 := s.2.2.2.1
  let l1006 := s.2.2.2.2.1
  let x17 := (decide (x16 < x15))
  if x17 then (
    Option.bind ((lAt x14 x16).map (fun y => y)) fun x18 =>
    let l22 := ([(x18.2.1, x18.2.2.1, x18.2.2.2.1)] : List (Int × Int × (List (Int × (List UInt8) × Int))))
    Option.bind (if ((l22.length : Int) + (x18.2.2.2.2.1.length : Int)) * (40 : Int) ≤ 140737488355328 ∧ (l22.length : Int) + (x18.2.2.2.2.1.length : Int) ≤ 4611686018427387904 then some (l22 ++ x18.2.2.2.2.1) else none) fun l22 =>
    let x26 := (l22.length : Int)
    Option.bind (iter post_Run_loop1 (x1, x14, x15, x16, x26, (0 : Int), x18.1, x18.2.1, x18.2.2.1, x18.2.2.2.1, x18.2.2.2.2.1, x18.2.2.2.2.2.1, x18.2.2.2.2.2.2.1, x18.2.2.2.2.2.2.2, l22, l1006, (), (), (), (), ())) fun o =>
    match o with
    | Sum.inl p1 => (
      let x1 := p1.1
      let x14 := p1.2.1
      let x15 := p1.2.2.1
      let x16 := p1.2.2.2.1
      let l1006 := p1.2.2.2.2.1
      let x47 := IntKind.i64.wrap (x16 + (1 : Int))
      some (Sum.inl (x1, x14, x15, x47, l1006, (), ())))
    | Sum.inr q2 => (
      some (Sum.inr (Sum.inr q2))))
  else (
    some (Sum.inr (Sum.inl (l1006, (), ()))))
noncomputable def post_Run (a : (Int × Int × Int × Int × (List (Int × Int × Int × (List (Int × (List UInt8) × Int)) × (List (Int × Int × (List (Int × (List UInt8) × Int)))) × Int × Int × Int))) × (List ((Int) × (List ((List UInt8) × Int))))) : Option ((List ((List UInt8) × (List UInt8) × Int × (List UInt8))) × Int) :=
  let x0 := a.1
  let x1 := a.2
  let x15 := (x0.2.2.2.2.length : Int)
  Option.bind (iter post_Run_loop2 (x1, x0.2.2.2.2, x15, (0 : Int), ([] : List ((List UInt8) × (List UInt8) × Int × (List UInt8))), (), ())) fun o =>
  match o with
  | Sum.inl p3 => (
    let l1006 := p3.1
    some (l1006, (0 : Int)))
  | Sum.inr q4 => (
    some q4)
noncomputable def law34_PostRuns_loop1 (s : (List (Int × Int × Int × (List (Int × (List UInt8) × Int)) × (List (Int × Int × (List (Int × (List UInt8) × Int)))) × Int × Int × Int)) × (List ((Int) × (List ((List UInt8) × Int)))) × (Int) × (Int) × (List (Int × Int × (List (Int × (List UInt8) × Int)))) × (Int) × (List ((List UInt8) × (List UInt8) × Int × (List UInt8))) × (Unit) × Unit) : Option (((List (Int × Int × Int × (List (Int × (List UInt8) × Int)) × (List (Int × Int × (List (Int × (List UInt8) × Int)))) × Int × Int × Int)) × (List ((Int) × (List ((List UInt8) × Int)))) × (Int) × (Int) × (List (Int × Int × (List (Int × (List UInt8) × Int)))) × (Int) × (List ((List UInt8) × (List UInt8) × Int × (List UInt8))) × (Unit) × Unit) ⊕ (((List (Int × Int × Int × (List (Int × (List UInt8) × Int)) × (List (Int × Int × (List (Int × (List UInt8) × Int)))) × Int × Int × Int)) × (List ((Int) × (List ((List UInt8) × Int)))) × (Int) × (Int) × (List ((List UInt8) × (List UInt8) × Int × (List UInt8))) × (Unit) × Unit) ⊕ (Bool))) :=
  let x0 := s.1
  let x5 := s.2.1
  let x7 := s.2.2.1
  let x8 := s.2.2.2.1
  let x9 := s.2.2.2.2.1
  let x10 := s.2.2.2.2.2.1
  let l1006 := s.2.2.2.2.2.2.1
  let x57 := (x9.length : Int)
  let x58 := (decide (x10 < x57))
  let x60 := (if x58 = true then some x7 else none)
  Option.bind (if x58 = true then ((x60.bind (fun z281 => some (z281, (0 : Int)))).map (fun z283 => (z283.1 == z283.2))).map some else some none) fun x61 =>
  Option.bind (if x58 then x61 else some false) fun x62 =>
  if x62 then (
    Option.bind (show Option (((List (Int × Int × Int × (List (Int × (List UInt8) × Int)) × (List (Int × Int × (List (Int × (List UInt8) × Int)))) × Int × Int × Int)) × (List ((Int) × (List ((List UInt8) × Int)))) × (Int) × (Int) × (List (Int × Int × (List (Int × (List UInt8) × Int)))) × (Int) × (List ((List UInt8) × (List UInt8) × Int × (List UInt8))) × (Unit) × Unit) ⊕ (Bool)) from (
      Option.bind ((lAt x0 x8).map (fun y => y)) fun x68 =>
      let x71 := (alGet (eqZ (.int .u32)) (zeroT (.sl (.agg (.cons .str (.one (.int .i64)))))) x68.1 x5).1
      Option.bind ((lAt x9 x10).map (fun y => y)) fun x74 =>
      Option.bind (law34_great (x74, x71)) fun x77 =>
      if x77 then (
        Option.bind (law34_awake ()) fun x78 =>
        some (Sum.inr x78))
      else (
        Option.bind ((lAt x9 x10).map (fun y => y)) fun x81 =>
        Option.bind (slip_Check x81) fun x83 =>
        Option.bind (show Option (((List (Int × Int × Int × (List (Int × (List UInt8) × Int)) × (List (Int × Int × (List (Int × (List UInt8) × Int)))) × Int × Int × Int)) × (List ((Int) × (List ((List UInt8) × Int)))) × (Int) × (Int) × (List (Int × Int × (List (Int × (List UInt8) × Int)))) × (Int) × (List ((List UInt8) × Int)) × (List ((List UInt8) × (List UInt8) × Int × (List UInt8))) × (Unit) × Unit)) from (
          let x85 := (x83 == (0 : Int))
          if x85 then (
            Option.bind (law34_check x71) fun x87 =>
            some (x0, x5, x87, x8, x9, x10, x71, l1006, (), ()))
          else (
            some (x0, x5, x83, x8, x9, x10, x71, l1006, (), ())))) fun o =>
        let x0 := o.1
        let x5 := o.2.1
        let x7 := o.2.2.1
        let x8 := o.2.2.2.1
        let x9 := o.2.2.2.2.1
        let x10 := o.2.2.2.2.2.1
        let x11 := o.2.2.2.2.2.2.1
        let l1006 := o.2.2.2.2.2.2.2.1
        let x89 := (x7 == (0 : Int))
        if x89 then (
          Option.bind ((lAt x9 x10).map (fun y => y)) fun x93 =>
          Option.bind (law34_entries (x93, x11)) fun x96 =>
          Option.bind (if ((l1006.length : Int) + (x96.length : Int)) * (56 : Int) ≤ 140737488355328 ∧ (l1006.length : Int) + (x96.length : Int) ≤ 4611686018427387904 then some (l1006 ++ x96) else none) fun l1006 =>
          some (Sum.inl (x0, x5, x7, x8, x9, x10, l1006, (), ())))
        else (
          some (Sum.inl (x0, x5, x7, x8, x9, x10, l1006, (), ())))))) fun o =>
    match o with
    | Sum.inl p284 => (
      let x0 := p284.1
      let x5 := p284.2.1
      let x7 := p284.2.2.1
      let x8 := p284.2.2.2.1
      let x9 := p284.2.2.2.2.1
      let x10 := p284.2.2.2.2.2.1
      let l1006 := p284.2.2.2.2.2.2.1
      let x64 := IntKind.i64.wrap (x10 + (1 : Int))
      some (Sum.inl (x0, x5, x7, x8, x9, x64, l1006, (), ())))
    | Sum.inr q285 => (
      some (Sum.inr (Sum.inr q285))))
  else (
    some (Sum.inr (Sum.inl (x0, x5, x7, x8, l1006, (), ()))))
noncomputable def law34_PostRuns_loop2 (s : (List (Int × Int × Int × (List (Int × (List UInt8) × Int)) × (List (Int × Int × (List (Int × (List UInt8) × Int)))) × Int × Int × Int)) × (List ((Int) × (List ((List UInt8) × Int)))) × (Int) × (Int) × (List ((List UInt8) × (List UInt8) × Int × (List UInt8))) × (Unit) × Unit) : Option (((List (Int × Int × Int × (List (Int × (List UInt8) × Int)) × (List (Int × Int × (List (Int × (List UInt8) × Int)))) × Int × Int × Int)) × (List ((Int) × (List ((List UInt8) × Int)))) × (Int) × (Int) × (List ((List UInt8) × (List UInt8) × Int × (List UInt8))) × (Unit) × Unit) ⊕ (((List (Int × Int × Int × (List (Int × (List UInt8) × Int)) × (List (Int × Int × (List (Int × (List UInt8) × Int)))) × Int × Int × Int)) × (List ((Int) × (List ((List UInt8) × Int)))) × (Int) × (List ((List UInt8) × (List UInt8) × Int × (List UInt8))) × (Unit) × Unit) ⊕ (Bool))) :=
  let x0 := s.1
  let x5 := s.2.1
  let x7 := s.2.2.1
  let x8 := s.2.2.2.1
  let l1006 := s.2.2.2.2.1
  let x27 := (x0.length : Int)
  let x28 := (decide (x8 < x27))
  let x30 := (if x28 = true then some x7 else none)
  Option.bind (if x28 = true then ((x30.bind (fun z218 => some (z218, (0 : Int)))).map (fun z220 => (z220.1 == z220.2))).map some else some none) fun x31 =>
  Option.bind (if x28 then x31 else some false) fun x32 =>
  if x32 then (
    Option.bind ((lAt x0 x8).map (fun y => y)) fun x37 =>
    let x40 := (x37.2.2.2.2.1.length : Int)
    let x41 := (decide (x40 > (12 : Int)))
    if x41 then (
      Option.bind (law34_awake ()) fun x42 =>
      some (Sum.inr (Sum.inr x42)))
    else (
      Option.bind ((lAt x0 x8).map (fun y => y)) fun x45 =>
      let l48 := ([(x45.2.1, x45.2.2.1, x45.2.2.2.1)] : List (Int × Int × (List (Int × (List UInt8) × Int))))
      Option.bind ((lAt x0 x8).map (fun y => y)) fun x51 =>
      Option.bind (if ((l48.length : Int) + (x51.2.2.2.2.1.length : Int)) * (40 : Int) ≤ 140737488355328 ∧ (l48.length : Int) + (x51.2.2.2.2.1.length : Int) ≤ 4611686018427387904 then some (l48 ++ x51.2.2.2.2.1) else none) fun l48 =>
      Option.bind (iter law34_PostRuns_loop1 (x0, x5, x7, x8, l48, (0 : Int), l1006, (), ())) fun o =>
      match o with
      | Sum.inl p286 => (
        let x0 := p286.1
        let x5 := p286.2.1
        let x7 := p286.2.2.1
        let x8 := p286.2.2.2.1
        let l1006 := p286.2.2.2.2.1
        let x34 := IntKind.i64.wrap (x8 + (1 : Int))
        some (Sum.inl (x0, x5, x7, x34, l1006, (), ())))
      | Sum.inr q287 => (
        some (Sum.inr (Sum.inr q287)))))
  else (
    some (Sum.inr (Sum.inl (x0, x5, x7, l1006, (), ()))))
noncomputable def law34_PostRuns (a : (List (Int × Int × Int × (List (Int × (List UInt8) × Int)) × (List (Int × Int × (List (Int × (List UInt8) × Int)))) × Int × Int × Int)) × (List (Int × (List ((List UInt8) × Int))))) : Option (Bool) :=
  let x0 := a.1
  let x1 := a.2
  let x15 := (x0.length : Int)
  let x16 := (decide (x15 > (12 : Int)))
  let x18 := (if x16 = false then some x1 else none)
  Option.bind (if x16 = false then (x18.map (fun z21 => (z21.length : Int))).map some else some none) fun x19 =>
  Option.bind (if x16 = false then ((x19.bind (fun z22 => some (z22, (12 : Int)))).map (fun z24 => (decide (z24.1 > z24.2)))).map some else some none) fun x20 =>
  Option.bind (if x16 then some true else x20.map (fun z25 => z25)) fun x21 =>
  if x21 then (
    Option.bind (law34_awake ()) fun x22 =>
    some x22)
  else (
    Option.bind (law34_table x1) fun x24 =>
    Option.bind (iter law34_PostRuns_loop2 (x0, x24, (0 : Int), (0 : Int), ([] : List ((List UInt8) × (List UInt8) × Int × (List UInt8))), (), ())) fun o =>
    match o with
    | Sum.inl p288 => (
      let x0 := p288.1
      let x5 := p288.2.1
      let x7 := p288.2.2.1
      let l1006 := p288.2.2.2.1
      Option.bind (post_Run (((0 : Int), (0 : Int), (0 : Int), (0 : Int), x0), x5)) fun x102 =>
      let x106 := (x7 != (0 : Int))
      if x106 then (
        let x109 := (x102.2 == x7)
        let x111 := (if x109 = true then some x102.1 else none)
        Option.bind (if x109 = true then (x111.map (fun z306 => (z306.length : Int))).map some else some none) fun x112 =>
        Option.bind (if x109 = true then ((x112.bind (fun z307 => some (z307, (0 : Int)))).map (fun z309 => (z309.1 == z309.2))).map some else some none) fun x113 =>
        Option.bind (if x109 then x113 else some false) fun x114 =>
        Option.bind (if x114 = true then (law34_awake ()).map some else some none) fun x116 =>
        Option.bind (if x114 then x116 else some false) fun x117 =>
        some x117)
      else (
        let x119 := (x102.2 == (0 : Int))
        let x121 := (if x119 = true then some x102.1 else none)
        let x122 := (if x119 = true then some l1006 else none)
        Option.bind (if x119 = true then (((x121.bind (fun z318 => x122.map (fun z319 => (z318, z319)))).map (fun z320 => (z320.1, z320.2))).bind (fun z321 => law34_same z321)).map some else some none) fun x123 =>
        Option.bind (if x119 then x123 else some false) fun x124 =>
        Option.bind (if x124 = true then (law34_awake ()).map some else some none) fun x126 =>
        Option.bind (if x124 then x126 else some false) fun x127 =>
        some x127))
    | Sum.inr q289 => (
      some q289))
end WB
namespace WB
open Go Go.RowKit

abbrev Slp := Int × Int × List Ln
abbrev RowR := Int × Int × Int × List Ln × List Slp × Int × Int × Int
abbrev CM := List (Int × List Wt)
def costOf (m : CM) (p : Int) : List Wt := (alGet (eqZ (Ty.int IntKind.u32)) (zeroT (Ty.str.cons (Ty.int IntKind.i64).one).agg.sl) p m).1
def rowSlips (r : RowR) : List Slp := [(r.2.1, r.2.2.1, r.2.2.2.1)] ++ r.2.2.2.2.1
def greatB (s : Slp) (c : List Wt) : Bool := decide ((s.2.2.length : Int) > 60) || decide ((c.length : Int) > 70)
noncomputable def innerS (c : List Wt) : Ents → List Slp → Unit ⊕ (Int × Ents)
  | want, [] => .inr (0, want)
  | want, s :: l => if greatB s c = true then .inl () else if (ofS' s c).2 ≠ 0 then .inr ((ofS' s c).2, want) else innerS c (want ++ (ofS' s c).1) l
noncomputable def outerS (m : CM) : Ents → List RowR → Unit ⊕ (Int × Ents)
  | want, [] => .inr (0, want)
  | want, r :: l => if (r.2.2.2.2.1.length : Int) > 12 then .inl () else match innerS (costOf m r.1) want (rowSlips r) with
    | .inl _ => .inl ()
    | .inr p => if p.1 = 0 then outerS m p.2 l else .inr p
theorem great_len {s : Slp} {c : List Wt} (h : greatB s c = false) : (ofS' s c).1.length ≤ 3840 := by
  have := ofS'_len s c
  unfold greatB at h
  rw [Bool.or_eq_false_iff, decide_eq_false_iff_not] at h
  omega
theorem inner_len {c : List Wt} : ∀ (l : List Slp) (want : Ents) (p : Int × Ents), innerS c want l = .inr p → p.2.length ≤ want.length + 3840 * l.length
  | [], want, p, h => by
    unfold innerS at h
    cases h
    simp
  | s :: l, want, p, h => by
    unfold innerS at h
    by_cases hg : greatB s c = true
    · rw [if_pos hg] at h; cases h
    · rw [if_neg hg] at h
      have hl := great_len (by simpa using hg)
      by_cases h0 : (ofS' s c).2 ≠ 0
      · rw [if_pos h0] at h
        cases h
        simp only [List.length_cons]; omega
      · rw [if_neg h0] at h
        have := inner_len l _ p h
        simp only [List.length_append, List.length_cons] at this ⊢
        omega
theorem bad_eq (s : Slp) (c : List Wt) : (if (slipS s == 0) = true then costS c else slipS s) = (ofS' s c).2 := by
  unfold ofS'
  by_cases h0 : slipS s = 0
  · have d : (slipS s == 0) = true := by simpa using h0
    rw [if_pos d, if_neg (show ¬ (slipS s ≠ 0) by simpa using h0)]
    by_cases h1 : costS c = 0
    · rw [if_neg (show ¬ (costS c ≠ 0) by simpa using h1)]; exact h1
    · rw [if_pos (show costS c ≠ 0 from h1)]
  · have d : (slipS s == 0) = false := by simpa using h0
    rw [if_neg (by rw [d]; decide), if_pos (show slipS s ≠ 0 from h0)]
theorem law_inner {rows : List RowR} {m : CM} {r : RowR} {i : Nat} (hr : rows[i]? = some r) : ∀ (l pre : List Slp) (want : Ents), want.length + 3840 * l.length ≤ 1000000 → pre.length + l.length ≤ 1000 →
    iter law34_PostRuns_loop1 (rows, m, 0, (i : Int), pre ++ l, (pre.length : Int), want, (), ()) = some (match innerS (costOf m r.1) want l with | .inl _ => .inr true | .inr p => .inl (rows, m, p.1, (i : Int), p.2, (), ()))
  | [], pre, want, hw, hn => by
    refine itR ?_
    unfold law34_PostRuns_loop1
    dsimp only
    simp only [gPi, gSS, gPb, gPm, gPs, gM, gM2, gAnd, gOr, gAndI, gOrI, gAA, gAO, gOA, gOO, gAAf, gAOf, gOAf, gOOf, gAMf, gOMf, gId]
    try simp only [gIn1, gIn2, gIn3, gIn4, gIn5, gIn6, gIn7, gIn8, gId, gIdF, gMb, gMm, gBm, gBb, bs, ms]
    have c : decide ((pre.length : Int) < (((pre ++ []) : List Slp).length : Int)) = false := decide_eq_false (by simp)
    rw [c, if_neg (by decide), bs, if_neg (by decide)]
    rfl
  | s :: l, pre, want, hw, hn => by
    simp only [List.length_cons] at hw hn
    have w1 : IntKind.i64.wrap ((pre.length : Int) + 1) = ((pre ++ [s]).length : Int) := by rw [w64' (by omega) (by omega)]; simp
    have c : decide ((pre.length : Int) < (((pre ++ s :: l) : List Slp).length : Int)) = true := decide_eq_true (by simp; omega)
    have body : law34_PostRuns_loop1 (rows, m, 0, (i : Int), pre ++ s :: l, (pre.length : Int), want, (), ()) =
        if greatB s (costOf m r.1) = true then some (.inr (.inr true)) else if (ofS' s (costOf m r.1)).2 ≠ 0 then some (.inl (rows, m, (ofS' s (costOf m r.1)).2, (i : Int), pre ++ s :: l, ((pre ++ [s]).length : Int), want, (), ()))
          else some (.inl (rows, m, 0, (i : Int), pre ++ s :: l, ((pre ++ [s]).length : Int), want ++ (ofS' s (costOf m r.1)).1, (), ())) := by
      unfold law34_PostRuns_loop1
      dsimp only
      simp only [gPi, gSS, gPb, gPm, gPs, gM, gM2, gAnd, gOr, gAndI, gOrI, gAA, gAO, gOA, gOO, gAAf, gAOf, gOAf, gOOf, gAMf, gOMf, gId]
      try simp only [gIn1, gIn2, gIn3, gIn4, gIn5, gIn6, gIn7, gIn8, gId, gIdF, gMb, gMm, gBm, gBb, bs, ms]
      rw [c, if_pos rfl, bs, if_pos (by decide), lAt_nat hr]
      simp only [lAt_mid', bs]
      have hcost : (alGet (eqZ (Ty.int IntKind.u32)) (zeroT (Ty.str.cons (Ty.int IntKind.i64).one).agg.sl) r.1 m).fst = costOf m r.1 := rfl
      simp only [hcost]
      rw [great_eq, bs]
      cases hg : greatB s (costOf m r.1) with
      | true =>
        have hg' : (decide ((s.2.2.length : Int) > 60) || decide (((costOf m r.1).length : Int) > 70)) = true := hg
        rw [hg', if_pos rfl, awake_eq, bs, bs]
        rfl
      | false =>
        have hg' : (decide ((s.2.2.length : Int) > 60) || decide (((costOf m r.1).length : Int) > 70)) = false := hg
        have hlen := great_len hg
        rw [hg', if_neg (show ¬ (false = true) by decide), if_neg (show ¬ (false = true) by decide), slip_eq, bs]
        have hbad := bad_eq s (costOf m r.1)
        by_cases h0 : slipS s = 0
        · have d : (slipS s == 0) = true := by simpa using h0
          rw [d, if_pos rfl] at hbad
          rw [d, if_pos rfl, lcheck_eq, bs, bs]
          dsimp only
          rw [hbad]
          by_cases hz : (ofS' s (costOf m r.1)).2 = 0
          · have e : (ofS' s (costOf m r.1)).1 = s.2.2.flatMap (lineE (costD (costOf m r.1))) := by
              have h1 : costS (costOf m r.1) = 0 := by rw [hbad]; exact hz
              unfold ofS'
              rw [if_neg (show ¬ (slipS s ≠ 0) by simpa using h0), if_neg (show ¬ (costS (costOf m r.1) ≠ 0) by simpa using h1)]
            have dz : ((ofS' s (costOf m r.1)).2 == 0) = true := by simpa using hz
            rw [dz, if_pos rfl, lAt_mid', bs, entries_eq h0 (by rw [hbad]; exact hz), bs, ← e, appOk' (by omega) (by decide), bs, if_neg (show ¬ ((ofS' s (costOf m r.1)).2 ≠ 0) by simpa using hz)]
            dsimp only
            rw [w1, hz]
          · have dz : ((ofS' s (costOf m r.1)).2 == 0) = false := by simpa using hz
            rw [dz, if_neg (show ¬ (false = true) by decide), bs, if_pos (show (ofS' s (costOf m r.1)).2 ≠ 0 from hz)]
            dsimp only
            rw [w1]
        · have d : (slipS s == 0) = false := by simpa using h0
          rw [d, if_neg (show ¬ (false = true) by decide)] at hbad
          have hz : (ofS' s (costOf m r.1)).2 ≠ 0 := by rw [← hbad]; exact h0
          rw [d, if_neg (show ¬ (false = true) by decide), bs]
          dsimp only
          rw [d, if_neg (show ¬ (false = true) by decide), bs, if_pos hz]
          dsimp only
          rw [w1, hbad]
    unfold innerS
    by_cases hg : greatB s (costOf m r.1) = true
    · rw [if_pos hg] at body ⊢
      exact itR body
    · rw [if_neg hg] at body ⊢
      have hlen := great_len (by simpa using hg)
      by_cases hz : (ofS' s (costOf m r.1)).2 ≠ 0
      · rw [if_pos hz] at body ⊢
        rw [itL body]
        refine itR ?_
        unfold law34_PostRuns_loop1
        dsimp only
        simp only [gPi, gSS, gPb, gPm, gPs, gM, gM2, gAnd, gOr, gAndI, gOrI, gAA, gAO, gOA, gOO, gAAf, gAOf, gOAf, gOOf, gAMf, gOMf, gId]
        try simp only [gIn1, gIn2, gIn3, gIn4, gIn5, gIn6, gIn7, gIn8, gId, gIdF, gMb, gMm, gBm, gBb, bs, ms]
        have dz : ((ofS' s (costOf m r.1)).2 == 0) = false := by simpa using hz
        rw [dz, ite_self, bs, if_neg (by decide)]
      · rw [if_neg hz] at body ⊢
        have e := law_inner (m := m) hr l (pre ++ [s]) (want ++ (ofS' s (costOf m r.1)).1) (by simp only [List.length_append]; omega) (by simp; omega)
        rw [List.append_assoc, List.singleton_append] at e
        rw [itL body, e]
theorem code_inner {rows : List RowR} {m : CM} {r : RowR} {n i : Int} : ∀ (l pre : List Slp) (want : Ents) (p : Int × Ents), innerS (costOf m r.1) want l = .inr p → want.length + 3840 * l.length ≤ 1000000 → pre.length + l.length ≤ 1000 →
    iter post_Run_loop1 (m, rows, n, i, ((pre ++ l).length : Int), (pre.length : Int), r.1, r.2.1, r.2.2.1, r.2.2.2.1, r.2.2.2.2.1, r.2.2.2.2.2.1, r.2.2.2.2.2.2.1, r.2.2.2.2.2.2.2, pre ++ l, want, (), (), (), (), ()) = some (if p.1 = 0 then .inl (m, rows, n, i, p.2, (), ()) else .inr ([], p.1))
  | [], pre, want, p, hp, hw, hn => by
    unfold innerS at hp
    cases hp
    refine itR ?_
    unfold post_Run_loop1
    dsimp only
    have c : decide ((pre.length : Int) < (((pre ++ []) : List Slp).length : Int)) = false := decide_eq_false (by simp)
    rw [c, if_neg (by decide), if_pos rfl]
  | s :: l, pre, want, p, hp, hw, hn => by
    simp only [List.length_cons] at hw hn
    have w1 : IntKind.i64.wrap ((pre.length : Int) + 1) = ((pre ++ [s]).length : Int) := by rw [w64' (by omega) (by omega)]; simp
    have c : decide ((pre.length : Int) < (((pre ++ s :: l) : List Slp).length : Int)) = true := decide_eq_true (by simp; omega)
    have hcost : (alGet (eqZ (Ty.int IntKind.u32)) (zeroT (Ty.str.cons (Ty.int IntKind.i64).one).agg.sl) r.1 m).fst = costOf m r.1 := rfl
    unfold innerS at hp
    by_cases hg : greatB s (costOf m r.1) = true
    · rw [if_pos hg] at hp; cases hp
    · rw [if_neg hg] at hp
      have hlen := great_len (by simpa using hg)
      by_cases hz : (ofS' s (costOf m r.1)).2 ≠ 0
      · rw [if_pos hz] at hp
        cases hp
        refine itR ?_
        unfold post_Run_loop1
        dsimp only
        try simp only [gPi, gSS, gPb, gPm, gPs, gM, gM2, gAnd, gOr, gAndI, gOrI, gAA, gAO, gOA, gOO, gAAf, gAOf, gOAf, gOOf, gAMf, gOMf, gId]
        try simp only [gIn1, gIn2, gIn3, gIn4, gIn5, gIn6, gIn7, gIn8, gId, gIdF, gMb, gMm, gBm, gBb, bs, ms]
        rw [c, if_pos rfl, if_pos ⟨by omega, by simp; omega⟩, Int.toNat_natCast, show (pre ++ s :: l)[pre.length]? = some s by simp, bs, hcost, pOf_eq, bs]
        have dz : ((ofS' s (costOf m r.1)).2 != 0) = true := by simpa using hz
        rw [dz, if_pos rfl, if_neg hz]
      · rw [if_neg hz] at hp
        have e := code_inner (rows := rows) (n := n) (i := i) l (pre ++ [s]) (want ++ (ofS' s (costOf m r.1)).1) p hp (by simp only [List.length_append]; omega) (by simp; omega)
        rw [List.append_assoc, List.singleton_append] at e
        refine (itL (s' := _) ?_).trans e
        unfold post_Run_loop1
        dsimp only
        try simp only [gPi, gSS, gPb, gPm, gPs, gM, gM2, gAnd, gOr, gAndI, gOrI, gAA, gAO, gOA, gOO, gAAf, gAOf, gOAf, gOOf, gAMf, gOMf, gId]
        try simp only [gIn1, gIn2, gIn3, gIn4, gIn5, gIn6, gIn7, gIn8, gId, gIdF, gMb, gMm, gBm, gBb, bs, ms]
        rw [c, if_pos rfl, if_pos ⟨by omega, by simp; omega⟩, Int.toNat_natCast, show (pre ++ s :: l)[pre.length]? = some s by simp, bs, hcost, pOf_eq, bs]
        have dz : ((ofS' s (costOf m r.1)).2 != 0) = false := by simpa using hz
        rw [dz, if_neg (by decide), appOk' (xs := want) (ys := (ofS' s (costOf m r.1)).1) (by omega) (by decide), w1]
theorem law_outer {m : CM} : ∀ (l pre : List RowR) (want : Ents), want.length + 49920 * l.length ≤ 1000000 → pre.length + l.length ≤ 1000 →
    iter law34_PostRuns_loop2 (pre ++ l, m, 0, (pre.length : Int), want, (), ()) = some (match outerS m want l with | .inl _ => .inr true | .inr p => .inl (pre ++ l, m, p.1, p.2, (), ()))
  | [], pre, want, hw, hn => by
    refine itR ?_
    unfold law34_PostRuns_loop2
    dsimp only
    simp only [gPi, gSS, gPb, gPm, gPs, gM, gM2, gAnd, gOr, gAndI, gOrI, gAA, gAO, gOA, gOO, gAAf, gAOf, gOAf, gOOf, gAMf, gOMf, gId]
    try simp only [gIn1, gIn2, gIn3, gIn4, gIn5, gIn6, gIn7, gIn8, gId, gIdF, gMb, gMm, gBm, gBb, bs, ms]
    have c : decide ((pre.length : Int) < (((pre ++ []) : List RowR).length : Int)) = false := decide_eq_false (by simp)
    rw [c, if_neg (by decide), bs, if_neg (by decide)]
    rfl
  | r :: l, pre, want, hw, hn => by
    simp only [List.length_cons] at hw hn
    have w1 : IntKind.i64.wrap ((pre.length : Int) + 1) = ((pre ++ [r]).length : Int) := by rw [w64' (by omega) (by omega)]; simp
    have c : decide ((pre.length : Int) < (((pre ++ r :: l) : List RowR).length : Int)) = true := decide_eq_true (by simp; omega)
    unfold outerS
    by_cases hb : (r.2.2.2.2.1.length : Int) > 12
    · rw [if_pos hb]
      refine itR ?_
      unfold law34_PostRuns_loop2
      dsimp only
      simp only [gPi, gSS, gPb, gPm, gPs, gM, gM2, gAnd, gOr, gAndI, gOrI, gAA, gAO, gOA, gOO, gAAf, gAOf, gOAf, gOOf, gAMf, gOMf, gId]
      try simp only [gIn1, gIn2, gIn3, gIn4, gIn5, gIn6, gIn7, gIn8, gId, gIdF, gMb, gMm, gBm, gBb, bs, ms]
      rw [c, if_pos rfl, bs, if_pos (by decide), lAt_mid', bs, decide_eq_true hb, if_pos rfl, awake_eq, bs]
    · rw [if_neg hb]
      have hsl : (rowSlips r).length ≤ 13 := by unfold rowSlips; simp; omega
      have hin := law_inner (rows := pre ++ r :: l) (m := m) (r := r) (i := pre.length) (by simp) (rowSlips r) [] want (by omega) (by simp; omega)
      simp only [List.nil_append, List.length_nil] at hin
      rw [show ((0 : Nat) : Int) = 0 from rfl] at hin
      have body : law34_PostRuns_loop2 (pre ++ r :: l, m, 0, (pre.length : Int), want, (), ()) = some (match innerS (costOf m r.1) want (rowSlips r) with | .inl _ => .inr (.inr true) | .inr p => .inl (pre ++ r :: l, m, p.1, ((pre ++ [r]).length : Int), p.2, (), ())) := by
        unfold law34_PostRuns_loop2
        dsimp only
        simp only [gPi, gSS, gPb, gPm, gPs, gM, gM2, gAnd, gOr, gAndI, gOrI, gAA, gAO, gOA, gOO, gAAf, gAOf, gOAf, gOOf, gAMf, gOMf, gId]
        try simp only [gIn1, gIn2, gIn3, gIn4, gIn5, gIn6, gIn7, gIn8, gId, gIdF, gMb, gMm, gBm, gBb, bs, ms]
        rw [c, if_pos rfl, bs, if_pos (by decide), lAt_mid', bs, decide_eq_false hb, if_neg (by decide)]
        simp only [lAt_mid', bs]
        rw [appOk' (by simp; omega) (by decide)]
        have hrs : [(r.2.1, r.2.2.1, r.2.2.2.1)] ++ r.2.2.2.2.1 = rowSlips r := rfl
        rw [hrs, hin, bs]
        cases innerS (costOf m r.1) want (rowSlips r) with
        | inl _ => rfl
        | inr p =>
          dsimp only
          rw [w1]
      cases hi : innerS (costOf m r.1) want (rowSlips r) with
      | inl _ =>
        rw [hi] at body
        exact itR body
      | inr p =>
        rw [hi] at body
        dsimp only at body ⊢
        rw [itL body]
        have hl := inner_len _ _ _ hi
        by_cases h0 : p.1 = 0
        · rw [if_pos h0, h0]
          have e := law_outer (m := m) l (pre ++ [r]) p.2 (by omega) (by simp; omega)
          rw [List.append_assoc, List.singleton_append] at e
          exact e
        · rw [if_neg h0]
          refine itR ?_
          unfold law34_PostRuns_loop2
          dsimp only
          simp only [gPi, gSS, gPb, gPm, gPs, gM, gM2, gAnd, gOr, gAndI, gOrI, gAA, gAO, gOA, gOO, gAAf, gAOf, gOAf, gOOf, gAMf, gOMf, gId]
          try simp only [gIn1, gIn2, gIn3, gIn4, gIn5, gIn6, gIn7, gIn8, gId, gIdF, gMb, gMm, gBm, gBb, bs, ms]
          have dz : (p.1 == 0) = false := by simpa using h0
          rw [dz, ite_self, bs, if_neg (by decide)]
theorem code_outer {m : CM} : ∀ (l pre : List RowR) (want : Ents) (p : Int × Ents), outerS m want l = .inr p → want.length + 49920 * l.length ≤ 1000000 → pre.length + l.length ≤ 1000 →
    iter post_Run_loop2 (m, pre ++ l, ((pre ++ l).length : Int), (pre.length : Int), want, (), ()) = some (if p.1 = 0 then .inl (p.2, (), ()) else .inr ([], p.1))
  | [], pre, want, p, hp, hw, hn => by
    unfold outerS at hp
    cases hp
    refine itR ?_
    unfold post_Run_loop2
    dsimp only
    have c : decide ((pre.length : Int) < (((pre ++ []) : List RowR).length : Int)) = false := decide_eq_false (by simp)
    rw [c, if_neg (by decide), if_pos rfl]
  | r :: l, pre, want, p, hp, hw, hn => by
    simp only [List.length_cons] at hw hn
    have w1 : IntKind.i64.wrap ((pre.length : Int) + 1) = ((pre ++ [r]).length : Int) := by rw [w64' (by omega) (by omega)]; simp
    have c : decide ((pre.length : Int) < (((pre ++ r :: l) : List RowR).length : Int)) = true := decide_eq_true (by simp; omega)
    unfold outerS at hp
    by_cases hb : (r.2.2.2.2.1.length : Int) > 12
    · rw [if_pos hb] at hp; cases hp
    · rw [if_neg hb] at hp
      have hsl : (rowSlips r).length ≤ 13 := by unfold rowSlips; simp; omega
      cases hi : innerS (costOf m r.1) want (rowSlips r) with
      | inl _ => rw [hi] at hp; cases hp
      | inr q =>
        rw [hi] at hp
        dsimp only at hp
        have hl := inner_len _ _ _ hi
        have hin := code_inner (rows := pre ++ r :: l) (m := m) (r := r) (n := ((pre ++ r :: l).length : Int)) (i := (pre.length : Int)) (rowSlips r) [] want q hi (by omega) (by simp; omega)
        simp only [List.nil_append, List.length_nil] at hin
        rw [show ((0 : Nat) : Int) = 0 from rfl] at hin
        have body : post_Run_loop2 (m, pre ++ r :: l, ((pre ++ r :: l).length : Int), (pre.length : Int), want, (), ()) = some (if q.1 = 0 then .inl (m, pre ++ r :: l, ((pre ++ r :: l).length : Int), ((pre ++ [r]).length : Int), q.2, (), ()) else .inr (.inr ([], q.1))) := by
          unfold post_Run_loop2
          dsimp only
          simp only [gPi, gSS, gPb, gPm, gPs, gM, gM2, gAnd, gOr, gAndI, gOrI, gAA, gAO, gOA, gOO, gAAf, gAOf, gOAf, gOOf, gAMf, gOMf, gId]
          try simp only [gIn1, gIn2, gIn3, gIn4, gIn5, gIn6, gIn7, gIn8, gId, gIdF, gMb, gMm, gBm, gBb, bs, ms]
          rw [c, if_pos rfl, lAt_mid', bs, appOk' (by simp; omega) (by decide)]
          have hrs : [(r.2.1, r.2.2.1, r.2.2.2.1)] ++ r.2.2.2.2.1 = rowSlips r := rfl
          rw [hrs, hin, bs]
          by_cases h0 : q.1 = 0
          · rw [if_pos h0, if_pos h0]
            dsimp only
            rw [w1]
          · rw [if_neg h0, if_neg h0]
        by_cases h0 : q.1 = 0
        · rw [if_pos h0] at body hp
          rw [itL body]
          have e := code_outer (m := m) l (pre ++ [r]) q.2 p hp (by omega) (by simp; omega)
          rw [List.append_assoc, List.singleton_append] at e
          exact e
        · rw [if_neg h0] at body hp
          cases hp
          rw [if_neg h0]
          exact itR body
theorem outer_len {m : CM} : ∀ (l : List RowR) (want : Ents) (p : Int × Ents), outerS m want l = .inr p → p.2.length ≤ want.length + 49920 * l.length
  | [], want, p, h => by
    unfold outerS at h
    cases h
    simp
  | r :: l, want, p, h => by
    unfold outerS at h
    by_cases hb : (r.2.2.2.2.1.length : Int) > 12
    · rw [if_pos hb] at h; cases h
    · rw [if_neg hb] at h
      have hsl : (rowSlips r).length ≤ 13 := by unfold rowSlips; simp; omega
      cases hi : innerS (costOf m r.1) want (rowSlips r) with
      | inl _ => rw [hi] at h; cases h
      | inr q =>
        rw [hi] at h
        dsimp only at h
        have hl := inner_len _ _ _ hi
        by_cases h0 : q.1 = 0
        · rw [if_pos h0] at h
          have := outer_len l q.2 p h
          simp only [List.length_cons]; omega
        · rw [if_neg h0] at h
          cases h
          simp only [List.length_cons]; omega
theorem table_loop : ∀ (l pre : CM) (m : CM), pre.length + l.length ≤ 1000 → ∃ m', iter law34_table_loop1 (pre ++ l, (pre.length : Int), m, (), ()) = some (m', (), ())
  | [], pre, m, hn => by
    refine ⟨m, itR ?_⟩
    unfold law34_table_loop1
    dsimp only
    have c : decide ((pre.length : Int) < (((pre ++ []) : CM).length : Int)) = false := decide_eq_false (by simp)
    rw [c, if_neg (by decide)]
  | x :: l, pre, m, hn => by
    simp only [List.length_cons] at hn
    have w1 : IntKind.i64.wrap ((pre.length : Int) + 1) = ((pre ++ [x]).length : Int) := by rw [w64' (by omega) (by omega)]; simp
    have c : decide ((pre.length : Int) < (((pre ++ x :: l) : CM).length : Int)) = true := decide_eq_true (by simp; omega)
    obtain ⟨m', e⟩ := table_loop l (pre ++ [x]) (alPut (eqZ (Ty.int IntKind.u32)) x.1 x.2 m) (by simp; omega)
    rw [List.append_assoc, List.singleton_append] at e
    refine ⟨m', (itL (s' := (pre ++ x :: l, ((pre ++ [x]).length : Int), alPut (eqZ (Ty.int IntKind.u32)) x.1 x.2 m, (), ())) ?_).trans e⟩
    unfold law34_table_loop1
    dsimp only
    simp only [c, if_true, lAt_mid', ms, bs]
    rw [w1]
theorem same_eqB {l : Ents} (hn : l.length ≤ 1000000) : law34_same (l, l) = some true := by
  have key := iter_fold0 (b := law34_same_loop1) (α := List UInt8 × List UInt8 × Int × List UInt8) (A := Unit) (fun i _ => (l, l, (i : Int), ())) (fun _ _ => .inl ()) (fun _ => .inl ()) (fun _ _ => True) l (a := ()) trivial (fun i x _ hx _ => by
    have hi := (List.getElem?_eq_some_iff.1 hx).1
    unfold law34_same_loop1
    dsimp only
    rw [lt_len hx, if_pos rfl, lAt_nat hx]
    simp only [ms, bs]
    rw [if_neg (by simp), w_succ (by omega)]; rfl) (fun _ _ _ _ _ _ _ => trivial) (fun _ _ => by
    unfold law34_same_loop1
    dsimp only
    rw [nlt_len, if_neg (by decide)])
  have hf : ∀ m : Ents, foldE (fun (_ : Unit) _ => (Sum.inl () : Unit ⊕ (Unit ⊕ Bool))) (fun _ => Sum.inl ()) () m = .inl () := by
    intro m
    induction m with
    | nil => rfl
    | cons x m ih => exact ih
  rw [hf] at key
  unfold law34_same
  dsimp only
  rw [if_neg (by simp), show (0 : Int) = ((0 : Nat) : Int) from rfl, key, bs]
theorem law_PostRuns (rows : List RowR) (costs : CM) : law34_PostRuns (rows, costs) = some true := by
  unfold law34_PostRuns
  dsimp only
  simp only [gPi, gSS, gPb, gPm, gPs, gM, gM2, gAnd, gOr, gAndI, gOrI, gAA, gAO, gOA, gOO, gAAf, gAOf, gOAf, gOOf, gAMf, gOMf, gId]
  try simp only [gIn1, gIn2, gIn3, gIn4, gIn5, gIn6, gIn7, gIn8, gId, gIdF, gMb, gMm, gBm, gBb, bs, ms]
  by_cases h1 : (rows.length : Int) > 12
  · rw [decide_eq_true h1, if_pos rfl, bs, if_pos rfl, awake_eq]
  · rw [decide_eq_false h1, if_neg (by decide)]
    by_cases h2 : (costs.length : Int) > 12
    · rw [decide_eq_true h2, bs, if_pos rfl, awake_eq]
    · rw [decide_eq_false h2, bs, if_neg (by decide)]
      obtain ⟨m, hm⟩ := table_loop costs [] [] (by simp; omega)
      have ht : law34_table costs = some m := by
        unfold law34_table
        dsimp only
        simp only [List.nil_append, List.length_nil] at hm
        rw [show ((0 : Nat) : Int) = 0 from rfl] at hm
        rw [hm, bs]
      rw [ht, bs]
      have ho := law_outer (m := m) rows [] [] (by simp; omega) (by simp; omega)
      simp only [List.nil_append, List.length_nil] at ho
      rw [show ((0 : Nat) : Int) = 0 from rfl] at ho
      rw [ho, bs]
      cases hs : outerS m [] rows with
      | inl _ => rfl
      | inr p =>
        dsimp only
        have hc := code_outer (m := m) rows [] [] p hs (by simp; omega) (by simp; omega)
        simp only [List.nil_append, List.length_nil] at hc
        rw [show ((0 : Nat) : Int) = 0 from rfl] at hc
        have hl := outer_len _ _ _ hs
        simp only [List.length_nil] at hl
        have hr : post_Run ((0, 0, 0, 0, rows), m) = some (if p.1 = 0 then (p.2, 0) else ([], p.1)) := by
          unfold post_Run
          dsimp only
          rw [hc, bs]
          by_cases h0 : p.1 = 0
          · rw [if_pos h0, if_pos h0]
          · rw [if_neg h0, if_neg h0]
        rw [hr, bs]
        by_cases h0 : p.1 = 0
        · have d : (p.1 != 0) = false := by simpa using h0
          rw [d, if_neg (by decide), if_pos h0]
          dsimp only
          rw [if_pos (by decide), same_eqB (by omega), bs, if_pos rfl, awake_eq]
        · have d : (p.1 != 0) = true := by simpa using h0
          rw [d, if_pos rfl, if_neg h0]
          dsimp only
          rw [if_pos (by simp), bs]
          exact awake_eq
end WB
namespace WB
set_option maxHeartbeats 4000000
open Go Go.RowKit Go.Proofs
def a19 : AF := ⟨24, (.sq (.reg false [] [⟨(some 2), (.mov (.k (.map (some true) [] []))), none⟩]) (.sq (.reg false [5] [⟨(some 5), (.mkmap 47 (.int .u32) (.sl (some true) [])), none⟩, ⟨(some 3), (.mov (.t 5)), none⟩]) (.seq [(.o 5, .mob 47 (.int .u32) (.sl (.agg (.cons .str (.one (.int .i64)))))), (.s 3, .mp 5)] (.sq (.reg false [] [⟨(some 4), (.mov (.k (.int .i64 0))), none⟩]) (.block 0 (.loop [(.s 0, .v (.sl (.agg (.cons (.int .u32) (.one (.sl (.agg (.cons .str (.one (.int .i64)))))))))), (.s 4, .v (.int .i64)), (.o 5, .mob 47 (.int .u32) (.sl (.agg (.cons .str (.one (.int .i64)))))), (.s 3, .mp 5)] [0] false (.seq [(.s 0, .v (.sl (.agg (.cons (.int .u32) (.one (.sl (.agg (.cons .str (.one (.int .i64)))))))))), (.s 4, .v (.int .i64)), (.o 5, .mob 47 (.int .u32) (.sl (.agg (.cons .str (.one (.int .i64)))))), (.s 3, .mp 5)] (.sq (.reg false [] [⟨(some 6), (.mov (.t 4)), none⟩, ⟨(some 7), (.mov (.t 0)), none⟩, ⟨(some 8), (.len 1 (.t 7)), none⟩, ⟨(some 9), (.bin .lss (.t 6) (.t 8)), none⟩]) (.cond (.t 9) .skip (.exit 0))) (.seq [(.s 0, .v (.sl (.agg (.cons (.int .u32) (.one (.sl (.agg (.cons .str (.one (.int .i64)))))))))), (.s 4, .v (.int .i64)), (.o 5, .mob 47 (.int .u32) (.sl (.agg (.cons .str (.one (.int .i64)))))), (.s 3, .mp 5)] (.block 1 (.reg true [] [⟨(some 12), (.mov (.t 3)), none⟩, ⟨(some 13), (.mov (.t 0)), none⟩, ⟨(some 14), (.mov (.t 4)), none⟩, ⟨(some 15), (.iaddr 2 (.t 13) (.t 14)), none⟩, ⟨(some 16), (.faddr 0 (.t 15)), none⟩, ⟨(some 17), (.load none (.t 16)), none⟩, ⟨(some 18), (.mov (.t 0)), none⟩, ⟨(some 19), (.mov (.t 4)), none⟩, ⟨(some 20), (.iaddr 2 (.t 18) (.t 19)), none⟩, ⟨(some 21), (.faddr 1 (.t 20)), none⟩, ⟨(some 22), (.load none (.t 21)), none⟩, ⟨none, (.mapupd 47 (.t 12) (.t 17) (.t 22)), none⟩])) (.reg false [] [⟨(some 10), (.mov (.t 4)), none⟩, ⟨(some 11), (.bin .add (.t 10) (.k (.int .i64 1))), none⟩, ⟨(some 4), (.mov (.t 11)), none⟩])))))) (.sq (.reg false [] [⟨(some 23), (.mov (.t 3)), none⟩, ⟨(some 2), (.mov (.t 23)), none⟩]) .ret)))), [(.tmp 2)]⟩
noncomputable def s19 : Sig := ⟨(.one (.sl (.agg (.cons (.int .u32) (.one (.sl (.agg (.cons .str (.one (.int .i64)))))))))), (.map (.int .u32) (.sl (.agg (.cons .str (.one (.int .i64)))))), law34_table⟩
theorem c19 : compF Tryz.prog 19 = some ⟨a19.n, erase a19.code, a19.res⟩ := by kernel_rfl
theorem t19 : funT (tp B L7) s19.a s19.r a19 = some s19.fn := by kernel_rfl
noncomputable def L19 : List (FuncId × Sig) := (19, s19) :: L7
theorem g19 : GoodT Tryz.prog B L19 := GoodT.addM g7 19 s19 (by rfl) fun _ _ _ hx hy => funT_ok g7.E g7.T t19 c19 (k := 1) rfl (Nat.le_of_ble_eq_true rfl) hx hy
def a20 : AF := ⟨49, (.sq (.reg false [2] [⟨(some 2), (.box (.t 0)), none⟩, ⟨(some 4), (.mov (.k (.sl (some true) []))), none⟩, ⟨(some 5), (.mov (.k (.int .i64 0))), none⟩]) (.sq (.reg false [] [⟨(some 6), (.mov (.k (.sl (some true) []))), none⟩]) (.gh (.own 6 1006 41 4) (.seq [(.o 1006, .arr 41 4 (.agg (.cons .str (.cons .str (.cons (.int .i64) (.one .str)))))), (.s 6, .own 1006)] (.sq (.reg false [] [⟨(some 13), (.faddr 4 (.t 2)), none⟩, ⟨(some 14), (.load none (.t 13)), none⟩, ⟨(some 15), (.len 1 (.t 14)), none⟩, ⟨(some 16), (.mov (.k (.int .i64 0))), none⟩]) (.block 0 (.loop [(.s 1, .v (.map (.int .u32) (.sl (.agg (.cons .str (.one (.int .i64))))))), (.s 14, .v (.sl (.agg (.cons (.int .u32) (.cons (.int .i64) (.cons (.int .i64) (.cons (.sl (.agg (.cons (.int .i64) (.cons .str (.one (.int .i64)))))) (.cons (.sl (.agg (.cons (.int .i64) (.cons (.int .i64) (.one (.sl (.agg (.cons (.int .i64) (.cons .str (.one (.int .i64))))))))))) (.cons (.int .i64) (.cons (.int .i64) (.one (.int .i64)))))))))))), (.s 15, .v (.int .i64)), (.s 16, .v (.int .i64)), (.o 1006, .arr 41 4 (.agg (.cons .str (.cons .str (.cons (.int .i64) (.one .str)))))), (.s 6, .own 1006)] [0] true (.sq (.reg false [] [⟨(some 17), (.bin .lss (.t 16) (.t 15)), none⟩]) (.seq [(.s 1, .v (.map (.int .u32) (.sl (.agg (.cons .str (.one (.int .i64))))))), (.s 14, .v (.sl (.agg (.cons (.int .u32) (.cons (.int .i64) (.cons (.int .i64) (.cons (.sl (.agg (.cons (.int .i64) (.cons .str (.one (.int .i64)))))) (.cons (.sl (.agg (.cons (.int .i64) (.cons (.int .i64) (.one (.sl (.agg (.cons (.int .i64) (.cons .str (.one (.int .i64))))))))))) (.cons (.int .i64) (.cons (.int .i64) (.one (.int .i64)))))))))))), (.s 15, .v (.int .i64)), (.s 16, .v (.int .i64)), (.o 1006, .arr 41 4 (.agg (.cons .str (.cons .str (.cons (.int .i64) (.one .str)))))), (.s 6, .own 1006)] (.cond (.t 17) .skip (.exit 0)) (.seq [(.s 1, .v (.map (.int .u32) (.sl (.agg (.cons .str (.one (.int .i64))))))), (.s 14, .v (.sl (.agg (.cons (.int .u32) (.cons (.int .i64) (.cons (.int .i64) (.cons (.sl (.agg (.cons (.int .i64) (.cons .str (.one (.int .i64)))))) (.cons (.sl (.agg (.cons (.int .i64) (.cons (.int .i64) (.one (.sl (.agg (.cons (.int .i64) (.cons .str (.one (.int .i64))))))))))) (.cons (.int .i64) (.cons (.int .i64) (.one (.int .i64)))))))))))), (.s 15, .v (.int .i64)), (.s 16, .v (.int .i64)), (.o 1006, .arr 41 4 (.agg (.cons .str (.cons .str (.cons (.int .i64) (.one .str)))))), (.s 6, .own 1006)] (.block 1 (.sq (.reg false [8] [⟨(some 18), (.iaddr 8 (.t 14) (.t 16)), none⟩, ⟨(some 19), (.load (some 8) (.t 18)), none⟩, ⟨(some 8), (.alloc [(.int .u32 0), (.int .i64 0), (.int .i64 0), (.sl (some true) []), (.sl (some true) []), (.int .i64 0), (.int .i64 0), (.int .i64 0)]), none⟩, ⟨none, (.store 8 (.t 8) (.t 19)), none⟩]) (.sq (.reg false [22] [⟨(some 20), (.faddr 1 (.t 8)), none⟩, ⟨(some 21), (.load (some 3) (.t 20)), none⟩, ⟨(some 22), (.mksl 24 3 [(.t 21)]), none⟩, ⟨(some 23), (.faddr 4 (.t 8)), none⟩, ⟨(some 24), (.load none (.t 23)), none⟩, ⟨(some 25), (.append 24 3 40 (.t 22) (.t 24)), none⟩, ⟨(some 26), (.len 1 (.t 25)), none⟩, ⟨(some 27), (.mov (.k (.int .i64 0))), none⟩]) (.block 2 (.loop [(.s 1, .v (.map (.int .u32) (.sl (.agg (.cons .str (.one (.int .i64))))))), (.s 14, .v (.sl (.agg (.cons (.int .u32) (.cons (.int .i64) (.cons (.int .i64) (.cons (.sl (.agg (.cons (.int .i64) (.cons .str (.one (.int .i64)))))) (.cons (.sl (.agg (.cons (.int .i64) (.cons (.int .i64) (.one (.sl (.agg (.cons (.int .i64) (.cons .str (.one (.int .i64))))))))))) (.cons (.int .i64) (.cons (.int .i64) (.one (.int .i64)))))))))))), (.s 15, .v (.int .i64)), (.s 16, .v (.int .i64)), (.s 26, .v (.int .i64)), (.s 27, .v (.int .i64)), (.c 8 0, .v (.int .u32)), (.c 8 1, .v (.int .i64)), (.c 8 2, .v (.int .i64)), (.c 8 3, .v (.sl (.agg (.cons (.int .i64) (.cons .str (.one (.int .i64))))))), (.c 8 4, .v (.sl (.agg (.cons (.int .i64) (.cons (.int .i64) (.one (.sl (.agg (.cons (.int .i64) (.cons .str (.one (.int .i64)))))))))))), (.c 8 5, .v (.int .i64)), (.c 8 6, .v (.int .i64)), (.c 8 7, .v (.int .i64)), (.o 22, .arr 24 3 (.agg (.cons (.int .i64) (.cons (.int .i64) (.one (.sl (.agg (.cons (.int .i64) (.cons .str (.one (.int .i64))))))))))), (.o 1006, .arr 41 4 (.agg (.cons .str (.cons .str (.cons (.int .i64) (.one .str)))))), (.s 6, .own 1006), (.s 8, .ptr 8 0), (.s 25, .own 22), (.o 8, .box 8)] [2] true (.sq (.reg false [] [⟨(some 28), (.bin .lss (.t 27) (.t 26)), none⟩]) (.seq [(.s 1, .v (.map (.int .u32) (.sl (.agg (.cons .str (.one (.int .i64))))))), (.s 14, .v (.sl (.agg (.cons (.int .u32) (.cons (.int .i64) (.cons (.int .i64) (.cons (.sl (.agg (.cons (.int .i64) (.cons .str (.one (.int .i64)))))) (.cons (.sl (.agg (.cons (.int .i64) (.cons (.int .i64) (.one (.sl (.agg (.cons (.int .i64) (.cons .str (.one (.int .i64))))))))))) (.cons (.int .i64) (.cons (.int .i64) (.one (.int .i64)))))))))))), (.s 15, .v (.int .i64)), (.s 16, .v (.int .i64)), (.s 26, .v (.int .i64)), (.s 27, .v (.int .i64)), (.c 8 0, .v (.int .u32)), (.c 8 1, .v (.int .i64)), (.c 8 2, .v (.int .i64)), (.c 8 3, .v (.sl (.agg (.cons (.int .i64) (.cons .str (.one (.int .i64))))))), (.c 8 4, .v (.sl (.agg (.cons (.int .i64) (.cons (.int .i64) (.one (.sl (.agg (.cons (.int .i64) (.cons .str (.one (.int .i64)))))))))))), (.c 8 5, .v (.int .i64)), (.c 8 6, .v (.int .i64)), (.c 8 7, .v (.int .i64)), (.o 22, .arr 24 3 (.agg (.cons (.int .i64) (.cons (.int .i64) (.one (.sl (.agg (.cons (.int .i64) (.cons .str (.one (.int .i64))))))))))), (.o 1006, .arr 41 4 (.agg (.cons .str (.cons .str (.cons (.int .i64) (.one .str)))))), (.s 6, .own 1006), (.s 8, .ptr 8 0), (.s 25, .own 22), (.o 8, .box 8)] (.cond (.t 28) .skip (.exit 2)) (.seq [(.s 1, .v (.map (.int .u32) (.sl (.agg (.cons .str (.one (.int .i64))))))), (.s 14, .v (.sl (.agg (.cons (.int .u32) (.cons (.int .i64) (.cons (.int .i64) (.cons (.sl (.agg (.cons (.int .i64) (.cons .str (.one (.int .i64)))))) (.cons (.sl (.agg (.cons (.int .i64) (.cons (.int .i64) (.one (.sl (.agg (.cons (.int .i64) (.cons .str (.one (.int .i64))))))))))) (.cons (.int .i64) (.cons (.int .i64) (.one (.int .i64)))))))))))), (.s 15, .v (.int .i64)), (.s 16, .v (.int .i64)), (.s 26, .v (.int .i64)), (.s 27, .v (.int .i64)), (.c 8 0, .v (.int .u32)), (.c 8 1, .v (.int .i64)), (.c 8 2, .v (.int .i64)), (.c 8 3, .v (.sl (.agg (.cons (.int .i64) (.cons .str (.one (.int .i64))))))), (.c 8 4, .v (.sl (.agg (.cons (.int .i64) (.cons (.int .i64) (.one (.sl (.agg (.cons (.int .i64) (.cons .str (.one (.int .i64)))))))))))), (.c 8 5, .v (.int .i64)), (.c 8 6, .v (.int .i64)), (.c 8 7, .v (.int .i64)), (.o 22, .arr 24 3 (.agg (.cons (.int .i64) (.cons (.int .i64) (.one (.sl (.agg (.cons (.int .i64) (.cons .str (.one (.int .i64))))))))))), (.o 1006, .arr 41 4 (.agg (.cons .str (.cons .str (.cons (.int .i64) (.one .str)))))), (.s 6, .own 1006), (.s 8, .ptr 8 0), (.s 25, .own 22), (.o 8, .box 8)] (.block 3 (.sq (.reg false [10] [⟨(some 29), (.iaddr 3 (.t 25) (.t 27)), none⟩, ⟨(some 30), (.load (some 3) (.t 29)), none⟩, ⟨(some 10), (.alloc [(.int .i64 0), (.int .i64 0), (.sl (some true) [])]), none⟩, ⟨none, (.store 3 (.t 10) (.t 30)), none⟩]) (.sq (.reg false [] [⟨(some 32), (.load (some 3) (.t 10)), none⟩, ⟨(some 33), (.mov (.t 1)), none⟩, ⟨(some 34), (.faddr 0 (.t 8)), none⟩, ⟨(some 35), (.load none (.t 34)), none⟩, ⟨(some 36), (.lookup 47 (.int .u32) (.sl (some true) []) false (.t 33) (.t 35)), none⟩, ⟨(some 37), (.call 12 [(.t 32), (.t 36)]), none⟩, ⟨(some 31), (.mov (.t 37)), none⟩, ⟨(some 38), (.ext (.t 31) 0), none⟩, ⟨(some 39), (.ext (.t 31) 1), none⟩, ⟨(some 11), (.mov (.t 38)), none⟩, ⟨(some 12), (.mov (.t 39)), none⟩]) (.seq [(.s 1, .v (.map (.int .u32) (.sl (.agg (.cons .str (.one (.int .i64))))))), (.s 11, .v (.sl (.agg (.cons .str (.cons .str (.cons (.int .i64) (.one .str))))))), (.s 14, .v (.sl (.agg (.cons (.int .u32) (.cons (.int .i64) (.cons (.int .i64) (.cons (.sl (.agg (.cons (.int .i64) (.cons .str (.one (.int .i64)))))) (.cons (.sl (.agg (.cons (.int .i64) (.cons (.int .i64) (.one (.sl (.agg (.cons (.int .i64) (.cons .str (.one (.int .i64))))))))))) (.cons (.int .i64) (.cons (.int .i64) (.one (.int .i64)))))))))))), (.s 15, .v (.int .i64)), (.s 16, .v (.int .i64)), (.s 26, .v (.int .i64)), (.s 27, .v (.int .i64)), (.c 8 0, .v (.int .u32)), (.c 8 1, .v (.int .i64)), (.c 8 2, .v (.int .i64)), (.c 8 3, .v (.sl (.agg (.cons (.int .i64) (.cons .str (.one (.int .i64))))))), (.c 8 4, .v (.sl (.agg (.cons (.int .i64) (.cons (.int .i64) (.one (.sl (.agg (.cons (.int .i64) (.cons .str (.one (.int .i64)))))))))))), (.c 8 5, .v (.int .i64)), (.c 8 6, .v (.int .i64)), (.c 8 7, .v (.int .i64)), (.o 22, .arr 24 3 (.agg (.cons (.int .i64) (.cons (.int .i64) (.one (.sl (.agg (.cons (.int .i64) (.cons .str (.one (.int .i64))))))))))), (.o 1006, .arr 41 4 (.agg (.cons .str (.cons .str (.cons (.int .i64) (.one .str)))))), (.s 6, .own 1006), (.s 8, .ptr 8 0), (.s 25, .own 22), (.o 8, .box 8)] (.sq (.reg false [] [⟨(some 40), (.mov (.t 12)), none⟩, ⟨(some 41), (.bin .neq (.t 40) (.k (.int .i64 0))), none⟩]) (.cond (.t 41) (.sq (.reg false [] [⟨(some 42), (.mov (.t 12)), none⟩, ⟨(some 4), (.mov (.k (.sl (some true) []))), none⟩, ⟨(some 5), (.mov (.t 42)), none⟩]) .ret) .skip)) (.reg false [] [⟨(some 43), (.mov (.t 6)), none⟩, ⟨(some 44), (.mov (.t 11)), none⟩, ⟨(some 45), (.append 41 4 56 (.t 43) (.t 44)), none⟩, ⟨(some 6), (.mov (.t 45)), none⟩]))))) (.reg false [] [⟨(some 46), (.bin .add (.t 27) (.k (.int .i64 1))), none⟩, ⟨(some 27), (.mov (.t 46)), none⟩]))))))))) (.reg false [] [⟨(some 47), (.bin .add (.t 16) (.k (.int .i64 1))), none⟩, ⟨(some 16), (.mov (.t 47)), none⟩]))))))) (.sq (.reg false [] [⟨(some 48), (.mov (.t 6)), none⟩, ⟨(some 4), (.mov (.t 48)), none⟩, ⟨(some 5), (.mov (.k (.int .i64 0))), none⟩]) .ret))))), [(.tmp 4), (.tmp 5)]⟩
noncomputable def s20 : Sig := ⟨(.cons (.agg (.cons (.int .i64) (.cons (.int .i64) (.cons (.int .i64) (.cons (.int .i64) (.one (.sl (.agg (.cons (.int .u32) (.cons (.int .i64) (.cons (.int .i64) (.cons (.sl (.agg (.cons (.int .i64) (.cons .str (.one (.int .i64)))))) (.cons (.sl (.agg (.cons (.int .i64) (.cons (.int .i64) (.one (.sl (.agg (.cons (.int .i64) (.cons .str (.one (.int .i64))))))))))) (.cons (.int .i64) (.cons (.int .i64) (.one (.int .i64))))))))))))))))) (.one (.map (.int .u32) (.sl (.agg (.cons .str (.one (.int .i64)))))))), (.tup (.cons (.sl (.agg (.cons .str (.cons .str (.cons (.int .i64) (.one .str)))))) (.one (.int .i64)))), post_Run⟩
theorem c20 : compF Tryz.prog 20 = some ⟨a20.n, erase a20.code, a20.res⟩ := by kernel_rfl
theorem t20 : funT (tp B L19) s20.a s20.r a20 = some s20.fn := by kernel_rfl
noncomputable def L20 : List (FuncId × Sig) := (20, s20) :: L19
theorem g20 : GoodT Tryz.prog B L20 := GoodT.addM g19 20 s20 (by rfl) fun _ _ _ hx hy => funT_ok g19.E g19.T t20 c20 (k := 2) rfl (Nat.le_of_ble_eq_true rfl) hx hy
def a6 : AF := ⟨128, (.sq (.reg false [] [⟨(some 4), (.mov (.k (.bool false))), none⟩]) (.seq [(.s 0, .v (.sl (.agg (.cons (.int .u32) (.cons (.int .i64) (.cons (.int .i64) (.cons (.sl (.agg (.cons (.int .i64) (.cons .str (.one (.int .i64)))))) (.cons (.sl (.agg (.cons (.int .i64) (.cons (.int .i64) (.one (.sl (.agg (.cons (.int .i64) (.cons .str (.one (.int .i64))))))))))) (.cons (.int .i64) (.cons (.int .i64) (.one (.int .i64)))))))))))), (.s 1, .v (.sl (.agg (.cons (.int .u32) (.one (.sl (.agg (.cons .str (.one (.int .i64))))))))))] (.sq (.reg false [] [⟨(some 14), (.mov (.t 0)), none⟩, ⟨(some 15), (.len 1 (.t 14)), none⟩, ⟨(some 16), (.bin .gtr (.t 15) (.k (.int .i64 12))), none⟩, ⟨(some 17), (.mov (.t 16)), none⟩, ⟨(some 18), (.mov (.t 1)), (some (17, false))⟩, ⟨(some 19), (.len 1 (.t 18)), (some (17, false))⟩, ⟨(some 20), (.bin .gtr (.t 19) (.k (.int .i64 12))), (some (17, false))⟩, ⟨(some 21), (.pick (.t 17) (.k (.bool true)) (.t 20)), none⟩]) (.cond (.t 21) (.sq (.reg false [] [⟨(some 22), (.call 11 []), none⟩, ⟨(some 4), (.mov (.t 22)), none⟩]) .ret) .skip)) (.sq (.reg false [24] [⟨(some 23), (.mov (.t 1)), none⟩, ⟨(some 24), (.call 19 [(.t 23)]), none⟩, ⟨(some 5), (.mov (.t 24)), none⟩]) (.sq (.reg false [] [⟨(some 6), (.mov (.k (.sl (some true) []))), none⟩]) (.gh (.own 6 1006 41 4) (.sq (.reg false [] [⟨(some 7), (.mov (.k (.int .i64 0))), none⟩]) (.seq [(.s 0, .v (.sl (.agg (.cons (.int .u32) (.cons (.int .i64) (.cons (.int .i64) (.cons (.sl (.agg (.cons (.int .i64) (.cons .str (.one (.int .i64)))))) (.cons (.sl (.agg (.cons (.int .i64) (.cons (.int .i64) (.one (.sl (.agg (.cons (.int .i64) (.cons .str (.one (.int .i64))))))))))) (.cons (.int .i64) (.cons (.int .i64) (.one (.int .i64)))))))))))), (.s 5, .v (.map (.int .u32) (.sl (.agg (.cons .str (.one (.int .i64))))))), (.s 7, .v (.int .i64)), (.o 1006, .arr 41 4 (.agg (.cons .str (.cons .str (.cons (.int .i64) (.one .str)))))), (.s 6, .own 1006)] (.sq (.reg false [] [⟨(some 8), (.mov (.k (.int .i64 0))), none⟩]) (.block 0 (.loop [(.s 0, .v (.sl (.agg (.cons (.int .u32) (.cons (.int .i64) (.cons (.int .i64) (.cons (.sl (.agg (.cons (.int .i64) (.cons .str (.one (.int .i64)))))) (.cons (.sl (.agg (.cons (.int .i64) (.cons (.int .i64) (.one (.sl (.agg (.cons (.int .i64) (.cons .str (.one (.int .i64))))))))))) (.cons (.int .i64) (.cons (.int .i64) (.one (.int .i64)))))))))))), (.s 5, .v (.map (.int .u32) (.sl (.agg (.cons .str (.one (.int .i64))))))), (.s 7, .v (.int .i64)), (.s 8, .v (.int .i64)), (.o 1006, .arr 41 4 (.agg (.cons .str (.cons .str (.cons (.int .i64) (.one .str)))))), (.s 6, .own 1006)] [0] true (.seq [(.s 0, .v (.sl (.agg (.cons (.int .u32) (.cons (.int .i64) (.cons (.int .i64) (.cons (.sl (.agg (.cons (.int .i64) (.cons .str (.one (.int .i64)))))) (.cons (.sl (.agg (.cons (.int .i64) (.cons (.int .i64) (.one (.sl (.agg (.cons (.int .i64) (.cons .str (.one (.int .i64))))))))))) (.cons (.int .i64) (.cons (.int .i64) (.one (.int .i64)))))))))))), (.s 5, .v (.map (.int .u32) (.sl (.agg (.cons .str (.one (.int .i64))))))), (.s 7, .v (.int .i64)), (.s 8, .v (.int .i64)), (.o 1006, .arr 41 4 (.agg (.cons .str (.cons .str (.cons (.int .i64) (.one .str)))))), (.s 6, .own 1006)] (.sq (.reg false [] [⟨(some 25), (.mov (.t 8)), none⟩, ⟨(some 26), (.mov (.t 0)), none⟩, ⟨(some 27), (.len 1 (.t 26)), none⟩, ⟨(some 28), (.bin .lss (.t 25) (.t 27)), none⟩, ⟨(some 29), (.mov (.t 28)), none⟩, ⟨(some 30), (.mov (.t 7)), (some (29, true))⟩, ⟨(some 31), (.bin .eql (.t 30) (.k (.int .i64 0))), (some (29, true))⟩, ⟨(some 32), (.pick (.t 29) (.t 31) (.k (.bool false))), none⟩]) (.cond (.t 32) .skip (.exit 0))) (.seq [(.s 0, .v (.sl (.agg (.cons (.int .u32) (.cons (.int .i64) (.cons (.int .i64) (.cons (.sl (.agg (.cons (.int .i64) (.cons .str (.one (.int .i64)))))) (.cons (.sl (.agg (.cons (.int .i64) (.cons (.int .i64) (.one (.sl (.agg (.cons (.int .i64) (.cons .str (.one (.int .i64))))))))))) (.cons (.int .i64) (.cons (.int .i64) (.one (.int .i64)))))))))))), (.s 5, .v (.map (.int .u32) (.sl (.agg (.cons .str (.one (.int .i64))))))), (.s 7, .v (.int .i64)), (.s 8, .v (.int .i64)), (.o 1006, .arr 41 4 (.agg (.cons .str (.cons .str (.cons (.int .i64) (.one .str)))))), (.s 6, .own 1006)] (.block 1 (.seq [(.s 0, .v (.sl (.agg (.cons (.int .u32) (.cons (.int .i64) (.cons (.int .i64) (.cons (.sl (.agg (.cons (.int .i64) (.cons .str (.one (.int .i64)))))) (.cons (.sl (.agg (.cons (.int .i64) (.cons (.int .i64) (.one (.sl (.agg (.cons (.int .i64) (.cons .str (.one (.int .i64))))))))))) (.cons (.int .i64) (.cons (.int .i64) (.one (.int .i64)))))))))))), (.s 5, .v (.map (.int .u32) (.sl (.agg (.cons .str (.one (.int .i64))))))), (.s 7, .v (.int .i64)), (.s 8, .v (.int .i64)), (.o 1006, .arr 41 4 (.agg (.cons .str (.cons .str (.cons (.int .i64) (.one .str)))))), (.s 6, .own 1006)] (.sq (.reg false [] [⟨(some 35), (.mov (.t 0)), none⟩, ⟨(some 36), (.mov (.t 8)), none⟩, ⟨(some 37), (.iaddr 8 (.t 35) (.t 36)), none⟩, ⟨(some 38), (.faddr 4 (.t 37)), none⟩, ⟨(some 39), (.load none (.t 38)), none⟩, ⟨(some 40), (.len 1 (.t 39)), none⟩, ⟨(some 41), (.bin .gtr (.t 40) (.k (.int .i64 12))), none⟩]) (.cond (.t 41) (.sq (.reg false [] [⟨(some 42), (.call 11 []), none⟩, ⟨(some 4), (.mov (.t 42)), none⟩]) .ret) .skip)) (.sq (.reg true [48] [⟨(some 43), (.mov (.t 0)), none⟩, ⟨(some 44), (.mov (.t 8)), none⟩, ⟨(some 45), (.iaddr 8 (.t 43) (.t 44)), none⟩, ⟨(some 46), (.faddr 1 (.t 45)), none⟩, ⟨(some 47), (.load (some 3) (.t 46)), none⟩, ⟨(some 48), (.mksl 24 3 [(.t 47)]), none⟩, ⟨(some 49), (.mov (.t 0)), none⟩, ⟨(some 50), (.mov (.t 8)), none⟩, ⟨(some 51), (.iaddr 8 (.t 49) (.t 50)), none⟩, ⟨(some 52), (.faddr 4 (.t 51)), none⟩, ⟨(some 53), (.load none (.t 52)), none⟩, ⟨(some 54), (.append 24 3 40 (.t 48) (.t 53)), none⟩, ⟨(some 9), (.mov (.t 54)), none⟩]) (.sq (.reg false [] [⟨(some 10), (.mov (.k (.int .i64 0))), none⟩]) (.block 2 (.gh (.frz 9) (.loop [(.s 0, .v (.sl (.agg (.cons (.int .u32) (.cons (.int .i64) (.cons (.int .i64) (.cons (.sl (.agg (.cons (.int .i64) (.cons .str (.one (.int .i64)))))) (.cons (.sl (.agg (.cons (.int .i64) (.cons (.int .i64) (.one (.sl (.agg (.cons (.int .i64) (.cons .str (.one (.int .i64))))))))))) (.cons (.int .i64) (.cons (.int .i64) (.one (.int .i64)))))))))))), (.s 5, .v (.map (.int .u32) (.sl (.agg (.cons .str (.one (.int .i64))))))), (.s 7, .v (.int .i64)), (.s 8, .v (.int .i64)), (.s 9, .v (.sl (.agg (.cons (.int .i64) (.cons (.int .i64) (.one (.sl (.agg (.cons (.int .i64) (.cons .str (.one (.int .i64)))))))))))), (.s 10, .v (.int .i64)), (.o 1006, .arr 41 4 (.agg (.cons .str (.cons .str (.cons (.int .i64) (.one .str)))))), (.s 6, .own 1006)] [2] true (.seq [(.s 0, .v (.sl (.agg (.cons (.int .u32) (.cons (.int .i64) (.cons (.int .i64) (.cons (.sl (.agg (.cons (.int .i64) (.cons .str (.one (.int .i64)))))) (.cons (.sl (.agg (.cons (.int .i64) (.cons (.int .i64) (.one (.sl (.agg (.cons (.int .i64) (.cons .str (.one (.int .i64))))))))))) (.cons (.int .i64) (.cons (.int .i64) (.one (.int .i64)))))))))))), (.s 5, .v (.map (.int .u32) (.sl (.agg (.cons .str (.one (.int .i64))))))), (.s 8, .v (.int .i64)), (.s 9, .v (.sl (.agg (.cons (.int .i64) (.cons (.int .i64) (.one (.sl (.agg (.cons (.int .i64) (.cons .str (.one (.int .i64)))))))))))), (.s 10, .v (.int .i64)), (.o 1006, .arr 41 4 (.agg (.cons .str (.cons .str (.cons (.int .i64) (.one .str)))))), (.s 6, .own 1006)] (.sq (.reg false [] [⟨(some 55), (.mov (.t 10)), none⟩, ⟨(some 56), (.mov (.t 9)), none⟩, ⟨(some 57), (.len 1 (.t 56)), none⟩, ⟨(some 58), (.bin .lss (.t 55) (.t 57)), none⟩, ⟨(some 59), (.mov (.t 58)), none⟩, ⟨(some 60), (.mov (.t 7)), (some (59, true))⟩, ⟨(some 61), (.bin .eql (.t 60) (.k (.int .i64 0))), (some (59, true))⟩, ⟨(some 62), (.pick (.t 59) (.t 61) (.k (.bool false))), none⟩]) (.cond (.t 62) .skip (.exit 2))) (.join [(.s 0, .v (.sl (.agg (.cons (.int .u32) (.cons (.int .i64) (.cons (.int .i64) (.cons (.sl (.agg (.cons (.int .i64) (.cons .str (.one (.int .i64)))))) (.cons (.sl (.agg (.cons (.int .i64) (.cons (.int .i64) (.one (.sl (.agg (.cons (.int .i64) (.cons .str (.one (.int .i64))))))))))) (.cons (.int .i64) (.cons (.int .i64) (.one (.int .i64)))))))))))), (.s 5, .v (.map (.int .u32) (.sl (.agg (.cons .str (.one (.int .i64))))))), (.s 7, .v (.int .i64)), (.s 8, .v (.int .i64)), (.s 9, .v (.sl (.agg (.cons (.int .i64) (.cons (.int .i64) (.one (.sl (.agg (.cons (.int .i64) (.cons .str (.one (.int .i64)))))))))))), (.s 10, .v (.int .i64)), (.o 1006, .arr 41 4 (.agg (.cons .str (.cons .str (.cons (.int .i64) (.one .str)))))), (.s 6, .own 1006)] [] true (.block 3 (.sq (.reg false [] [⟨(some 65), (.mov (.t 5)), none⟩, ⟨(some 66), (.mov (.t 0)), none⟩, ⟨(some 67), (.mov (.t 8)), none⟩, ⟨(some 68), (.iaddr 8 (.t 66) (.t 67)), none⟩, ⟨(some 69), (.faddr 0 (.t 68)), none⟩, ⟨(some 70), (.load none (.t 69)), none⟩, ⟨(some 71), (.lookup 47 (.int .u32) (.sl (some true) []) false (.t 65) (.t 70)), none⟩, ⟨(some 11), (.mov (.t 71)), none⟩]) (.seq [(.s 0, .v (.sl (.agg (.cons (.int .u32) (.cons (.int .i64) (.cons (.int .i64) (.cons (.sl (.agg (.cons (.int .i64) (.cons .str (.one (.int .i64)))))) (.cons (.sl (.agg (.cons (.int .i64) (.cons (.int .i64) (.one (.sl (.agg (.cons (.int .i64) (.cons .str (.one (.int .i64))))))))))) (.cons (.int .i64) (.cons (.int .i64) (.one (.int .i64)))))))))))), (.s 5, .v (.map (.int .u32) (.sl (.agg (.cons .str (.one (.int .i64))))))), (.s 8, .v (.int .i64)), (.s 9, .v (.sl (.agg (.cons (.int .i64) (.cons (.int .i64) (.one (.sl (.agg (.cons (.int .i64) (.cons .str (.one (.int .i64)))))))))))), (.s 10, .v (.int .i64)), (.s 11, .v (.sl (.agg (.cons .str (.one (.int .i64)))))), (.o 1006, .arr 41 4 (.agg (.cons .str (.cons .str (.cons (.int .i64) (.one .str)))))), (.s 6, .own 1006)] (.sq (.reg false [] [⟨(some 72), (.mov (.t 9)), none⟩, ⟨(some 73), (.mov (.t 10)), none⟩, ⟨(some 74), (.iaddr 3 (.t 72) (.t 73)), none⟩, ⟨(some 75), (.load (some 3) (.t 74)), none⟩, ⟨(some 76), (.mov (.t 11)), none⟩, ⟨(some 77), (.call 10 [(.t 75), (.t 76)]), none⟩]) (.cond (.t 77) (.sq (.reg false [] [⟨(some 78), (.call 11 []), none⟩, ⟨(some 4), (.mov (.t 78)), none⟩]) .ret) .skip)) (.sq (.reg false [] [⟨(some 79), (.mov (.t 9)), none⟩, ⟨(some 80), (.mov (.t 10)), none⟩, ⟨(some 81), (.iaddr 3 (.t 79) (.t 80)), none⟩, ⟨(some 82), (.load (some 3) (.t 81)), none⟩, ⟨(some 83), (.call 13 [(.t 82)]), none⟩, ⟨(some 7), (.mov (.t 83)), none⟩]) (.join [(.s 0, .v (.sl (.agg (.cons (.int .u32) (.cons (.int .i64) (.cons (.int .i64) (.cons (.sl (.agg (.cons (.int .i64) (.cons .str (.one (.int .i64)))))) (.cons (.sl (.agg (.cons (.int .i64) (.cons (.int .i64) (.one (.sl (.agg (.cons (.int .i64) (.cons .str (.one (.int .i64))))))))))) (.cons (.int .i64) (.cons (.int .i64) (.one (.int .i64)))))))))))), (.s 5, .v (.map (.int .u32) (.sl (.agg (.cons .str (.one (.int .i64))))))), (.s 7, .v (.int .i64)), (.s 8, .v (.int .i64)), (.s 9, .v (.sl (.agg (.cons (.int .i64) (.cons (.int .i64) (.one (.sl (.agg (.cons (.int .i64) (.cons .str (.one (.int .i64)))))))))))), (.s 10, .v (.int .i64)), (.s 11, .v (.sl (.agg (.cons .str (.one (.int .i64)))))), (.o 1006, .arr 41 4 (.agg (.cons .str (.cons .str (.cons (.int .i64) (.one .str)))))), (.s 6, .own 1006)] [] false (.sq (.reg false [] [⟨(some 84), (.mov (.t 7)), none⟩, ⟨(some 85), (.bin .eql (.t 84) (.k (.int .i64 0))), none⟩]) (.cond (.t 85) (.reg false [] [⟨(some 86), (.mov (.t 11)), none⟩, ⟨(some 87), (.call 14 [(.t 86)]), none⟩, ⟨(some 7), (.mov (.t 87)), none⟩]) .skip)) (.sq (.reg false [] [⟨(some 88), (.mov (.t 7)), none⟩, ⟨(some 89), (.bin .eql (.t 88) (.k (.int .i64 0))), none⟩]) (.cond (.t 89) (.reg false [96] [⟨(some 90), (.mov (.t 6)), none⟩, ⟨(some 91), (.mov (.t 9)), none⟩, ⟨(some 92), (.mov (.t 10)), none⟩, ⟨(some 93), (.iaddr 3 (.t 91) (.t 92)), none⟩, ⟨(some 94), (.load (some 3) (.t 93)), none⟩, ⟨(some 95), (.mov (.t 11)), none⟩, ⟨(some 96), (.call 16 [(.t 94), (.t 95)]), none⟩, ⟨(some 97), (.append 41 4 56 (.t 90) (.t 96)), none⟩, ⟨(some 6), (.mov (.t 97)), none⟩]) .skip))))))) (.reg false [] [⟨(some 63), (.mov (.t 10)), none⟩, ⟨(some 64), (.bin .add (.t 63) (.k (.int .i64 1))), none⟩, ⟨(some 10), (.mov (.t 64)), none⟩])))))))))) (.reg false [] [⟨(some 33), (.mov (.t 8)), none⟩, ⟨(some 34), (.bin .add (.t 33) (.k (.int .i64 1))), none⟩, ⟨(some 8), (.mov (.t 34)), none⟩])))))) (.sq (.reg false [] [⟨(some 99), (.mov (.t 0)), none⟩, ⟨(some 100), (.build [(.int .i64 0), (.int .i64 0), (.int .i64 0), (.int .i64 0), (.sl (some true) [])] [(4, (1, (.t 99)))]), none⟩, ⟨(some 101), (.mov (.t 5)), none⟩, ⟨(some 102), (.call 20 [(.t 100), (.t 101)]), none⟩, ⟨(some 98), (.mov (.t 102)), none⟩, ⟨(some 103), (.ext (.t 98) 0), none⟩, ⟨(some 104), (.ext (.t 98) 1), none⟩, ⟨(some 12), (.mov (.t 103)), none⟩, ⟨(some 13), (.mov (.t 104)), none⟩]) (.seq [(.s 12, .v (.sl (.agg (.cons .str (.cons .str (.cons (.int .i64) (.one .str))))))), (.s 13, .v (.int .i64)), (.o 1006, .arr 41 4 (.agg (.cons .str (.cons .str (.cons (.int .i64) (.one .str)))))), (.s 6, .own 1006)] (.sq (.reg false [] [⟨(some 105), (.mov (.t 7)), none⟩, ⟨(some 106), (.bin .neq (.t 105) (.k (.int .i64 0))), none⟩]) (.cond (.t 106) (.sq (.reg false [] [⟨(some 107), (.mov (.t 13)), none⟩, ⟨(some 108), (.mov (.t 7)), none⟩, ⟨(some 109), (.bin .eql (.t 107) (.t 108)), none⟩, ⟨(some 110), (.mov (.t 109)), none⟩, ⟨(some 111), (.mov (.t 12)), (some (110, true))⟩, ⟨(some 112), (.len 1 (.t 111)), (some (110, true))⟩, ⟨(some 113), (.bin .eql (.t 112) (.k (.int .i64 0))), (some (110, true))⟩, ⟨(some 114), (.pick (.t 110) (.t 113) (.k (.bool false))), none⟩, ⟨(some 115), (.mov (.t 114)), none⟩, ⟨(some 116), (.call 11 []), (some (115, true))⟩, ⟨(some 117), (.pick (.t 115) (.t 116) (.k (.bool false))), none⟩, ⟨(some 4), (.mov (.t 117)), none⟩]) .ret) .skip)) (.sq (.rg [] [.l ⟨(some 118), (.mov (.t 13)), none⟩, .l ⟨(some 119), (.bin .eql (.t 118) (.k (.int .i64 0))), none⟩, .l ⟨(some 120), (.mov (.t 119)), none⟩, .l ⟨(some 121), (.mov (.t 12)), (some (120, true))⟩, .g (.frz 6), .l ⟨(some 122), (.mov (.t 6)), (some (120, true))⟩, .l ⟨(some 123), (.call 15 [(.t 121), (.t 122)]), (some (120, true))⟩, .l ⟨(some 124), (.pick (.t 120) (.t 123) (.k (.bool false))), none⟩, .l ⟨(some 125), (.mov (.t 124)), none⟩, .l ⟨(some 126), (.call 11 []), (some (125, true))⟩, .l ⟨(some 127), (.pick (.t 125) (.t 126) (.k (.bool false))), none⟩, .l ⟨(some 4), (.mov (.t 127)), none⟩]) .ret)))))))))), [(.tmp 4)]⟩
noncomputable def s6 : Sig := ⟨(.cons (.sl (.agg (.cons (.int .u32) (.cons (.int .i64) (.cons (.int .i64) (.cons (.sl (.agg (.cons (.int .i64) (.cons .str (.one (.int .i64)))))) (.cons (.sl (.agg (.cons (.int .i64) (.cons (.int .i64) (.one (.sl (.agg (.cons (.int .i64) (.cons .str (.one (.int .i64))))))))))) (.cons (.int .i64) (.cons (.int .i64) (.one (.int .i64))))))))))) (.one (.sl (.agg (.cons (.int .u32) (.one (.sl (.agg (.cons .str (.one (.int .i64))))))))))), .bool, law34_PostRuns⟩
theorem c6 : compF Tryz.prog 6 = some ⟨a6.n, erase a6.code, a6.res⟩ := by kernel_rfl
theorem t6 : funT (tp B L20) s6.a s6.r a6 = some s6.fn := by kernel_rfl
noncomputable def L6 : List (FuncId × Sig) := (6, s6) :: L20
theorem g6 : GoodT Tryz.prog B L6 := GoodT.addM g20 6 s6 (by rfl) fun _ _ _ hx hy => funT_ok g20.E g20.T t6 c6 (k := 2) rfl (Nat.le_of_ble_eq_true rfl) hx hy
end WB
