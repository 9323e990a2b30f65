/-
  THE SHEET FUNCTIONS READ OVER PLAIN DATA (printed by wip/t3.py from the dump of the Sheet seat).
-/
import Derived.Test.YtpkoilfecgmogaaCoreTo
namespace WB
open Go Go.RowKit
set_option linter.unusedVariables false
noncomputable def civil_in (a : Int) : Option (Bool) :=
  let x0 := a
  let x4 := (decide (x0 ≥ (-25567 : Int)))
  let x6 := (if x4 = true then some x0 else none)
  Option.bind (if x4 = true then ((x6.bind (fun z1 => some (z1, (84006 : Int)))).map (fun z3 => (decide (z3.1 < z3.2)))).map some else some none) fun x7 =>
  Option.bind (if x4 then x7 else some false) fun x8 =>
  some x8
noncomputable def civil_Weekday (a : Int) : Option (Int) :=
  let x0 := a
  Option.bind (civil_in x0) fun x4 =>
  let x5 := (!x4)
  if x5 then (
    some (-1 : Int))
  else (
    let x7 := IntKind.i64.wrap (x0 - (-25567 : Int))
    Option.bind (if (7 : Int) = 0 then none else some (x7.tmod (7 : Int))) fun x8 =>
    some x8)
noncomputable def sheet_wrong_loop1 (s : (List (Int × Int × Int)) × (List (Int × Int × Int)) × (Int) × (Int) × (Int) × (Int) × (Unit) × (Unit) × Unit) : Option (((List (Int × Int × Int)) × (List (Int × Int × Int)) × (Int) × (Int) × (Int) × (Int) × (Unit) × (Unit) × Unit) ⊕ (((Int) × (Int) × (Unit) × (Unit) × Unit) ⊕ (Int))) :=
  let x0 := s.1
  let x10 := s.2.1
  let x11 := s.2.2.1
  let x12 := s.2.2.2.1
  let c3_0 := s.2.2.2.2.1
  let c3_1 := s.2.2.2.2.2.1
  let x13 := (decide (x12 < x11))
  if x13 then (
    Option.bind ((lAt x10 x12).map (fun y => y)) fun x15 =>
    Option.bind (civil_Weekday x15.1) fun x20 =>
    let x21 := (decide (x20 < (0 : Int)))
    if x21 then (
      some (Sum.inr (Sum.inr (15 : Int))))
    else (
      let x24 := (decide (x12 > (0 : Int)))
      let x26 := (if x24 = true then some () else none)
      Option.bind (if x24 = true then (x26.map (fun z141 => x15.1)).map some else some none) fun x27 =>
      let x28 := (if x24 = true then some x0 else none)
      let x29 := (if x24 = true then some x12 else none)
      Option.bind (if x24 = true then ((x29.bind (fun z142 => some (z142, (1 : Int)))).map (fun z144 => IntKind.i64.wrap (z144.1 - z144.2))).map some else some none) fun x30 =>
      Option.bind (if x24 = true then ((x28.bind (fun z145 => x30.map (fun z146 => (z145, z146)))).bind (fun z147 => (lAt z147.1 z147.2).map (fun y => y))).map some else some none) fun x31 =>
      Option.bind (if x24 = true then (x31.map (fun z148 => z148)).map some else some none) fun x32 =>
      Option.bind (if x24 = true then (x32.map (fun z149 => z149.1)).map some else some none) fun x33 =>
      Option.bind (if x24 = true then ((x27.bind (fun z150 => x33.map (fun z151 => (z150, z151)))).map (fun z152 => (decide (z152.1 ≤ z152.2)))).map some else some none) fun x34 =>
      Option.bind (if x24 then x34 else some false) fun x35 =>
      if x35 then (
        some (Sum.inr (Sum.inr (8 : Int))))
      else (
        let x39 := (decide (x15.2.1 < (0 : Int)))
        let x41 := (if x39 = false then some () else none)
        Option.bind (if x39 = false then (x41.map (fun z153 => x15.2.1)).map some else some none) fun x42 =>
        Option.bind (if x39 = false then ((x42.bind (fun z154 => some (z154, (1440 : Int)))).map (fun z156 => (decide (z156.1 > z156.2)))).map some else some none) fun x43 =>
        Option.bind (if x39 then some true else x43.map (fun z157 => z157)) fun x44 =>
        let x46 := (if x44 = false then some () else none)
        Option.bind (if x44 = false then (x46.map (fun z158 => x15.2.2)).map some else some none) fun x47 =>
        Option.bind (if x44 = false then ((x47.bind (fun z159 => some (z159, (0 : Int)))).map (fun z161 => (decide (z161.1 < z161.2)))).map some else some none) fun x48 =>
        Option.bind (if x44 then some true else x48.map (fun z162 => z162)) fun x49 =>
        let x51 := (if x49 = false then some () else none)
        Option.bind (if x49 = false then (x51.map (fun z163 => x15.2.2)).map some else some none) fun x52 =>
        let x53 := (if x49 = false then some () else none)
        Option.bind (if x49 = false then (x53.map (fun z164 => x15.2.1)).map some else some none) fun x54 =>
        Option.bind (if x49 = false then ((x52.bind (fun z165 => x54.map (fun z166 => (z165, z166)))).map (fun z167 => (decide (z167.1 > z167.2)))).map some else some none) fun x55 =>
        Option.bind (if x49 then some true else x55.map (fun z168 => z168)) fun x56 =>
        if x56 then (
          some (Sum.inr (Sum.inr (2 : Int))))
        else (
          let x57 := IntKind.i64.wrap (x12 + (1 : Int))
          some (Sum.inl (x0, x10, x11, x57, c3_0, c3_1, (), (), ()))))))
  else (
    some (Sum.inr (Sum.inl (c3_0, c3_1, (), (), ()))))
noncomputable def sheet_wrong (a : (List (Int × Int × Int)) × (Int × Int)) : Option (Int) :=
  let x0 := a.1
  let x1 := a.2
  let x8 := (x0.length : Int)
  let x9 := (decide (x8 > (4096 : Int)))
  if x9 then (
    some (5 : Int))
  else (
    let x11 := (x0.length : Int)
    Option.bind (iter sheet_wrong_loop1 (x0, x0, x11, (0 : Int), x1.1, x1.2, (), (), ())) fun o =>
    match o with
    | Sum.inl p169 => (
      let c3_0 := p169.1
      let c3_1 := p169.2.1
      let x60 := (decide (c3_0 < (0 : Int)))
      let x62 := (if x60 = false then some () else none)
      Option.bind (if x60 = false then (x62.map (fun z186 => c3_0)).map some else some none) fun x63 =>
      Option.bind (if x60 = false then ((x63.bind (fun z187 => some (z187, (1440 : Int)))).map (fun z189 => (decide (z189.1 > z189.2)))).map some else some none) fun x64 =>
      Option.bind (if x60 then some true else x64.map (fun z190 => z190)) fun x65 =>
      let x67 := (if x65 = false then some () else none)
      Option.bind (if x65 = false then (x67.map (fun z191 => c3_1)).map some else some none) fun x68 =>
      Option.bind (if x65 = false then ((x68.bind (fun z192 => some (z192, (0 : Int)))).map (fun z194 => (decide (z194.1 < z194.2)))).map some else some none) fun x69 =>
      Option.bind (if x65 then some true else x69.map (fun z195 => z195)) fun x70 =>
      let x72 := (if x70 = false then some () else none)
      Option.bind (if x70 = false then (x72.map (fun z196 => c3_1)).map some else some none) fun x73 =>
      Option.bind (if x70 = false then ((x73.bind (fun z197 => some (z197, (10080 : Int)))).map (fun z199 => (decide (z199.1 > z199.2)))).map some else some none) fun x74 =>
      Option.bind (if x70 then some true else x74.map (fun z200 => z200)) fun x75 =>
      if x75 then (
        some (2 : Int))
      else (
        some (0 : Int)))
    | Sum.inr q170 => (
      some q170))
noncomputable def sheet_each_loop1 (s : (List (Int × Int × Int)) × (Int) × (Int) × (Int) × (Int) × (List ((Int) × (Int))) × (List (Int × Int × Int)) × (List (Int)) × (Unit) × (Unit) × (Unit) × (Unit) × (Unit) × Unit) : Option (((List (Int × Int × Int)) × (Int) × (Int) × (Int) × (Int) × (List ((Int) × (Int))) × (List (Int × Int × Int)) × (List (Int)) × (Unit) × (Unit) × (Unit) × (Unit) × (Unit) × Unit) ⊕ (((List (Int × Int × Int)) × (List (Int)) × (Unit) × (Unit) × Unit))) :=
  let x15 := s.1
  let x16 := s.2.1
  let x17 := s.2.2.1
  let c3_0 := s.2.2.2.1
  let c3_1 := s.2.2.2.2.1
  let l14 := s.2.2.2.2.2.1
  let l1007 := s.2.2.2.2.2.2.1
  let l1008 := s.2.2.2.2.2.2.2.1
  let x18 := (decide (x17 < x16))
  if x18 then (
    Option.bind ((lAt x15 x17).map (fun y => y)) fun x19 =>
    Option.bind (civil_Weekday x19.1) fun x25 =>
    let x26 := IntKind.i64.wrap (x19.1 - x25)
    let x32 := (min x19.2.1 c3_0)
    let x38 := (alGet (eqZ (.agg (.one (.int .i64)))) (zeroT (.int .i64)) x26 l14).1
    let x39 := IntKind.i64.wrap (c3_1 - x38)
    let x40 := (max x39 (0 : Int))
    let x41 := (min x32 x40)
    let x44 := (alGet (eqZ (.agg (.one (.int .i64)))) (zeroT (.int .i64)) x26 l14).1
    let x46 := IntKind.i64.wrap (x44 + x32)
    let l14 := alPut (eqZ (.agg (.one (.int .i64)))) x26 ((alGet (eqZ (.agg (.one (.int .i64)))) (zeroT (.int .i64)) x26 l14).1) l14
    Option.bind (if (alGet (eqZ (.agg (.one (.int .i64)))) (zeroT (.int .i64)) x26 l14).2 = true then some (alPut (eqZ (.agg (.one (.int .i64)))) x26 x46 l14) else none) fun l14 =>
    let x54 := IntKind.i64.wrap (x19.2.1 - x41)
    let l58 := ([(x41, x54, x19.2.2)] : List (Int × Int × Int))
    Option.bind (if ((l1007.length : Int) + (l58.length : Int)) * (24 : Int) ≤ 140737488355328 ∧ (l1007.length : Int) + (l58.length : Int) ≤ 4611686018427387904 then some (l1007 ++ l58) else none) fun l1007 =>
    let l62 := ([x26] : List (Int))
    Option.bind (if ((l1008.length : Int) + (l62.length : Int)) * (8 : Int) ≤ 140737488355328 ∧ (l1008.length : Int) + (l62.length : Int) ≤ 4611686018427387904 then some (l1008 ++ l62) else none) fun l1008 =>
    let x64 := IntKind.i64.wrap (x17 + (1 : Int))
    some (Sum.inl (x15, x16, x64, c3_0, c3_1, l14, l1007, l1008, (), (), (), (), (), ())))
  else (
    some (Sum.inr (l1007, l1008, (), (), ())))
noncomputable def sheet_each (a : (List (Int × Int × Int)) × (Int × Int)) : Option ((List (Int × Int × Int)) × (List (Int))) :=
  let x0 := a.1
  let x1 := a.2
  let x16 := (x0.length : Int)
  Option.bind (iter sheet_each_loop1 (x0, x16, (0 : Int), x1.1, x1.2, ([] : List ((Int) × (Int))), ([] : List (Int × Int × Int)), ([] : List (Int)), (), (), (), (), (), ())) fun o =>
  let l1007 := o.1
  let l1008 := o.2.1
  some (l1007, l1008)
noncomputable def sheet_Hours_add (a : (Int × Int × Int) × (Int × Int × Int)) : Option (Int × Int × Int) :=
  let x0 := a.1
  let x1 := a.2
  let x9 := IntKind.i64.wrap (x0.1 + x1.1)
  let x14 := IntKind.i64.wrap (x0.2.1 + x1.2.1)
  let x19 := IntKind.i64.wrap (x0.2.2 + x1.2.2)
  some (x9, x14, x19)
noncomputable def sheet_Sum_loop1 (s : (List (Int × Int × Int)) × (List (Int × Int × Int)) × (Int) × (Int) × (Int) × (Int) × (Int) × (Int) × (Int) × (Int) × (Int) × (Int) × (Unit) × (Unit) × (Unit) × (Unit) × (Unit) × (Unit) × Unit) : Option (((List (Int × Int × Int)) × (List (Int × Int × Int)) × (Int) × (Int) × (Int) × (Int) × (Int) × (Int) × (Int) × (Int) × (Int) × (Int) × (Unit) × (Unit) × (Unit) × (Unit) × (Unit) × (Unit) × Unit) ⊕ (((Int) × (Int) × (Int) × (Int) × (Int) × (Int) × (Unit) × (Unit) × (Unit) × (Unit) × Unit))) :=
  let x10 := s.1
  let x27 := s.2.1
  let x28 := s.2.2.1
  let x29 := s.2.2.2.1
  let c5_0 := s.2.2.2.2.1
  let c5_1 := s.2.2.2.2.2.1
  let c6_0 := s.2.2.2.2.2.2.1
  let c6_1 := s.2.2.2.2.2.2.2.1
  let c6_2 := s.2.2.2.2.2.2.2.2.1
  let c9_0 := s.2.2.2.2.2.2.2.2.2.1
  let c9_1 := s.2.2.2.2.2.2.2.2.2.2.1
  let c9_2 := s.2.2.2.2.2.2.2.2.2.2.2.1
  let x30 := (decide (x29 < x28))
  if x30 then (
    Option.bind (show Option (((List (Int × Int × Int)) × (List (Int × Int × Int)) × (Int) × (Int) × (Int) × (Int) × (Int) × (Int) × (Int) × (Int) × (Int) × (Int) × (Unit) × (Unit) × (Unit) × (Unit) × (Unit) × (Unit) × Unit)) from (
      Option.bind ((lAt x27 x29).map (fun y => y)) fun x32 =>
      let x38 := (decide (x32.1 < c5_0))
      let x40 := (if x38 = false then some () else none)
      Option.bind (if x38 = false then (x40.map (fun z37 => x32.1)).map some else some none) fun x41 =>
      let x42 := (if x38 = false then some () else none)
      Option.bind (if x38 = false then (x42.map (fun z38 => c5_1)).map some else some none) fun x43 =>
      Option.bind (if x38 = false then ((x41.bind (fun z39 => x43.map (fun z40 => (z39, z40)))).map (fun z41 => (decide (z41.1 ≥ z41.2)))).map some else some none) fun x44 =>
      Option.bind (if x38 then some true else x44.map (fun z42 => z42)) fun x45 =>
      if x45 then (
        some (x10, x27, x28, x29, c5_0, c5_1, c6_0, c6_1, c6_2, c9_0, c9_1, c9_2, (), (), (), (), (), (), ()))
      else (
        Option.bind ((lAt x10 x29).map (fun y => y)) fun x49 =>
        Option.bind (sheet_Hours_add ((c9_0, c9_1, c9_2), x49)) fun x51 =>
        some (x10, x27, x28, x29, c5_0, c5_1, c6_0, c6_1, c6_2, x51.1, x51.2.1, x51.2.2, (), (), (), (), (), (), ())))) fun o =>
    let x10 := o.1
    let x27 := o.2.1
    let x28 := o.2.2.1
    let x29 := o.2.2.2.1
    let c5_0 := o.2.2.2.2.1
    let c5_1 := o.2.2.2.2.2.1
    let c6_0 := o.2.2.2.2.2.2.1
    let c6_1 := o.2.2.2.2.2.2.2.1
    let c6_2 := o.2.2.2.2.2.2.2.2.1
    let c9_0 := o.2.2.2.2.2.2.2.2.2.1
    let c9_1 := o.2.2.2.2.2.2.2.2.2.2.1
    let c9_2 := o.2.2.2.2.2.2.2.2.2.2.2.1
    let x52 := IntKind.i64.wrap (x29 + (1 : Int))
    some (Sum.inl (x10, x27, x28, x52, c5_0, c5_1, c6_0, c6_1, c6_2, c9_0, c9_1, c9_2, (), (), (), (), (), (), ())))
  else (
    some (Sum.inr (c6_0, c6_1, c6_2, c9_0, c9_1, c9_2, (), (), (), (), ())))
noncomputable def sheet_Sum (a : (List (Int × Int × Int)) × (Int × Int) × (Int × Int)) : Option ((Int × Int × Int) × Int) :=
  let x0 := a.1
  let x1 := a.2.1
  let x2 := a.2.2
  Option.bind (sheet_wrong (x0, (x1.1, x1.2))) fun x16 =>
  let x18 := (x16 != (0 : Int))
  if x18 then (
    some (((0 : Int), (0 : Int), (0 : Int)), x16))
  else (
    Option.bind (sheet_each (x0, (x1.1, x1.2))) fun x24 =>
    let x28 := (x0.length : Int)
    Option.bind (iter sheet_Sum_loop1 (x24.1, x0, x28, (0 : Int), x2.1, x2.2, (0 : Int), (0 : Int), (0 : Int), (0 : Int), (0 : Int), (0 : Int), (), (), (), (), (), (), ())) fun o =>
    let c6_0 := o.1
    let c6_1 := o.2.1
    let c6_2 := o.2.2.1
    let c9_0 := o.2.2.2.1
    let c9_1 := o.2.2.2.2.1
    let c9_2 := o.2.2.2.2.2.1
    some ((c9_0, c9_1, c9_2), (0 : Int)))
noncomputable def sheet_Weeks_loop1 (s : (List (Int)) × (List (Int × Int × Int)) × (Int) × (Int) × (List (Int × Int × Int)) × (Unit) × Unit) : Option (((List (Int)) × (List (Int × Int × Int)) × (Int) × (Int) × (List (Int × Int × Int)) × (Unit) × Unit) ⊕ (((List (Int × Int × Int)) × (Unit) × Unit))) :=
  let x6 := s.1
  let x20 := s.2.1
  let x21 := s.2.2.1
  let x22 := s.2.2.2.1
  let l1007 := s.2.2.2.2.1
  let x23 := (decide (x22 < x21))
  if x23 then (
    Option.bind (show Option (((List (Int)) × (List (Int × Int × Int)) × (Int) × (Int) × (List (Int × Int × Int)) × (Unit) × Unit)) from (
      Option.bind ((lAt x20 x22).map (fun y => y)) fun x25 =>
      let x28 := (decide (x22 > (0 : Int)))
      let x30 := (if x28 = true then some x6 else none)
      let x31 := (if x28 = true then some x22 else none)
      Option.bind (if x28 = true then ((x30.bind (fun z91 => x31.map (fun z92 => (z91, z92)))).bind (fun z93 => (lAt z93.1 z93.2).map (fun y => y))).map some else some none) fun x32 =>
      Option.bind (if x28 = true then (x32.map (fun z94 => z94)).map some else some none) fun x33 =>
      let x34 := (if x28 = true then some x6 else none)
      let x35 := (if x28 = true then some x22 else none)
      Option.bind (if x28 = true then ((x35.bind (fun z95 => some (z95, (1 : Int)))).map (fun z97 => IntKind.i64.wrap (z97.1 - z97.2))).map some else some none) fun x36 =>
      Option.bind (if x28 = true then ((x34.bind (fun z98 => x36.map (fun z99 => (z98, z99)))).bind (fun z100 => (lAt z100.1 z100.2).map (fun y => y))).map some else some none) fun x37 =>
      Option.bind (if x28 = true then (x37.map (fun z101 => z101)).map some else some none) fun x38 =>
      Option.bind (if x28 = true then ((x33.bind (fun z102 => x38.map (fun z103 => (z102, z103)))).map (fun z104 => (z104.1 == z104.2))).map some else some none) fun x39 =>
      Option.bind (if x28 then x39 else some false) fun x40 =>
      if x40 then (
        let x43 := (l1007.length : Int)
        let x44 := IntKind.i64.wrap (x43 - (1 : Int))
        let x47 := (l1007.length : Int)
        let x48 := IntKind.i64.wrap (x47 - (1 : Int))
        Option.bind (if 0 ≤ x48 ∧ x48 < (l1007.length : Int) then some x48.toNat else none) fun x49 =>
        Option.bind ((l1007[x49]?).map (fun y => y)) fun x50 =>
        Option.bind (sheet_Hours_add (x50, (x25.1, x25.2.1, x25.2.2))) fun x52 =>
        Option.bind (if 0 ≤ x44 ∧ x44 < (l1007.length : Int) then some x44.toNat else none) fun x53 =>
        Option.bind ((l1007[x53]?).map (fun el105 => l1007.set x53 (x52.1, x52.2.1, x52.2.2))) fun l1007 =>
        some (x6, x20, x21, x22, l1007, (), ()))
      else (
        let l56 := ([(x25.1, x25.2.1, x25.2.2)] : List (Int × Int × Int))
        Option.bind (if ((l1007.length : Int) + (l56.length : Int)) * (24 : Int) ≤ 140737488355328 ∧ (l1007.length : Int) + (l56.length : Int) ≤ 4611686018427387904 then some (l1007 ++ l56) else none) fun l1007 =>
        some (x6, x20, x21, x22, l1007, (), ())))) fun o =>
    let x6 := o.1
    let x20 := o.2.1
    let x21 := o.2.2.1
    let x22 := o.2.2.2.1
    let l1007 := o.2.2.2.2.1
    let x58 := IntKind.i64.wrap (x22 + (1 : Int))
    some (Sum.inl (x6, x20, x21, x58, l1007, (), ())))
  else (
    some (Sum.inr (l1007, (), ())))
noncomputable def sheet_Weeks (a : (List (Int × Int × Int)) × (Int × Int)) : Option (List (Int × Int × Int)) :=
  let x0 := a.1
  let x1 := a.2
  Option.bind (sheet_wrong (x0, (x1.1, x1.2))) fun x12 =>
  let x13 := (x12 != (0 : Int))
  if x13 then (
    some ([] : List (Int × Int × Int)))
  else (
    Option.bind (sheet_each (x0, (x1.1, x1.2))) fun x17 =>
    let x21 := (x17.1.length : Int)
    Option.bind (iter sheet_Weeks_loop1 (x17.2, x17.1, x21, (0 : Int), ([] : List (Int × Int × Int)), (), ())) fun o =>
    let l1007 := o.1
    some l1007)
noncomputable def law17_awake_loop1 (s : (Int) × (List (Int × Int × Int)) × (Unit) × Unit) : Option (((Int) × (List (Int × Int × Int)) × (Unit) × Unit) ⊕ (((List (Int × Int × Int)) × (Unit) × Unit))) :=
  let x2 := s.1
  let l1001 := s.2.1
  let x7 := (decide (x2 < (19728 : Int)))
  if x7 then (
    let l13 := ([(x2, (540 : Int), (0 : Int))] : List (Int × Int × Int))
    Option.bind (if ((l1001.length : Int) + (l13.length : Int)) * (24 : Int) ≤ 140737488355328 ∧ (l1001.length : Int) + (l13.length : Int) ≤ 4611686018427387904 then some (l1001 ++ l13) else none) fun l1001 =>
    let x9 := IntKind.i64.wrap (x2 + (1 : Int))
    some (Sum.inl (x9, l1001, (), ())))
  else (
    some (Sum.inr (l1001, (), ())))
noncomputable def law17_awake (a : Unit) : Option (Bool) :=
  Option.bind (iter law17_awake_loop1 ((19723 : Int), ([] : List (Int × Int × Int)), (), ())) fun o =>
  let l1001 := o.1
  Option.bind (sheet_Sum (l1001, ((480 : Int), (2280 : Int)), ((0 : Int), (30000 : Int)))) fun x19 =>
  Option.bind (sheet_Weeks (l1001, ((480 : Int), (2280 : Int)))) fun x24 =>
  let x26 := (x19.2 == (0 : Int))
  let x28 := (if x26 = true then some (x19.1.1, x19.1.2.1, x19.1.2.2) else none)
  let x29 := (if x26 = true then some ((2280 : Int), (420 : Int), (0 : Int)) else none)
  Option.bind (if x26 = true then ((x28.bind (fun z1 => x29.map (fun z2 => (z1, z2)))).map (fun z3 => ((z3.1.1 == z3.2.1) && ((z3.1.2.1 == z3.2.2.1) && (z3.1.2.2 == z3.2.2.2))))).map some else some none) fun x30 =>
  Option.bind (if x26 then x30 else some false) fun x31 =>
  let x33 := (if x31 = true then some x24 else none)
  Option.bind (if x31 = true then (x33.map (fun z4 => (z4.length : Int))).map some else some none) fun x34 =>
  Option.bind (if x31 = true then ((x34.bind (fun z5 => some (z5, (1 : Int)))).map (fun z7 => (z7.1 == z7.2))).map some else some none) fun x35 =>
  Option.bind (if x31 then x35 else some false) fun x36 =>
  let x38 := (if x36 = true then some x24 else none)
  Option.bind (if x36 = true then ((x38.bind (fun z8 => some (z8, (0 : Int)))).bind (fun z10 => (lAt z10.1 z10.2).map (fun y => y))).map some else some none) fun x39 =>
  Option.bind (if x36 = true then (x39.map (fun z11 => z11)).map some else some none) fun x40 =>
  let x41 := (if x36 = true then some (x19.1.1, x19.1.2.1, x19.1.2.2) else none)
  Option.bind (if x36 = true then ((x40.bind (fun z12 => x41.map (fun z13 => (z12, z13)))).map (fun z14 => ((z14.1.1 == z14.2.1) && ((z14.1.2.1 == z14.2.2.1) && (z14.1.2.2 == z14.2.2.2))))).map some else some none) fun x42 =>
  Option.bind (if x36 then x42 else some false) fun x43 =>
  some x43
noncomputable def law17_of_loop1 (s : (List (Int × Int × Int)) × (Int) × (List (Int × Int × Int)) × (Unit) × Unit) : Option (((List (Int × Int × Int)) × (Int) × (List (Int × Int × Int)) × (Unit) × Unit) ⊕ (((List (Int × Int × Int)) × (Unit) × Unit))) :=
  let x0 := s.1
  let x4 := s.2.1
  let l1003 := s.2.2.1
  let x7 := (x0.length : Int)
  let x8 := (decide (x4 < x7))
  if x8 then (
    Option.bind ((lAt x0 x4).map (fun y => y)) fun x14 =>
    Option.bind ((lAt x0 x4).map (fun y => y)) fun x19 =>
    Option.bind ((lAt x0 x4).map (fun y => y)) fun x24 =>
    let l28 := ([(x14.1, x19.2.1, x24.2.2)] : List (Int × Int × Int))
    Option.bind (if ((l1003.length : Int) + (l28.length : Int)) * (24 : Int) ≤ 140737488355328 ∧ (l1003.length : Int) + (l28.length : Int) ≤ 4611686018427387904 then some (l1003 ++ l28) else none) fun l1003 =>
    let x10 := IntKind.i64.wrap (x4 + (1 : Int))
    some (Sum.inl (x0, x10, l1003, (), ())))
  else (
    some (Sum.inr (l1003, (), ())))
noncomputable def law17_of (a : (List (Int × Int × Int))) : Option (List (Int × Int × Int)) :=
  let x0 := a
  Option.bind (iter law17_of_loop1 (x0, (0 : Int), ([] : List (Int × Int × Int)), (), ())) fun o =>
  let l1003 := o.1
  some l1003
noncomputable def ref04_In (a : Int) : Option (Bool) :=
  let x0 := a
  let x4 := (decide (x0 ≥ (-25567 : Int)))
  let x6 := (if x4 = true then some x0 else none)
  Option.bind (if x4 = true then ((x6.bind (fun z1 => some (z1, (84005 : Int)))).map (fun z3 => (decide (z3.1 ≤ z3.2)))).map some else some none) fun x7 =>
  Option.bind (if x4 then x7 else some false) fun x8 =>
  some x8
noncomputable def ref17_Check_loop1 (s : (List (Int × Int × Int)) × (Int) × (Int) × (Int) × Unit) : Option (((List (Int × Int × Int)) × (Int) × (Int) × (Int) × Unit) ⊕ (((Int) × (Int) × Unit) ⊕ (Int))) :=
  let x0 := s.1
  let x1 := s.2.1
  let x2 := s.2.2.1
  let x7 := s.2.2.2.1
  let x13 := (x0.length : Int)
  let x14 := (decide (x7 < x13))
  if x14 then (
    Option.bind ((lAt x0 x7).map (fun y => y)) fun x19 =>
    Option.bind (ref04_In x19.1) fun x22 =>
    let x23 := (!x22)
    if x23 then (
      some (Sum.inr (Sum.inr (15 : Int))))
    else (
      let x25 := (decide (x7 > (0 : Int)))
      let x27 := (if x25 = true then some x0 else none)
      let x28 := (if x25 = true then some x7 else none)
      Option.bind (if x25 = true then ((x27.bind (fun z257 => x28.map (fun z258 => (z257, z258)))).bind (fun z259 => (lAt z259.1 z259.2).map (fun y => y))).map some else some none) fun x29 =>
      Option.bind (if x25 = true then (x29.map (fun z260 => z260)).map some else some none) fun x30 =>
      Option.bind (if x25 = true then (x30.map (fun z261 => z261.1)).map some else some none) fun x31 =>
      let x32 := (if x25 = true then some x0 else none)
      let x33 := (if x25 = true then some x7 else none)
      Option.bind (if x25 = true then ((x33.bind (fun z262 => some (z262, (1 : Int)))).map (fun z264 => IntKind.i64.wrap (z264.1 - z264.2))).map some else some none) fun x34 =>
      Option.bind (if x25 = true then ((x32.bind (fun z265 => x34.map (fun z266 => (z265, z266)))).bind (fun z267 => (lAt z267.1 z267.2).map (fun y => y))).map some else some none) fun x35 =>
      Option.bind (if x25 = true then (x35.map (fun z268 => z268)).map some else some none) fun x36 =>
      Option.bind (if x25 = true then (x36.map (fun z269 => z269.1)).map some else some none) fun x37 =>
      Option.bind (if x25 = true then ((x31.bind (fun z270 => x37.map (fun z271 => (z270, z271)))).map (fun z272 => (decide (z272.1 ≤ z272.2)))).map some else some none) fun x38 =>
      Option.bind (if x25 then x38 else some false) fun x39 =>
      if x39 then (
        some (Sum.inr (Sum.inr (8 : Int))))
      else (
        Option.bind ((lAt x0 x7).map (fun y => y)) fun x42 =>
        let x45 := (decide (x42.2.1 < (0 : Int)))
        let x47 := (if x45 = false then some x0 else none)
        let x48 := (if x45 = false then some x7 else none)
        Option.bind (if x45 = false then ((x47.bind (fun z273 => x48.map (fun z274 => (z273, z274)))).bind (fun z275 => (lAt z275.1 z275.2).map (fun y => y))).map some else some none) fun x49 =>
        Option.bind (if x45 = false then (x49.map (fun z276 => (z276.2.1, z276.2.2))).map some else some none) fun x50 =>
        Option.bind (if x45 = false then (x50.map (fun z277 => z277.1)).map some else some none) fun x51 =>
        Option.bind (if x45 = false then ((x51.bind (fun z278 => some (z278, (1440 : Int)))).map (fun z280 => (decide (z280.1 > z280.2)))).map some else some none) fun x52 =>
        Option.bind (if x45 then some true else x52.map (fun z281 => z281)) fun x53 =>
        let x55 := (if x53 = false then some x0 else none)
        let x56 := (if x53 = false then some x7 else none)
        Option.bind (if x53 = false then ((x55.bind (fun z282 => x56.map (fun z283 => (z282, z283)))).bind (fun z284 => (lAt z284.1 z284.2).map (fun y => y))).map some else some none) fun x57 =>
        Option.bind (if x53 = false then (x57.map (fun z285 => z285.2.2)).map some else some none) fun x58 =>
        Option.bind (if x53 = false then (x58.map (fun z286 => z286)).map some else some none) fun x59 =>
        Option.bind (if x53 = false then ((x59.bind (fun z287 => some (z287, (0 : Int)))).map (fun z289 => (decide (z289.1 < z289.2)))).map some else some none) fun x60 =>
        Option.bind (if x53 then some true else x60.map (fun z290 => z290)) fun x61 =>
        let x63 := (if x61 = false then some x0 else none)
        let x64 := (if x61 = false then some x7 else none)
        Option.bind (if x61 = false then ((x63.bind (fun z291 => x64.map (fun z292 => (z291, z292)))).bind (fun z293 => (lAt z293.1 z293.2).map (fun y => y))).map some else some none) fun x65 =>
        Option.bind (if x61 = false then (x65.map (fun z294 => z294.2.2)).map some else some none) fun x66 =>
        Option.bind (if x61 = false then (x66.map (fun z295 => z295)).map some else some none) fun x67 =>
        let x68 := (if x61 = false then some x0 else none)
        let x69 := (if x61 = false then some x7 else none)
        Option.bind (if x61 = false then ((x68.bind (fun z296 => x69.map (fun z297 => (z296, z297)))).bind (fun z298 => (lAt z298.1 z298.2).map (fun y => y))).map some else some none) fun x70 =>
        Option.bind (if x61 = false then (x70.map (fun z299 => (z299.2.1, z299.2.2))).map some else some none) fun x71 =>
        Option.bind (if x61 = false then (x71.map (fun z300 => z300.1)).map some else some none) fun x72 =>
        Option.bind (if x61 = false then ((x67.bind (fun z301 => x72.map (fun z302 => (z301, z302)))).map (fun z303 => (decide (z303.1 > z303.2)))).map some else some none) fun x73 =>
        Option.bind (if x61 then some true else x73.map (fun z304 => z304)) fun x74 =>
        if x74 then (
          some (Sum.inr (Sum.inr (2 : Int))))
        else (
          let x16 := IntKind.i64.wrap (x7 + (1 : Int))
          some (Sum.inl (x0, x1, x2, x16, ()))))))
  else (
    some (Sum.inr (Sum.inl (x1, x2, ()))))
noncomputable def ref17_Check (a : (List (Int × Int × Int)) × Int × Int) : Option (Int) :=
  let x0 := a.1
  let x1 := a.2.1
  let x2 := a.2.2
  let x9 := (x0.length : Int)
  let x10 := (decide (x9 > (4096 : Int)))
  if x10 then (
    some (5 : Int))
  else (
    Option.bind (iter ref17_Check_loop1 (x0, x1, x2, (0 : Int), ())) fun o =>
    match o with
    | Sum.inl p305 => (
      let x1 := p305.1
      let x2 := p305.2.1
      let x76 := (decide (x1 < (0 : Int)))
      let x78 := (if x76 = false then some x1 else none)
      Option.bind (if x76 = false then ((x78.bind (fun z319 => some (z319, (1440 : Int)))).map (fun z321 => (decide (z321.1 > z321.2)))).map some else some none) fun x79 =>
      Option.bind (if x76 then some true else x79.map (fun z322 => z322)) fun x80 =>
      let x82 := (if x80 = false then some x2 else none)
      Option.bind (if x80 = false then ((x82.bind (fun z323 => some (z323, (0 : Int)))).map (fun z325 => (decide (z325.1 < z325.2)))).map some else some none) fun x83 =>
      Option.bind (if x80 then some true else x83.map (fun z326 => z326)) fun x84 =>
      let x86 := (if x84 = false then some x2 else none)
      Option.bind (if x84 = false then ((x86.bind (fun z327 => some (z327, (10080 : Int)))).map (fun z329 => (decide (z329.1 > z329.2)))).map some else some none) fun x87 =>
      Option.bind (if x84 then some true else x87.map (fun z330 => z330)) fun x88 =>
      if x88 then (
        some (2 : Int))
      else (
        some (0 : Int)))
    | Sum.inr q306 => (
      some q306))
noncomputable def ref04_Weekday (a : Int) : Option (Int) :=
  let x0 := a
  let x4 := IntKind.i64.wrap (x0 - (-25567 : Int))
  Option.bind (if (7 : Int) = 0 then none else some (x4.tmod (7 : Int))) fun x5 =>
  some x5
noncomputable def ref17_Monday (a : Int) : Option (Int) :=
  let x0 := a
  Option.bind (ref04_Weekday x0) fun x5 =>
  let x6 := IntKind.i64.wrap (x0 - x5)
  some x6
noncomputable def ref17_over_loop1 (s : (List (Int × Int × Int)) × (Int) × (Int) × (Int) × (Int) × (Int) × (Int) × Unit) : Option (((List (Int × Int × Int)) × (Int) × (Int) × (Int) × (Int) × (Int) × (Int) × Unit) ⊕ (((List (Int × Int × Int)) × (Int) × (Int) × (Int) × (Int) × Unit))) :=
  let x0 := s.1
  let x1 := s.2.1
  let x2 := s.2.2.1
  let x3 := s.2.2.2.1
  let x9 := s.2.2.2.2.1
  let x10 := s.2.2.2.2.2.1
  let x11 := s.2.2.2.2.2.2.1
  let x15 := (decide (x11 ≤ x1))
  if x15 then (
    Option.bind (show Option (((List (Int × Int × Int)) × (Int) × (Int) × (Int) × (Int) × (Int) × (Int) × Unit)) from (
      Option.bind ((lAt x0 x11).map (fun y => y)) fun x20 =>
      Option.bind (ref17_Monday x20.1) fun x23 =>
      Option.bind ((lAt x0 x1).map (fun y => y)) fun x26 =>
      Option.bind (ref17_Monday x26.1) fun x29 =>
      let x30 := (x23 != x29)
      if x30 then (
        some (x0, x1, x2, x3, x9, x10, x11, ()))
      else (
        let x33 := IntKind.i64.wrap (x10 + x9)
        Option.bind ((lAt x0 x11).map (fun y => y)) fun x36 =>
        let x41 := (decide (x36.2.1 > x2))
        if x41 then (
          some (x0, x1, x2, x3, x2, x33, x11, ()))
        else (
          some (x0, x1, x2, x3, x36.2.1, x33, x11, ()))))) fun o =>
    let x0 := o.1
    let x1 := o.2.1
    let x2 := o.2.2.1
    let x3 := o.2.2.2.1
    let x9 := o.2.2.2.2.1
    let x10 := o.2.2.2.2.2.1
    let x11 := o.2.2.2.2.2.2.1
    let x17 := IntKind.i64.wrap (x11 + (1 : Int))
    some (Sum.inl (x0, x1, x2, x3, x9, x10, x17, ())))
  else (
    some (Sum.inr (x0, x1, x3, x9, x10, ())))
noncomputable def ref17_over (a : (List (Int × Int × Int)) × Int × Int × Int) : Option (Int) :=
  let x0 := a.1
  let x1 := a.2.1
  let x2 := a.2.2.1
  let x3 := a.2.2.2
  Option.bind (iter ref17_over_loop1 (x0, x1, x2, x3, (0 : Int), (0 : Int), (0 : Int), ())) fun o =>
  let x0 := o.1
  let x1 := o.2.1
  let x3 := o.2.2.1
  let x9 := o.2.2.2.1
  let x10 := o.2.2.2.2.1
  let x45 := IntKind.i64.wrap (x3 - x10)
  Option.bind (show Option (((List (Int × Int × Int)) × (Int) × (Int) × (Int) × Unit)) from (
    let x47 := (decide (x45 < (0 : Int)))
    if x47 then (
      some (x0, x1, x9, (0 : Int), ()))
    else (
      some (x0, x1, x9, x45, ())))) fun o =>
  let x0 := o.1
  let x1 := o.2.1
  let x9 := o.2.2.1
  let x12 := o.2.2.2.1
  Option.bind (show Option (((List (Int × Int × Int)) × (Int) × (Int) × Unit)) from (
    let x50 := (decide (x12 > x9))
    if x50 then (
      some (x0, x1, x9, ()))
    else (
      some (x0, x1, x12, ())))) fun o =>
  let x0 := o.1
  let x1 := o.2.1
  let x12 := o.2.2.1
  Option.bind ((lAt x0 x1).map (fun y => y)) fun x54 =>
  let x58 := IntKind.i64.wrap (x54.2.1 - x12)
  some x58
noncomputable def ref17_Sum_loop1 (s : (List (Int × Int × Int)) × (Int) × (Int) × (Int) × (Int) × (Int) × (Int) × (Int) × (Int) × (Int) × (Int) × (Int) × (Unit) × (Unit) × (Unit) × (Unit) × (Unit) × (Unit) × Unit) : Option (((List (Int × Int × Int)) × (Int) × (Int) × (Int) × (Int) × (Int) × (Int) × (Int) × (Int) × (Int) × (Int) × (Int) × (Unit) × (Unit) × (Unit) × (Unit) × (Unit) × (Unit) × Unit) ⊕ (((Int) × (Int) × (Int) × (Int) × (Int) × (Int) × (Unit) × (Unit) × (Unit) × (Unit) × Unit))) :=
  let x0 := s.1
  let x1 := s.2.1
  let x2 := s.2.2.1
  let x10 := s.2.2.2.1
  let c7_0 := s.2.2.2.2.1
  let c7_1 := s.2.2.2.2.2.1
  let c8_0 := s.2.2.2.2.2.2.1
  let c8_1 := s.2.2.2.2.2.2.2.1
  let c8_2 := s.2.2.2.2.2.2.2.2.1
  let c9_0 := s.2.2.2.2.2.2.2.2.2.1
  let c9_1 := s.2.2.2.2.2.2.2.2.2.2.1
  let c9_2 := s.2.2.2.2.2.2.2.2.2.2.2.1
  let x15 := (x0.length : Int)
  let x16 := (decide (x10 < x15))
  if x16 then (
    Option.bind (show Option (((List (Int × Int × Int)) × (Int) × (Int) × (Int) × (Int) × (Int) × (Int) × (Int) × (Int) × (Int) × (Int) × (Int) × (Unit) × (Unit) × (Unit) × (Unit) × (Unit) × (Unit) × Unit)) from (
      Option.bind ((lAt x0 x10).map (fun y => y)) fun x21 =>
      let x26 := (decide (x21.1 ≥ c7_0))
      let x28 := (if x26 = true then some x0 else none)
      let x29 := (if x26 = true then some x10 else none)
      Option.bind (if x26 = true then ((x28.bind (fun z46 => x29.map (fun z47 => (z46, z47)))).bind (fun z48 => (lAt z48.1 z48.2).map (fun y => y))).map some else some none) fun x30 =>
      Option.bind (if x26 = true then (x30.map (fun z49 => z49)).map some else some none) fun x31 =>
      Option.bind (if x26 = true then (x31.map (fun z50 => z50.1)).map some else some none) fun x32 =>
      let x33 := (if x26 = true then some () else none)
      Option.bind (if x26 = true then (x33.map (fun z51 => c7_1)).map some else some none) fun x34 =>
      Option.bind (if x26 = true then ((x32.bind (fun z52 => x34.map (fun z53 => (z52, z53)))).map (fun z54 => (decide (z54.1 < z54.2)))).map some else some none) fun x35 =>
      Option.bind (if x26 then x35 else some false) fun x36 =>
      if x36 then (
        Option.bind (ref17_over (x0, x10, x1, x2)) fun x41 =>
        let x45 := IntKind.i64.wrap (c9_1 + x41)
        Option.bind ((lAt x0 x10).map (fun y => y)) fun x51 =>
        let x54 := IntKind.i64.wrap (c9_0 + x51.2.1)
        let x56 := IntKind.i64.wrap (x54 - x41)
        Option.bind ((lAt x0 x10).map (fun y => y)) fun x62 =>
        let x65 := IntKind.i64.wrap (c9_2 + x62.2.2)
        some (x0, x1, x2, x10, c7_0, c7_1, c8_0, c8_1, c8_2, x56, x45, x65, (), (), (), (), (), (), ()))
      else (
        some (x0, x1, x2, x10, c7_0, c7_1, c8_0, c8_1, c8_2, c9_0, c9_1, c9_2, (), (), (), (), (), (), ())))) fun o =>
    let x0 := o.1
    let x1 := o.2.1
    let x2 := o.2.2.1
    let x10 := o.2.2.2.1
    let c7_0 := o.2.2.2.2.1
    let c7_1 := o.2.2.2.2.2.1
    let c8_0 := o.2.2.2.2.2.2.1
    let c8_1 := o.2.2.2.2.2.2.2.1
    let c8_2 := o.2.2.2.2.2.2.2.2.1
    let c9_0 := o.2.2.2.2.2.2.2.2.2.1
    let c9_1 := o.2.2.2.2.2.2.2.2.2.2.1
    let c9_2 := o.2.2.2.2.2.2.2.2.2.2.2.1
    let x18 := IntKind.i64.wrap (x10 + (1 : Int))
    some (Sum.inl (x0, x1, x2, x18, c7_0, c7_1, c8_0, c8_1, c8_2, c9_0, c9_1, c9_2, (), (), (), (), (), (), ())))
  else (
    some (Sum.inr (c8_0, c8_1, c8_2, c9_0, c9_1, c9_2, (), (), (), (), ())))
noncomputable def ref17_Sum (a : (List (Int × Int × Int)) × Int × Int × (Int × Int)) : Option (Int × Int × Int) :=
  let x0 := a.1
  let x1 := a.2.1
  let x2 := a.2.2.1
  let x3 := a.2.2.2
  Option.bind (iter ref17_Sum_loop1 (x0, x1, x2, (0 : Int), x3.1, x3.2, (0 : Int), (0 : Int), (0 : Int), (0 : Int), (0 : Int), (0 : Int), (), (), (), (), (), (), ())) fun o =>
  let c8_0 := o.1
  let c8_1 := o.2.1
  let c8_2 := o.2.2.1
  let c9_0 := o.2.2.2.1
  let c9_1 := o.2.2.2.2.1
  let c9_2 := o.2.2.2.2.2.1
  some (c9_0, c9_1, c9_2)
noncomputable def ref17_Weeks_loop1 (s : (List (Int × Int × Int)) × (Int) × (Int) × (Int) × (List (Int × Int × Int)) × (Unit) × Unit) : Option (((List (Int × Int × Int)) × (Int) × (Int) × (Int) × (List (Int × Int × Int)) × (Unit) × Unit) ⊕ (((List (Int × Int × Int)) × (Unit) × Unit))) :=
  let x0 := s.1
  let x1 := s.2.1
  let x2 := s.2.2.1
  let x8 := s.2.2.2.1
  let l1007 := s.2.2.2.2.1
  let x12 := (x0.length : Int)
  let x13 := (decide (x8 < x12))
  if x13 then (
    Option.bind (show Option (((List (Int × Int × Int)) × (Int) × (Int) × (Int) × (List (Int × Int × Int)) × (Unit) × Unit)) from (
      Option.bind ((lAt x0 x8).map (fun y => y)) fun x18 =>
      Option.bind (ref17_Monday x18.1) fun x21 =>
      let x23 := (x8 == (0 : Int))
      let x25 := (if x23 = false then some x0 else none)
      let x26 := (if x23 = false then some x8 else none)
      Option.bind (if x23 = false then ((x26.bind (fun z71 => some (z71, (1 : Int)))).map (fun z73 => IntKind.i64.wrap (z73.1 - z73.2))).map some else some none) fun x27 =>
      Option.bind (if x23 = false then ((x25.bind (fun z74 => x27.map (fun z75 => (z74, z75)))).bind (fun z76 => (lAt z76.1 z76.2).map (fun y => y))).map some else some none) fun x28 =>
      Option.bind (if x23 = false then (x28.map (fun z77 => z77)).map some else some none) fun x29 =>
      Option.bind (if x23 = false then (x29.map (fun z78 => z78.1)).map some else some none) fun x30 =>
      Option.bind (if x23 = false then ((x30.map (fun z79 => z79)).bind (fun z80 => ref17_Monday z80)).map some else some none) fun x31 =>
      let x32 := (if x23 = false then some x21 else none)
      Option.bind (if x23 = false then ((x31.bind (fun z81 => x32.map (fun z82 => (z81, z82)))).map (fun z83 => (z83.1 != z83.2))).map some else some none) fun x33 =>
      Option.bind (if x23 then some true else x33.map (fun z84 => z84)) fun x34 =>
      if x34 then (
        let x41 := IntKind.i64.wrap (x21 + (7 : Int))
        Option.bind (ref17_Sum (x0, x1, x2, (x21, x41))) fun x43 =>
        let l44 := ([x43] : List (Int × Int × Int))
        Option.bind (if ((l1007.length : Int) + (l44.length : Int)) * (24 : Int) ≤ 140737488355328 ∧ (l1007.length : Int) + (l44.length : Int) ≤ 4611686018427387904 then some (l1007 ++ l44) else none) fun l1007 =>
        some (x0, x1, x2, x8, l1007, (), ()))
      else (
        some (x0, x1, x2, x8, l1007, (), ())))) fun o =>
    let x0 := o.1
    let x1 := o.2.1
    let x2 := o.2.2.1
    let x8 := o.2.2.2.1
    let l1007 := o.2.2.2.2.1
    let x15 := IntKind.i64.wrap (x8 + (1 : Int))
    some (Sum.inl (x0, x1, x2, x15, l1007, (), ())))
  else (
    some (Sum.inr (l1007, (), ())))
noncomputable def ref17_Weeks (a : (List (Int × Int × Int)) × Int × Int) : Option (List (Int × Int × Int)) :=
  let x0 := a.1
  let x1 := a.2.1
  let x2 := a.2.2
  Option.bind (iter ref17_Weeks_loop1 (x0, x1, x2, (0 : Int), ([] : List (Int × Int × Int)), (), ())) fun o =>
  let l1007 := o.1
  some l1007
noncomputable def law17_hours (a : (Int × Int × Int)) : Option (Int × Int × Int) :=
  let x0 := a
  some (x0.1, x0.2.1, x0.2.2)
noncomputable def law17_SheetSum_loop1 (s : (List (Int × Int × Int)) × (List (Int × Int × Int)) × (Int) × Unit) : Option (((List (Int × Int × Int)) × (List (Int × Int × Int)) × (Int) × Unit) ⊕ ((Unit) ⊕ (Bool))) :=
  let x9 := s.1
  let x11 := s.2.1
  let x12 := s.2.2.1
  let x91 := (x11.length : Int)
  let x92 := (decide (x12 < x91))
  if x92 then (
    Option.bind ((lAt x9 x12).map (fun y => y)) fun x97 =>
    Option.bind (law17_hours x97) fun x99 =>
    Option.bind ((lAt x11 x12).map (fun y => y)) fun x102 =>
    let x104 := (!((x99.1 == x102.1) && ((x99.2.1 == x102.2.1) && (x99.2.2 == x102.2.2))))
    if x104 then (
      some (Sum.inr (Sum.inr false)))
    else (
      let x94 := IntKind.i64.wrap (x12 + (1 : Int))
      some (Sum.inl (x9, x11, x94, ()))))
  else (
    some (Sum.inr (Sum.inl (()))))
noncomputable def law17_SheetSum (a : (List (Int × Int × Int)) × (Int × Int) × (Int × Int)) : Option (Bool) :=
  let x0 := a.1
  let x1 := a.2.1
  let x2 := a.2.2
  Option.bind (law17_awake ()) fun x13 =>
  let x14 := (!x13)
  if x14 then (
    some false)
  else (
    let x16 := (x0.length : Int)
    let x17 := (decide (x16 > (40 : Int)))
    let x19 := (if x17 = true then some x0 else none)
    Option.bind (if x17 = true then (x19.map (fun z10 => (z10.length : Int))).map some else some none) fun x20 =>
    Option.bind (if x17 = true then ((x20.bind (fun z11 => some (z11, (4096 : Int)))).map (fun z13 => (decide (z13.1 ≤ z13.2)))).map some else some none) fun x21 =>
    Option.bind (if x17 then x21 else some false) fun x22 =>
    let x24 := (if x22 = false then some x0 else none)
    Option.bind (if x22 = false then (x24.map (fun z14 => (z14.length : Int))).map some else some none) fun x25 =>
    Option.bind (if x22 = false then ((x25.bind (fun z15 => some (z15, (5000 : Int)))).map (fun z17 => (decide (z17.1 > z17.2)))).map some else some none) fun x26 =>
    Option.bind (if x22 then some true else x26.map (fun z18 => z18)) fun x27 =>
    if x27 then (
      some true)
    else (
      Option.bind (sheet_Sum (x0, (x1.1, x1.2), (x2.1, x2.2))) fun x32 =>
      Option.bind (sheet_Weeks (x0, (x1.1, x1.2))) fun x37 =>
      Option.bind (law17_of x0) fun x39 =>
      Option.bind (ref17_Check (x39, x1.1, x1.2)) fun x44 =>
      let x46 := (x44 != (0 : Int))
      if x46 then (
        let x49 := (x32.2 == x44)
        let x51 := (if x49 = true then some (x32.1.1, x32.1.2.1, x32.1.2.2) else none)
        let x52 := (if x49 = true then some ((0 : Int), (0 : Int), (0 : Int)) else none)
        Option.bind (if x49 = true then ((x51.bind (fun z26 => x52.map (fun z27 => (z26, z27)))).map (fun z28 => ((z28.1.1 == z28.2.1) && ((z28.1.2.1 == z28.2.2.1) && (z28.1.2.2 == z28.2.2.2))))).map some else some none) fun x53 =>
        Option.bind (if x49 then x53 else some false) fun x54 =>
        let x56 := (if x54 = true then some x37 else none)
        Option.bind (if x54 = true then (x56.map (fun z29 => (z29.length : Int))).map some else some none) fun x57 =>
        Option.bind (if x54 = true then ((x57.bind (fun z30 => some (z30, (0 : Int)))).map (fun z32 => (z32.1 == z32.2))).map some else some none) fun x58 =>
        Option.bind (if x54 then x58 else some false) fun x59 =>
        some x59)
      else (
        Option.bind (law17_of x0) fun x61 =>
        Option.bind (ref17_Weeks (x61, x1.1, x1.2)) fun x66 =>
        let x68 := (x32.2 != (0 : Int))
        let x70 := (if x68 = false then some (x32.1.1, x32.1.2.1, x32.1.2.2) else none)
        Option.bind (if x68 = false then ((x70.map (fun z57 => z57)).bind (fun z58 => law17_hours z58)).map some else some none) fun x71 =>
        let x72 := (if x68 = false then some x0 else none)
        Option.bind (if x68 = false then ((x72.map (fun z59 => z59)).bind (fun z60 => law17_of z60)).map some else some none) fun x73 =>
        let x74 := (if x68 = false then some () else none)
        Option.bind (if x68 = false then (x74.map (fun z61 => x1.1)).map some else some none) fun x75 =>
        let x76 := (if x68 = false then some () else none)
        Option.bind (if x68 = false then (x76.map (fun z62 => x1.2)).map some else some none) fun x77 =>
        let x78 := (if x68 = false then some (x2.1, x2.2) else none)
        Option.bind (if x68 = false then (((x73.bind (fun z67 => (x75.bind (fun z65 => (x77.bind (fun z63 => x78.map (fun z64 => (z63, z64)))).map (fun z66 => (z65, z66)))).map (fun z68 => (z67, z68)))).map (fun z69 => (z69.1, z69.2.1, z69.2.2.1, z69.2.2.2))).bind (fun z70 => ref17_Sum z70)).map some else some none) fun x79 =>
        Option.bind (if x68 = false then ((x71.bind (fun z71 => x79.map (fun z72 => (z71, z72)))).map (fun z73 => (!((z73.1.1 == z73.2.1) && ((z73.1.2.1 == z73.2.2.1) && (z73.1.2.2 == z73.2.2.2)))))).map some else some none) fun x80 =>
        Option.bind (if x68 then some true else x80.map (fun z74 => z74)) fun x81 =>
        let x83 := (if x81 = false then some x37 else none)
        Option.bind (if x81 = false then (x83.map (fun z75 => (z75.length : Int))).map some else some none) fun x84 =>
        let x85 := (if x81 = false then some x66 else none)
        Option.bind (if x81 = false then (x85.map (fun z76 => (z76.length : Int))).map some else some none) fun x86 =>
        Option.bind (if x81 = false then ((x84.bind (fun z77 => x86.map (fun z78 => (z77, z78)))).map (fun z79 => (z79.1 != z79.2))).map some else some none) fun x87 =>
        Option.bind (if x81 then some true else x87.map (fun z80 => z80)) fun x88 =>
        if x88 then (
          some false)
        else (
          Option.bind (iter law17_SheetSum_loop1 (x37, x66, (0 : Int), ())) fun o =>
          match o with
          | Sum.inl p81 => (
            some true)
          | Sum.inr q82 => (
            some q82)))))
noncomputable def law17_SheetWorked_loop1 (s : (List (Int × Int × Int)) × (Int) × (Int) × (Int) × (Int) × (Int) × (Int) × (Int) × (Int) × (Unit) × (Unit) × (Unit) × (Unit) × Unit) : Option (((List (Int × Int × Int)) × (Int) × (Int) × (Int) × (Int) × (Int) × (Int) × (Int) × (Int) × (Unit) × (Unit) × (Unit) × (Unit) × Unit) ⊕ (((Int) × (Int) × (Int) × (Int) × (Int) × (Unit) × (Unit) × Unit))) :=
  let x0 := s.1
  let x9 := s.2.1
  let x10 := s.2.2.1
  let x11 := s.2.2.2.1
  let c5_0 := s.2.2.2.2.1
  let c5_1 := s.2.2.2.2.2.1
  let c7_0 := s.2.2.2.2.2.2.1
  let c7_1 := s.2.2.2.2.2.2.2.1
  let c7_2 := s.2.2.2.2.2.2.2.2.1
  let x31 := (x0.length : Int)
  let x32 := (decide (x11 < x31))
  if x32 then (
    Option.bind (show Option (((List (Int × Int × Int)) × (Int) × (Int) × (Int) × (Int) × (Int) × (Int) × (Int) × (Int) × (Unit) × (Unit) × (Unit) × (Unit) × Unit)) from (
      Option.bind ((lAt x0 x11).map (fun y => y)) fun x37 =>
      let x42 := (decide (x37.1 ≥ c5_0))
      let x44 := (if x42 = true then some x0 else none)
      let x45 := (if x42 = true then some x11 else none)
      Option.bind (if x42 = true then ((x44.bind (fun z46 => x45.map (fun z47 => (z46, z47)))).bind (fun z48 => (lAt z48.1 z48.2).map (fun y => y))).map some else some none) fun x46 =>
      Option.bind (if x42 = true then (x46.map (fun z49 => z49)).map some else some none) fun x47 =>
      Option.bind (if x42 = true then (x47.map (fun z50 => z50.1)).map some else some none) fun x48 =>
      let x49 := (if x42 = true then some () else none)
      Option.bind (if x42 = true then (x49.map (fun z51 => c5_1)).map some else some none) fun x50 =>
      Option.bind (if x42 = true then ((x48.bind (fun z52 => x50.map (fun z53 => (z52, z53)))).map (fun z54 => (decide (z54.1 < z54.2)))).map some else some none) fun x51 =>
      Option.bind (if x42 then x51 else some false) fun x52 =>
      if x52 then (
        Option.bind ((lAt x0 x11).map (fun y => y)) fun x56 =>
        let x59 := IntKind.i64.wrap (x9 + x56.2.1)
        Option.bind ((lAt x0 x11).map (fun y => y)) fun x63 =>
        let x66 := IntKind.i64.wrap (x10 + x63.2.2)
        some (x0, x59, x66, x11, c5_0, c5_1, c7_0, c7_1, c7_2, (), (), (), (), ()))
      else (
        some (x0, x9, x10, x11, c5_0, c5_1, c7_0, c7_1, c7_2, (), (), (), (), ())))) fun o =>
    let x0 := o.1
    let x9 := o.2.1
    let x10 := o.2.2.1
    let x11 := o.2.2.2.1
    let c5_0 := o.2.2.2.2.1
    let c5_1 := o.2.2.2.2.2.1
    let c7_0 := o.2.2.2.2.2.2.1
    let c7_1 := o.2.2.2.2.2.2.2.1
    let c7_2 := o.2.2.2.2.2.2.2.2.1
    let x34 := IntKind.i64.wrap (x11 + (1 : Int))
    some (Sum.inl (x0, x9, x10, x34, c5_0, c5_1, c7_0, c7_1, c7_2, (), (), (), (), ())))
  else (
    some (Sum.inr (x9, x10, c7_0, c7_1, c7_2, (), (), ())))
noncomputable def law17_SheetWorked (a : (List (Int × Int × Int)) × (Int × Int) × (Int × Int)) : Option (Bool) :=
  let x0 := a.1
  let x1 := a.2.1
  let x2 := a.2.2
  Option.bind (law17_awake ()) fun x12 =>
  let x13 := (!x12)
  if x13 then (
    some false)
  else (
    let x15 := (x0.length : Int)
    let x16 := (decide (x15 > (300 : Int)))
    if x16 then (
      some true)
    else (
      Option.bind (sheet_Sum (x0, (x1.1, x1.2), (x2.1, x2.2))) fun x21 =>
      let x25 := (x21.2 != (0 : Int))
      if x25 then (
        let x28 := ((x21.1.1 == (0 : Int)) && ((x21.1.2.1 == (0 : Int)) && (x21.1.2.2 == (0 : Int))))
        some x28)
      else (
        Option.bind (iter law17_SheetWorked_loop1 (x0, (0 : Int), (0 : Int), (0 : Int), x2.1, x2.2, x21.1.1, x21.1.2.1, x21.1.2.2, (), (), (), (), ())) fun o =>
        let x9 := o.1
        let x10 := o.2.1
        let c7_0 := o.2.2.1
        let c7_1 := o.2.2.2.1
        let c7_2 := o.2.2.2.2.1
        let x71 := IntKind.i64.wrap (c7_0 + c7_1)
        let x73 := (x71 == x9)
        let x75 := (if x73 = true then some () else none)
        Option.bind (if x73 = true then (x75.map (fun z55 => c7_2)).map some else some none) fun x76 =>
        let x77 := (if x73 = true then some x10 else none)
        Option.bind (if x73 = true then ((x76.bind (fun z56 => x77.map (fun z57 => (z56, z57)))).map (fun z58 => (z58.1 == z58.2))).map some else some none) fun x78 =>
        Option.bind (if x73 then x78 else some false) fun x79 =>
        let x81 := (if x79 = true then some () else none)
        Option.bind (if x79 = true then (x81.map (fun z59 => c7_0)).map some else some none) fun x82 =>
        Option.bind (if x79 = true then ((x82.bind (fun z60 => some (z60, (0 : Int)))).map (fun z62 => (decide (z62.1 ≥ z62.2)))).map some else some none) fun x83 =>
        Option.bind (if x79 then x83 else some false) fun x84 =>
        let x86 := (if x84 = true then some () else none)
        Option.bind (if x84 = true then (x86.map (fun z63 => c7_1)).map some else some none) fun x87 =>
        Option.bind (if x84 = true then ((x87.bind (fun z64 => some (z64, (0 : Int)))).map (fun z66 => (decide (z66.1 ≥ z66.2)))).map some else some none) fun x88 =>
        Option.bind (if x84 then x88 else some false) fun x89 =>
        some x89)))
noncomputable def law17_SheetCut_loop1 (s : (List (Int × Int × Int)) × (Int) × (Int) × (Int) × (Int) × (Int) × (Int) × (Int) × (Int) × (Int) × (Unit) × (Unit) × (Unit) × (Unit) × (Unit) × (Unit) × Unit) : Option (((List (Int × Int × Int)) × (Int) × (Int) × (Int) × (Int) × (Int) × (Int) × (Int) × (Int) × (Int) × (Unit) × (Unit) × (Unit) × (Unit) × (Unit) × (Unit) × Unit) ⊕ (((Int) × (Int) × (Int) × (Int) × (Int) × (Int) × (Unit) × (Unit) × (Unit) × (Unit) × Unit) ⊕ (Bool))) :=
  let x18 := s.1
  let x19 := s.2.1
  let c5_0 := s.2.2.1
  let c5_1 := s.2.2.2.1
  let c15_0 := s.2.2.2.2.1
  let c15_1 := s.2.2.2.2.2.1
  let c15_2 := s.2.2.2.2.2.2.1
  let c17_0 := s.2.2.2.2.2.2.2.1
  let c17_1 := s.2.2.2.2.2.2.2.2.1
  let c17_2 := s.2.2.2.2.2.2.2.2.2.1
  let x117 := (x18.length : Int)
  let x118 := (decide (x19 < x117))
  if x118 then (
    Option.bind ((lAt x18 x19).map (fun y => y)) fun x123 =>
    let x128 := (decide (x123.1 > c5_1))
    if x128 then (
      some (Sum.inr (Sum.inr false)))
    else (
      Option.bind ((lAt x18 x19).map (fun y => y)) fun x133 =>
      let x136 := IntKind.i64.wrap (c17_0 + x133.1)
      Option.bind ((lAt x18 x19).map (fun y => y)) fun x142 =>
      let x145 := IntKind.i64.wrap (c17_1 + x142.2.1)
      Option.bind ((lAt x18 x19).map (fun y => y)) fun x151 =>
      let x154 := IntKind.i64.wrap (c17_2 + x151.2.2)
      let x120 := IntKind.i64.wrap (x19 + (1 : Int))
      some (Sum.inl (x18, x120, c5_0, c5_1, c15_0, c15_1, c15_2, x136, x145, x154, (), (), (), (), (), (), ()))))
  else (
    some (Sum.inr (Sum.inl (c15_0, c15_1, c15_2, c17_0, c17_1, c17_2, (), (), (), (), ()))))
noncomputable def law17_SheetCut (a : (List (Int × Int × Int)) × (Int × Int) × (Int × Int) × Int) : Option (Bool) :=
  let x0 := a.1
  let x1 := a.2.1
  let x2 := a.2.2.1
  let x3 := a.2.2.2
  Option.bind (law17_awake ()) fun x20 =>
  let x21 := (!x20)
  if x21 then (
    some false)
  else (
    let x23 := (x0.length : Int)
    let x24 := (decide (x23 > (300 : Int)))
    let x26 := (if x24 = false then some x3 else none)
    let x27 := (if x24 = false then some () else none)
    Option.bind (if x24 = false then (x27.map (fun z11 => x2.1)).map some else some none) fun x28 =>
    Option.bind (if x24 = false then ((x26.bind (fun z12 => x28.map (fun z13 => (z12, z13)))).map (fun z14 => (decide (z14.1 < z14.2)))).map some else some none) fun x29 =>
    Option.bind (if x24 then some true else x29.map (fun z15 => z15)) fun x30 =>
    let x32 := (if x30 = false then some x3 else none)
    let x33 := (if x30 = false then some () else none)
    Option.bind (if x30 = false then (x33.map (fun z16 => x2.2)).map some else some none) fun x34 =>
    Option.bind (if x30 = false then ((x32.bind (fun z17 => x34.map (fun z18 => (z17, z18)))).map (fun z19 => (decide (z19.1 > z19.2)))).map some else some none) fun x35 =>
    Option.bind (if x30 then some true else x35.map (fun z20 => z20)) fun x36 =>
    if x36 then (
      some true)
    else (
      Option.bind (sheet_Sum (x0, (x1.1, x1.2), (x2.1, x3))) fun x44 =>
      Option.bind (sheet_Sum (x0, (x1.1, x1.2), (x3, x2.2))) fun x54 =>
      Option.bind (sheet_Sum (x0, (x1.1, x1.2), (x2.1, x2.2))) fun x61 =>
      let x66 := (x44.2 != x54.2)
      let x68 := (if x66 = false then some x44.2 else none)
      let x69 := (if x66 = false then some x61.2 else none)
      Option.bind (if x66 = false then ((x68.bind (fun z55 => x69.map (fun z56 => (z55, z56)))).map (fun z57 => (z57.1 != z57.2))).map some else some none) fun x70 =>
      Option.bind (if x66 then some true else x70.map (fun z58 => z58)) fun x71 =>
      let x73 := (if x71 = false then some () else none)
      Option.bind (if x71 = false then (x73.map (fun z59 => x44.1.1)).map some else some none) fun x74 =>
      let x75 := (if x71 = false then some () else none)
      Option.bind (if x71 = false then (x75.map (fun z60 => x54.1.1)).map some else some none) fun x76 =>
      Option.bind (if x71 = false then ((x74.bind (fun z61 => x76.map (fun z62 => (z61, z62)))).map (fun z63 => IntKind.i64.wrap (z63.1 + z63.2))).map some else some none) fun x77 =>
      let x78 := (if x71 = false then some () else none)
      Option.bind (if x71 = false then (x78.map (fun z64 => x61.1.1)).map some else some none) fun x79 =>
      Option.bind (if x71 = false then ((x77.bind (fun z65 => x79.map (fun z66 => (z65, z66)))).map (fun z67 => (z67.1 != z67.2))).map some else some none) fun x80 =>
      Option.bind (if x71 then some true else x80.map (fun z68 => z68)) fun x81 =>
      let x83 := (if x81 = false then some () else none)
      Option.bind (if x81 = false then (x83.map (fun z69 => x44.1.2.1)).map some else some none) fun x84 =>
      let x85 := (if x81 = false then some () else none)
      Option.bind (if x81 = false then (x85.map (fun z70 => x54.1.2.1)).map some else some none) fun x86 =>
      Option.bind (if x81 = false then ((x84.bind (fun z71 => x86.map (fun z72 => (z71, z72)))).map (fun z73 => IntKind.i64.wrap (z73.1 + z73.2))).map some else some none) fun x87 =>
      let x88 := (if x81 = false then some () else none)
      Option.bind (if x81 = false then (x88.map (fun z74 => x61.1.2.1)).map some else some none) fun x89 =>
      Option.bind (if x81 = false then ((x87.bind (fun z75 => x89.map (fun z76 => (z75, z76)))).map (fun z77 => (z77.1 != z77.2))).map some else some none) fun x90 =>
      Option.bind (if x81 then some true else x90.map (fun z78 => z78)) fun x91 =>
      let x93 := (if x91 = false then some () else none)
      Option.bind (if x91 = false then (x93.map (fun z79 => x44.1.2.2)).map some else some none) fun x94 =>
      let x95 := (if x91 = false then some () else none)
      Option.bind (if x91 = false then (x95.map (fun z80 => x54.1.2.2)).map some else some none) fun x96 =>
      Option.bind (if x91 = false then ((x94.bind (fun z81 => x96.map (fun z82 => (z81, z82)))).map (fun z83 => IntKind.i64.wrap (z83.1 + z83.2))).map some else some none) fun x97 =>
      let x98 := (if x91 = false then some () else none)
      Option.bind (if x91 = false then (x98.map (fun z84 => x61.1.2.2)).map some else some none) fun x99 =>
      Option.bind (if x91 = false then ((x97.bind (fun z85 => x99.map (fun z86 => (z85, z86)))).map (fun z87 => (z87.1 != z87.2))).map some else some none) fun x100 =>
      Option.bind (if x91 then some true else x100.map (fun z88 => z88)) fun x101 =>
      if x101 then (
        some false)
      else (
        let x103 := (x44.2 != (0 : Int))
        if x103 then (
          some true)
        else (
          Option.bind (sheet_Sum (x0, (x1.1, x1.2), ((-4611686018427387904 : Int), (4611686018427387904 : Int)))) fun x108 =>
          Option.bind (sheet_Weeks (x0, (x1.1, x1.2))) fun x114 =>
          Option.bind (iter law17_SheetCut_loop1 (x114, (0 : Int), x1.1, x1.2, x108.1.1, x108.1.2.1, x108.1.2.2, (0 : Int), (0 : Int), (0 : Int), (), (), (), (), (), (), ())) fun o =>
          match o with
          | Sum.inl p89 => (
            let c15_0 := p89.1
            let c15_1 := p89.2.1
            let c15_2 := p89.2.2.1
            let c17_0 := p89.2.2.2.1
            let c17_1 := p89.2.2.2.2.1
            let c17_2 := p89.2.2.2.2.2.1
            let x158 := ((c17_0 == c15_0) && ((c17_1 == c15_1) && (c17_2 == c15_2)))
            some x158)
          | Sum.inr q90 => (
            some q90)))))
noncomputable def law17_SheetLimits (a : (List (Int × Int × Int)) × (Int × Int) × Int × Int × (Int × Int)) : Option (Bool) :=
  let x0 := a.1
  let x1 := a.2.1
  let x2 := a.2.2.1
  let x3 := a.2.2.2.1
  let x4 := a.2.2.2.2
  Option.bind (law17_awake ()) fun x24 =>
  let x25 := (!x24)
  if x25 then (
    some false)
  else (
    let x27 := (x0.length : Int)
    let x28 := (decide (x27 > (300 : Int)))
    if x28 then (
      some true)
    else (
      Option.bind (sheet_Sum (x0, (x1.1, x1.2), (x4.1, x4.2))) fun x34 =>
      let x38 := (x34.2 != (0 : Int))
      if x38 then (
        some true)
      else (
        Option.bind (sheet_Sum (x0, (x1.1, x1.2), ((-4611686018427387904 : Int), (4611686018427387904 : Int)))) fun x43 =>
        let x51 := IntKind.i64.wrap x2
        let x52 := IntKind.i64.wrap (x1.1 + x51)
        let x56 := IntKind.i64.wrap x3
        let x57 := IntKind.i64.wrap (x1.2 + x56)
        Option.bind (sheet_Sum (x0, (x52, x57), ((-4611686018427387904 : Int), (4611686018427387904 : Int)))) fun x60 =>
        let x70 := IntKind.i64.wrap x3
        let x71 := IntKind.i64.wrap (x1.2 + x70)
        Option.bind (sheet_Sum (x0, (x1.1, x71), (x4.1, x4.2))) fun x74 =>
        Option.bind (sheet_Sum (x0, ((0 : Int), x1.2), (x4.1, x4.2))) fun x83 =>
        Option.bind (sheet_Sum (x0, ((1440 : Int), (10080 : Int)), (x4.1, x4.2))) fun x90 =>
        let x94 := (x83.2 == (0 : Int))
        let x96 := (if x94 = true then some x90.2 else none)
        Option.bind (if x94 = true then ((x96.bind (fun z1 => some (z1, (0 : Int)))).map (fun z3 => (z3.1 == z3.2))).map some else some none) fun x97 =>
        Option.bind (if x94 then x97 else some false) fun x98 =>
        let x100 := (if x98 = true then some () else none)
        Option.bind (if x98 = true then (x100.map (fun z4 => x83.1.1)).map some else some none) fun x101 =>
        Option.bind (if x98 = true then ((x101.bind (fun z5 => some (z5, (0 : Int)))).map (fun z7 => (z7.1 == z7.2))).map some else some none) fun x102 =>
        Option.bind (if x98 then x102 else some false) fun x103 =>
        let x105 := (if x103 = true then some () else none)
        Option.bind (if x103 = true then (x105.map (fun z8 => x90.1.2.1)).map some else some none) fun x106 =>
        Option.bind (if x103 = true then ((x106.bind (fun z9 => some (z9, (0 : Int)))).map (fun z11 => (z11.1 == z11.2))).map some else some none) fun x107 =>
        Option.bind (if x103 then x107 else some false) fun x108 =>
        let x110 := (if x108 = true then some x60.2 else none)
        Option.bind (if x108 = true then ((x110.bind (fun z12 => some (z12, (0 : Int)))).map (fun z14 => (z14.1 != z14.2))).map some else some none) fun x111 =>
        Option.bind (if x108 = true then x111.map some else some none) fun x112 =>
        let x113 := (if x112 = some false then some () else none)
        Option.bind (if x112 = some false then (x113.map (fun z15 => x60.1.2.1)).map some else some none) fun x114 =>
        let x115 := (if x112 = some false then some () else none)
        Option.bind (if x112 = some false then (x115.map (fun z16 => x43.1.2.1)).map some else some none) fun x116 =>
        Option.bind (if x112 = some false then ((x114.bind (fun z17 => x116.map (fun z18 => (z17, z18)))).map (fun z19 => (decide (z19.1 ≤ z19.2)))).map some else some none) fun x117 =>
        Option.bind (if x108 = true then (x112.bind (fun z21 => if z21 then some true else x117.map (fun z20 => z20))).map some else some none) fun x118 =>
        Option.bind (if x108 then x118 else some false) fun x119 =>
        let x121 := (if x119 = true then some x74.2 else none)
        Option.bind (if x119 = true then ((x121.bind (fun z22 => some (z22, (0 : Int)))).map (fun z24 => (z24.1 != z24.2))).map some else some none) fun x122 =>
        Option.bind (if x119 = true then x122.map some else some none) fun x123 =>
        let x124 := (if x123 = some false then some () else none)
        Option.bind (if x123 = some false then (x124.map (fun z25 => x74.1.2.1)).map some else some none) fun x125 =>
        let x126 := (if x123 = some false then some () else none)
        Option.bind (if x123 = some false then (x126.map (fun z26 => x34.1.2.1)).map some else some none) fun x127 =>
        Option.bind (if x123 = some false then ((x125.bind (fun z27 => x127.map (fun z28 => (z27, z28)))).map (fun z29 => (decide (z29.1 ≤ z29.2)))).map some else some none) fun x128 =>
        Option.bind (if x119 = true then (x123.bind (fun z31 => if z31 then some true else x128.map (fun z30 => z30))).map some else some none) fun x129 =>
        Option.bind (if x119 then x129 else some false) fun x130 =>
        some x130)))
noncomputable def law17_SheetAlone_loop1 (s : (List (Int × Int × Int)) × (Bool) × (Int) × (Int) × (Int) × (Int) × (Int) × (Int) × (Int) × (Int) × (Int) × (Int) × (Unit) × (Unit) × (Unit) × (Unit) × (Unit) × (Unit) × Unit) : Option (((List (Int × Int × Int)) × (Bool) × (Int) × (Int) × (Int) × (Int) × (Int) × (Int) × (Int) × (Int) × (Int) × (Int) × (Unit) × (Unit) × (Unit) × (Unit) × (Unit) × (Unit) × Unit) ⊕ (((Bool) × (Int) × (Int) × (Int) × (Int) × (Int) × (Int) × (Int) × (Int) × (Int) × (Unit) × (Unit) × (Unit) × (Unit) × (Unit) × (Unit) × Unit))) :=
  let x0 := s.1
  let x13 := s.2.1
  let x14 := s.2.2.1
  let c7_0 := s.2.2.2.1
  let c7_1 := s.2.2.2.2.1
  let c7_2 := s.2.2.2.2.2.1
  let c9_0 := s.2.2.2.2.2.2.1
  let c9_1 := s.2.2.2.2.2.2.2.1
  let c9_2 := s.2.2.2.2.2.2.2.2.1
  let c11_0 := s.2.2.2.2.2.2.2.2.2.1
  let c11_1 := s.2.2.2.2.2.2.2.2.2.2.1
  let c11_2 := s.2.2.2.2.2.2.2.2.2.2.2.1
  let x89 := (x0.length : Int)
  let x90 := (decide (x14 < x89))
  if x90 then (
    let x95 := (if x13 = false then some x0 else none)
    let x96 := (if x13 = false then some x14 else none)
    Option.bind (if x13 = false then ((x95.bind (fun z158 => x96.map (fun z159 => (z158, z159)))).bind (fun z160 => (lAt z160.1 z160.2).map (fun y => y))).map some else some none) fun x97 =>
    Option.bind (if x13 = false then (x97.map (fun z161 => z161)).map some else some none) fun x98 =>
    Option.bind (if x13 = false then (x98.map (fun z162 => z162.1)).map some else some none) fun x99 =>
    let x100 := (if x13 = false then some () else none)
    Option.bind (if x13 = false then (x100.map (fun z163 => c7_0)).map some else some none) fun x101 =>
    Option.bind (if x13 = false then ((x99.bind (fun z164 => x101.map (fun z165 => (z164, z165)))).map (fun z166 => (decide (z166.1 < z166.2)))).map some else some none) fun x102 =>
    Option.bind (if x13 = false then x102.map some else some none) fun x103 =>
    let x104 := (if x103 = some true then some x0 else none)
    let x105 := (if x103 = some true then some x14 else none)
    Option.bind (if x103 = some true then ((x104.bind (fun z167 => x105.map (fun z168 => (z167, z168)))).bind (fun z169 => (lAt z169.1 z169.2).map (fun y => y))).map some else some none) fun x106 =>
    Option.bind (if x103 = some true then (x106.map (fun z170 => z170)).map some else some none) fun x107 =>
    Option.bind (if x103 = some true then (x107.map (fun z171 => z171.1)).map some else some none) fun x108 =>
    let x109 := (if x103 = some true then some () else none)
    Option.bind (if x103 = some true then (x109.map (fun z172 => c7_0)).map some else some none) fun x110 =>
    Option.bind (if x103 = some true then ((x110.bind (fun z173 => some (z173, (7 : Int)))).map (fun z175 => IntKind.i64.wrap (z175.1 - z175.2))).map some else some none) fun x111 =>
    Option.bind (if x103 = some true then ((x108.bind (fun z176 => x111.map (fun z177 => (z176, z177)))).map (fun z178 => (decide (z178.1 > z178.2)))).map some else some none) fun x112 =>
    Option.bind (if x13 = false then (x103.bind (fun z179 => if z179 then x112 else some false)).map some else some none) fun x113 =>
    Option.bind (if x13 then some true else x113.map (fun z180 => z180)) fun x114 =>
    let x92 := IntKind.i64.wrap (x14 + (1 : Int))
    some (Sum.inl (x0, x114, x92, c7_0, c7_1, c7_2, c9_0, c9_1, c9_2, c11_0, c11_1, c11_2, (), (), (), (), (), (), ())))
  else (
    some (Sum.inr (x13, c7_0, c7_1, c7_2, c9_0, c9_1, c9_2, c11_0, c11_1, c11_2, (), (), (), (), (), (), ())))
noncomputable def law17_SheetAlone (a : (List (Int × Int × Int)) × Int × (Int × Int)) : Option (Bool) :=
  let x0 := a.1
  let x1 := a.2.1
  let x2 := a.2.2
  Option.bind (law17_awake ()) fun x15 =>
  let x16 := (!x15)
  if x16 then (
    some false)
  else (
    let x18 := (x0.length : Int)
    let x19 := (decide (x18 > (300 : Int)))
    let x21 := (if x19 = false then some x0 else none)
    Option.bind (if x19 = false then (x21.map (fun z6 => (z6.length : Int))).map some else some none) fun x22 =>
    Option.bind (if x19 = false then ((x22.bind (fun z7 => some (z7, (0 : Int)))).map (fun z9 => (z9.1 == z9.2))).map some else some none) fun x23 =>
    Option.bind (if x19 then some true else x23.map (fun z10 => z10)) fun x24 =>
    if x24 then (
      some true)
    else (
      let x27 := IntKind.i64.wrap x1
      let x29 := (x0.length : Int)
      Option.bind (if x29 = 0 then none else some (x27.tmod x29)) fun x30 =>
      Option.bind ((lAt x0 x30).map (fun y => y)) fun x31 =>
      let x37 := IntKind.i64.wrap (x31.1 + (1 : Int))
      let l41 := ([(x31.1, x31.2.1, x31.2.2)] : List (Int × Int × Int))
      Option.bind (sheet_Sum (l41, (x2.1, x2.2), (x31.1, x37))) fun x44 =>
      Option.bind (sheet_Sum (x0, (x2.1, x2.2), (x31.1, x37))) fun x51 =>
      let x55 := (x44.2 != (0 : Int))
      if x55 then (
        let x57 := (x51.2 != (0 : Int))
        some x57)
      else (
        let x66 := (min (min x31.2.1 x2.1) x2.2)
        let x67 := (x44.1.1 != x66)
        let x69 := (if x67 = false then some () else none)
        Option.bind (if x67 = false then (x69.map (fun z27 => x44.1.2.1)).map some else some none) fun x70 =>
        let x71 := (if x67 = false then some () else none)
        Option.bind (if x67 = false then (x71.map (fun z28 => x31.2.1)).map some else some none) fun x72 =>
        let x73 := (if x67 = false then some () else none)
        Option.bind (if x67 = false then (x73.map (fun z29 => x44.1.1)).map some else some none) fun x74 =>
        Option.bind (if x67 = false then ((x72.bind (fun z30 => x74.map (fun z31 => (z30, z31)))).map (fun z32 => IntKind.i64.wrap (z32.1 - z32.2))).map some else some none) fun x75 =>
        Option.bind (if x67 = false then ((x70.bind (fun z33 => x75.map (fun z34 => (z33, z34)))).map (fun z35 => (z35.1 != z35.2))).map some else some none) fun x76 =>
        Option.bind (if x67 then some true else x76.map (fun z36 => z36)) fun x77 =>
        let x79 := (if x77 = false then some () else none)
        Option.bind (if x77 = false then (x79.map (fun z37 => x44.1.2.2)).map some else some none) fun x80 =>
        let x81 := (if x77 = false then some () else none)
        Option.bind (if x77 = false then (x81.map (fun z38 => x31.2.2)).map some else some none) fun x82 =>
        Option.bind (if x77 = false then ((x80.bind (fun z39 => x82.map (fun z40 => (z39, z40)))).map (fun z41 => (z41.1 != z41.2))).map some else some none) fun x83 =>
        Option.bind (if x77 then some true else x83.map (fun z42 => z42)) fun x84 =>
        if x84 then (
          some false)
        else (
          let x86 := (x51.2 != (0 : Int))
          if x86 then (
            some true)
          else (
            Option.bind (iter law17_SheetAlone_loop1 (x0, false, (0 : Int), x31.1, x31.2.1, x31.2.2, x44.1.1, x44.1.2.1, x44.1.2.2, x51.1.1, x51.1.2.1, x51.1.2.2, (), (), (), (), (), (), ())) fun o =>
            let x13 := o.1
            let c7_0 := o.2.1
            let c7_1 := o.2.2.1
            let c7_2 := o.2.2.2.1
            let c9_0 := o.2.2.2.2.1
            let c9_1 := o.2.2.2.2.2.1
            let c9_2 := o.2.2.2.2.2.2.1
            let c11_0 := o.2.2.2.2.2.2.2.1
            let c11_1 := o.2.2.2.2.2.2.2.2.1
            let c11_2 := o.2.2.2.2.2.2.2.2.2.1
            let x119 := (decide (c11_0 ≤ c9_0))
            let x121 := (if x119 = true then some () else none)
            Option.bind (if x119 = true then (x121.map (fun z181 => c11_0)).map some else some none) fun x122 =>
            let x123 := (if x119 = true then some () else none)
            Option.bind (if x119 = true then (x123.map (fun z182 => c11_1)).map some else some none) fun x124 =>
            Option.bind (if x119 = true then ((x122.bind (fun z183 => x124.map (fun z184 => (z183, z184)))).map (fun z185 => IntKind.i64.wrap (z185.1 + z185.2))).map some else some none) fun x125 =>
            let x126 := (if x119 = true then some () else none)
            Option.bind (if x119 = true then (x126.map (fun z186 => c7_1)).map some else some none) fun x127 =>
            Option.bind (if x119 = true then ((x125.bind (fun z187 => x127.map (fun z188 => (z187, z188)))).map (fun z189 => (z189.1 == z189.2))).map some else some none) fun x128 =>
            Option.bind (if x119 then x128 else some false) fun x129 =>
            let x131 := (if x129 = true then some x13 else none)
            Option.bind (if x129 = true then x131.map some else some none) fun x132 =>
            let x133 := (if x132 = some false then some (c11_0, c11_1, c11_2) else none)
            let x134 := (if x132 = some false then some (c9_0, c9_1, c9_2) else none)
            Option.bind (if x132 = some false then ((x133.bind (fun z190 => x134.map (fun z191 => (z190, z191)))).map (fun z192 => ((z192.1.1 == z192.2.1) && ((z192.1.2.1 == z192.2.2.1) && (z192.1.2.2 == z192.2.2.2))))).map some else some none) fun x135 =>
            Option.bind (if x129 = true then (x132.bind (fun z194 => if z194 then some true else x135.map (fun z193 => z193))).map some else some none) fun x136 =>
            Option.bind (if x129 then x136 else some false) fun x137 =>
            some x137)))))
end WB
