/-
  OWN TEXTS, MERGED (wip/merge.py): Piter, PG, PsA, PsB, PsC, PsD, PsE, Psf9. No condition of their own.
-/
import Derived.Test.YtpkoilfecgmogaaK4
import Derived.Test.YtpkoilfecgmogaaK3
set_option linter.unusedVariables false
set_option linter.unusedSimpArgs false
namespace WB
open Go Go.RowKit

/-- Kept from simp's eye as no equation by reckoning (great bounds in a goal send the kernel deep). -/
theorem bs {α β : Type} (a : α) (f : α → Option β) : (some a).bind f = f a := (Option.bind_some a f).trans (Eq.refl _)
theorem ms {α β : Type} (a : α) (f : α → β) : (some a).map f = some (f a) := (Option.map_some (f := f) (a := a)).trans (Eq.refl _)

/-- A loop by an invariant with a measure. -/
theorem iter_inv {S T : Type} {b : S → Option (S ⊕ T)} {t : T} (I : Nat → S → Prop) (h : ∀ n s, I n s → (∃ s', b s = some (.inl s') ∧ ∃ m, m < n ∧ I m s') ∨ b s = some (.inr t)) : ∀ n s, I n s → iter b s = some t := by
  intro n
  induction n using Nat.strongRecOn with
  | _ n ih =>
    intro s hs
    rw [iter_eq]
    rcases h n s hs with ⟨s', h1, m, hm, h2⟩ | h1
    · rw [h1]; exact ih m hm s' h2
    · rw [h1]; rfl

theorem lAt_nat {α : Type} {xs : List α} {i : Nat} {a : α} (h : xs[i]? = some a) : lAt xs (i : Int) = some a := by
  have := (List.getElem?_eq_some_iff.1 h).1
  unfold lAt
  rw [if_pos ⟨by omega, by omega⟩]
  simpa using h
theorem sAt_nat {s : List UInt8} {i : Nat} {b : UInt8} (h : s[i]? = some b) : sAt s (i : Int) = some (b.toNat : Int) := by
  have := (List.getElem?_eq_some_iff.1 h).1
  unfold sAt
  rw [if_pos ⟨by omega, by omega⟩]
  simp [h]
theorem lSub_nat {α : Type} {xs : List α} {i j : Nat} (h1 : i ≤ j) (h2 : j ≤ xs.length) : lSub xs (i : Int) (j : Int) = some ((xs.take j).drop i) := by
  unfold lSub
  rw [if_pos ⟨by omega, by omega, by omega⟩]
  simp
theorem w64' {n : Int} (h1 : -9223372036854775808 ≤ n) (h2 : n ≤ 9223372036854775807) : IntKind.i64.wrap n = n := Go.IntWalk.i64_in n ⟨h1, h2⟩
theorem alGet_put {α β : Type} {eq : α → α → Bool} (he : ∀ a b, eq a b = true ↔ a = b) (z : β) (k k' : α) [Decidable (k = k')] (v : β) : ∀ (m : List (α × β)), alGet eq z k (alPut eq k' v m) = if k = k' then (v, true) else alGet eq z k m
  | [] => by
    unfold alPut alGet
    by_cases h : k = k'
    · subst h; simp [(he k k).2 rfl]
    · have : eq k k' = false := by
        cases hh : eq k k' with
        | false => rfl
        | true => exact absurd ((he _ _).1 hh) h
      simp [this, h, alGet]
  | p :: m => by
    unfold alPut
    by_cases hp : eq k' p.1 = true
    · rw [if_pos hp]
      have e := (he _ _).1 hp
      unfold alGet
      by_cases h : k = k'
      · subst h; simp [hp]
      · have : eq k p.1 = false := by
          cases hh : eq k p.1 with
          | false => rfl
          | true => exact absurd (((he _ _).1 hh).trans e.symm) h
        simp [this, h]
    · rw [if_neg hp]
      unfold alGet
      by_cases hq : eq k p.1 = true
      · have e := (he _ _).1 hq
        have : k ≠ k' := fun h => hp ((he _ _).2 (h.symm.trans e))
        simp [hq, this]
      · simp only [hq, Bool.false_eq_true, if_false]
        exact alGet_put he z k k' v m
theorem app1 {α : Type} {xs ys : List α} {k : Int} (hx : xs.length ≤ 1000000) (hy : ys.length ≤ 1000000) (hk : 0 ≤ k ∧ k ≤ 1000) :
    (if ((xs.length : Int) + (ys.length : Int)) * k ≤ 140737488355328 ∧ (xs.length : Int) + (ys.length : Int) ≤ 4611686018427387904 then some (xs ++ ys) else none) = some (xs ++ ys) := by
  rw [if_pos]
  refine ⟨?_, by omega⟩
  have h1 : ((xs.length : Int) + (ys.length : Int)) * k ≤ 2000000 * 1000 := Int.mul_le_mul (by omega) hk.2 hk.1 (by omega)
  omega
end WB
namespace WB
open Go Go.RowKit
set_option linter.unusedVariables false
noncomputable def civil_in (a : Int) : Option (Bool) :=
  let x0 := a
  let x4 := (decide (x0 ≥ (-25567 : Int)))
  let x6 := (if x4 = true then some x0 else none)
  Option.bind (if x4 = true then ((x6.bind (fun z7 => some (z7, (84006 : Int)))).map (fun z9 => (decide (z9.1 < z9.2)))).map some else some none) fun x7 =>
  Option.bind (if x4 then x7 else some false) fun x8 =>
  some x8
noncomputable def civil_Weekday (a : Int) : Option (Int) :=
  let x0 := a
  Option.bind (civil_in x0) fun x4 =>
  let x5 := (!x4)
  if x5 then (
    some (-1 : Int))
  else (
    let x7 := IntKind.i64.wrap (x0 - (-25567 : Int))
    Option.bind (if (7 : Int) = 0 then none else some (x7.tmod (7 : Int))) fun x8 =>
    some x8)
noncomputable def sheet_wrong_loop1 (s : (List (Int × Int × Int)) × (List (Int × Int × Int)) × (Int) × (Int) × (Int) × (Int) × (Unit) × (Unit) × Unit) : Option (((List (Int × Int × Int)) × (List (Int × Int × Int)) × (Int) × (Int) × (Int) × (Int) × (Unit) × (Unit) × Unit) ⊕ (((Int) × (Int) × (Unit) × (Unit) × Unit) ⊕ (Int))) :=
  let x0 := s.1
  let x10 := s.2.1
  let x11 := s.2.2.1
  let x12 := s.2.2.2.1
  let c3_0 := s.2.2.2.2.1
  let c3_1 := s.2.2.2.2.2.1
  let x13 := (decide (x12 < x11))
  if x13 then (
    Option.bind ((lAt x10 x12).map (fun y => y)) fun x15 =>
    Option.bind (civil_Weekday x15.1) fun x20 =>
    let x21 := (decide (x20 < (0 : Int)))
    if x21 then (
      some (Sum.inr (Sum.inr (15 : Int))))
    else (
      let x24 := (decide (x12 > (0 : Int)))
      let x26 := (if x24 = true then some () else none)
      Option.bind (if x24 = true then (x26.map (fun z417 => x15.1)).map some else some none) fun x27 =>
      let x28 := (if x24 = true then some x0 else none)
      let x29 := (if x24 = true then some x12 else none)
      Option.bind (if x24 = true then ((x29.bind (fun z418 => some (z418, (1 : Int)))).map (fun z420 => IntKind.i64.wrap (z420.1 - z420.2))).map some else some none) fun x30 =>
      Option.bind (if x24 = true then ((x28.bind (fun z421 => x30.map (fun z422 => (z421, z422)))).bind (fun z423 => (lAt z423.1 z423.2).map (fun y => y))).map some else some none) fun x31 =>
      Option.bind (if x24 = true then (x31.map (fun z424 => z424)).map some else some none) fun x32 =>
      Option.bind (if x24 = true then (x32.map (fun z425 => z425.1)).map some else some none) fun x33 =>
      Option.bind (if x24 = true then ((x27.bind (fun z426 => x33.map (fun z427 => (z426, z427)))).map (fun z428 => (decide (z428.1 ≤ z428.2)))).map some else some none) fun x34 =>
      Option.bind (if x24 then x34 else some false) fun x35 =>
      if x35 then (
        some (Sum.inr (Sum.inr (8 : Int))))
      else (
        let x39 := (decide (x15.2.1 < (0 : Int)))
        let x41 := (if x39 = false then some () else none)
        Option.bind (if x39 = false then (x41.map (fun z461 => x15.2.1)).map some else some none) fun x42 =>
        Option.bind (if x39 = false then ((x42.bind (fun z462 => some (z462, (1440 : Int)))).map (fun z464 => (decide (z464.1 > z464.2)))).map some else some none) fun x43 =>
        Option.bind (if x39 then some true else x43.map (fun z465 => z465)) fun x44 =>
        let x46 := (if x44 = false then some () else none)
        Option.bind (if x44 = false then (x46.map (fun z466 => x15.2.2)).map some else some none) fun x47 =>
        Option.bind (if x44 = false then ((x47.bind (fun z467 => some (z467, (0 : Int)))).map (fun z469 => (decide (z469.1 < z469.2)))).map some else some none) fun x48 =>
        Option.bind (if x44 then some true else x48.map (fun z470 => z470)) fun x49 =>
        let x51 := (if x49 = false then some () else none)
        Option.bind (if x49 = false then (x51.map (fun z471 => x15.2.2)).map some else some none) fun x52 =>
        let x53 := (if x49 = false then some () else none)
        Option.bind (if x49 = false then (x53.map (fun z472 => x15.2.1)).map some else some none) fun x54 =>
        Option.bind (if x49 = false then ((x52.bind (fun z473 => x54.map (fun z474 => (z473, z474)))).map (fun z475 => (decide (z475.1 > z475.2)))).map some else some none) fun x55 =>
        Option.bind (if x49 then some true else x55.map (fun z476 => z476)) fun x56 =>
        if x56 then (
          some (Sum.inr (Sum.inr (2 : Int))))
        else (
          let x57 := IntKind.i64.wrap (x12 + (1 : Int))
          some (Sum.inl (x0, x10, x11, x57, c3_0, c3_1, (), (), ()))))))
  else (
    some (Sum.inr (Sum.inl (c3_0, c3_1, (), (), ()))))
noncomputable def sheet_wrong (a : (List (Int × Int × Int)) × (Int × Int)) : Option (Int) :=
  let x0 := a.1
  let x1 := a.2
  let x8 := (x0.length : Int)
  let x9 := (decide (x8 > (4096 : Int)))
  if x9 then (
    some (5 : Int))
  else (
    let x11 := (x0.length : Int)
    Option.bind (iter sheet_wrong_loop1 (x0, x0, x11, (0 : Int), x1.1, x1.2, (), (), ())) fun o =>
    match o with
    | Sum.inl p477 => (
      let c3_0 := p477.1
      let c3_1 := p477.2.1
      let x60 := (decide (c3_0 < (0 : Int)))
      let x62 := (if x60 = false then some () else none)
      Option.bind (if x60 = false then (x62.map (fun z539 => c3_0)).map some else some none) fun x63 =>
      Option.bind (if x60 = false then ((x63.bind (fun z540 => some (z540, (1440 : Int)))).map (fun z542 => (decide (z542.1 > z542.2)))).map some else some none) fun x64 =>
      Option.bind (if x60 then some true else x64.map (fun z543 => z543)) fun x65 =>
      let x67 := (if x65 = false then some () else none)
      Option.bind (if x65 = false then (x67.map (fun z544 => c3_1)).map some else some none) fun x68 =>
      Option.bind (if x65 = false then ((x68.bind (fun z545 => some (z545, (0 : Int)))).map (fun z547 => (decide (z547.1 < z547.2)))).map some else some none) fun x69 =>
      Option.bind (if x65 then some true else x69.map (fun z548 => z548)) fun x70 =>
      let x72 := (if x70 = false then some () else none)
      Option.bind (if x70 = false then (x72.map (fun z549 => c3_1)).map some else some none) fun x73 =>
      Option.bind (if x70 = false then ((x73.bind (fun z550 => some (z550, (10080 : Int)))).map (fun z552 => (decide (z552.1 > z552.2)))).map some else some none) fun x74 =>
      Option.bind (if x70 then some true else x74.map (fun z553 => z553)) fun x75 =>
      if x75 then (
        some (2 : Int))
      else (
        some (0 : Int)))
    | Sum.inr q478 => (
      some q478))
noncomputable def sheet_each_loop1 (s : (List (Int × Int × Int)) × (Int) × (Int) × (Int) × (Int) × (List ((Int) × (Int))) × (List (Int × Int × Int)) × (List (Int)) × (Unit) × (Unit) × (Unit) × (Unit) × (Unit) × Unit) : Option (((List (Int × Int × Int)) × (Int) × (Int) × (Int) × (Int) × (List ((Int) × (Int))) × (List (Int × Int × Int)) × (List (Int)) × (Unit) × (Unit) × (Unit) × (Unit) × (Unit) × Unit) ⊕ (((List (Int × Int × Int)) × (List (Int)) × (Unit) × (Unit) × Unit))) :=
  let x15 := s.1
  let x16 := s.2.1
  let x17 := s.2.2.1
  let c3_0 := s.2.2.2.1
  let c3_1 := s.2.2.2.2.1
  let l14 := s.2.2.2.2.2.1
  let l1007 := s.2.2.2.2.2.2.1
  let l1008 := s.2.2.2.2.2.2.2.1
  let x18 := (decide (x17 < x16))
  if x18 then (
    Option.bind ((lAt x15 x17).map (fun y => y)) fun x19 =>
    Option.bind (civil_Weekday x19.1) fun x25 =>
    let x26 := IntKind.i64.wrap (x19.1 - x25)
    let x32 := (min x19.2.1 c3_0)
    let x38 := (alGet (eqZ (.agg (.one (.int .i64)))) (zeroT (.int .i64)) x26 l14).1
    let x39 := IntKind.i64.wrap (c3_1 - x38)
    let x40 := (max x39 (0 : Int))
    let x41 := (min x32 x40)
    let x44 := (alGet (eqZ (.agg (.one (.int .i64)))) (zeroT (.int .i64)) x26 l14).1
    let x46 := IntKind.i64.wrap (x44 + x32)
    let l14 := alPut (eqZ (.agg (.one (.int .i64)))) x26 ((alGet (eqZ (.agg (.one (.int .i64)))) (zeroT (.int .i64)) x26 l14).1) l14
    Option.bind (if (alGet (eqZ (.agg (.one (.int .i64)))) (zeroT (.int .i64)) x26 l14).2 = true then some (alPut (eqZ (.agg (.one (.int .i64)))) x26 x46 l14) else none) fun l14 =>
    let x54 := IntKind.i64.wrap (x19.2.1 - x41)
    let l58 := ([(x41, x54, x19.2.2)] : List (Int × Int × Int))
    Option.bind (if ((l1007.length : Int) + (l58.length : Int)) * (24 : Int) ≤ 140737488355328 ∧ (l1007.length : Int) + (l58.length : Int) ≤ 4611686018427387904 then some (l1007 ++ l58) else none) fun l1007 =>
    let l62 := ([x26] : List (Int))
    Option.bind (if ((l1008.length : Int) + (l62.length : Int)) * (8 : Int) ≤ 140737488355328 ∧ (l1008.length : Int) + (l62.length : Int) ≤ 4611686018427387904 then some (l1008 ++ l62) else none) fun l1008 =>
    let x64 := IntKind.i64.wrap (x17 + (1 : Int))
    some (Sum.inl (x15, x16, x64, c3_0, c3_1, l14, l1007, l1008, (), (), (), (), (), ())))
  else (
    some (Sum.inr (l1007, l1008, (), (), ())))
noncomputable def sheet_each (a : (List (Int × Int × Int)) × (Int × Int)) : Option ((List (Int × Int × Int)) × (List (Int))) :=
  let x0 := a.1
  let x1 := a.2
  let x16 := (x0.length : Int)
  Option.bind (iter sheet_each_loop1 (x0, x16, (0 : Int), x1.1, x1.2, ([] : List ((Int) × (Int))), ([] : List (Int × Int × Int)), ([] : List (Int)), (), (), (), (), (), ())) fun o =>
  let l1007 := o.1
  let l1008 := o.2.1
  some (l1007, l1008)
noncomputable def sheet_Hours_add (a : (Int × Int × Int) × (Int × Int × Int)) : Option (Int × Int × Int) :=
  let x0 := a.1
  let x1 := a.2
  let x9 := IntKind.i64.wrap (x0.1 + x1.1)
  let x14 := IntKind.i64.wrap (x0.2.1 + x1.2.1)
  let x19 := IntKind.i64.wrap (x0.2.2 + x1.2.2)
  some (x9, x14, x19)
noncomputable def sheet_Sum_loop1 (s : (List (Int × Int × Int)) × (List (Int × Int × Int)) × (Int) × (Int) × (Int) × (Int) × (Int) × (Int) × (Int) × (Int) × (Int) × (Int) × (Unit) × (Unit) × (Unit) × (Unit) × (Unit) × (Unit) × Unit) : Option (((List (Int × Int × Int)) × (List (Int × Int × Int)) × (Int) × (Int) × (Int) × (Int) × (Int) × (Int) × (Int) × (Int) × (Int) × (Int) × (Unit) × (Unit) × (Unit) × (Unit) × (Unit) × (Unit) × Unit) ⊕ (((Int) × (Int) × (Int) × (Int) × (Int) × (Int) × (Unit) × (Unit) × (Unit) × (Unit) × Unit))) :=
  let x10 := s.1
  let x27 := s.2.1
  let x28 := s.2.2.1
  let x29 := s.2.2.2.1
  let c5_0 := s.2.2.2.2.1
  let c5_1 := s.2.2.2.2.2.1
  let c6_0 := s.2.2.2.2.2.2.1
  let c6_1 := s.2.2.2.2.2.2.2.1
  let c6_2 := s.2.2.2.2.2.2.2.2.1
  let c9_0 := s.2.2.2.2.2.2.2.2.2.1
  let c9_1 := s.2.2.2.2.2.2.2.2.2.2.1
  let c9_2 := s.2.2.2.2.2.2.2.2.2.2.2.1
  let x30 := (decide (x29 < x28))
  if x30 then (
    Option.bind (show Option (((List (Int × Int × Int)) × (List (Int × Int × Int)) × (Int) × (Int) × (Int) × (Int) × (Int) × (Int) × (Int) × (Int) × (Int) × (Int) × (Unit) × (Unit) × (Unit) × (Unit) × (Unit) × (Unit) × Unit)) from (
      Option.bind ((lAt x27 x29).map (fun y => y)) fun x32 =>
      let x38 := (decide (x32.1 < c5_0))
      let x40 := (if x38 = false then some () else none)
      Option.bind (if x38 = false then (x40.map (fun z109 => x32.1)).map some else some none) fun x41 =>
      let x42 := (if x38 = false then some () else none)
      Option.bind (if x38 = false then (x42.map (fun z110 => c5_1)).map some else some none) fun x43 =>
      Option.bind (if x38 = false then ((x41.bind (fun z111 => x43.map (fun z112 => (z111, z112)))).map (fun z113 => (decide (z113.1 ≥ z113.2)))).map some else some none) fun x44 =>
      Option.bind (if x38 then some true else x44.map (fun z114 => z114)) fun x45 =>
      if x45 then (
        some (x10, x27, x28, x29, c5_0, c5_1, c6_0, c6_1, c6_2, c9_0, c9_1, c9_2, (), (), (), (), (), (), ()))
      else (
        Option.bind ((lAt x10 x29).map (fun y => y)) fun x49 =>
        Option.bind (sheet_Hours_add ((c9_0, c9_1, c9_2), x49)) fun x51 =>
        some (x10, x27, x28, x29, c5_0, c5_1, c6_0, c6_1, c6_2, x51.1, x51.2.1, x51.2.2, (), (), (), (), (), (), ())))) fun o =>
    let x10 := o.1
    let x27 := o.2.1
    let x28 := o.2.2.1
    let x29 := o.2.2.2.1
    let c5_0 := o.2.2.2.2.1
    let c5_1 := o.2.2.2.2.2.1
    let c6_0 := o.2.2.2.2.2.2.1
    let c6_1 := o.2.2.2.2.2.2.2.1
    let c6_2 := o.2.2.2.2.2.2.2.2.1
    let c9_0 := o.2.2.2.2.2.2.2.2.2.1
    let c9_1 := o.2.2.2.2.2.2.2.2.2.2.1
    let c9_2 := o.2.2.2.2.2.2.2.2.2.2.2.1
    let x52 := IntKind.i64.wrap (x29 + (1 : Int))
    some (Sum.inl (x10, x27, x28, x52, c5_0, c5_1, c6_0, c6_1, c6_2, c9_0, c9_1, c9_2, (), (), (), (), (), (), ())))
  else (
    some (Sum.inr (c6_0, c6_1, c6_2, c9_0, c9_1, c9_2, (), (), (), (), ())))
noncomputable def sheet_Sum (a : (List (Int × Int × Int)) × (Int × Int) × (Int × Int)) : Option ((Int × Int × Int) × Int) :=
  let x0 := a.1
  let x1 := a.2.1
  let x2 := a.2.2
  Option.bind (sheet_wrong (x0, (x1.1, x1.2))) fun x16 =>
  let x18 := (x16 != (0 : Int))
  if x18 then (
    some (((0 : Int), (0 : Int), (0 : Int)), x16))
  else (
    Option.bind (sheet_each (x0, (x1.1, x1.2))) fun x24 =>
    let x28 := (x0.length : Int)
    Option.bind (iter sheet_Sum_loop1 (x24.1, x0, x28, (0 : Int), x2.1, x2.2, (0 : Int), (0 : Int), (0 : Int), (0 : Int), (0 : Int), (0 : Int), (), (), (), (), (), (), ())) fun o =>
    let c6_0 := o.1
    let c6_1 := o.2.1
    let c6_2 := o.2.2.1
    let c9_0 := o.2.2.2.1
    let c9_1 := o.2.2.2.2.1
    let c9_2 := o.2.2.2.2.2.1
    some ((c9_0, c9_1, c9_2), (0 : Int)))
noncomputable def sheet_Weeks_loop1 (s : (List (Int)) × (List (Int × Int × Int)) × (Int) × (Int) × (List (Int × Int × Int)) × (Unit) × Unit) : Option (((List (Int)) × (List (Int × Int × Int)) × (Int) × (Int) × (List (Int × Int × Int)) × (Unit) × Unit) ⊕ (((List (Int × Int × Int)) × (Unit) × Unit))) :=
  let x6 := s.1
  let x20 := s.2.1
  let x21 := s.2.2.1
  let x22 := s.2.2.2.1
  let l1007 := s.2.2.2.2.1
  let x23 := (decide (x22 < x21))
  if x23 then (
    Option.bind (show Option (((List (Int)) × (List (Int × Int × Int)) × (Int) × (Int) × (List (Int × Int × Int)) × (Unit) × Unit)) from (
      Option.bind ((lAt x20 x22).map (fun y => y)) fun x25 =>
      let x28 := (decide (x22 > (0 : Int)))
      let x30 := (if x28 = true then some x6 else none)
      let x31 := (if x28 = true then some x22 else none)
      Option.bind (if x28 = true then ((x30.bind (fun z269 => x31.map (fun z270 => (z269, z270)))).bind (fun z271 => (lAt z271.1 z271.2).map (fun y => y))).map some else some none) fun x32 =>
      Option.bind (if x28 = true then (x32.map (fun z272 => z272)).map some else some none) fun x33 =>
      let x34 := (if x28 = true then some x6 else none)
      let x35 := (if x28 = true then some x22 else none)
      Option.bind (if x28 = true then ((x35.bind (fun z273 => some (z273, (1 : Int)))).map (fun z275 => IntKind.i64.wrap (z275.1 - z275.2))).map some else some none) fun x36 =>
      Option.bind (if x28 = true then ((x34.bind (fun z276 => x36.map (fun z277 => (z276, z277)))).bind (fun z278 => (lAt z278.1 z278.2).map (fun y => y))).map some else some none) fun x37 =>
      Option.bind (if x28 = true then (x37.map (fun z279 => z279)).map some else some none) fun x38 =>
      Option.bind (if x28 = true then ((x33.bind (fun z280 => x38.map (fun z281 => (z280, z281)))).map (fun z282 => (z282.1 == z282.2))).map some else some none) fun x39 =>
      Option.bind (if x28 then x39 else some false) fun x40 =>
      if x40 then (
        let x43 := (l1007.length : Int)
        let x44 := IntKind.i64.wrap (x43 - (1 : Int))
        let x47 := (l1007.length : Int)
        let x48 := IntKind.i64.wrap (x47 - (1 : Int))
        Option.bind (if 0 ≤ x48 ∧ x48 < (l1007.length : Int) then some x48.toNat else none) fun x49 =>
        Option.bind ((l1007[x49]?).map (fun y => y)) fun x50 =>
        Option.bind (sheet_Hours_add (x50, (x25.1, x25.2.1, x25.2.2))) fun x52 =>
        Option.bind (if 0 ≤ x44 ∧ x44 < (l1007.length : Int) then some x44.toNat else none) fun x53 =>
        Option.bind ((l1007[x53]?).map (fun el285 => l1007.set x53 (x52.1, x52.2.1, x52.2.2))) fun l1007 =>
        some (x6, x20, x21, x22, l1007, (), ()))
      else (
        let l56 := ([(x25.1, x25.2.1, x25.2.2)] : List (Int × Int × Int))
        Option.bind (if ((l1007.length : Int) + (l56.length : Int)) * (24 : Int) ≤ 140737488355328 ∧ (l1007.length : Int) + (l56.length : Int) ≤ 4611686018427387904 then some (l1007 ++ l56) else none) fun l1007 =>
        some (x6, x20, x21, x22, l1007, (), ())))) fun o =>
    let x6 := o.1
    let x20 := o.2.1
    let x21 := o.2.2.1
    let x22 := o.2.2.2.1
    let l1007 := o.2.2.2.2.1
    let x58 := IntKind.i64.wrap (x22 + (1 : Int))
    some (Sum.inl (x6, x20, x21, x58, l1007, (), ())))
  else (
    some (Sum.inr (l1007, (), ())))
noncomputable def sheet_Weeks (a : (List (Int × Int × Int)) × (Int × Int)) : Option (List (Int × Int × Int)) :=
  let x0 := a.1
  let x1 := a.2
  Option.bind (sheet_wrong (x0, (x1.1, x1.2))) fun x12 =>
  let x13 := (x12 != (0 : Int))
  if x13 then (
    some ([] : List (Int × Int × Int)))
  else (
    Option.bind (sheet_each (x0, (x1.1, x1.2))) fun x17 =>
    let x21 := (x17.1.length : Int)
    Option.bind (iter sheet_Weeks_loop1 (x17.2, x17.1, x21, (0 : Int), ([] : List (Int × Int × Int)), (), ())) fun o =>
    let l1007 := o.1
    some l1007)
noncomputable def law17_awake_loop1 (s : (Int) × (List (Int × Int × Int)) × (Unit) × Unit) : Option (((Int) × (List (Int × Int × Int)) × (Unit) × Unit) ⊕ (((List (Int × Int × Int)) × (Unit) × Unit))) :=
  let x2 := s.1
  let l1001 := s.2.1
  let x7 := (decide (x2 < (19728 : Int)))
  if x7 then (
    let l13 := ([(x2, (540 : Int), (0 : Int))] : List (Int × Int × Int))
    Option.bind (if ((l1001.length : Int) + (l13.length : Int)) * (24 : Int) ≤ 140737488355328 ∧ (l1001.length : Int) + (l13.length : Int) ≤ 4611686018427387904 then some (l1001 ++ l13) else none) fun l1001 =>
    let x9 := IntKind.i64.wrap (x2 + (1 : Int))
    some (Sum.inl (x9, l1001, (), ())))
  else (
    some (Sum.inr (l1001, (), ())))
noncomputable def law17_awake (a : Unit) : Option (Bool) :=
  Option.bind (iter law17_awake_loop1 ((19723 : Int), ([] : List (Int × Int × Int)), (), ())) fun o =>
  let l1001 := o.1
  Option.bind (sheet_Sum (l1001, ((480 : Int), (2280 : Int)), ((0 : Int), (30000 : Int)))) fun x19 =>
  Option.bind (sheet_Weeks (l1001, ((480 : Int), (2280 : Int)))) fun x24 =>
  let x26 := (x19.2 == (0 : Int))
  let x28 := (if x26 = true then some (x19.1.1, x19.1.2.1, x19.1.2.2) else none)
  let x29 := (if x26 = true then some ((2280 : Int), (420 : Int), (0 : Int)) else none)
  Option.bind (if x26 = true then ((x28.bind (fun z29 => x29.map (fun z30 => (z29, z30)))).map (fun z31 => ((z31.1.1 == z31.2.1) && ((z31.1.2.1 == z31.2.2.1) && (z31.1.2.2 == z31.2.2.2))))).map some else some none) fun x30 =>
  Option.bind (if x26 then x30 else some false) fun x31 =>
  let x33 := (if x31 = true then some x24 else none)
  Option.bind (if x31 = true then (x33.map (fun z32 => (z32.length : Int))).map some else some none) fun x34 =>
  Option.bind (if x31 = true then ((x34.bind (fun z33 => some (z33, (1 : Int)))).map (fun z35 => (z35.1 == z35.2))).map some else some none) fun x35 =>
  Option.bind (if x31 then x35 else some false) fun x36 =>
  let x38 := (if x36 = true then some x24 else none)
  Option.bind (if x36 = true then ((x38.bind (fun z36 => some (z36, (0 : Int)))).bind (fun z38 => (lAt z38.1 z38.2).map (fun y => y))).map some else some none) fun x39 =>
  Option.bind (if x36 = true then (x39.map (fun z39 => z39)).map some else some none) fun x40 =>
  let x41 := (if x36 = true then some (x19.1.1, x19.1.2.1, x19.1.2.2) else none)
  Option.bind (if x36 = true then ((x40.bind (fun z40 => x41.map (fun z41 => (z40, z41)))).map (fun z42 => ((z42.1.1 == z42.2.1) && ((z42.1.2.1 == z42.2.2.1) && (z42.1.2.2 == z42.2.2.2))))).map some else some none) fun x42 =>
  Option.bind (if x36 then x42 else some false) fun x43 =>
  some x43
noncomputable def law17_of_loop1 (s : (List (Int × Int × Int)) × (Int) × (List (Int × Int × Int)) × (Unit) × Unit) : Option (((List (Int × Int × Int)) × (Int) × (List (Int × Int × Int)) × (Unit) × Unit) ⊕ (((List (Int × Int × Int)) × (Unit) × Unit))) :=
  let x0 := s.1
  let x4 := s.2.1
  let l1003 := s.2.2.1
  let x7 := (x0.length : Int)
  let x8 := (decide (x4 < x7))
  if x8 then (
    Option.bind ((lAt x0 x4).map (fun y => y)) fun x14 =>
    Option.bind ((lAt x0 x4).map (fun y => y)) fun x19 =>
    Option.bind ((lAt x0 x4).map (fun y => y)) fun x24 =>
    let l28 := ([(x14.1, x19.2.1, x24.2.2)] : List (Int × Int × Int))
    Option.bind (if ((l1003.length : Int) + (l28.length : Int)) * (24 : Int) ≤ 140737488355328 ∧ (l1003.length : Int) + (l28.length : Int) ≤ 4611686018427387904 then some (l1003 ++ l28) else none) fun l1003 =>
    let x10 := IntKind.i64.wrap (x4 + (1 : Int))
    some (Sum.inl (x0, x10, l1003, (), ())))
  else (
    some (Sum.inr (l1003, (), ())))
noncomputable def law17_of (a : (List (Int × Int × Int))) : Option (List (Int × Int × Int)) :=
  let x0 := a
  Option.bind (iter law17_of_loop1 (x0, (0 : Int), ([] : List (Int × Int × Int)), (), ())) fun o =>
  let l1003 := o.1
  some l1003
noncomputable def ref04_In (a : Int) : Option (Bool) :=
  let x0 := a
  let x4 := (decide (x0 ≥ (-25567 : Int)))
  let x6 := (if x4 = true then some x0 else none)
  Option.bind (if x4 = true then ((x6.bind (fun z7 => some (z7, (84005 : Int)))).map (fun z9 => (decide (z9.1 ≤ z9.2)))).map some else some none) fun x7 =>
  Option.bind (if x4 then x7 else some false) fun x8 =>
  some x8
noncomputable def ref17_Check_loop1 (s : (List (Int × Int × Int)) × (Int) × (Int) × (Int) × Unit) : Option (((List (Int × Int × Int)) × (Int) × (Int) × (Int) × Unit) ⊕ (((Int) × (Int) × Unit) ⊕ (Int))) :=
  let x0 := s.1
  let x1 := s.2.1
  let x2 := s.2.2.1
  let x7 := s.2.2.2.1
  let x13 := (x0.length : Int)
  let x14 := (decide (x7 < x13))
  if x14 then (
    Option.bind ((lAt x0 x7).map (fun y => y)) fun x19 =>
    Option.bind (ref04_In x19.1) fun x22 =>
    let x23 := (!x22)
    if x23 then (
      some (Sum.inr (Sum.inr (15 : Int))))
    else (
      let x25 := (decide (x7 > (0 : Int)))
      let x27 := (if x25 = true then some x0 else none)
      let x28 := (if x25 = true then some x7 else none)
      Option.bind (if x25 = true then ((x27.bind (fun z737 => x28.map (fun z738 => (z737, z738)))).bind (fun z739 => (lAt z739.1 z739.2).map (fun y => y))).map some else some none) fun x29 =>
      Option.bind (if x25 = true then (x29.map (fun z740 => z740)).map some else some none) fun x30 =>
      Option.bind (if x25 = true then (x30.map (fun z741 => z741.1)).map some else some none) fun x31 =>
      let x32 := (if x25 = true then some x0 else none)
      let x33 := (if x25 = true then some x7 else none)
      Option.bind (if x25 = true then ((x33.bind (fun z742 => some (z742, (1 : Int)))).map (fun z744 => IntKind.i64.wrap (z744.1 - z744.2))).map some else some none) fun x34 =>
      Option.bind (if x25 = true then ((x32.bind (fun z745 => x34.map (fun z746 => (z745, z746)))).bind (fun z747 => (lAt z747.1 z747.2).map (fun y => y))).map some else some none) fun x35 =>
      Option.bind (if x25 = true then (x35.map (fun z748 => z748)).map some else some none) fun x36 =>
      Option.bind (if x25 = true then (x36.map (fun z749 => z749.1)).map some else some none) fun x37 =>
      Option.bind (if x25 = true then ((x31.bind (fun z750 => x37.map (fun z751 => (z750, z751)))).map (fun z752 => (decide (z752.1 ≤ z752.2)))).map some else some none) fun x38 =>
      Option.bind (if x25 then x38 else some false) fun x39 =>
      if x39 then (
        some (Sum.inr (Sum.inr (8 : Int))))
      else (
        Option.bind ((lAt x0 x7).map (fun y => y)) fun x42 =>
        let x45 := (decide (x42.2.1 < (0 : Int)))
        let x47 := (if x45 = false then some x0 else none)
        let x48 := (if x45 = false then some x7 else none)
        Option.bind (if x45 = false then ((x47.bind (fun z817 => x48.map (fun z818 => (z817, z818)))).bind (fun z819 => (lAt z819.1 z819.2).map (fun y => y))).map some else some none) fun x49 =>
        Option.bind (if x45 = false then (x49.map (fun z820 => (z820.2.1, z820.2.2))).map some else some none) fun x50 =>
        Option.bind (if x45 = false then (x50.map (fun z821 => z821.1)).map some else some none) fun x51 =>
        Option.bind (if x45 = false then ((x51.bind (fun z822 => some (z822, (1440 : Int)))).map (fun z824 => (decide (z824.1 > z824.2)))).map some else some none) fun x52 =>
        Option.bind (if x45 then some true else x52.map (fun z825 => z825)) fun x53 =>
        let x55 := (if x53 = false then some x0 else none)
        let x56 := (if x53 = false then some x7 else none)
        Option.bind (if x53 = false then ((x55.bind (fun z826 => x56.map (fun z827 => (z826, z827)))).bind (fun z828 => (lAt z828.1 z828.2).map (fun y => y))).map some else some none) fun x57 =>
        Option.bind (if x53 = false then (x57.map (fun z829 => z829.2.2)).map some else some none) fun x58 =>
        Option.bind (if x53 = false then (x58.map (fun z830 => z830)).map some else some none) fun x59 =>
        Option.bind (if x53 = false then ((x59.bind (fun z831 => some (z831, (0 : Int)))).map (fun z833 => (decide (z833.1 < z833.2)))).map some else some none) fun x60 =>
        Option.bind (if x53 then some true else x60.map (fun z834 => z834)) fun x61 =>
        let x63 := (if x61 = false then some x0 else none)
        let x64 := (if x61 = false then some x7 else none)
        Option.bind (if x61 = false then ((x63.bind (fun z835 => x64.map (fun z836 => (z835, z836)))).bind (fun z837 => (lAt z837.1 z837.2).map (fun y => y))).map some else some none) fun x65 =>
        Option.bind (if x61 = false then (x65.map (fun z838 => z838.2.2)).map some else some none) fun x66 =>
        Option.bind (if x61 = false then (x66.map (fun z839 => z839)).map some else some none) fun x67 =>
        let x68 := (if x61 = false then some x0 else none)
        let x69 := (if x61 = false then some x7 else none)
        Option.bind (if x61 = false then ((x68.bind (fun z840 => x69.map (fun z841 => (z840, z841)))).bind (fun z842 => (lAt z842.1 z842.2).map (fun y => y))).map some else some none) fun x70 =>
        Option.bind (if x61 = false then (x70.map (fun z843 => (z843.2.1, z843.2.2))).map some else some none) fun x71 =>
        Option.bind (if x61 = false then (x71.map (fun z844 => z844.1)).map some else some none) fun x72 =>
        Option.bind (if x61 = false then ((x67.bind (fun z845 => x72.map (fun z846 => (z845, z846)))).map (fun z847 => (decide (z847.1 > z847.2)))).map some else some none) fun x73 =>
        Option.bind (if x61 then some true else x73.map (fun z848 => z848)) fun x74 =>
        if x74 then (
          some (Sum.inr (Sum.inr (2 : Int))))
        else (
          let x16 := IntKind.i64.wrap (x7 + (1 : Int))
          some (Sum.inl (x0, x1, x2, x16, ()))))))
  else (
    some (Sum.inr (Sum.inl (x1, x2, ()))))
noncomputable def ref17_Check (a : (List (Int × Int × Int)) × Int × Int) : Option (Int) :=
  let x0 := a.1
  let x1 := a.2.1
  let x2 := a.2.2
  let x9 := (x0.length : Int)
  let x10 := (decide (x9 > (4096 : Int)))
  if x10 then (
    some (5 : Int))
  else (
    Option.bind (iter ref17_Check_loop1 (x0, x1, x2, (0 : Int), ())) fun o =>
    match o with
    | Sum.inl p849 => (
      let x1 := p849.1
      let x2 := p849.2.1
      let x76 := (decide (x1 < (0 : Int)))
      let x78 := (if x76 = false then some x1 else none)
      Option.bind (if x76 = false then ((x78.bind (fun z899 => some (z899, (1440 : Int)))).map (fun z901 => (decide (z901.1 > z901.2)))).map some else some none) fun x79 =>
      Option.bind (if x76 then some true else x79.map (fun z902 => z902)) fun x80 =>
      let x82 := (if x80 = false then some x2 else none)
      Option.bind (if x80 = false then ((x82.bind (fun z903 => some (z903, (0 : Int)))).map (fun z905 => (decide (z905.1 < z905.2)))).map some else some none) fun x83 =>
      Option.bind (if x80 then some true else x83.map (fun z906 => z906)) fun x84 =>
      let x86 := (if x84 = false then some x2 else none)
      Option.bind (if x84 = false then ((x86.bind (fun z907 => some (z907, (10080 : Int)))).map (fun z909 => (decide (z909.1 > z909.2)))).map some else some none) fun x87 =>
      Option.bind (if x84 then some true else x87.map (fun z910 => z910)) fun x88 =>
      if x88 then (
        some (2 : Int))
      else (
        some (0 : Int)))
    | Sum.inr q850 => (
      some q850))
noncomputable def ref04_Weekday (a : Int) : Option (Int) :=
  let x0 := a
  let x4 := IntKind.i64.wrap (x0 - (-25567 : Int))
  Option.bind (if (7 : Int) = 0 then none else some (x4.tmod (7 : Int))) fun x5 =>
  some x5
noncomputable def ref17_Monday (a : Int) : Option (Int) :=
  let x0 := a
  Option.bind (ref04_Weekday x0) fun x5 =>
  let x6 := IntKind.i64.wrap (x0 - x5)
  some x6
noncomputable def ref17_over_loop1 (s : (List (Int × Int × Int)) × (Int) × (Int) × (Int) × (Int) × (Int) × (Int) × Unit) : Option (((List (Int × Int × Int)) × (Int) × (Int) × (Int) × (Int) × (Int) × (Int) × Unit) ⊕ (((List (Int × Int × Int)) × (Int) × (Int) × (Int) × (Int) × Unit))) :=
  let x0 := s.1
  let x1 := s.2.1
  let x2 := s.2.2.1
  let x3 := s.2.2.2.1
  let x9 := s.2.2.2.2.1
  let x10 := s.2.2.2.2.2.1
  let x11 := s.2.2.2.2.2.2.1
  let x15 := (decide (x11 ≤ x1))
  if x15 then (
    Option.bind (show Option (((List (Int × Int × Int)) × (Int) × (Int) × (Int) × (Int) × (Int) × (Int) × Unit)) from (
      Option.bind ((lAt x0 x11).map (fun y => y)) fun x20 =>
      Option.bind (ref17_Monday x20.1) fun x23 =>
      Option.bind ((lAt x0 x1).map (fun y => y)) fun x26 =>
      Option.bind (ref17_Monday x26.1) fun x29 =>
      let x30 := (x23 != x29)
      if x30 then (
        some (x0, x1, x2, x3, x9, x10, x11, ()))
      else (
        let x33 := IntKind.i64.wrap (x10 + x9)
        Option.bind ((lAt x0 x11).map (fun y => y)) fun x36 =>
        let x41 := (decide (x36.2.1 > x2))
        if x41 then (
          some (x0, x1, x2, x3, x2, x33, x11, ()))
        else (
          some (x0, x1, x2, x3, x36.2.1, x33, x11, ()))))) fun o =>
    let x0 := o.1
    let x1 := o.2.1
    let x2 := o.2.2.1
    let x3 := o.2.2.2.1
    let x9 := o.2.2.2.2.1
    let x10 := o.2.2.2.2.2.1
    let x11 := o.2.2.2.2.2.2.1
    let x17 := IntKind.i64.wrap (x11 + (1 : Int))
    some (Sum.inl (x0, x1, x2, x3, x9, x10, x17, ())))
  else (
    some (Sum.inr (x0, x1, x3, x9, x10, ())))
noncomputable def ref17_over (a : (List (Int × Int × Int)) × Int × Int × Int) : Option (Int) :=
  let x0 := a.1
  let x1 := a.2.1
  let x2 := a.2.2.1
  let x3 := a.2.2.2
  Option.bind (iter ref17_over_loop1 (x0, x1, x2, x3, (0 : Int), (0 : Int), (0 : Int), ())) fun o =>
  let x0 := o.1
  let x1 := o.2.1
  let x3 := o.2.2.1
  let x9 := o.2.2.2.1
  let x10 := o.2.2.2.2.1
  let x45 := IntKind.i64.wrap (x3 - x10)
  Option.bind (show Option (((List (Int × Int × Int)) × (Int) × (Int) × (Int) × Unit)) from (
    let x47 := (decide (x45 < (0 : Int)))
    if x47 then (
      some (x0, x1, x9, (0 : Int), ()))
    else (
      some (x0, x1, x9, x45, ())))) fun o =>
  let x0 := o.1
  let x1 := o.2.1
  let x9 := o.2.2.1
  let x12 := o.2.2.2.1
  Option.bind (show Option (((List (Int × Int × Int)) × (Int) × (Int) × Unit)) from (
    let x50 := (decide (x12 > x9))
    if x50 then (
      some (x0, x1, x9, ()))
    else (
      some (x0, x1, x12, ())))) fun o =>
  let x0 := o.1
  let x1 := o.2.1
  let x12 := o.2.2.1
  Option.bind ((lAt x0 x1).map (fun y => y)) fun x54 =>
  let x58 := IntKind.i64.wrap (x54.2.1 - x12)
  some x58
noncomputable def ref17_Sum_loop1 (s : (List (Int × Int × Int)) × (Int) × (Int) × (Int) × (Int) × (Int) × (Int) × (Int) × (Int) × (Int) × (Int) × (Int) × (Unit) × (Unit) × (Unit) × (Unit) × (Unit) × (Unit) × Unit) : Option (((List (Int × Int × Int)) × (Int) × (Int) × (Int) × (Int) × (Int) × (Int) × (Int) × (Int) × (Int) × (Int) × (Int) × (Unit) × (Unit) × (Unit) × (Unit) × (Unit) × (Unit) × Unit) ⊕ (((Int) × (Int) × (Int) × (Int) × (Int) × (Int) × (Unit) × (Unit) × (Unit) × (Unit) × Unit))) :=
  let x0 := s.1
  let x1 := s.2.1
  let x2 := s.2.2.1
  let x10 := s.2.2.2.1
  let c7_0 := s.2.2.2.2.1
  let c7_1 := s.2.2.2.2.2.1
  let c8_0 := s.2.2.2.2.2.2.1
  let c8_1 := s.2.2.2.2.2.2.2.1
  let c8_2 := s.2.2.2.2.2.2.2.2.1
  let c9_0 := s.2.2.2.2.2.2.2.2.2.1
  let c9_1 := s.2.2.2.2.2.2.2.2.2.2.1
  let c9_2 := s.2.2.2.2.2.2.2.2.2.2.2.1
  let x15 := (x0.length : Int)
  let x16 := (decide (x10 < x15))
  if x16 then (
    Option.bind (show Option (((List (Int × Int × Int)) × (Int) × (Int) × (Int) × (Int) × (Int) × (Int) × (Int) × (Int) × (Int) × (Int) × (Int) × (Unit) × (Unit) × (Unit) × (Unit) × (Unit) × (Unit) × Unit)) from (
      Option.bind ((lAt x0 x10).map (fun y => y)) fun x21 =>
      let x26 := (decide (x21.1 ≥ c7_0))
      let x28 := (if x26 = true then some x0 else none)
      let x29 := (if x26 = true then some x10 else none)
      Option.bind (if x26 = true then ((x28.bind (fun z145 => x29.map (fun z146 => (z145, z146)))).bind (fun z147 => (lAt z147.1 z147.2).map (fun y => y))).map some else some none) fun x30 =>
      Option.bind (if x26 = true then (x30.map (fun z148 => z148)).map some else some none) fun x31 =>
      Option.bind (if x26 = true then (x31.map (fun z149 => z149.1)).map some else some none) fun x32 =>
      let x33 := (if x26 = true then some () else none)
      Option.bind (if x26 = true then (x33.map (fun z150 => c7_1)).map some else some none) fun x34 =>
      Option.bind (if x26 = true then ((x32.bind (fun z151 => x34.map (fun z152 => (z151, z152)))).map (fun z153 => (decide (z153.1 < z153.2)))).map some else some none) fun x35 =>
      Option.bind (if x26 then x35 else some false) fun x36 =>
      if x36 then (
        Option.bind (ref17_over (x0, x10, x1, x2)) fun x41 =>
        let x45 := IntKind.i64.wrap (c9_1 + x41)
        Option.bind ((lAt x0 x10).map (fun y => y)) fun x51 =>
        let x54 := IntKind.i64.wrap (c9_0 + x51.2.1)
        let x56 := IntKind.i64.wrap (x54 - x41)
        Option.bind ((lAt x0 x10).map (fun y => y)) fun x62 =>
        let x65 := IntKind.i64.wrap (c9_2 + x62.2.2)
        some (x0, x1, x2, x10, c7_0, c7_1, c8_0, c8_1, c8_2, x56, x45, x65, (), (), (), (), (), (), ()))
      else (
        some (x0, x1, x2, x10, c7_0, c7_1, c8_0, c8_1, c8_2, c9_0, c9_1, c9_2, (), (), (), (), (), (), ())))) fun o =>
    let x0 := o.1
    let x1 := o.2.1
    let x2 := o.2.2.1
    let x10 := o.2.2.2.1
    let c7_0 := o.2.2.2.2.1
    let c7_1 := o.2.2.2.2.2.1
    let c8_0 := o.2.2.2.2.2.2.1
    let c8_1 := o.2.2.2.2.2.2.2.1
    let c8_2 := o.2.2.2.2.2.2.2.2.1
    let c9_0 := o.2.2.2.2.2.2.2.2.2.1
    let c9_1 := o.2.2.2.2.2.2.2.2.2.2.1
    let c9_2 := o.2.2.2.2.2.2.2.2.2.2.2.1
    let x18 := IntKind.i64.wrap (x10 + (1 : Int))
    some (Sum.inl (x0, x1, x2, x18, c7_0, c7_1, c8_0, c8_1, c8_2, c9_0, c9_1, c9_2, (), (), (), (), (), (), ())))
  else (
    some (Sum.inr (c8_0, c8_1, c8_2, c9_0, c9_1, c9_2, (), (), (), (), ())))
noncomputable def ref17_Sum (a : (List (Int × Int × Int)) × Int × Int × (Int × Int)) : Option (Int × Int × Int) :=
  let x0 := a.1
  let x1 := a.2.1
  let x2 := a.2.2.1
  let x3 := a.2.2.2
  Option.bind (iter ref17_Sum_loop1 (x0, x1, x2, (0 : Int), x3.1, x3.2, (0 : Int), (0 : Int), (0 : Int), (0 : Int), (0 : Int), (0 : Int), (), (), (), (), (), (), ())) fun o =>
  let c8_0 := o.1
  let c8_1 := o.2.1
  let c8_2 := o.2.2.1
  let c9_0 := o.2.2.2.1
  let c9_1 := o.2.2.2.2.1
  let c9_2 := o.2.2.2.2.2.1
  some (c9_0, c9_1, c9_2)
noncomputable def ref17_Weeks_loop1 (s : (List (Int × Int × Int)) × (Int) × (Int) × (Int) × (List (Int × Int × Int)) × (Unit) × Unit) : Option (((List (Int × Int × Int)) × (Int) × (Int) × (Int) × (List (Int × Int × Int)) × (Unit) × Unit) ⊕ (((List (Int × Int × Int)) × (Unit) × Unit))) :=
  let x0 := s.1
  let x1 := s.2.1
  let x2 := s.2.2.1
  let x8 := s.2.2.2.1
  let l1007 := s.2.2.2.2.1
  let x12 := (x0.length : Int)
  let x13 := (decide (x8 < x12))
  if x13 then (
    Option.bind (show Option (((List (Int × Int × Int)) × (Int) × (Int) × (Int) × (List (Int × Int × Int)) × (Unit) × Unit)) from (
      Option.bind ((lAt x0 x8).map (fun y => y)) fun x18 =>
      Option.bind (ref17_Monday x18.1) fun x21 =>
      let x23 := (x8 == (0 : Int))
      let x25 := (if x23 = false then some x0 else none)
      let x26 := (if x23 = false then some x8 else none)
      Option.bind (if x23 = false then ((x26.bind (fun z225 => some (z225, (1 : Int)))).map (fun z227 => IntKind.i64.wrap (z227.1 - z227.2))).map some else some none) fun x27 =>
      Option.bind (if x23 = false then ((x25.bind (fun z228 => x27.map (fun z229 => (z228, z229)))).bind (fun z230 => (lAt z230.1 z230.2).map (fun y => y))).map some else some none) fun x28 =>
      Option.bind (if x23 = false then (x28.map (fun z231 => z231)).map some else some none) fun x29 =>
      Option.bind (if x23 = false then (x29.map (fun z232 => z232.1)).map some else some none) fun x30 =>
      Option.bind (if x23 = false then ((x30.map (fun z233 => z233)).bind (fun z234 => ref17_Monday z234)).map some else some none) fun x31 =>
      let x32 := (if x23 = false then some x21 else none)
      Option.bind (if x23 = false then ((x31.bind (fun z235 => x32.map (fun z236 => (z235, z236)))).map (fun z237 => (z237.1 != z237.2))).map some else some none) fun x33 =>
      Option.bind (if x23 then some true else x33.map (fun z238 => z238)) fun x34 =>
      if x34 then (
        let x41 := IntKind.i64.wrap (x21 + (7 : Int))
        Option.bind (ref17_Sum (x0, x1, x2, (x21, x41))) fun x43 =>
        let l44 := ([x43] : List (Int × Int × Int))
        Option.bind (if ((l1007.length : Int) + (l44.length : Int)) * (24 : Int) ≤ 140737488355328 ∧ (l1007.length : Int) + (l44.length : Int) ≤ 4611686018427387904 then some (l1007 ++ l44) else none) fun l1007 =>
        some (x0, x1, x2, x8, l1007, (), ()))
      else (
        some (x0, x1, x2, x8, l1007, (), ())))) fun o =>
    let x0 := o.1
    let x1 := o.2.1
    let x2 := o.2.2.1
    let x8 := o.2.2.2.1
    let l1007 := o.2.2.2.2.1
    let x15 := IntKind.i64.wrap (x8 + (1 : Int))
    some (Sum.inl (x0, x1, x2, x15, l1007, (), ())))
  else (
    some (Sum.inr (l1007, (), ())))
noncomputable def ref17_Weeks (a : (List (Int × Int × Int)) × Int × Int) : Option (List (Int × Int × Int)) :=
  let x0 := a.1
  let x1 := a.2.1
  let x2 := a.2.2
  Option.bind (iter ref17_Weeks_loop1 (x0, x1, x2, (0 : Int), ([] : List (Int × Int × Int)), (), ())) fun o =>
  let l1007 := o.1
  some l1007
noncomputable def law17_hours (a : (Int × Int × Int)) : Option (Int × Int × Int) :=
  let x0 := a
  some (x0.1, x0.2.1, x0.2.2)
noncomputable def law17_SheetSum_loop1 (s : (List (Int × Int × Int)) × (List (Int × Int × Int)) × (Int) × Unit) : Option (((List (Int × Int × Int)) × (List (Int × Int × Int)) × (Int) × Unit) ⊕ ((Unit) ⊕ (Bool))) :=
  let x9 := s.1
  let x11 := s.2.1
  let x12 := s.2.2.1
  let x91 := (x11.length : Int)
  let x92 := (decide (x12 < x91))
  if x92 then (
    Option.bind ((lAt x9 x12).map (fun y => y)) fun x97 =>
    Option.bind (law17_hours x97) fun x99 =>
    Option.bind ((lAt x11 x12).map (fun y => y)) fun x102 =>
    let x104 := (!((x99.1 == x102.1) && ((x99.2.1 == x102.2.1) && (x99.2.2 == x102.2.2))))
    if x104 then (
      some (Sum.inr (Sum.inr false)))
    else (
      let x94 := IntKind.i64.wrap (x12 + (1 : Int))
      some (Sum.inl (x9, x11, x94, ()))))
  else (
    some (Sum.inr (Sum.inl (()))))
noncomputable def law17_SheetSum (a : (List (Int × Int × Int)) × (Int × Int) × (Int × Int)) : Option (Bool) :=
  let x0 := a.1
  let x1 := a.2.1
  let x2 := a.2.2
  Option.bind (law17_awake ()) fun x13 =>
  let x14 := (!x13)
  if x14 then (
    some false)
  else (
    let x16 := (x0.length : Int)
    let x17 := (decide (x16 > (40 : Int)))
    let x19 := (if x17 = true then some x0 else none)
    Option.bind (if x17 = true then (x19.map (fun z37 => (z37.length : Int))).map some else some none) fun x20 =>
    Option.bind (if x17 = true then ((x20.bind (fun z38 => some (z38, (4096 : Int)))).map (fun z40 => (decide (z40.1 ≤ z40.2)))).map some else some none) fun x21 =>
    Option.bind (if x17 then x21 else some false) fun x22 =>
    let x24 := (if x22 = false then some x0 else none)
    Option.bind (if x22 = false then (x24.map (fun z41 => (z41.length : Int))).map some else some none) fun x25 =>
    Option.bind (if x22 = false then ((x25.bind (fun z42 => some (z42, (5000 : Int)))).map (fun z44 => (decide (z44.1 > z44.2)))).map some else some none) fun x26 =>
    Option.bind (if x22 then some true else x26.map (fun z45 => z45)) fun x27 =>
    if x27 then (
      some true)
    else (
      Option.bind (sheet_Sum (x0, (x1.1, x1.2), (x2.1, x2.2))) fun x32 =>
      Option.bind (sheet_Weeks (x0, (x1.1, x1.2))) fun x37 =>
      Option.bind (law17_of x0) fun x39 =>
      Option.bind (ref17_Check (x39, x1.1, x1.2)) fun x44 =>
      let x46 := (x44 != (0 : Int))
      if x46 then (
        let x49 := (x32.2 == x44)
        let x51 := (if x49 = true then some (x32.1.1, x32.1.2.1, x32.1.2.2) else none)
        let x52 := (if x49 = true then some ((0 : Int), (0 : Int), (0 : Int)) else none)
        Option.bind (if x49 = true then ((x51.bind (fun z74 => x52.map (fun z75 => (z74, z75)))).map (fun z76 => ((z76.1.1 == z76.2.1) && ((z76.1.2.1 == z76.2.2.1) && (z76.1.2.2 == z76.2.2.2))))).map some else some none) fun x53 =>
        Option.bind (if x49 then x53 else some false) fun x54 =>
        let x56 := (if x54 = true then some x37 else none)
        Option.bind (if x54 = true then (x56.map (fun z77 => (z77.length : Int))).map some else some none) fun x57 =>
        Option.bind (if x54 = true then ((x57.bind (fun z78 => some (z78, (0 : Int)))).map (fun z80 => (z80.1 == z80.2))).map some else some none) fun x58 =>
        Option.bind (if x54 then x58 else some false) fun x59 =>
        some x59)
      else (
        Option.bind (law17_of x0) fun x61 =>
        Option.bind (ref17_Weeks (x61, x1.1, x1.2)) fun x66 =>
        let x68 := (x32.2 != (0 : Int))
        let x70 := (if x68 = false then some (x32.1.1, x32.1.2.1, x32.1.2.2) else none)
        Option.bind (if x68 = false then ((x70.map (fun z177 => z177)).bind (fun z178 => law17_hours z178)).map some else some none) fun x71 =>
        let x72 := (if x68 = false then some x0 else none)
        Option.bind (if x68 = false then ((x72.map (fun z179 => z179)).bind (fun z180 => law17_of z180)).map some else some none) fun x73 =>
        let x74 := (if x68 = false then some () else none)
        Option.bind (if x68 = false then (x74.map (fun z181 => x1.1)).map some else some none) fun x75 =>
        let x76 := (if x68 = false then some () else none)
        Option.bind (if x68 = false then (x76.map (fun z182 => x1.2)).map some else some none) fun x77 =>
        let x78 := (if x68 = false then some (x2.1, x2.2) else none)
        Option.bind (if x68 = false then (((x73.bind (fun z187 => (x75.bind (fun z185 => (x77.bind (fun z183 => x78.map (fun z184 => (z183, z184)))).map (fun z186 => (z185, z186)))).map (fun z188 => (z187, z188)))).map (fun z189 => (z189.1, z189.2.1, z189.2.2.1, z189.2.2.2))).bind (fun z190 => ref17_Sum z190)).map some else some none) fun x79 =>
        Option.bind (if x68 = false then ((x71.bind (fun z191 => x79.map (fun z192 => (z191, z192)))).map (fun z193 => (!((z193.1.1 == z193.2.1) && ((z193.1.2.1 == z193.2.2.1) && (z193.1.2.2 == z193.2.2.2)))))).map some else some none) fun x80 =>
        Option.bind (if x68 then some true else x80.map (fun z194 => z194)) fun x81 =>
        let x83 := (if x81 = false then some x37 else none)
        Option.bind (if x81 = false then (x83.map (fun z195 => (z195.length : Int))).map some else some none) fun x84 =>
        let x85 := (if x81 = false then some x66 else none)
        Option.bind (if x81 = false then (x85.map (fun z196 => (z196.length : Int))).map some else some none) fun x86 =>
        Option.bind (if x81 = false then ((x84.bind (fun z197 => x86.map (fun z198 => (z197, z198)))).map (fun z199 => (z199.1 != z199.2))).map some else some none) fun x87 =>
        Option.bind (if x81 then some true else x87.map (fun z200 => z200)) fun x88 =>
        if x88 then (
          some false)
        else (
          Option.bind (iter law17_SheetSum_loop1 (x37, x66, (0 : Int), ())) fun o =>
          match o with
          | Sum.inl p201 => (
            some true)
          | Sum.inr q202 => (
            some q202)))))
noncomputable def law17_SheetLater (a : (List (Int × Int × Int)) × (Int × Int × Int) × (Int × Int) × (Int × Int)) : Option (Bool) :=
  let x0 := a.1
  let x1 := a.2.1
  let x2 := a.2.2.1
  let x3 := a.2.2.2
  Option.bind (law17_awake ()) fun x13 =>
  let x14 := (!x13)
  if x14 then (
    some false)
  else (
    let x16 := (x0.length : Int)
    let x17 := (decide (x16 > (300 : Int)))
    let x19 := (if x17 = false then some () else none)
    Option.bind (if x17 = false then (x19.map (fun z25 => x3.2)).map some else some none) fun x20 =>
    let x21 := (if x17 = false then some () else none)
    Option.bind (if x17 = false then (x21.map (fun z26 => x1.1)).map some else some none) fun x22 =>
    Option.bind (if x17 = false then ((x20.bind (fun z27 => x22.map (fun z28 => (z27, z28)))).map (fun z29 => (decide (z29.1 > z29.2)))).map some else some none) fun x23 =>
    Option.bind (if x17 then some true else x23.map (fun z30 => z30)) fun x24 =>
    if x24 then (
      some true)
    else (
      Option.bind (sheet_Sum (x0, (x2.1, x2.2), (x3.1, x3.2))) fun x29 =>
      let l33 := ([] : List (Int × Int × Int))
      Option.bind (if ((l33.length : Int) + (x0.length : Int)) * (24 : Int) ≤ 140737488355328 ∧ (l33.length : Int) + (x0.length : Int) ≤ 4611686018427387904 then some (l33 ++ x0) else none) fun l33 =>
      let l37 := ([(x1.1, x1.2.1, x1.2.2)] : List (Int × Int × Int))
      Option.bind (if ((l33.length : Int) + (l37.length : Int)) * (24 : Int) ≤ 140737488355328 ∧ (l33.length : Int) + (l37.length : Int) ≤ 4611686018427387904 then some (l33 ++ l37) else none) fun l33 =>
      Option.bind (sheet_Sum (l33, (x2.1, x2.2), (x3.1, x3.2))) fun x41 =>
      let x45 := (x29.2 != (0 : Int))
      let x47 := (if x45 = false then some x41.2 else none)
      Option.bind (if x45 = false then ((x47.bind (fun z47 => some (z47, (0 : Int)))).map (fun z49 => (z49.1 != z49.2))).map some else some none) fun x48 =>
      Option.bind (if x45 then some true else x48.map (fun z50 => z50)) fun x49 =>
      let x51 := (if x49 = false then some (x29.1.1, x29.1.2.1, x29.1.2.2) else none)
      let x52 := (if x49 = false then some (x41.1.1, x41.1.2.1, x41.1.2.2) else none)
      Option.bind (if x49 = false then ((x51.bind (fun z51 => x52.map (fun z52 => (z51, z52)))).map (fun z53 => ((z53.1.1 == z53.2.1) && ((z53.1.2.1 == z53.2.2.1) && (z53.1.2.2 == z53.2.2.2))))).map some else some none) fun x53 =>
      Option.bind (if x49 then some true else x53.map (fun z54 => z54)) fun x54 =>
      some x54))
end WB
namespace WB
open Go Go.RowKit
set_option linter.unusedSimpArgs false
def isDay (d : Int) : Bool := decide (-25567 ≤ d) && decide (d < 84006)
def weekday (d : Int) : Int := if isDay d then (d + 25567) % 7 else -1
def addE (x y : Ent) : Ent := (IntKind.i64.wrap (x.1 + y.1), IntKind.i64.wrap (x.2.1 + y.2.1), IntKind.i64.wrap (x.2.2 + y.2.2))
def monday (d : Int) : Int := d - weekday d
def eachL (a b : Int) : (Int → Int) → List Ent → List (Ent × Int)
  | _, [] => []
  | sm, e :: r => ((min (min e.2.1 a) (max (b - sm (monday e.1)) 0), e.2.1 - min (min e.2.1 a) (max (b - sm (monday e.1)) 0), e.2.2), monday e.1) :: eachL a b (fun x => if x = monday e.1 then sm (monday e.1) + min e.2.1 a else sm x) r
def okE (e : Ent) : Prop := isDay e.1 = true ∧ 0 ≤ e.2.1 ∧ e.2.1 ≤ 1440 ∧ 0 ≤ e.2.2 ∧ e.2.2 ≤ e.2.1
def nl1 (es : List Ent) : Option Bool := if es = [] then some true else none
def badE (e : Ent) : Bool := e.2.1 < 0 || 1440 < e.2.1 || e.2.2 < 0 || e.2.1 < e.2.2
def wrongL : Option Ent → List Ent → Int
  | _, [] => 0
  | p, e :: r => if weekday e.1 < 0 then 15 else if (p.any fun q => e.1 ≤ q.1) then 8 else if badE e then 2 else wrongL (some e) r
def badLim (a b : Int) : Bool := a < 0 || 1440 < a || b < 0 || 10080 < b
def wrong (es : List Ent) (a b : Int) : Int :=
  if 4096 < es.length then 5 else if wrongL none es = 0 then (if badLim a b then 2 else 0) else wrongL none es

theorem wrongL_ok : ∀ {es : List Ent} {p : Option Ent}, wrongL p es = 0 → ∀ e ∈ es, okE e
  | [], _, _, e, he => by cases he
  | x :: r, p, h, e, he => by
    simp only [wrongL] at h
    split at h
    · cases h
    · rename_i h1
      split at h
      · cases h
      · split at h
        · cases h
        · rename_i h3
          rcases List.mem_cons.1 he with rfl | he
          · have hd : isDay e.1 = true := by
              cases hd : isDay e.1 with
              | true => rfl
              | false => simp [weekday, hd] at h1
            simp only [badE, Bool.or_eq_true, decide_eq_true_eq, not_or] at h3
            exact ⟨hd, by omega, by omega, by omega, by omega⟩
          · exact wrongL_ok h e he
theorem wrong_ok {es : List Ent} {a b : Int} (h : wrong es a b = 0) : es.length ≤ 4096 ∧ (∀ e ∈ es, okE e) ∧ (0 ≤ a ∧ a ≤ 1440) ∧ (0 ≤ b ∧ b ≤ 10080) := by
  unfold wrong at h
  split at h
  · cases h
  · rename_i h1
    split at h
    · rename_i h2
      split at h
      · cases h
      · rename_i h3
        simp only [badLim, Bool.or_eq_true, decide_eq_true_eq, not_or] at h3
        exact ⟨by omega, wrongL_ok h2, by omega, by omega⟩
    · rename_i h2; exact absurd h h2
theorem eachL_len {a b : Int} : ∀ (es : List Ent) (sm : Int → Int), (eachL a b sm es).length = es.length
  | [], _ => rfl
  | e :: r, sm => by simp [eachL, eachL_len r]
def okH (x : Ent) : Prop := (0 ≤ x.1 ∧ x.1 ≤ 1440) ∧ (0 ≤ x.2.1 ∧ x.2.1 ≤ 1440) ∧ (0 ≤ x.2.2 ∧ x.2.2 ≤ 1440)
theorem eachL_ok {a b : Int} (ha : 0 ≤ a) : ∀ (es : List Ent) (sm : Int → Int), (∀ e ∈ es, okE e) → ∀ x ∈ eachL a b sm es, okH x.1
  | [], _, _, x, hx => by cases hx
  | e :: r, sm, h, x, hx => by
    simp only [eachL, List.mem_cons] at hx
    rcases hx with rfl | hx
    · obtain ⟨_, h1, h2, h3, h4⟩ := h e (by simp)
      refine ⟨?_, ?_, ?_⟩ <;> simp only <;> omega
    · exact eachL_ok ha r _ (fun e he => h e (by simp [he])) x hx

def add3 (x y : Ent) : Ent := (x.1 + y.1, x.2.1 + y.2.1, x.2.2 + y.2.2)
def sumL (f t : Int) : Ent → List (Ent × Ent × Int) → Ent
  | h, [] => h
  | h, p :: r => if p.1.1 < f ∨ t ≤ p.1.1 then sumL f t h r else sumL f t (add3 h p.2.1) r
def sumH (es : List Ent) (a b f t : Int) : Ent := sumL f t (0, 0, 0) (es.zip (eachL a b (fun _ => 0) es))
def sumE (es : List Ent) (a b f t : Int) : Ent := if wrong es a b = 0 then sumH es a b f t else (0, 0, 0)
theorem addE_in {x y : Ent} {k : Nat} (hk : k ≤ 4096) (hx : (0 ≤ x.1 ∧ x.1 ≤ 1440 * k) ∧ (0 ≤ x.2.1 ∧ x.2.1 ≤ 1440 * k) ∧ (0 ≤ x.2.2 ∧ x.2.2 ≤ 1440 * k)) (hy : okH y) : addE x y = add3 x y := by
  obtain ⟨h1, h2, h3⟩ := hy
  simp only [addE, add3, w64 (x.1 + y.1) (by omega), w64 (x.2.1 + y.2.1) (by omega), w64 (x.2.2 + y.2.2) (by omega)]


def merge : List Ent → Option Int → List (Ent × Int) → List Ent
  | out, _, [] => out
  | out, p, x :: r => if p = some x.2 then merge (out.dropLast ++ [add3 (out.getLastD (0, 0, 0)) x.1]) (some x.2) r else merge (out ++ [x.1]) (some x.2) r
def weeksF (es : List Ent) (a b : Int) : List Ent := if wrong es a b = 0 then merge [] none (eachL a b (fun _ => 0) es) else []
def inH (k : Nat) (x : Ent) : Prop := (0 ≤ x.1 ∧ x.1 ≤ 1440 * k) ∧ (0 ≤ x.2.1 ∧ x.2.1 ≤ 1440 * k) ∧ (0 ≤ x.2.2 ∧ x.2.2 ≤ 1440 * k)
theorem monday_in {d : Int} (h : isDay d = true) : monday d ≤ d ∧ d - 6 ≤ monday d ∧ 0 ≤ weekday d := by
  unfold monday weekday
  rw [if_pos h]
  omega
theorem isDay_in {d : Int} (h : isDay d = true) : -25567 ≤ d ∧ d < 84006 := by
  simpa [isDay] using h


theorem add3_zero (x : Ent) : add3 (0, 0, 0) x = x := by simp [add3]
theorem add3_assoc (x y z : Ent) : add3 (add3 x y) z = add3 x (add3 y z) := by simp [add3, Int.add_assoc]
theorem add3_comm (x y : Ent) : add3 x y = add3 y x := by simp [add3, Int.add_comm]

theorem sumL_add (f t : Int) : ∀ (l : List (Ent × Ent × Int)) (h : Ent), sumL f t h l = add3 h (sumL f t (0, 0, 0) l)
  | [], h => by simp [sumL, add3]
  | p :: r, h => by
    simp only [sumL]
    split
    · exact sumL_add f t r h
    · rw [sumL_add f t r (add3 h p.2.1), sumL_add f t r (add3 (0, 0, 0) p.2.1), add3_zero, add3_assoc]

/-- Two spans that meet end to end. -/
theorem sumL_cut {f m t : Int} (h1 : f ≤ m) (h2 : m ≤ t) : ∀ (l : List (Ent × Ent × Int)), add3 (sumL f m (0, 0, 0) l) (sumL m t (0, 0, 0) l) = sumL f t (0, 0, 0) l
  | [] => by simp [sumL, add3]
  | p :: r => by
    have ih := sumL_cut h1 h2 r
    simp only [sumL]
    by_cases c1 : p.1.1 < f ∨ m ≤ p.1.1
    · rw [if_pos c1]
      by_cases c2 : p.1.1 < m ∨ t ≤ p.1.1
      · rw [if_pos c2, if_pos (by omega)]
        exact ih
      · rw [if_neg c2, if_neg (by omega), sumL_add m t r, sumL_add f t r, add3_zero, ← ih, ← add3_assoc, add3_comm _ p.2.1, add3_assoc]
    · rw [if_neg c1, if_pos (by omega), if_neg (by omega), sumL_add f m r, sumL_add f t r, add3_zero, ← ih, add3_assoc]

/-- All together. -/
def tot : List Ent → Ent
  | [] => (0, 0, 0)
  | x :: r => add3 x (tot r)
theorem tot_append : ∀ (l m : List Ent), tot (l ++ m) = add3 (tot l) (tot m)
  | [], m => (add3_zero _).symm
  | x :: l, m => by simp only [List.cons_append, tot, tot_append l m, add3_assoc]
theorem tot_last : ∀ (l : List Ent), add3 (tot l.dropLast) (l.getLastD (0, 0, 0)) = tot l
  | [] => by simp [tot, add3]
  | [x] => by simp [tot, add3]
  | x :: y :: r => by
    have ih := tot_last (y :: r)
    simp only [List.dropLast_cons_cons, tot, List.getLastD_cons] at ih ⊢
    rw [add3_assoc, ← ih]

theorem merge_tot : ∀ (l : List (Ent × Int)) (out : List Ent) (p : Option Int), tot (merge out p l) = add3 (tot out) (tot (l.map (·.1)))
  | [], out, p => by simp only [merge, List.map_nil, tot]; rw [add3_comm, add3_zero]
  | x :: r, out, p => by
    simp only [merge, List.map_cons, tot]
    split
    · rw [merge_tot r, tot_append, ← add3_assoc]
      congr 1
      simp only [tot]
      rw [add3_comm _ (0, 0, 0), add3_zero, ← add3_assoc, tot_last]
    · rw [merge_tot r, tot_append, ← add3_assoc]
      congr 1
      simp only [tot]
      rw [add3_comm _ (0, 0, 0), add3_zero]

theorem sumL_all {f t : Int} : ∀ (es : List Ent) (xs : List (Ent × Int)), es.length = xs.length → (∀ e ∈ es, f ≤ e.1 ∧ e.1 < t) → sumL f t (0, 0, 0) (es.zip xs) = tot (xs.map (·.1))
  | [], [], _, _ => rfl
  | e :: es, x :: xs, hl, h => by
    have he := h e (by simp)
    simp only [List.zip_cons_cons, sumL, List.map_cons, tot]
    rw [if_neg (by omega), sumL_add, add3_zero, sumL_all es xs (by simpa using hl) (fun e he => h e (by simp [he]))]
  | [], _ :: _, hl, _ => by simp at hl
  | _ :: _, [], hl, _ => by simp at hl

/-- What weeks come to, at most. -/
theorem merge_in : ∀ (l : List (Ent × Int)) (out : List Ent) (p : Option Int) (k : Nat), (∀ x ∈ out, inH k x) → (∀ x ∈ l, okH x.1) → out.length ≤ k → (∀ x ∈ merge out p l, inH (k + l.length) x) ∧ (merge out p l).length ≤ k + l.length
  | [], out, p, k, h, _, hl => ⟨h, hl⟩
  | x :: r, out, p, k, h, hx, hl => by
    have ho := hx x (by simp)
    have hr : ∀ y ∈ r, okH y.1 := fun y hy => hx y (by simp [hy])
    have hk : ∀ y, inH k y → inH (k + 1) y := fun y hy => by simp only [inH] at hy ⊢; omega
    simp only [merge, List.length_cons, show k + (r.length + 1) = k + 1 + r.length by omega]
    split
    · refine merge_in r _ _ (k + 1) (fun y hy => ?_) hr (by simp; omega)
      rcases List.mem_append.1 hy with hy | hy
      · exact hk y (h y (List.dropLast_subset _ hy))
      · simp only [List.mem_singleton] at hy
        subst hy
        have hlast : inH k (out.getLastD (0, 0, 0)) := by
          cases out with
          | nil => simp only [inH, List.getLastD_nil]; omega
          | cons a b =>
            refine h _ ?_
            rw [List.getLastD_cons]
            exact List.getLastD_mem_cons ..
        simp only [inH, okH, add3] at hlast ho ⊢
        omega
    · refine merge_in r _ _ (k + 1) (fun y hy => ?_) hr (by simp; omega)
      rcases List.mem_append.1 hy with hy | hy
      · exact hk y (h y hy)
      · simp only [List.mem_singleton] at hy
        subst hy
        simp only [inH, okH] at ho ⊢
        omega

/-- No week has more plain minutes than Week: 'pl' is what each week has so far. -/
theorem merge_plain {a b : Int} (ha : 0 ≤ a) (hb : 0 ≤ b) : ∀ (es : List Ent) (sm pl : Int → Int) (out : List Ent) (p : Option Int), (∀ e ∈ es, okE e) → (∀ w, 0 ≤ pl w ∧ pl w ≤ sm w ∧ pl w ≤ b) → (∀ x ∈ out, x.1 ≤ b) →
    (∀ w, p = some w → (out.getLastD (0, 0, 0)).1 ≤ pl w) → ∀ x ∈ merge out p (eachL a b sm es), x.1 ≤ b
  | [], sm, pl, out, p, _, _, ho, _ => ho
  | e :: r, sm, pl, out, p, he, hp, ho, hl => by
    obtain ⟨_, e1, _, _, _⟩ := he e (by simp)
    have hr : ∀ e ∈ r, okE e := fun y hy => he y (by simp [hy])
    have h1 := hp (monday e.1)
    have hpl : ∀ w, 0 ≤ (if w = monday e.1 then pl (monday e.1) + min (min e.2.1 a) (max (b - sm (monday e.1)) 0) else pl w) ∧ (if w = monday e.1 then pl (monday e.1) + min (min e.2.1 a) (max (b - sm (monday e.1)) 0) else pl w) ≤ (if w = monday e.1 then sm (monday e.1) + min e.2.1 a else sm w) ∧ (if w = monday e.1 then pl (monday e.1) + min (min e.2.1 a) (max (b - sm (monday e.1)) 0) else pl w) ≤ b := by
      intro w
      have h2 := hp w
      split <;> omega
    simp only [eachL, merge]
    split
    · rename_i hpw
      have h3 := hl _ hpw
      refine merge_plain ha hb r _ (fun w => if w = monday e.1 then pl (monday e.1) + min (min e.2.1 a) (max (b - sm (monday e.1)) 0) else pl w) _ _ hr hpl (fun x hx => ?_) (fun w hw => ?_)
      · rcases List.mem_append.1 hx with hx | hx
        · exact ho x (List.dropLast_subset _ hx)
        · simp only [List.mem_singleton] at hx
          subst hx
          show (out.getLastD (0, 0, 0)).1 + min (min e.2.1 a) (max (b - sm (monday e.1)) 0) ≤ b
          omega
      · cases hw
        rw [if_pos rfl]
        have : ((out.dropLast ++ [add3 (out.getLastD (0, 0, 0)) (min (min e.2.1 a) (max (b - sm (monday e.1)) 0), e.2.1 - min (min e.2.1 a) (max (b - sm (monday e.1)) 0), e.2.2)]).getLastD (0, 0, 0)).1 = (out.getLastD (0, 0, 0)).1 + min (min e.2.1 a) (max (b - sm (monday e.1)) 0) := by
          rw [List.getLastD_concat]
          rfl
        rw [this]
        omega
    · refine merge_plain ha hb r _ (fun w => if w = monday e.1 then pl (monday e.1) + min (min e.2.1 a) (max (b - sm (monday e.1)) 0) else pl w) _ _ hr hpl (fun x hx => ?_) (fun w hw => ?_)
      · rcases List.mem_append.1 hx with hx | hx
        · exact ho x hx
        · simp only [List.mem_singleton] at hx
          subst hx
          show min (min e.2.1 a) (max (b - sm (monday e.1)) 0) ≤ b
          omega
      · cases hw
        rw [if_pos rfl, List.getLastD_concat]
        show min (min e.2.1 a) (max (b - sm (monday e.1)) 0) ≤ _
        omega

theorem sumL_in {f t : Int} : ∀ (l : List (Ent × Ent × Int)) (h : Ent) (k : Nat), inH k h → (∀ p ∈ l, okH p.2.1) → inH (k + l.length) (sumL f t h l)
  | [], h, k, hh, _ => hh
  | p :: r, h, k, hh, hp => by
    have ho := hp p (by simp)
    have hr : ∀ q ∈ r, okH q.2.1 := fun q hq => hp q (by simp [hq])
    simp only [sumL, List.length_cons, show k + (r.length + 1) = k + 1 + r.length by omega]
    split
    · exact sumL_in r h (k + 1) (by simp only [inH] at hh ⊢; omega) hr
    · exact sumL_in r _ (k + 1) (by simp only [inH, okH, add3] at hh ho ⊢; omega) hr
theorem sumE_in (es : List Ent) (a b f t : Int) : inH es.length (sumE es a b f t) := by
  unfold sumE
  split
  · rename_i hw
    obtain ⟨_, hes, ha, _⟩ := wrong_ok hw
    have hlen := eachL_len (a := a) (b := b) es (fun _ => 0)
    have h := sumL_in (f := f) (t := t) (es.zip (eachL a b (fun _ => 0) es)) (0, 0, 0) 0 (by simp [inH]) (fun p hp => eachL_ok ha.1 es _ hes _ (List.of_mem_zip hp).2)
    simpa [hlen, sumH] using h
  · simp only [inH]; omega
theorem sumE_cut {f m t : Int} (h1 : f ≤ m) (h2 : m ≤ t) (es : List Ent) (a b : Int) : add3 (sumE es a b f m) (sumE es a b m t) = sumE es a b f t := by
  unfold sumE
  split
  · exact sumL_cut h1 h2 _
  · simp [add3]
theorem sumE_all {f t : Int} {es : List Ent} {a b : Int} (hw : wrong es a b = 0) (hf : f ≤ -25567) (ht : 84006 ≤ t) : sumE es a b f t = tot (weeksF es a b) := by
  obtain ⟨_, hes, _, _⟩ := wrong_ok hw
  unfold sumE weeksF
  rw [if_pos hw, if_pos hw, merge_tot]
  unfold sumH
  rw [sumL_all es _ (eachL_len es _).symm fun e he => by have := isDay_in (hes e he).1; omega]
  simp [tot, add3]
theorem weeksF_in {es : List Ent} {a b : Int} (hw : wrong es a b = 0) : (∀ x ∈ weeksF es a b, inH es.length x) ∧ (weeksF es a b).length ≤ es.length := by
  obtain ⟨_, hes, ha, _⟩ := wrong_ok hw
  have h := merge_in (eachL a b (fun _ => 0) es) [] none 0 (by simp) (fun x hx => eachL_ok ha.1 es _ hes x hx) (by simp)
  unfold weeksF
  rw [if_pos hw]
  simpa [eachL_len] using h
theorem weeksF_plain {es : List Ent} {a b : Int} (hw : wrong es a b = 0) : ∀ x ∈ weeksF es a b, x.1 ≤ b := by
  obtain ⟨_, hes, ha, hb⟩ := wrong_ok hw
  unfold weeksF
  rw [if_pos hw]
  exact merge_plain ha.1 hb.1 es _ (fun _ => 0) [] none hes (fun w => by simp; exact hb.1) (by simp) (by simp)


theorem eachL_zero {b : Int} : ∀ (es : List Ent) (sm : Int → Int), (∀ e ∈ es, okE e) → ∀ x ∈ eachL 0 b sm es, x.1.1 = 0
  | [], _, _, x, hx => by cases hx
  | e :: r, sm, h, x, hx => by
    simp only [eachL, List.mem_cons] at hx
    rcases hx with rfl | hx
    · obtain ⟨_, h1, _⟩ := h e (by simp)
      show min (min e.2.1 0) (max (b - sm (monday e.1)) 0) = 0
      omega
    · exact eachL_zero r _ (fun e he => h e (by simp [he])) x hx

theorem wrongL_sorted {p : Option Ent} {e : Ent} {r : List Ent} (h : wrongL p (e :: r) = 0) : okE e ∧ (∀ q, p = some q → q.1 < e.1) ∧ wrongL (some e) r = 0 := by
  refine ⟨wrongL_ok h e (by simp), ?_, ?_⟩
  · intro q hq
    subst hq
    simp only [wrongL] at h
    split at h
    · cases h
    · split at h
      · cases h
      · rename_i h2
        simp only [Option.any_some, decide_eq_true_eq] at h2
        omega
  · simp only [wrongL] at h
    split at h
    · cases h
    · split at h
      · cases h
      · split at h
        · cases h
        · exact h

theorem eachL_full : ∀ (es : List Ent) (q : Ent) (sm : Int → Int), wrongL (some q) es = 0 → (∀ w, 0 ≤ sm w ∧ sm w ≤ 1440 * max (q.1 + 1 - w) 0) → ∀ x ∈ eachL 1440 10080 sm es, x.1.2.1 = 0
  | [], _, _, _, _, x, hx => by cases hx
  | e :: r, q, sm, hw, hs, x, hx => by
    obtain ⟨⟨o1, o2, o3, o4, o5⟩, h2, h3⟩ := wrongL_sorted hw
    have hlt := h2 q rfl
    have hm := monday_in o1
    have h1 := hs (monday e.1)
    simp only [eachL, List.mem_cons] at hx
    rcases hx with rfl | hx
    · show e.2.1 - min (min e.2.1 1440) (max (10080 - sm (monday e.1)) 0) = 0
      omega
    · refine eachL_full r e _ h3 (fun w => ?_) x hx
      have h4 := hs w
      split
      · rename_i hww; subst hww; omega
      · omega
theorem eachL_full0 {es : List Ent} (hw : wrongL none es = 0) : ∀ x ∈ eachL 1440 10080 (fun _ => 0) es, x.1.2.1 = 0 := by
  cases es with
  | nil => intro x hx; cases hx
  | cons e r =>
    refine eachL_full (e :: r) (e.1 - 1, 0, 0) _ ?_ (fun w => by simp only; omega)
    have h := hw
    simp only [wrongL, Option.any_none, Option.any_some] at h ⊢
    have hd : ¬ e.1 ≤ e.1 - 1 := by omega
    simpa [hd] using h

/-- A greater Week: not more over, entry by entry. -/
theorem eachL_week {a b b' : Int} (hb : b ≤ b') : ∀ (es : List Ent) (sm : Int → Int) (i : Nat) (x y : Ent × Int), (eachL a b sm es)[i]? = some x → (eachL a b' sm es)[i]? = some y → y.1.2.1 ≤ x.1.2.1
  | [], _, i, x, y, h, _ => by simp [eachL] at h
  | e :: r, sm, 0, x, y, h, g => by
    simp only [eachL, List.getElem?_cons_zero, Option.some.injEq] at h g
    subst h
    subst g
    show e.2.1 - min (min e.2.1 a) (max (b' - sm (monday e.1)) 0) ≤ e.2.1 - min (min e.2.1 a) (max (b - sm (monday e.1)) 0)
    omega
  | e :: r, sm, i + 1, x, y, h, g => by
    simp only [eachL, List.getElem?_cons_succ] at h g
    exact eachL_week hb r _ i x y h g

theorem sumL_over {f t : Int} : ∀ (es : List Ent) (xs ys : List (Ent × Int)) (h g : Ent), xs.length = es.length → ys.length = es.length → g.2.1 ≤ h.2.1 → (∀ (i : Nat) x y, xs[i]? = some x → ys[i]? = some y → y.1.2.1 ≤ x.1.2.1) →
    (sumL f t g (es.zip ys)).2.1 ≤ (sumL f t h (es.zip xs)).2.1
  | [], _, _, h, g, _, _, hgh, _ => by simpa [sumL] using hgh
  | e :: es, [], _, _, _, hl, _, _, _ => by simp at hl
  | e :: es, _ :: _, [], _, _, _, hl, _, _ => by simp at hl
  | e :: es, x :: xs, y :: ys, h, g, hx, hy, hgh, hp => by
    simp only [List.zip_cons_cons, sumL]
    have h0 := hp 0 x y rfl rfl
    have hr : ∀ (i : Nat) x y, xs[i]? = some x → ys[i]? = some y → y.1.2.1 ≤ x.1.2.1 := fun i x' y' h1 h2 => hp (i + 1) x' y' (by simpa using h1) (by simpa using h2)
    split
    · exact sumL_over es xs ys h g (by simpa using hx) (by simpa using hy) hgh hr
    · exact sumL_over es xs ys _ _ (by simpa using hx) (by simpa using hy) (by simp only [add3]; omega) hr
theorem sumL_noover {f t : Int} : ∀ (l : List (Ent × Ent × Int)) (h : Ent), h.2.1 = 0 → (∀ p ∈ l, p.2.1.2.1 = 0) → (sumL f t h l).2.1 = 0
  | [], h, hh, _ => hh
  | p :: r, h, hh, hp => by
    have h0 := hp p (by simp)
    have hr : ∀ q ∈ r, q.2.1.2.1 = 0 := fun q hq => hp q (by simp [hq])
    simp only [sumL]
    split
    · exact sumL_noover r h hh hr
    · exact sumL_noover r _ (by simp only [add3]; omega) hr
theorem sumL_noplain {f t : Int} : ∀ (l : List (Ent × Ent × Int)) (h : Ent), h.1 = 0 → (∀ p ∈ l, p.2.1.1 = 0) → (sumL f t h l).1 = 0
  | [], h, hh, _ => hh
  | p :: r, h, hh, hp => by
    have h0 := hp p (by simp)
    have hr : ∀ q ∈ r, q.2.1.1 = 0 := fun q hq => hp q (by simp [hq])
    simp only [sumL]
    split
    · exact sumL_noplain r h hh hr
    · exact sumL_noplain r _ (by simp only [add3]; omega) hr

theorem monday_mono {d d' : Int} (h : isDay d = true) (h' : isDay d' = true) (hd : d ≤ d') : monday d ≤ monday d' := by
  unfold monday weekday
  rw [if_pos h, if_pos h']
  omega

/-- Greater limits: not less plain, of all together. -/
theorem plain_more {a b a' b' : Int} (ha : 0 ≤ a ∧ a ≤ a') (hb : 0 ≤ b ∧ b ≤ b') : ∀ (es : List Ent) (q : Ent) (s s' : Int → Int), isDay q.1 = true → wrongL (some q) es = 0 → (0 ≤ s (monday q.1) ∧ s (monday q.1) ≤ s' (monday q.1)) → (∀ w, monday q.1 < w → s w = 0 ∧ s' w = 0) →
    (tot ((eachL a b s es).map (·.1))).1 + min (s (monday q.1)) b ≤ (tot ((eachL a' b' s' es).map (·.1))).1 + min (s' (monday q.1)) b'
  | [], q, s, s', _, _, hs, _ => by simp only [eachL, List.map_nil, tot]; omega
  | e :: r, q, s, s', hq, hw, hs, hz => by
    obtain ⟨⟨o1, o2, o3, o4, o5⟩, h2, h3⟩ := wrongL_sorted hw
    have hlt := h2 q rfl
    have hm := monday_mono hq o1 (by omega)
    have ih := plain_more ha hb r e (fun x => if x = monday e.1 then s (monday e.1) + min e.2.1 a else s x) (fun x => if x = monday e.1 then s' (monday e.1) + min e.2.1 a' else s' x) o1 h3
    simp only [if_true] at ih
    simp only [eachL, List.map_cons, tot, add3]
    by_cases hv : monday e.1 = monday q.1
    · rw [hv] at ih ⊢
      have ih := ih (by omega) (fun w hw' => by rw [if_neg (by omega), if_neg (by omega)]; exact hz w hw')
      omega
    · have hz1 := hz (monday e.1) (by omega)
      have ih := ih (by omega) (fun w hw' => by rw [if_neg (by omega), if_neg (by omega)]; exact hz w (by omega))
      omega
theorem plain_more0 {a b a' b' : Int} (ha : 0 ≤ a ∧ a ≤ a') (hb : 0 ≤ b ∧ b ≤ b') {es : List Ent} (hw : wrongL none es = 0) :
    (tot ((eachL a b (fun _ => 0) es).map (·.1))).1 ≤ (tot ((eachL a' b' (fun _ => 0) es).map (·.1))).1 := by
  cases es with
  | nil => simp [eachL, tot]
  | cons e r =>
    obtain ⟨⟨o1, o2, o3, o4, o5⟩, _, h3⟩ := wrongL_sorted hw
    have h := plain_more ha hb r e (fun x => if x = monday e.1 then 0 + min e.2.1 a else 0) (fun x => if x = monday e.1 then 0 + min e.2.1 a' else 0) o1 h3 (by simp only [if_true]; omega) (fun w hw' => by rw [if_neg (by omega), if_neg (by omega)]; exact ⟨rfl, rfl⟩)
    simp only [if_true] at h
    simp only [eachL, List.map_cons, tot, add3]
    omega
theorem tot_worked {a b : Int} : ∀ (es : List Ent) (s : Int → Int), (tot ((eachL a b s es).map (·.1))).1 + (tot ((eachL a b s es).map (·.1))).2.1 = (tot (es.map fun e => (e.2.1, 0, 0))).1
  | [], s => by simp [eachL, tot]
  | e :: r, s => by
    have ih := tot_worked (a := a) (b := b) r (fun x => if x = monday e.1 then s (monday e.1) + min e.2.1 a else s x)
    simp only [eachL, List.map_cons, tot, add3]
    omega

theorem wrong_lim {es : List Ent} {a b : Int} (hw : wrong es a b = 0) {a' b' : Int} (ha : 0 ≤ a' ∧ a' ≤ 1440) (hb : 0 ≤ b' ∧ b' ≤ 10080) : wrong es a' b' = 0 := by
  unfold wrong at hw ⊢
  split at hw
  · cases hw
  · rename_i h1
    split at hw
    · rename_i h2
      rw [if_neg h1, if_pos h2]
      have : badLim a' b' = false := by simp only [badLim, Bool.or_eq_false_iff, decide_eq_false_iff_not]; omega
      simp [this]
    · rename_i h2; exact absurd hw h2
theorem wrong_sorted {es : List Ent} {a b : Int} (hw : wrong es a b = 0) : wrongL none es = 0 := by
  unfold wrong at hw
  split at hw
  · cases hw
  · split at hw
    · rename_i h2; exact h2
    · exact hw
theorem lim_none {es : List Ent} {a b f t : Int} (hw : wrong es a b = 0) : (sumE es 0 b f t).1 = 0 := by
  obtain ⟨_, hes, ha, hb⟩ := wrong_ok hw
  unfold sumE
  rw [if_pos (wrong_lim hw (by omega) hb)]
  exact sumL_noplain _ _ rfl fun p hp => eachL_zero es _ hes _ (List.of_mem_zip hp).2
theorem lim_all {es : List Ent} {a b f t : Int} (hw : wrong es a b = 0) : (sumE es 1440 10080 f t).2.1 = 0 := by
  unfold sumE
  rw [if_pos (wrong_lim hw (by omega) (by omega))]
  exact sumL_noover _ _ rfl fun p hp => eachL_full0 (wrong_sorted hw) _ (List.of_mem_zip hp).2
theorem lim_week {es : List Ent} {a b b' f t : Int} (hw : wrong es a b = 0) (hw' : wrong es a b' = 0) (hb : b ≤ b') : (sumE es a b' f t).2.1 ≤ (sumE es a b f t).2.1 := by
  unfold sumE
  rw [if_pos hw, if_pos hw']
  exact sumL_over es _ _ _ _ (eachL_len es _) (eachL_len es _) (Int.le_refl _) (eachL_week hb es _)
theorem lim_both {es : List Ent} {a b a' b' f t : Int} (hw : wrong es a b = 0) (hw' : wrong es a' b' = 0) (ha : a ≤ a') (hb : b ≤ b') (hf : f ≤ -25567) (ht : 84006 ≤ t) : (sumE es a' b' f t).2.1 ≤ (sumE es a b f t).2.1 := by
  obtain ⟨_, hes, ha0, hb0⟩ := wrong_ok hw
  have hall : ∀ a b, wrong es a b = 0 → sumE es a b f t = tot ((eachL a b (fun _ => 0) es).map (·.1)) := fun a b h => by
    unfold sumE sumH
    rw [if_pos h, sumL_all es _ (eachL_len es _).symm fun e he => by have := isDay_in (hes e he).1; omega]
  rw [hall _ _ hw, hall _ _ hw']
  have h1 := plain_more0 (a := a) (b := b) (a' := a') (b' := b') (by omega) (by omega) (wrong_sorted hw)
  have h2 := tot_worked (a := a) (b := b) es (fun _ => 0)
  have h3 := tot_worked (a := a') (b := b') es (fun _ => 0)
  omega

theorem wrongL_above : ∀ {es : List Ent} {q : Ent}, wrongL (some q) es = 0 → ∀ e ∈ es, q.1 < e.1
  | [], _, _, e, he => by cases he
  | x :: r, q, h, e, he => by
    obtain ⟨_, h2, h3⟩ := wrongL_sorted h
    have := h2 q rfl
    rcases List.mem_cons.1 he with rfl | he
    · exact this
    · have := wrongL_above h3 e he
      omega
theorem sumL_skip {f t : Int} : ∀ (es : List Ent) (xs : List (Ent × Int)) (h : Ent), (∀ e ∈ es, e.1 < f ∨ t ≤ e.1) → sumL f t h (es.zip xs) = h
  | [], _, _, _ => rfl
  | _ :: _, [], _, _ => rfl
  | e :: es, x :: xs, h, hs => by
    simp only [List.zip_cons_cons, sumL]
    rw [if_pos (hs e (by simp))]
    exact sumL_skip es xs h (fun e he => hs e (by simp [he]))
/-- Over one day one entry alone counts. -/
theorem sumL_one : ∀ (es : List Ent) (xs : List (Ent × Int)) (p : Option Ent) (j : Nat) (e : Ent) (x : Ent × Int) (h : Ent), wrongL p es = 0 → es[j]? = some e → xs[j]? = some x → sumL e.1 (e.1 + 1) h (es.zip xs) = add3 h x.1
  | [], _, _, _, _, _, _, _, he, _ => by simp at he
  | _ :: _, [], _, _, _, _, _, _, _, hx => by simp at hx
  | g :: es, y :: xs, p, 0, e, x, h, hw, he, hx => by
    simp only [List.getElem?_cons_zero, Option.some.injEq] at he hx
    subst he
    subst hx
    simp only [List.zip_cons_cons, sumL]
    rw [if_neg (by omega), sumL_skip es xs _ fun e he => ?_]
    have := wrongL_above (wrongL_sorted hw).2.2 e he
    omega
  | g :: es, y :: xs, p, j + 1, e, x, h, hw, he, hx => by
    simp only [List.getElem?_cons_succ] at he hx
    have h3 := (wrongL_sorted hw).2.2
    have := wrongL_above h3 e (List.mem_of_getElem? he)
    simp only [List.zip_cons_cons, sumL]
    rw [if_pos (by omega)]
    exact sumL_one es xs _ j e x h h3 he hx
theorem eachL_at {a b : Int} (ha : 0 ≤ a) : ∀ (es : List Ent) (sm : Int → Int) (j : Nat) (e : Ent), (∀ e ∈ es, okE e) → (∀ w, 0 ≤ sm w) → es[j]? = some e →
    ∃ s, 0 ≤ s ∧ (eachL a b sm es)[j]? = some ((min (min e.2.1 a) (max (b - s) 0), e.2.1 - min (min e.2.1 a) (max (b - s) 0), e.2.2), monday e.1) ∧ ((∀ (i : Nat) g, i < j → es[i]? = some g → monday g.1 ≠ monday e.1) → s = sm (monday e.1))
  | [], _, _, _, _, _, he => by simp at he
  | g :: es, sm, 0, e, _, hs, he => by
    simp only [List.getElem?_cons_zero, Option.some.injEq] at he
    subst he
    exact ⟨sm (monday g.1), hs _, rfl, fun _ => rfl⟩
  | g :: es, sm, j + 1, e, hok, hs, he => by
    simp only [List.getElem?_cons_succ] at he
    obtain ⟨_, o2, _⟩ := hok g (by simp)
    obtain ⟨s, h1, h2, h3⟩ := eachL_at (b := b) ha es (fun x => if x = monday g.1 then sm (monday g.1) + min g.2.1 a else sm x) j e (fun e he => hok e (by simp [he])) (fun w => by have := hs w; have := hs (monday g.1); split <;> omega) he
    refine ⟨s, h1, by simpa [eachL] using h2, fun hne => ?_⟩
    have h4 := h3 fun i x hi hx => hne (i + 1) x (by omega) (by simpa using hx)
    have h5 := hne 0 g (by omega) rfl
    rw [h4, if_neg (Ne.symm h5)]

theorem wrongL_idx : ∀ {es : List Ent} {p : Option Ent} {i j : Nat} {g e : Ent}, wrongL p es = 0 → i < j → es[i]? = some g → es[j]? = some e → g.1 < e.1
  | [], _, _, _, _, _, _, _, hg, _ => by simp at hg
  | x :: es, p, 0, j, g, e, h, hij, hg, he => by
    simp only [List.getElem?_cons_zero, Option.some.injEq] at hg
    subst hg
    obtain ⟨k, rfl⟩ : ∃ k, j = k + 1 := ⟨j - 1, by omega⟩
    simp only [List.getElem?_cons_succ] at he
    exact wrongL_above (wrongL_sorted h).2.2 e (List.mem_of_getElem? he)
  | x :: es, p, i + 1, j, g, e, h, hij, hg, he => by
    obtain ⟨k, rfl⟩ : ∃ k, j = k + 1 := ⟨j - 1, by omega⟩
    simp only [List.getElem?_cons_succ] at hg he
    exact wrongL_idx (wrongL_sorted h).2.2 (by omega) hg he
/-- What one entry's day comes to: 's' is what its week has had. -/
theorem alone {es : List Ent} {a b : Int} (hw : wrong es a b = 0) {j : Nat} {e : Ent} (he : es[j]? = some e) :
    ∃ s, 0 ≤ s ∧ sumE es a b e.1 (e.1 + 1) = (min (min e.2.1 a) (max (b - s) 0), e.2.1 - min (min e.2.1 a) (max (b - s) 0), e.2.2) ∧ ((∀ g ∈ es, ¬ (g.1 < e.1 ∧ e.1 - 7 < g.1)) → s = 0) := by
  obtain ⟨_, hes, ha, hb⟩ := wrong_ok hw
  obtain ⟨s, h1, h2, h3⟩ := eachL_at (b := b) ha.1 es (fun _ => 0) j e hes (fun _ => Int.le_refl _) he
  refine ⟨s, h1, ?_, fun hn => h3 fun i g hi hg hm => ?_⟩
  · unfold sumE sumH
    rw [if_pos hw, sumL_one es _ none j e _ _ (wrong_sorted hw) he h2, add3_zero]
  · have hlt := wrongL_idx (wrong_sorted hw) hi hg he
    have m1 := monday_in (hes g (List.mem_of_getElem? hg)).1
    have m2 := monday_in (hes e (List.mem_of_getElem? he)).1
    exact hn g (List.mem_of_getElem? hg) ⟨hlt, by omega⟩

end WB
namespace WB
open Go Go.RowKit
set_option linter.unusedSimpArgs false
set_option linter.unusedVariables false

theorem civil_in_eq (d : Int) : civil_in d = some (isDay d) := by
  unfold civil_in isDay
  by_cases h : -25567 ≤ d <;> by_cases h2 : d < 84006 <;> simp [h, h2] <;> omega
theorem ref04_In_eq (d : Int) : ref04_In d = some (isDay d) := by
  unfold ref04_In isDay
  by_cases h : -25567 ≤ d <;> by_cases h2 : d < 84006 <;> simp [h, h2] <;> omega
theorem civil_Weekday_eq (d : Int) : civil_Weekday d = some (weekday d) := by
  unfold civil_Weekday
  simp only [civil_in_eq, Option.bind_some]
  unfold weekday
  cases hd : isDay d with
  | false => simp
  | true =>
    obtain ⟨h1, h2⟩ := isDay_in hd
    simp only [Bool.not_true, Bool.false_eq_true, if_false, if_true]
    rw [w64' (by omega) (by omega)]
    simp only [Option.bind_some, show ¬ (7 : Int) = 0 by decide, if_false]
    rw [Int.tmod_eq_emod_of_nonneg (by omega)]
    simp [Int.sub_neg]
theorem ref04_Weekday_eq {d : Int} (hd : isDay d = true) : ref04_Weekday d = some (weekday d) := by
  unfold ref04_Weekday weekday
  obtain ⟨h1, h2⟩ := isDay_in hd
  simp only [hd, if_true, show ¬ (7 : Int) = 0 by decide, if_false, Option.bind_some]
  rw [w64' (by omega) (by omega), Int.tmod_eq_emod_of_nonneg (by omega)]
  simp [Int.sub_neg]
theorem ref17_Monday_eq {d : Int} (hd : isDay d = true) : ref17_Monday d = some (monday d) := by
  unfold ref17_Monday
  obtain ⟨h1, h2⟩ := isDay_in hd
  obtain ⟨h3, h4, h5⟩ := monday_in hd
  simp only [ref04_Weekday_eq hd, Option.bind_some]
  unfold monday at *
  rw [w64' (by omega) (by omega)]

theorem drop_cons {α : Type} {l : List α} {i : Nat} {e : α} (h : l[i]? = some e) : l.drop i = e :: l.drop (i + 1) := by
  obtain ⟨hl, he⟩ := List.getElem?_eq_some_iff.1 h
  rw [List.drop_eq_getElem_cons hl, he]
theorem get_ex {α : Type} {l : List α} {i : Nat} (h : i < l.length) : ∃ e, l[i]? = some e := ⟨_, List.getElem?_eq_getElem h⟩

theorem wrongL_cons (p : Option Ent) (e : Ent) (r : List Ent) : wrongL p (e :: r) = if weekday e.1 < 0 then 15 else if (p.any fun q => e.1 ≤ q.1) then 8 else if badE e then 2 else wrongL (some e) r := rfl

theorem sheet_wrong_loop (es : List Ent) (a b : Int) (hl : es.length ≤ 4096) : iter sheet_wrong_loop1 (es, es, (es.length : Int), 0, a, b, (), (), ()) = some (if wrongL none es = 0 then .inl (a, b, (), (), ()) else .inr (wrongL none es)) := by
  refine iter_inv (fun n s => ∃ (i : Nat) (p : Option Ent), i + n = es.length ∧ s = (es, es, (es.length : Int), (i : Int), a, b, (), (), ()) ∧ (0 < i → p = es[i - 1]?) ∧ (i = 0 → p = none) ∧ wrongL none es = wrongL p (es.drop i)) ?_ es.length _ ⟨0, none, by simp, rfl, by simp, by simp, by simp⟩
  rintro n s ⟨i, p, hi, rfl, hp, hp0, hw⟩
  rw [hw]
  unfold sheet_wrong_loop1
  simp only
  by_cases hlt : i < es.length
  · obtain ⟨⟨d, m, n'⟩, he⟩ := get_ex hlt
    rw [drop_cons he, wrongL_cons]
    have hlt' : ((i : Int) < es.length) := by omega
    simp only [hlt', decide_true, if_true, lAt_nat he, Option.map_some, Option.bind_some, civil_Weekday_eq]
    by_cases h1 : weekday d < 0
    · right; simp [h1]
    · simp only [h1, decide_false, Bool.false_eq_true, if_false]
      have hprev : ∀ {q : Ent}, 0 < i → p = some q → lAt es ((i : Int) - 1) = some q := by
        intro q h0 hq
        have := hp h0
        rw [hq] at this
        have e : (i : Int) - 1 = ((i - 1 : Nat) : Int) := by omega
        rw [e]
        exact lAt_nat this.symm
      have hstep : wrongL (some (d, m, n')) (es.drop (i + 1)) = wrongL es[i]? (es.drop (i + 1)) := by rw [he]
      by_cases h0 : 0 < i
      · obtain ⟨q, hq⟩ : ∃ q, p = some q := by
          rw [hp h0]; exact get_ex (by omega)
        have h0' : (0 : Int) < (i : Int) := by omega
        have hpr := hprev h0 hq
        subst hq
        simp only [gt_iff_lt, h0', decide_true, if_true, Option.map_some, Option.bind_some, Option.any_some]
        rw [w64' (by omega) (by omega), hpr]
        simp only [Option.map_some, Option.bind_some]
        by_cases h2 : d ≤ q.1
        · right; simp [h2]
        · simp only [h2, decide_false, Bool.false_eq_true, if_false]
          by_cases g1 : m < 0
          · right; simp [badE, g1]
          by_cases g2 : 1440 < m
          · right; simp [badE, g1, g2]
          by_cases g3 : n' < 0
          · right; simp [badE, g1, g2, g3]
          by_cases g4 : m < n'
          · right; simp [badE, g1, g2, g3, g4]
          left
          refine ⟨_, by simp [g1, g2, g3, g4]; rfl, n - 1, by omega, i + 1, some (d, m, n'), by omega, ?_, fun _ => by simpa using he.symm, by omega, ?_⟩
          · rw [w64' (by omega) (by omega)]; simp
          · simp [badE, g1, g2, g3, g4]
      · have h0' : ¬ (0 : Int) < (i : Int) := by omega
        have hpn := hp0 (by omega)
        subst hpn
        simp only [gt_iff_lt, h0', decide_false, Bool.false_eq_true, if_false, Option.map_none, Option.bind_some, Option.any_none]
        by_cases g1 : m < 0
        · right; simp [badE, g1]
        by_cases g2 : 1440 < m
        · right; simp [badE, g1, g2]
        by_cases g3 : n' < 0
        · right; simp [badE, g1, g2, g3]
        by_cases g4 : m < n'
        · right; simp [badE, g1, g2, g3, g4]
        left
        refine ⟨_, by simp [g1, g2, g3, g4]; rfl, n - 1, by omega, i + 1, some (d, m, n'), by omega, ?_, fun _ => by simpa using he.symm, by omega, ?_⟩
        · rw [w64' (by omega) (by omega)]; simp
        · simp [badE, g1, g2, g3, g4]
  · have hlt' : ¬ ((i : Int) < es.length) := by omega
    rw [List.drop_eq_nil_of_le (by omega)]
    right
    simp [hlt', wrongL]
theorem sheet_wrong_eq (es : List Ent) (a b : Int) : sheet_wrong (es, (a, b)) = some (wrong es a b) := by
  unfold sheet_wrong wrong
  simp only
  by_cases hl : 4096 < es.length
  · have : (es.length : Int) > 4096 := by omega
    simp [hl, this]
  · have : ¬ (es.length : Int) > 4096 := by omega
    simp only [this, decide_false, Bool.false_eq_true, if_false, hl, if_false]
    rw [sheet_wrong_loop es a b (by omega), Option.bind_some]
    by_cases hw : wrongL none es = 0
    · simp only [hw, if_true]
      by_cases g1 : a < 0
      · simp [badLim, g1]
      by_cases g2 : 1440 < a
      · simp [badLim, g1, g2]
      by_cases g3 : b < 0
      · simp [badLim, g1, g2, g3]
      by_cases g4 : 10080 < b
      · simp [badLim, g1, g2, g3, g4]
      simp [badLim, g1, g2, g3, g4]
    · simp [hw]
theorem sheet_Hours_add_eq (x y : Ent) : sheet_Hours_add (x, y) = some (addE x y) := rfl

theorem eqZw (a b : Int) : eqZ (.agg (.one (.int .i64))) a b = true ↔ a = b := by
  show ((a : Int) == b) = true ↔ a = b
  simp

theorem sheet_each_loop (es : List Ent) (a b : Int) (hl : es.length ≤ 4096) (hes : ∀ e ∈ es, okE e) (ha : 0 ≤ a ∧ a ≤ 1440) (hb : 0 ≤ b ∧ b ≤ 10080) :
    iter sheet_each_loop1 (es, (es.length : Int), 0, a, b, [], [], [], (), (), (), (), (), ()) = some ((eachL a b (fun _ => 0) es).map (·.1), (eachL a b (fun _ => 0) es).map (·.2), (), (), ()) := by
  refine iter_inv (fun n s => ∃ (i : Nat) (m : List (Int × Int)) (acc : List (Ent × Int)) (sm : Int → Int), i + n = es.length ∧ s = (es, (es.length : Int), (i : Int), a, b, m, acc.map (·.1), acc.map (·.2), (), (), (), (), (), ()) ∧ acc.length = i ∧
    (∀ w, (alGet (eqZ (.agg (.one (.int .i64)))) (zeroT (.int .i64)) w m).1 = sm w) ∧ (∀ w, 0 ≤ sm w ∧ sm w ≤ 1440 * i) ∧ eachL a b (fun _ => 0) es = acc ++ eachL a b sm (es.drop i)) ?_ es.length _ ⟨0, [], [], fun _ => 0, by simp, rfl, rfl, fun w => rfl, fun w => by simp, by simp⟩
  rintro n s ⟨i, m, acc, sm, hi, rfl, hacc, hm, hsm, hsp⟩
  unfold sheet_each_loop1
  simp only
  by_cases hlt : i < es.length
  · obtain ⟨⟨d, mi, n'⟩, he⟩ := get_ex hlt
    rw [drop_cons he] at hsp
    have hlt' : ((i : Int) < es.length) := by omega
    have hok := hes _ (List.mem_of_getElem? he)
    obtain ⟨o1, o2, o3, o4, o5⟩ := hok
    simp only at o1 o2 o3 o4 o5
    obtain ⟨d1, d2⟩ := isDay_in o1
    obtain ⟨d3, d4, d5⟩ := monday_in o1
    have hmon : IntKind.i64.wrap (d - weekday d) = monday d := by unfold monday at *; rw [w64' (by omega) (by omega)]
    have hs := hsm (monday d)
    simp only [hlt', decide_true, if_true, lAt_nat he, Option.map_some, Option.bind_some, civil_Weekday_eq, hmon, hm]
    left
    have w1 : IntKind.i64.wrap (b - sm (monday d)) = b - sm (monday d) := w64' (by omega) (by omega)
    have w2 : IntKind.i64.wrap (sm (monday d) + min mi a) = sm (monday d) + min mi a := w64' (by omega) (by omega)
    have w3 : IntKind.i64.wrap (mi - min (min mi a) (max (b - sm (monday d)) 0)) = mi - min (min mi a) (max (b - sm (monday d)) 0) := w64' (by omega) (by omega)
    have w4 : IntKind.i64.wrap ((i : Int) + 1) = ((i + 1 : Nat) : Int) := by rw [w64' (by omega) (by omega)]; omega
    have hg := alGet_put eqZw (zeroT (.int .i64)) (monday d) (monday d) (sm (monday d)) m
    rw [if_pos rfl] at hg
    simp only [w1, w2, w3, w4, hg, if_true]
    rw [Option.bind_some, app1 (by simp; omega) (by simp) (by decide), Option.bind_some, app1 (by simp; omega) (by simp) (by decide), Option.bind_some]
    refine ⟨_, rfl, n - 1, by omega, i + 1, alPut (eqZ (.agg (.one (.int .i64)))) (monday d) (sm (monday d) + min mi a) (alPut (eqZ (.agg (.one (.int .i64)))) (monday d) (sm (monday d)) m), acc ++ [((min (min mi a) (max (b - sm (monday d)) 0), mi - min (min mi a) (max (b - sm (monday d)) 0), n'), monday d)], fun x => if x = monday d then sm (monday d) + min mi a else sm x, by omega, ?_, by simp [hacc], fun w => ?_, fun w => ?_, ?_⟩
    · simp
    · rw [alGet_put eqZw]
      by_cases hw : w = monday d
      · simp [hw]
      · rw [if_neg hw, alGet_put eqZw, if_neg hw]
        simp [hw, hm]
    · have := hsm w
      simp only
      split <;> omega
    · rw [hsp]
      simp [eachL]
  · have hlt' : ¬ ((i : Int) < es.length) := by omega
    right
    rw [List.drop_eq_nil_of_le (by omega)] at hsp
    simp only [eachL, List.append_nil] at hsp
    simp [hlt', hsp]
theorem sheet_each_eq {es : List Ent} {a b : Int} (hw : wrong es a b = 0) : sheet_each (es, (a, b)) = some ((eachL a b (fun _ => 0) es).map (·.1), (eachL a b (fun _ => 0) es).map (·.2)) := by
  obtain ⟨h1, h2, h3, h4⟩ := wrong_ok hw
  unfold sheet_each
  simp only [sheet_each_loop es a b h1 h2 h3 h4, Option.bind_some]
theorem sheet_Sum_loop {es : List Ent} {a b : Int} (hw : wrong es a b = 0) (f t : Int) :
    iter sheet_Sum_loop1 ((eachL a b (fun _ => 0) es).map (·.1), es, (es.length : Int), 0, f, t, 0, 0, 0, 0, 0, 0, (), (), (), (), (), (), ()) = some (0, 0, 0, (sumH es a b f t).1, (sumH es a b f t).2.1, (sumH es a b f t).2.2, (), (), (), (), ()) := by
  obtain ⟨hl, hes, ha, hb⟩ := wrong_ok hw
  obtain ⟨X, hX⟩ : ∃ X, eachL a b (fun _ => 0) es = X := ⟨_, rfl⟩
  have hXl : X.length = es.length := by rw [← hX]; exact eachL_len _ _
  have hXok : ∀ x ∈ X, okH x.1 := by rw [← hX]; exact eachL_ok ha.1 es _ hes
  have hS : sumH es a b f t = sumL f t (0, 0, 0) (es.zip X) := by rw [← hX]; rfl
  rw [hS, hX]
  refine iter_inv (fun n s => ∃ (i : Nat) (h : Ent), i + n = es.length ∧ s = (X.map (·.1), es, (es.length : Int), (i : Int), f, t, 0, 0, 0, h.1, h.2.1, h.2.2, (), (), (), (), (), (), ()) ∧ inH i h ∧ sumL f t (0, 0, 0) (es.zip X) = sumL f t h ((es.zip X).drop i)) ?_ es.length _ ⟨0, (0, 0, 0), by simp, rfl, by simp [inH], by simp⟩
  rintro n s ⟨i, h, hi, rfl, hin, hsp⟩
  unfold sheet_Sum_loop1
  simp only
  by_cases hlt : i < es.length
  · obtain ⟨⟨d, mi, n'⟩, he⟩ := get_ex hlt
    obtain ⟨⟨x, v⟩, hx⟩ := get_ex (l := X) (i := i) (by omega)
    have hz : (es.zip X)[i]? = some ((d, mi, n'), (x, v)) := by rw [List.getElem?_zip_eq_some]; exact ⟨he, hx⟩
    have hxm : (X.map (·.1))[i]? = some x := by simp [hx]
    rw [drop_cons hz] at hsp
    simp only [sumL] at hsp
    have hlt' : ((i : Int) < es.length) := by omega
    have w1 : IntKind.i64.wrap ((i : Int) + 1) = (i : Int) + 1 := w64' (by omega) (by omega)
    have hin' : inH (i + 1) h := by unfold inH at *; omega
    simp only [hlt', decide_true, if_true, lAt_nat he, lAt_nat hxm, Option.map_some, Option.bind_some, w1]
    left
    by_cases g1 : d < f
    · rw [if_pos (.inl g1)] at hsp
      exact ⟨(X.map (·.1), es, (es.length : Int), ((i + 1 : Nat) : Int), f, t, 0, 0, 0, h.1, h.2.1, h.2.2, (), (), (), (), (), (), ()), by simp [g1, w1], n - 1, by omega, i + 1, h, by omega, rfl, hin', hsp⟩
    by_cases g2 : t ≤ d
    · rw [if_pos (.inr g2)] at hsp
      exact ⟨(X.map (·.1), es, (es.length : Int), ((i + 1 : Nat) : Int), f, t, 0, 0, 0, h.1, h.2.1, h.2.2, (), (), (), (), (), (), ()), by simp [g1, g2, w1], n - 1, by omega, i + 1, h, by omega, rfl, hin', hsp⟩
    rw [if_neg (by omega)] at hsp
    have hxo := hXok _ (List.mem_of_getElem? hx)
    have hadd : addE (h.1, h.2.1, h.2.2) x = add3 h x := addE_in (k := i) (by omega) hin hxo
    refine ⟨(X.map (·.1), es, (es.length : Int), ((i + 1 : Nat) : Int), f, t, 0, 0, 0, (add3 h x).1, (add3 h x).2.1, (add3 h x).2.2, (), (), (), (), (), (), ()), by simp [g1, g2, sheet_Hours_add_eq, hadd, w1], n - 1, by omega, i + 1, add3 h x, by omega, rfl, ?_, hsp⟩
    unfold okH at hxo
    unfold inH add3 at *
    simp only at hxo ⊢
    omega
  · have hlt' : ¬ ((i : Int) < es.length) := by omega
    right
    rw [List.drop_eq_nil_of_le (by simp; omega)] at hsp
    simp only [sumL] at hsp
    simp [hlt', hsp]
theorem sheet_Sum_eq (es : List Ent) (a b f t : Int) : sheet_Sum (es, (a, b), (f, t)) = some (sumE es a b f t, wrong es a b) := by
  unfold sheet_Sum
  simp only [sheet_wrong_eq, Option.bind_some]
  by_cases hw : wrong es a b = 0
  · simp only [hw, bne_self_eq_false, Bool.false_eq_true, if_false, sheet_each_eq hw, Option.bind_some, sheet_Sum_loop hw f t]
    simp [sumE, hw]
  · have : (wrong es a b != 0) = true := by simp [hw]
    simp [this, sumE, hw]

theorem sheet_Weeks_loop {es : List Ent} {a b : Int} (hw : wrong es a b = 0) :
    iter sheet_Weeks_loop1 ((eachL a b (fun _ => 0) es).map (·.2), (eachL a b (fun _ => 0) es).map (·.1), (((eachL a b (fun _ => 0) es).map (·.1)).length : Int), 0, [], (), ()) = some (weeksF es a b, (), ()) := by
  obtain ⟨hl, hes, ha, hb⟩ := wrong_ok hw
  have hS : weeksF es a b = merge [] none (eachL a b (fun _ => 0) es) := by simp [weeksF, hw]
  obtain ⟨X, hX⟩ : ∃ X, eachL a b (fun _ => 0) es = X := ⟨_, rfl⟩
  have hXl : X.length = es.length := by rw [← hX]; exact eachL_len _ _
  have hXok : ∀ x ∈ X, okH x.1 := by rw [← hX]; exact eachL_ok ha.1 es _ hes
  rw [hS, hX]
  refine iter_inv (fun n s => ∃ (i : Nat) (acc : List Ent), i + n = X.length ∧ s = (X.map (·.2), X.map (·.1), ((X.map (·.1)).length : Int), (i : Int), acc, (), ()) ∧ (0 < i → acc ≠ []) ∧ (∀ x ∈ acc, inH i x) ∧ acc.length ≤ i ∧
    merge [] none X = merge acc (if i = 0 then none else (X[i - 1]?).map (·.2)) (X.drop i)) ?_ X.length _ ⟨0, [], by simp, rfl, by simp, by simp, by simp, by simp⟩
  rintro n s ⟨i, acc, hi, rfl, hne, hin, hal, hsp⟩
  unfold sheet_Weeks_loop1
  simp only
  by_cases hlt : i < X.length
  · obtain ⟨⟨x, v⟩, hx⟩ := get_ex hlt
    rw [drop_cons hx] at hsp
    have hlt' : ((i : Int) < ((X.map (·.1)).length : Int)) := by simp; omega
    have w1 : IntKind.i64.wrap ((i : Int) + 1) = (i : Int) + 1 := w64' (by omega) (by omega)
    have hx1 : (X.map (·.1))[i]? = some x := by simp [hx]
    have hx2 : (X.map (·.2))[i]? = some v := by simp [hx]
    have hxo := hXok _ (List.mem_of_getElem? hx)
    have hin' : ∀ y ∈ acc, inH (i + 1) y := fun y hy => by have := hin y hy; unfold inH at *; omega
    have hxin : inH (i + 1) x := by unfold okH at hxo; unfold inH; simp only at hxo; omega
    simp only [hlt', decide_true, if_true, lAt_nat hx1, Option.map_some, Option.bind_some, w1]
    left
    by_cases h0 : i = 0
    · subst h0
      simp only [if_true] at hsp
      have hacc : acc = [] := List.eq_nil_of_length_eq_zero (by omega)
      subst hacc
      simp only [merge, Option.some_ne_none, if_false, reduceCtorEq] at hsp
      refine ⟨(X.map (·.2), X.map (·.1), ((X.map (·.1)).length : Int), ((1 : Nat) : Int), [x], (), ()), by simp [show IntKind.i64.wrap 1 = 1 from rfl], n - 1, by omega, 1, [x], by omega, by simp, by simp, by simpa using hxin, by simp, ?_⟩
      simpa [hx] using hsp
    · obtain ⟨⟨g, v'⟩, hg⟩ := get_ex (l := X) (i := i - 1) (by omega)
      rw [if_neg h0, hg] at hsp
      simp only [Option.map_some, merge] at hsp
      have h0' : ((0 : Int) < (i : Int)) := by omega
      have e1 : IntKind.i64.wrap ((i : Int) - 1) = ((i - 1 : Nat) : Int) := by rw [w64' (by omega) (by omega)]; omega
      have hg2 : (X.map (·.2))[i - 1]? = some v' := by simp [hg]
      obtain ⟨A, y, rfl⟩ : ∃ A y, acc = A ++ [y] := ⟨acc.dropLast, acc.getLast (hne (by omega)), (List.dropLast_concat_getLast (hne (by omega))).symm⟩
      simp only [List.length_append, List.length_cons, List.length_nil] at hal
      have e2 : IntKind.i64.wrap (((A.length + (0 + 1) : Nat) : Int) - 1) = (A.length : Int) := by rw [w64' (by omega) (by omega)]; omega
      have hyin := hin y (by simp)
      have hadd : addE y (x.1, x.2.1, x.2.2) = add3 y x := addE_in (k := i) (by omega) hyin hxo
      simp only [gt_iff_lt, h0', decide_true, if_true, Option.map_some, Option.bind_some, lAt_nat hx2, e1, lAt_nat hg2]
      by_cases hv : v = v'
      · subst hv
        simp only [if_true] at hsp
        simp only [beq_self_eq_true, if_true, List.length_append, List.length_cons, List.length_nil, e2]
        have c1 : (0 : Int) ≤ (A.length : Int) ∧ (A.length : Int) < ((A.length + (0 + 1) : Nat) : Int) := by omega
        simp only [c1, and_self, if_true, Option.bind_some, Int.toNat_natCast, List.getElem?_concat_length, Option.map_some, sheet_Hours_add_eq, hadd]
        refine ⟨(X.map (·.2), X.map (·.1), ((X.map (·.1)).length : Int), ((i + 1 : Nat) : Int), A ++ [add3 y x], (), ()), by simp [w1], n - 1, by omega, i + 1, A ++ [add3 y x], by omega, rfl, by simp, ?_, by simp; omega, ?_⟩
        · intro z hz
          simp only [List.mem_append, List.mem_singleton] at hz
          rcases hz with hz | rfl
          · exact hin' z (by simp [hz])
          · unfold okH at hxo; unfold inH add3 at *; simp only at hxo ⊢; omega
        · rw [hsp]; simp [hx]
      · have hv' : (v == v') = false := by simpa using hv
        rw [if_neg (by simpa using Ne.symm hv)] at hsp
        simp only [hv', Bool.false_eq_true, if_false]
        rw [app1 (by simp; omega) (by simp) (by decide)]
        simp only [Option.bind_some]
        refine ⟨(X.map (·.2), X.map (·.1), ((X.map (·.1)).length : Int), ((i + 1 : Nat) : Int), A ++ [y] ++ [x], (), ()), by simp [w1], n - 1, by omega, i + 1, A ++ [y] ++ [x], by omega, rfl, by simp, ?_, by simp; omega, ?_⟩
        · intro z hz
          simp only [List.mem_append, List.mem_singleton] at hz
          rcases hz with (hz | rfl) | rfl
          · exact hin' z (by simp [hz])
          · exact hin' _ (by simp)
          · exact hxin
        · rw [hsp]; simp [hx]
  · have hlt' : ¬ ((i : Int) < ((X.map (·.1)).length : Int)) := by simp; omega
    right
    rw [List.drop_eq_nil_of_le (by omega)] at hsp
    simp only [merge] at hsp
    simp only [hlt', decide_false, Bool.false_eq_true, if_false, hsp]
theorem sheet_Weeks_eq (es : List Ent) (a b : Int) : sheet_Weeks (es, (a, b)) = some (weeksF es a b) := by
  unfold sheet_Weeks
  simp only [sheet_wrong_eq, Option.bind_some]
  by_cases hw : wrong es a b = 0
  · simp only [hw, bne_self_eq_false, Bool.false_eq_true, if_false, sheet_each_eq hw, Option.bind_some, sheet_Weeks_loop hw]
  · have : (wrong es a b != 0) = true := by simp [hw]
    simp [this, weeksF, hw]
end WB
namespace WB
open Go Go.RowKit
set_option linter.unusedSimpArgs false
set_option linter.unusedVariables false

theorem weekday_day (d : Int) : (weekday d < 0) = (isDay d = false) := by
  unfold weekday
  cases hd : isDay d with
  | false => simp
  | true =>
    obtain ⟨h1, h2⟩ := isDay_in hd
    simp only [if_true, Bool.true_eq_false, eq_iff_iff, iff_false]
    omega

theorem ref17_Check_loop (es : List Ent) (a b : Int) (hl : es.length ≤ 4096) : iter ref17_Check_loop1 (es, a, b, 0, ()) = some (if wrongL none es = 0 then .inl (a, b, ()) else .inr (wrongL none es)) := by
  refine iter_inv (fun n s => ∃ (i : Nat) (p : Option Ent), i + n = es.length ∧ s = (es, a, b, (i : Int), ()) ∧ (0 < i → p = es[i - 1]?) ∧ (i = 0 → p = none) ∧ wrongL none es = wrongL p (es.drop i)) ?_ es.length _ ⟨0, none, by simp, rfl, by simp, by simp, by simp⟩
  rintro n s ⟨i, p, hi, rfl, hp, hp0, hw⟩
  rw [hw]
  unfold ref17_Check_loop1
  simp only
  by_cases hlt : i < es.length
  · obtain ⟨⟨d, m, n'⟩, he⟩ := get_ex hlt
    rw [drop_cons he, wrongL_cons]
    have hlt' : ((i : Int) < es.length) := by omega
    have w1 : IntKind.i64.wrap ((i : Int) + 1) = (i : Int) + 1 := w64' (by omega) (by omega)
    simp only [hlt', decide_true, if_true, lAt_nat he, Option.map_some, Option.bind_some, ref04_In_eq]
    cases h1 : isDay d with
    | false => right; simp [weekday_day, h1]
    | true =>
      simp only [Bool.not_true, Bool.false_eq_true, if_false, weekday_day, h1, Bool.true_eq_false]
      by_cases h0 : 0 < i
      · obtain ⟨q, hq⟩ : ∃ q, p = some q := by
          rw [hp h0]; exact get_ex (by omega)
        have hpr : lAt es ((i : Int) - 1) = some q := by
          have := hp h0
          rw [hq] at this
          have e : (i : Int) - 1 = ((i - 1 : Nat) : Int) := by omega
          rw [e]
          exact lAt_nat this.symm
        have h0' : (0 : Int) < (i : Int) := by omega
        subst hq
        simp only [gt_iff_lt, h0', decide_true, if_true, Option.map_some, Option.bind_some, Option.any_some]
        rw [w64' (by omega) (by omega), hpr]
        simp only [Option.map_some, Option.bind_some, lAt_nat he]
        by_cases h2 : d ≤ q.1
        · right; simp [h2]
        · simp only [h2, decide_false, Bool.false_eq_true, if_false]
          by_cases g1 : m < 0
          · right; simp [badE, g1]
          by_cases g2 : 1440 < m
          · right; simp [badE, g1, g2, lAt_nat he]
          by_cases g3 : n' < 0
          · right; simp [badE, g1, g2, g3, lAt_nat he]
          by_cases g4 : m < n'
          · right; simp [badE, g1, g2, g3, g4, lAt_nat he]
          left
          refine ⟨(es, a, b, ((i + 1 : Nat) : Int), ()), by simp [g1, g2, g3, g4, lAt_nat he, w1], n - 1, by omega, i + 1, some (d, m, n'), by omega, rfl, fun _ => by simpa using he.symm, by omega, ?_⟩
          simp [badE, g1, g2, g3, g4]
      · have h0' : ¬ (0 : Int) < (i : Int) := by omega
        have hpn := hp0 (by omega)
        subst hpn
        simp only [gt_iff_lt, h0', decide_false, Bool.false_eq_true, if_false, Option.map_none, Option.bind_some, Option.any_none, lAt_nat he, Option.map_some]
        by_cases g1 : m < 0
        · right; simp [badE, g1]
        by_cases g2 : 1440 < m
        · right; simp [badE, g1, g2, lAt_nat he]
        by_cases g3 : n' < 0
        · right; simp [badE, g1, g2, g3, lAt_nat he]
        by_cases g4 : m < n'
        · right; simp [badE, g1, g2, g3, g4, lAt_nat he]
        left
        refine ⟨(es, a, b, ((i + 1 : Nat) : Int), ()), by simp [g1, g2, g3, g4, lAt_nat he, w1], n - 1, by omega, i + 1, some (d, m, n'), by omega, rfl, fun _ => by simpa using he.symm, by omega, ?_⟩
        simp [badE, g1, g2, g3, g4]
  · have hlt' : ¬ ((i : Int) < es.length) := by omega
    rw [List.drop_eq_nil_of_le (by omega)]
    right
    simp [hlt', wrongL]
theorem ref17_Check_eq (es : List Ent) (a b : Int) : ref17_Check (es, a, b) = some (wrong es a b) := by
  unfold ref17_Check wrong
  simp only
  by_cases hl : 4096 < es.length
  · have : (es.length : Int) > 4096 := by omega
    simp [hl, this]
  · have : ¬ (es.length : Int) > 4096 := by omega
    simp only [this, decide_false, Bool.false_eq_true, if_false, hl, if_false]
    rw [ref17_Check_loop es a b (by omega), Option.bind_some]
    by_cases hw : wrongL none es = 0
    · simp only [hw, if_true]
      by_cases g1 : a < 0
      · simp [badLim, g1]
      by_cases g2 : 1440 < a
      · simp [badLim, g1, g2]
      by_cases g3 : b < 0
      · simp [badLim, g1, g2, g3]
      by_cases g4 : 10080 < b
      · simp [badLim, g1, g2, g3, g4]
      simp [badLim, g1, g2, g3, g4]
    · simp [hw]

/-- The minutes of a week's days that are reckoned, by a day's limit. -/
def smL (a w : Int) : List Ent → Int
  | [] => 0
  | e :: r => (if monday e.1 = w then min e.2.1 a else 0) + smL a w r
theorem smL_snoc (a w : Int) : ∀ (l : List Ent) (e : Ent), smL a w (l ++ [e]) = smL a w l + (if monday e.1 = w then min e.2.1 a else 0)
  | [], e => by simp [smL]
  | x :: l, e => by simp only [List.cons_append, smL, smL_snoc a w l e]; omega
theorem smL_in {a w : Int} (ha : 0 ≤ a) : ∀ (l : List Ent), (∀ e ∈ l, okE e) → 0 ≤ smL a w l ∧ smL a w l ≤ 1440 * l.length
  | [], _ => by simp [smL]
  | x :: l, h => by
    have h1 := smL_in (w := w) ha l (fun e he => h e (by simp [he]))
    obtain ⟨_, h2, h3, _⟩ := h x (by simp)
    simp only [smL, List.length_cons]
    split <;> omega
theorem take_snoc {α : Type} {l : List α} {i : Nat} {e : α} (h : l[i]? = some e) : l.take (i + 1) = l.take i ++ [e] := by
  rw [List.take_add_one, h]; rfl

theorem eachL_nth {a b : Int} : ∀ (es : List Ent) (sm : Int → Int) (i : Nat) (e : Ent), es[i]? = some e → (eachL a b sm es)[i]? = some ((min (min e.2.1 a) (max (b - (sm (monday e.1) + smL a (monday e.1) (es.take i))) 0), e.2.1 - min (min e.2.1 a) (max (b - (sm (monday e.1) + smL a (monday e.1) (es.take i))) 0), e.2.2), monday e.1)
  | [], _, _, _, h => by simp at h
  | x :: r, sm, 0, e, h => by
    simp at h; subst h
    simp [eachL, smL]
  | x :: r, sm, i + 1, e, h => by
    simp only [List.getElem?_cons_succ] at h
    simp only [eachL, List.getElem?_cons_succ, eachL_nth r _ i e h, List.take_succ_cons, smL]
    by_cases hm : monday e.1 = monday x.1
    · simp only [hm, if_true]
      have e1 : sm (monday x.1) + min x.2.1 a + smL a (monday x.1) (r.take i) = sm (monday x.1) + (min x.2.1 a + smL a (monday x.1) (r.take i)) := by omega
      rw [e1]
    · simp only [hm, if_false, Ne.symm hm]
      simp

theorem ref17_over_eq {es : List Ent} {a b : Int} (hw : wrong es a b = 0) {i : Nat} {e : Ent} (he : es[i]? = some e) : ref17_over (es, (i : Int), a, b) = some (e.2.1 - min (min e.2.1 a) (max (b - smL a (monday e.1) (es.take i)) 0)) := by
  obtain ⟨hl, hes, ha, hb⟩ := wrong_ok hw
  obtain ⟨hi, _⟩ := List.getElem?_eq_some_iff.1 he
  obtain ⟨o1, o2, o3, o4, o5⟩ := hes _ (List.mem_of_getElem? he)
  have hloop : iter ref17_over_loop1 (es, (i : Int), a, b, 0, 0, 0, ()) = some (es, (i : Int), b, min e.2.1 a, smL a (monday e.1) (es.take i), ()) := by
    refine iter_inv (fun n s => ∃ (k : Nat) (left ahead : Int), k + n = i + 1 ∧ s = (es, (i : Int), a, b, left, ahead, (k : Int), ()) ∧ (0 ≤ left ∧ left ≤ 1440) ∧ (0 ≤ ahead ∧ ahead ≤ 1440 * k) ∧
      ((k ≤ i ∧ ahead + left = smL a (monday e.1) (es.take k)) ∨ (k = i + 1 ∧ left = min e.2.1 a ∧ ahead = smL a (monday e.1) (es.take i)))) ?_ (i + 1) _ ⟨0, 0, 0, by simp, rfl, by omega, by omega, .inl ⟨by omega, by simp [smL]⟩⟩
    rintro n s ⟨k, left, ahead, hk, rfl, h1, h2, h3⟩
    unfold ref17_over_loop1
    simp only
    by_cases hki : k ≤ i
    · rcases h3 with ⟨_, h3⟩ | ⟨h3, _⟩
      · obtain ⟨⟨d, m, n'⟩, hg⟩ := get_ex (l := es) (i := k) (by omega)
        obtain ⟨p1, p2, p3, p4, p5⟩ := hes _ (List.mem_of_getElem? hg)
        simp only at p1 p2 p3
        have hki' : (k : Int) ≤ (i : Int) := by omega
        have w1 : IntKind.i64.wrap ((k : Int) + 1) = (k : Int) + 1 := w64' (by omega) (by omega)
        have w2 : IntKind.i64.wrap (ahead + left) = ahead + left := w64' (by omega) (by omega)
        simp only [hki', decide_true, if_true, lAt_nat hg, lAt_nat he, Option.map_some, Option.bind_some, ref17_Monday_eq p1, ref17_Monday_eq o1]
        left
        have hsn := smL_snoc a (monday e.1) (es.take k) (d, m, n')
        rw [← take_snoc hg] at hsn
        simp only at hsn
        by_cases hm : monday d = monday e.1
        · simp only [hm, bne_self_eq_false, Bool.false_eq_true, if_false]
          rw [if_pos hm] at hsn
          by_cases hma : m > a
          · refine ⟨(es, (i : Int), a, b, a, ahead + left, ((k + 1 : Nat) : Int), ()), by simp [hma, w1, w2], n - 1, by omega, k + 1, a, ahead + left, by omega, rfl, by omega, by omega, ?_⟩
            by_cases hlast : k = i
            · right
              subst hlast
              rw [hg] at he
              cases he
              exact ⟨rfl, by simp only; omega, h3⟩
            · left; exact ⟨by omega, by rw [hsn]; omega⟩
          · refine ⟨(es, (i : Int), a, b, m, ahead + left, ((k + 1 : Nat) : Int), ()), by simp [hma, w1, w2, lAt_nat hg], n - 1, by omega, k + 1, m, ahead + left, by omega, rfl, by omega, by omega, ?_⟩
            by_cases hlast : k = i
            · right
              subst hlast
              rw [hg] at he
              cases he
              exact ⟨rfl, by simp only; omega, h3⟩
            · left; exact ⟨by omega, by rw [hsn]; omega⟩
        · have hne : (monday d != monday e.1) = true := by simp [hm]
          rw [if_neg hm] at hsn
          refine ⟨(es, (i : Int), a, b, left, ahead, ((k + 1 : Nat) : Int), ()), by simp [hne, hm, w1], n - 1, by omega, k + 1, left, ahead, by omega, rfl, by omega, by omega, .inl ⟨?_, by rw [hsn]; omega⟩⟩
          rcases Nat.lt_or_ge k i with hh | hh
          · omega
          · exfalso
            have : k = i := by omega
            subst this
            rw [hg] at he
            cases he
            exact hm rfl
      · omega
    · rcases h3 with ⟨h3, _⟩ | ⟨h3, h4, h5⟩
      · omega
      · right
        have hki' : ¬ (k : Int) ≤ (i : Int) := by omega
        simp [hki', h4, h5]
  have hs := smL_in (w := monday e.1) ha.1 (es.take i) (fun x hx => hes x (List.mem_of_mem_take hx))
  have hlen : (es.take i).length ≤ i := by simp; omega
  unfold ref17_over
  simp only [hloop, Option.bind_some]
  rw [w64' (by omega) (by omega)]
  obtain ⟨S, hS⟩ : ∃ S, smL a (monday e.1) (es.take i) = S := ⟨_, rfl⟩
  rw [hS] at hs ⊢
  by_cases g1 : b - S < 0
  · simp only [g1, decide_true, if_true, Option.bind_some]
    by_cases g2 : (0 : Int) > min e.2.1 a
    · omega
    · simp only [g2, decide_false, Bool.false_eq_true, if_false, Option.bind_some, lAt_nat he, Option.map_some]
      rw [w64' (by omega) (by omega)]
      congr 1; omega
  · simp only [g1, decide_false, Bool.false_eq_true, if_false, Option.bind_some]
    by_cases g2 : b - S > min e.2.1 a
    · simp only [g2, decide_true, if_true, Option.bind_some, lAt_nat he, Option.map_some]
      rw [w64' (by omega) (by omega)]
      congr 1; omega
    · simp only [g2, decide_false, Bool.false_eq_true, if_false, Option.bind_some, lAt_nat he, Option.map_some]
      rw [w64' (by omega) (by omega)]
      congr 1; omega
end WB
namespace WB
open Go Go.RowKit
set_option linter.unusedSimpArgs false
set_option linter.unusedVariables false

theorem ref17_Sum_loop {es : List Ent} {a b : Int} (hw : wrong es a b = 0) (f t : Int) :
    iter ref17_Sum_loop1 (es, a, b, 0, f, t, 0, 0, 0, 0, 0, 0, (), (), (), (), (), (), ()) = some (0, 0, 0, (sumH es a b f t).1, (sumH es a b f t).2.1, (sumH es a b f t).2.2, (), (), (), (), ()) := by
  obtain ⟨hl, hes, ha, hb⟩ := wrong_ok hw
  obtain ⟨X, hX⟩ : ∃ X, eachL a b (fun _ => 0) es = X := ⟨_, rfl⟩
  have hXl : X.length = es.length := by rw [← hX]; exact eachL_len _ _
  have hXok : ∀ x ∈ X, okH x.1 := by rw [← hX]; exact eachL_ok ha.1 es _ hes
  have hS : sumH es a b f t = sumL f t (0, 0, 0) (es.zip X) := by rw [← hX]; rfl
  rw [hS]
  refine iter_inv (fun n s => ∃ (i : Nat) (h : Ent), i + n = es.length ∧ s = (es, a, b, (i : Int), f, t, 0, 0, 0, h.1, h.2.1, h.2.2, (), (), (), (), (), (), ()) ∧ inH i h ∧ sumL f t (0, 0, 0) (es.zip X) = sumL f t h ((es.zip X).drop i)) ?_ es.length _ ⟨0, (0, 0, 0), by simp, rfl, by simp [inH], by simp⟩
  rintro n s ⟨i, h, hi, rfl, hin, hsp⟩
  unfold ref17_Sum_loop1
  simp only
  by_cases hlt : i < es.length
  · obtain ⟨⟨d, mi, n'⟩, he⟩ := get_ex hlt
    have hov := ref17_over_eq hw he
    have hx := eachL_nth (a := a) (b := b) es (fun _ => 0) i _ he
    simp only [Int.zero_add] at hx hov
    rw [hX] at hx
    obtain ⟨P, hP⟩ : ∃ P, min (min mi a) (max (b - smL a (monday d) (es.take i)) 0) = P := ⟨_, rfl⟩
    rw [hP] at hx hov
    have hz : (es.zip X)[i]? = some ((d, mi, n'), ((P, mi - P, n'), monday d)) := by rw [List.getElem?_zip_eq_some]; exact ⟨he, hx⟩
    rw [drop_cons hz] at hsp
    simp only [sumL] at hsp
    have hlt' : ((i : Int) < es.length) := by omega
    have w1 : IntKind.i64.wrap ((i : Int) + 1) = (i : Int) + 1 := w64' (by omega) (by omega)
    have hin' : inH (i + 1) h := by unfold inH at *; omega
    simp only [hlt', decide_true, if_true, lAt_nat he, Option.map_some, Option.bind_some]
    left
    by_cases g1 : d < f
    · rw [if_pos (.inl g1)] at hsp
      have g1' : ¬ f ≤ d := by omega
      exact ⟨(es, a, b, ((i + 1 : Nat) : Int), f, t, 0, 0, 0, h.1, h.2.1, h.2.2, (), (), (), (), (), (), ()), by simp [g1', w1], n - 1, by omega, i + 1, h, by omega, rfl, hin', hsp⟩
    by_cases g2 : t ≤ d
    · rw [if_pos (.inr g2)] at hsp
      have g1' : f ≤ d := by omega
      have g2' : ¬ d < t := by omega
      exact ⟨(es, a, b, ((i + 1 : Nat) : Int), f, t, 0, 0, 0, h.1, h.2.1, h.2.2, (), (), (), (), (), (), ()), by simp [g1', g2', w1, lAt_nat he], n - 1, by omega, i + 1, h, by omega, rfl, hin', hsp⟩
    rw [if_neg (by omega)] at hsp
    have hxo := hXok _ (List.mem_of_getElem? hx)
    have g1' : f ≤ d := by omega
    have g2' : d < t := by omega
    unfold okH at hxo
    unfold inH at hin
    simp only at hxo
    have w2 : IntKind.i64.wrap (h.2.1 + (mi - P)) = h.2.1 + (mi - P) := w64' (by omega) (by omega)
    have w3 : IntKind.i64.wrap (h.1 + mi) = h.1 + mi := w64' (by omega) (by omega)
    have w4 : IntKind.i64.wrap (h.1 + mi - (mi - P)) = h.1 + P := by rw [w64' (by omega) (by omega)]; omega
    have w5 : IntKind.i64.wrap (h.2.2 + n') = h.2.2 + n' := w64' (by omega) (by omega)
    refine ⟨(es, a, b, ((i + 1 : Nat) : Int), f, t, 0, 0, 0, (add3 h (P, mi - P, n')).1, (add3 h (P, mi - P, n')).2.1, (add3 h (P, mi - P, n')).2.2, (), (), (), (), (), (), ()), by simp [g1', g2', hov, lAt_nat he, w1, w2, w3, w4, w5, add3], n - 1, by omega, i + 1, _, by omega, rfl, ?_, hsp⟩
    unfold inH add3
    simp only
    omega
  · have hlt' : ¬ ((i : Int) < es.length) := by omega
    right
    rw [List.drop_eq_nil_of_le (by simp; omega)] at hsp
    simp only [sumL] at hsp
    simp [hlt', hsp]
theorem ref17_Sum_eq {es : List Ent} {a b : Int} (hw : wrong es a b = 0) (f t : Int) : ref17_Sum (es, a, b, (f, t)) = some (sumE es a b f t) := by
  unfold ref17_Sum
  simp only [ref17_Sum_loop hw f t, Option.bind_some]
  simp [sumE, hw]

/-! ### Weeks -/

def totW (v : Int) : List (Ent × Int) → Ent
  | [] => (0, 0, 0)
  | x :: r => if x.2 = v then add3 x.1 (totW v r) else totW v r
def wk : Option Int → List (Ent × Int) → List Ent
  | _, [] => []
  | p, x :: r => if p = some x.2 then wk p r else totW x.2 (x :: r) :: wk (some x.2) r
def upL : List (Ent × Int) → Prop
  | [] => True
  | x :: r => (∀ y ∈ r, x.2 ≤ y.2) ∧ upL r
theorem totW_none {v : Int} : ∀ (l : List (Ent × Int)), (∀ x ∈ l, x.2 ≠ v) → totW v l = (0, 0, 0)
  | [], _ => rfl
  | x :: r, h => by simp only [totW, if_neg (h x (by simp))]; exact totW_none r (fun y hy => h y (by simp [hy]))
theorem totW_append {v : Int} : ∀ (l m : List (Ent × Int)), (∀ x ∈ l, x.2 ≠ v) → totW v (l ++ m) = totW v m
  | [], _, _ => rfl
  | x :: r, m, h => by simp only [List.cons_append, totW, if_neg (h x (by simp))]; exact totW_append r m (fun y hy => h y (by simp [hy]))
theorem merge_wk : ∀ (l : List (Ent × Int)) (A : List Ent) (y : Ent) (v : Int), upL l → (∀ x ∈ l, v ≤ x.2) → merge (A ++ [y]) (some v) l = A ++ [add3 y (totW v l)] ++ wk (some v) l
  | [], A, y, v, _, _ => by simp [merge, totW, wk, add3]
  | x :: r, A, y, v, h, hv => by
    simp only [merge, totW, wk]
    by_cases hx : v = x.2
    · subst hx
      simp only [if_true, List.dropLast_concat, List.getLastD_concat]
      rw [merge_wk r A _ x.2 h.2 h.1, add3_assoc]
    · have e1 : ¬ some v = some x.2 := fun e => hx (Option.some.inj e)
      have e2 : ¬ x.2 = v := fun e => hx e.symm
      simp only [e1, e2, if_false]
      rw [merge_wk r (A ++ [y]) x.1 x.2 h.2 h.1]
      have hlt : v < x.2 := by have := hv x (by simp); omega
      have h0 : totW v r = (0, 0, 0) := totW_none r (fun z hz => by have := h.1 z hz; omega)
      simp only [h0, totW, if_true]
      simp [add3]
theorem merge_wk0 : ∀ (l : List (Ent × Int)), upL l → merge [] none l = wk none l
  | [], _ => rfl
  | x :: r, h => by
    simp only [merge, wk, totW, if_true, reduceCtorEq, if_false]
    have := merge_wk r [] x.1 x.2 h.2 h.1
    simpa using this

theorem sumL_week {v : Int} : ∀ (es : List Ent) (X : List (Ent × Int)), X.length = es.length → (∀ (i : Nat) e x, es[i]? = some e → X[i]? = some x → (e.1 < v ∨ v + 7 ≤ e.1 ↔ x.2 ≠ v)) → sumL v (v + 7) (0, 0, 0) (es.zip X) = totW v X
  | [], [], _, _ => rfl
  | [], _ :: _, h, _ => by simp at h
  | _ :: _, [], h, _ => by simp at h
  | e :: es, x :: X, hl, h => by
    have h0 := h 0 e x rfl rfl
    have ih := sumL_week es X (by simpa using hl) (fun i e' x' he hx => h (i + 1) e' x' (by simpa using he) (by simpa using hx))
    simp only [List.zip_cons_cons, sumL, totW]
    by_cases hv : x.2 = v
    · rw [if_neg (fun hh => h0.1 hh hv), if_pos hv, sumL_add, ih, add3_zero]
    · rw [if_pos (h0.2 hv), if_neg hv, ih]

theorem monday_week {d v d' : Int} (hd : isDay d = true) (hd' : isDay d' = true) (hv : v = monday d') : (d < v ∨ v + 7 ≤ d) ↔ monday d ≠ v := by
  obtain ⟨h1, h2⟩ := isDay_in hd
  obtain ⟨h3, h4⟩ := isDay_in hd'
  subst hv
  have e1 : monday d = d - (d + 25567) % 7 := by simp [monday, weekday, hd]
  have e2 : monday d' = d' - (d' + 25567) % 7 := by simp [monday, weekday, hd']
  rw [e1, e2]
  omega

theorem ref17_Weeks_loop {es : List Ent} {a b : Int} (hw : wrong es a b = 0) : iter ref17_Weeks_loop1 (es, a, b, 0, [], (), ()) = some (weeksF es a b, (), ()) := by
  obtain ⟨hl, hes, ha, hb⟩ := wrong_ok hw
  have hsorted := wrong_sorted hw
  have hS : weeksF es a b = merge [] none (eachL a b (fun _ => 0) es) := by simp [weeksF, hw]
  obtain ⟨X, hX⟩ : ∃ X, eachL a b (fun _ => 0) es = X := ⟨_, rfl⟩
  have hXl : X.length = es.length := by rw [← hX]; exact eachL_len _ _
  have hXm : ∀ (i : Nat) e x, es[i]? = some e → X[i]? = some x → x.2 = monday e.1 := by
    intro i e x he hx
    have := eachL_nth (a := a) (b := b) es (fun _ => 0) i e he
    rw [hX, hx] at this
    rw [Option.some.inj this]
  have hup' : ∀ (i j : Nat) x y, i < j → X[i]? = some x → X[j]? = some y → x.2 ≤ y.2 := by
    intro i j x y hij hx hy
    obtain ⟨g, hg⟩ := get_ex (l := es) (i := i) (by have := (List.getElem?_eq_some_iff.1 hx).1; omega)
    obtain ⟨e, he⟩ := get_ex (l := es) (i := j) (by have := (List.getElem?_eq_some_iff.1 hy).1; omega)
    rw [hXm i g x hg hx, hXm j e y he hy]
    exact monday_mono (hes _ (List.mem_of_getElem? hg)).1 (hes _ (List.mem_of_getElem? he)).1 (Int.le_of_lt (wrongL_idx hsorted hij hg he))
  have hup : upL X := by
    clear hS hX hXl hXm
    induction X with
    | nil => trivial
    | cons x r ih =>
      refine ⟨fun y hy => ?_, ih (fun i j u v hij hu hv => hup' (i + 1) (j + 1) u v (by omega) (by simpa using hu) (by simpa using hv))⟩
      obtain ⟨j, hj⟩ := List.getElem?_of_mem hy
      exact hup' 0 (j + 1) x y (by omega) rfl (by simpa using hj)
  have hwk : ∀ (i : Nat) x, X[i]? = some x → sumE es a b x.2 (x.2 + 7) = totW x.2 X := by
    intro i x hx
    obtain ⟨e, he⟩ := get_ex (l := es) (i := i) (by have := (List.getElem?_eq_some_iff.1 hx).1; omega)
    simp only [sumE, hw, if_true, sumH]
    rw [hX]
    refine sumL_week es X hXl fun j e' x' he' hx' => ?_
    rw [hXm j e' x' he' hx']
    exact monday_week (hes _ (List.mem_of_getElem? he')).1 (hes _ (List.mem_of_getElem? he)).1 (hXm i e x he hx)
  rw [hS, hX, merge_wk0 X hup]
  refine iter_inv (fun n s => ∃ (i : Nat) (acc : List Ent), i + n = es.length ∧ s = (es, a, b, (i : Int), acc, (), ()) ∧ acc.length ≤ i ∧ wk none X = acc ++ wk (if i = 0 then none else (X[i - 1]?).map (·.2)) (X.drop i)) ?_ es.length _ ⟨0, [], by simp, rfl, by simp, by simp⟩
  rintro n s ⟨i, acc, hi, rfl, hal, hsp⟩
  unfold ref17_Weeks_loop1
  simp only
  by_cases hlt : i < es.length
  · obtain ⟨e, he⟩ := get_ex hlt
    obtain ⟨x, hx⟩ := get_ex (l := X) (i := i) (by omega)
    have hm := hXm i e x he hx
    have hd := (hes _ (List.mem_of_getElem? he)).1
    obtain ⟨d1, d2⟩ := isDay_in hd
    obtain ⟨d3, d4, d5⟩ := monday_in hd
    rw [drop_cons hx] at hsp
    simp only [wk] at hsp
    have hlt' : ((i : Int) < es.length) := by omega
    have w1 : IntKind.i64.wrap ((i : Int) + 1) = (i : Int) + 1 := w64' (by omega) (by omega)
    have w7 : IntKind.i64.wrap (monday e.1 + 7) = monday e.1 + 7 := w64' (by omega) (by omega)
    have hsum : ref17_Sum (es, a, b, (monday e.1, monday e.1 + 7)) = some (totW x.2 X) := by rw [ref17_Sum_eq hw, ← hm, hwk i x hx]
    have happ : ∀ (y : Ent), (if ((acc.length : Int) + (([y] : List Ent).length : Int)) * 24 ≤ 140737488355328 ∧ (acc.length : Int) + (([y] : List Ent).length : Int) ≤ 4611686018427387904 then some (acc ++ [y]) else none) = some (acc ++ [y]) := fun y => app1 (by omega) (by simp) (by decide)
    have htot : ∀ p, (p = none ∨ ∃ v, p = some v ∧ v < x.2) → (∀ j y, j < i → X[j]? = some y → y.2 < x.2) → totW x.2 (x :: X.drop (i + 1)) = totW x.2 X := by
      intro p _ hlt2
      have e1 : X = X.take i ++ (x :: X.drop (i + 1)) := by rw [← drop_cons hx]; exact (List.take_append_drop i X).symm
      conv => rhs; rw [e1]
      rw [totW_append]
      intro z hz
      obtain ⟨j, hj⟩ := List.getElem?_of_mem hz
      rw [List.getElem?_take] at hj
      split at hj
      · rename_i hji
        have := hlt2 j z hji hj
        omega
      · cases hj
    simp only [hlt', decide_true, if_true, lAt_nat he, Option.map_some, Option.bind_some, ref17_Monday_eq hd]
    left
    by_cases h0 : i = 0
    · subst h0
      simp only [if_true, reduceCtorEq, if_false] at hsp
      rw [htot none (.inl rfl) (fun j y hj _ => by omega)] at hsp
      have hacc : acc = [] := List.eq_nil_of_length_eq_zero (by omega)
      subst hacc
      refine ⟨(es, a, b, ((0 + 1 : Nat) : Int), [] ++ [totW x.2 X], (), ()), ?_, n - 1, by omega, 0 + 1, _, by omega, rfl, by simp, ?_⟩
      · simp only [Int.natCast_zero, beq_self_eq_true, Bool.true_eq_false, if_false, if_true, Option.bind_some, w7, hsum, happ]
        simp [show IntKind.i64.wrap 1 = 1 from rfl]
      · rw [hsp]; simp [hx]
    · obtain ⟨g, hg⟩ := get_ex (l := es) (i := i - 1) (by omega)
      obtain ⟨y, hy⟩ := get_ex (l := X) (i := i - 1) (by omega)
      have hmy := hXm _ g y hg hy
      have hdg := (hes _ (List.mem_of_getElem? hg)).1
      have hle := hup' (i - 1) i y x (by omega) hy hx
      have h0' : ((i : Int) == 0) = false := by simp; omega
      have e1 : IntKind.i64.wrap ((i : Int) - 1) = ((i - 1 : Nat) : Int) := by rw [w64' (by omega) (by omega)]; omega
      rw [if_neg h0, hy] at hsp
      simp only [Option.map_some] at hsp
      simp only [h0', if_true, Option.map_some, Option.bind_some, e1, lAt_nat hg, ref17_Monday_eq hdg, Bool.false_eq_true, if_false]
      by_cases hv : y.2 = x.2
      · have hmm : (monday g.1 != monday e.1) = false := by rw [← hmy, ← hm, hv]; simp
        rw [if_pos (by rw [hv])] at hsp
        refine ⟨(es, a, b, ((i + 1 : Nat) : Int), acc, (), ()), by simp [hmm, w1, show monday g.1 = monday e.1 by rw [← hmy, ← hm, hv]], n - 1, by omega, i + 1, acc, by omega, rfl, by omega, ?_⟩
        rw [hsp, hv]; simp [hx]
      · have hmm : (monday g.1 != monday e.1) = true := by rw [← hmy, ← hm]; simpa using hv
        rw [if_neg (by simpa using hv)] at hsp
        rw [htot (some y.2) (.inr ⟨_, rfl, by omega⟩) (fun j z hj hz => by
          rcases Nat.lt_or_ge j (i - 1) with hh | hh
          · have := hup' j (i - 1) z y hh hz hy; omega
          · have : j = i - 1 := by omega
            subst this
            rw [hy] at hz; cases hz; omega)] at hsp
        refine ⟨(es, a, b, ((i + 1 : Nat) : Int), acc ++ [totW x.2 X], (), ()), ?_, n - 1, by omega, i + 1, _, by omega, rfl, by simp; omega, ?_⟩
        · simp only [hmm, if_true, w7, hsum, Option.bind_some, happ]
          simp [w1]
        · rw [hsp]; simp [hx]
  · have hlt' : ¬ ((i : Int) < es.length) := by omega
    right
    rw [List.drop_eq_nil_of_le (by omega)] at hsp
    simp only [wk, List.append_nil] at hsp
    simp [hlt', hsp]
theorem ref17_Weeks_eq {es : List Ent} {a b : Int} (hw : wrong es a b = 0) : ref17_Weeks (es, a, b) = some (weeksF es a b) := by
  unfold ref17_Weeks
  simp only [ref17_Weeks_loop hw, Option.bind_some]
end WB
namespace WB
open Go Go.RowKit
set_option linter.unusedSimpArgs false
set_option linter.unusedVariables false

theorem law17_of_eq (es : List Ent) (hl : es.length ≤ 5000) : law17_of es = some es := by
  have hloop : iter law17_of_loop1 (es, 0, [], (), ()) = some (es, (), ()) := by
    refine iter_inv (fun n s => ∃ (i : Nat), i + n = es.length ∧ s = (es, (i : Int), es.take i, (), ())) ?_ es.length _ ⟨0, by simp, by simp⟩
    rintro n s ⟨i, hi, rfl⟩
    unfold law17_of_loop1
    simp only
    by_cases hlt : i < es.length
    · obtain ⟨⟨d, m, n'⟩, he⟩ := get_ex hlt
      have hlt' : ((i : Int) < es.length) := by omega
      have w1 : IntKind.i64.wrap ((i : Int) + 1) = (i : Int) + 1 := w64' (by omega) (by omega)
      simp only [hlt', decide_true, if_true, lAt_nat he, ms, bs]
      left
      rw [app1 (by simp; omega) (by simp) (by decide)]
      exact ⟨(es, ((i + 1 : Nat) : Int), es.take (i + 1), (), ()), by simp [w1, take_snoc he], n - 1, by omega, i + 1, by omega, rfl⟩
    · have hlt' : ¬ ((i : Int) < es.length) := by omega
      right
      simp [hlt', List.take_of_length_le (show es.length ≤ i by omega)]
  unfold law17_of
  simp only [hloop, Option.bind_some]
theorem law17_hours_eq (x : Ent) : law17_hours x = some x := rfl

def aw : Nat → List Ent
  | 0 => []
  | i + 1 => aw i ++ [(19723 + (i : Int), 540, 0)]
theorem aw_len : ∀ i, (aw i).length = i
  | 0 => rfl
  | i + 1 => by simp [aw, aw_len i]
theorem aw_wrong : wrong (aw 5) 480 2280 = 0 := by decide
theorem aw_sum : sumE (aw 5) 480 2280 0 30000 = (2280, 420, 0) := by decide
theorem aw_weeks : weeksF (aw 5) 480 2280 = [(2280, 420, 0)] := by decide
theorem law17_awake_eq : law17_awake () = some true := by
  have hloop : iter law17_awake_loop1 (19723, [], (), ()) = some (aw 5, (), ()) := by
    refine iter_inv (fun n s => ∃ (i : Nat), i + n = 5 ∧ s = (19723 + (i : Int), aw i, (), ())) ?_ 5 _ ⟨0, by simp, rfl⟩
    rintro n s ⟨i, hi, rfl⟩
    unfold law17_awake_loop1
    simp only
    have hl := aw_len i
    by_cases hlt : i < 5
    · have hlt' : 19723 + (i : Int) < 19728 := by omega
      have w1 : IntKind.i64.wrap (19723 + (i : Int) + 1) = 19723 + ((i + 1 : Nat) : Int) := by rw [w64' (by omega) (by omega)]; omega
      simp only [hlt', decide_true, if_true]
      left
      rw [app1 (by omega) (by simp) (by decide)]
      exact ⟨(19723 + ((i + 1 : Nat) : Int), aw (i + 1), (), ()), by simp only [Option.bind_some, w1]; rfl, n - 1, by omega, i + 1, by omega, rfl⟩
    · have hi5 : i = 5 := by omega
      subst hi5
      right
      simp
  unfold law17_awake
  simp only [hloop, Option.bind_some, sheet_Sum_eq, sheet_Weeks_eq, aw_wrong, aw_sum, aw_weeks]
  rfl

theorem law17_SheetSum_loop (W : List Ent) (hl : W.length ≤ 5000) : iter law17_SheetSum_loop1 (W, W, 0, ()) = some (.inl ()) := by
  refine iter_inv (fun n s => ∃ (i : Nat), i + n = W.length ∧ s = (W, W, (i : Int), ())) ?_ W.length _ ⟨0, by simp, rfl⟩
  rintro n s ⟨i, hi, rfl⟩
  unfold law17_SheetSum_loop1
  simp only
  by_cases hlt : i < W.length
  · obtain ⟨⟨d, m, n'⟩, he⟩ := get_ex hlt
    have hlt' : ((i : Int) < W.length) := by omega
    have w1 : IntKind.i64.wrap ((i : Int) + 1) = (i : Int) + 1 := w64' (by omega) (by omega)
    left
    exact ⟨(W, W, ((i + 1 : Nat) : Int), ()), by simp [hlt', lAt_nat he, law17_hours_eq, w1], n - 1, by omega, i + 1, by omega, rfl⟩
  · have hlt' : ¬ ((i : Int) < W.length) := by omega
    right
    simp [hlt']

theorem law17_SheetSum_eq (es : List Ent) (a b f t : Int) : law17_SheetSum (es, (a, b), (f, t)) = some true := by
  unfold law17_SheetSum
  simp only [law17_awake_eq, Option.bind_some, Bool.not_true, Bool.false_eq_true, if_false]
  by_cases hbig : (40 < es.length ∧ es.length ≤ 4096) ∨ 5000 < es.length
  · rcases hbig with ⟨h1, h2⟩ | h1
    · have g1 : (es.length : Int) > 40 := by omega
      have g2 : (es.length : Int) ≤ 4096 := by omega
      simp [g1, g2]
    · have g1 : (es.length : Int) > 40 := by omega
      have g2 : ¬ (es.length : Int) ≤ 4096 := by omega
      have g3 : (es.length : Int) > 5000 := by omega
      simp [g1, g2, g3]
  have hl : es.length ≤ 5000 := by omega
  have key : ∀ (X : Option Bool), (Option.bind (if decide ((es.length : Int) > 40) = true then Option.map some (Option.map (fun z13 => decide (z13.1 ≤ z13.2)) (Option.bind (if decide ((es.length : Int) > 40) = true then some (es.length : Int) else none) fun z11 => some (z11, (4096 : Int)))) else some none) fun x21 => X) = X := by
    intro X
    by_cases h : (es.length : Int) > 40 <;> simp [h]
  have fin : ∀ {c1 c2 : Bool}, True := fun {_ _} => trivial
  by_cases g1 : (es.length : Int) > 40
  · have g2 : ¬ (es.length : Int) ≤ 4096 := by omega
    have g3 : ¬ (es.length : Int) > 5000 := by omega
    simp only [g1, g2, g3, decide_true, decide_false, if_true, Bool.false_eq_true, if_false, Option.map_some, Option.bind_some, sheet_Sum_eq, sheet_Weeks_eq, law17_of_eq es hl, ref17_Check_eq]
    have hw : wrong es a b = 5 := by unfold wrong; rw [if_pos (by omega)]
    simp [hw, sumE, weeksF]
  · have g3 : ¬ (es.length : Int) > 5000 := by omega
    simp only [g1, g3, decide_true, decide_false, if_true, Bool.false_eq_true, if_false, Option.map_some, Option.bind_some, sheet_Sum_eq, sheet_Weeks_eq, law17_of_eq es hl, ref17_Check_eq]
    by_cases hw : wrong es a b = 0
    · simp only [hw, bne_self_eq_false, Bool.false_eq_true, if_false, ref17_Weeks_eq hw, ref17_Sum_eq hw, law17_hours_eq, Option.bind_some, Option.map_some, if_true]
      have hwl := (weeksF_in hw).2
      simp [law17_SheetSum_loop (weeksF es a b) (by omega), law17_of_eq es hl, ref17_Sum_eq hw]
    · have hne : (wrong es a b != 0) = true := by simp [hw]
      simp [hne, hw, sumE, weeksF]
end WB
namespace WB
open Go Go.RowKit
set_option linter.unusedSimpArgs false
set_option linter.unusedVariables false

theorem eachL_snoc (a b : Int) (x : Ent) : ∀ (es : List Ent) (sm : Int → Int), ∃ y, eachL a b sm (es ++ [x]) = eachL a b sm es ++ [y]
  | [], sm => ⟨_, rfl⟩
  | e :: r, sm => by
    obtain ⟨y, h⟩ := eachL_snoc a b x r (fun x => if x = monday e.1 then sm (monday e.1) + min e.2.1 a else sm x)
    exact ⟨y, by simp only [List.cons_append, eachL, h]⟩
theorem sumL_snoc {f t : Int} (p : Ent × Ent × Int) (hp : t ≤ p.1.1) : ∀ (l : List (Ent × Ent × Int)) (h : Ent), sumL f t h (l ++ [p]) = sumL f t h l
  | [], h => by simp only [List.nil_append, sumL, if_pos (show p.1.1 < f ∨ t ≤ p.1.1 from .inr hp)]
  | q :: r, h => by
    simp only [List.cons_append, sumL, sumL_snoc p hp r]
theorem sumE_snoc {es : List Ent} {x : Ent} {a b f t : Int} (hx : t ≤ x.1) (h1 : wrong es a b = 0) (h2 : wrong (es ++ [x]) a b = 0) : sumE (es ++ [x]) a b f t = sumE es a b f t := by
  obtain ⟨y, hy⟩ := eachL_snoc a b x es (fun _ => 0)
  unfold sumE sumH
  rw [if_pos h1, if_pos h2, hy, List.zip_append (by rw [eachL_len]), List.zip_cons_cons, List.zip_nil_right, sumL_snoc _ hx]

theorem law_SheetLater (l : List Ent) (x : Ent) (lim s : Int × Int) : law17_SheetLater (l, x, lim, s) = some true := by
  obtain ⟨a, b⟩ := lim
  obtain ⟨f, t⟩ := s
  obtain ⟨d, m, n⟩ := x
  unfold law17_SheetLater
  simp only [law17_awake_eq, Option.bind_some, Bool.not_true, Bool.false_eq_true, if_false, sheet_Sum_eq]
  by_cases h1 : (l.length : Int) > 300
  · rw [decide_eq_true h1]
    simp only [Bool.true_eq_false, if_false, if_true, Option.bind_some]
  · rw [decide_eq_false h1]
    simp only [if_true, Option.map_some, Option.bind_some, if_false, Bool.false_eq_true]
    by_cases h2 : t > d
    · rw [decide_eq_true h2]
      simp only [if_true]
    · rw [decide_eq_false h2]
      simp only [Bool.false_eq_true, if_false]
      rw [app1 (by simp) (by omega) (by decide), bs, app1 (by simp; omega) (by simp) (by decide), bs]
      simp only [List.nil_append]
      by_cases h3 : wrong l a b = 0
      · by_cases h4 : wrong (l ++ [(d, m, n)]) a b = 0
        · have h5 := sumE_snoc (x := (d, m, n)) (f := f) (by show t ≤ d; omega) h3 h4
          rw [h5, h3, h4]
          simp
        · simp [h3, h4]
      · simp [h3]
end WB
