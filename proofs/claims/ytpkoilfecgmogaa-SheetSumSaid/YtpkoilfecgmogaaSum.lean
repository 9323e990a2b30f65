/-
  THE ROW 'SheetSum': what is plain, over, and by night, of any entries, by any limits, in any span, or why it isn't told, is what the reference says; and so week by week. Conditions: none but the row's own.
-/
import Derived.Test.YtpkoilfecgmogaaSheetT
import Derived.Test.YtpkoilfecgmogaaRows
import Derived.WalkKit
import Derived.ProofKit
import Derived.OpenShut
namespace WB
open Go Go.RowKit Go.Proofs

theorem can_ents (es : List Ent) : CanAll (fun x c => Can (.agg (.cons (.int .i64) (.cons (.int .i64) (.one (.int .i64))))) x [c]) es (es.map encE) := by
  induction es with
  | nil => rfl
  | cons e es ih =>
    refine ⟨encE e, _, rfl, ?_, ih⟩
    refine ⟨_, rfl, _, _, rfl, rfl, _, _, rfl, rfl, _, rfl, rfl⟩
theorem can_pair (a b : Int) : Can (.agg (.cons (.int .i64) (.one (.int .i64)))) (a, b) [.agg [.int .i64 a, .int .i64 b]] := ⟨_, rfl, _, _, rfl, rfl, _, rfl, rfl⟩
theorem calls3 (nl : Option Bool) (es : List Ent) (a b f t : Int) : CallsTo Try.prog B.G 3 [.sl nl (es.map encE), .agg [.int .i64 a, .int .i64 b], .agg [.int .i64 f, .int .i64 t]] (.val (.bool true)) := by
  have hx : Can s3.a ((es, (a, b), (f, t)) : D s3.a) [.sl nl (es.map encE), .agg [.int .i64 a, .int .i64 b], .agg [.int .i64 f, .int .i64 t]] := ⟨_, _, rfl, ⟨nl, es.map encE, rfl, can_ents es⟩, _, _, rfl, can_pair a b, _, rfl, can_pair f t⟩
  exact GoodT.call g3 (f := 3) (s := s3) rfl hx (law17_SheetSum_eq es a b f t)
end WB

namespace Go.Proofs.Ytpkoilfecgmogaa.sheetSum
open Go.ChangeShapes Go.WideShapes Go.ChangeAt Go.RowKit WB

theorem own : ownKnob Try.prog.godebug = none := by kernel_rfl
theorem laidOut : laidOutB Try.prog = true := by kernel_rfl

theorem contract (H : Type) (enc : TypeId × Value → H) (W : World) (base : Nat) (args : Array Value) (ds gs : List (DataW H)) (before : List MemPlace)
    (hval : ∀ (j : Nat) t v, Try.f3.params[j]? = some t → args[j]? = some v → Value.okWide Try.prog W .any base t v)
    (hW : DataW.Whole enc Try.prog Try.f3.params.toList Rows.sheetSumSpec.vars false W args.toList ds gs before) :
    Calls Try.prog 3 args W fun e W' => ∃ v, e = .returned v ∧ Rows.sheetSumSpec.post enc Try.prog Try.f3 false true false false W args v W' := by
  have hW' := hW
  obtain ⟨p, q, hA0, hV, rfl, hfz, hnd⟩ := hW
  have hA : DataW.TrodAll enc Try.prog W 0 (fun _ => true) true Try.f3.params.toList args.toList ds p := hA0
  have hA1 := hA
  rw [Try.params3] at hA hval
  obtain ⟨v0, vs0, d0, ds0, p0, q0, ha0, rfl, hp0, t0, r0⟩ := trodAll_cons hA
  obtain ⟨v1, vs1, d1, ds1, p1, q1, ha1, rfl, hp1, t1, r1⟩ := trodAll_cons r0
  obtain ⟨v2, vs2, d2, ds2, p2, q2, ha2, rfl, hp2, t2, r2⟩ := trodAll_cons r1
  obtain ⟨ha3, rfl, hp3⟩ := trodAll_nil r2
  obtain rfl : args = #[v0, v1, v2] := by cases args; simp_all
  clear ha0 ha1 ha2 ha3 hp0 hp1 hp2 hp3
  obtain ⟨rfl, rfl⟩ := trodVars_none hV
  obtain ⟨nl, ls, hls, s0⟩ := open_intss (by decide) Try.underlying22 Try.underlying46 (by kernel_rfl) (by kernel_rfl) (by intro j f hj; match j, hj with | 0, hj => cases hj; exact Try.underlying25 | 1, hj => cases hj; exact Try.underlying3 | 2, hj => cases hj; exact Try.underlying3) (hval 0 22 v0 rfl rfl) t0
  obtain ⟨l1, hl1, s1⟩ := open_ints Try.underlying24 (by kernel_rfl) (by kernel_rfl) (by intro j f hj; match j, hj with | 0, hj => cases hj; exact Try.underlying3 | 1, hj => cases hj; exact Try.underlying3) (hval 1 24 v1 rfl rfl) t1
  obtain ⟨l2, hl2, s2⟩ := open_ints Try.underlying27 (by kernel_rfl) (by kernel_rfl) (by intro j f hj; match j, hj with | 0, hj => cases hj; exact Try.underlying25 | 1, hj => cases hj; exact Try.underlying25) (hval 2 27 v2 rfl rfl) t2
  obtain ⟨es, hes⟩ := toEnt hls
  rw [hes] at s0
  match l1, hl1, l2, hl2 with
  | [a, b], _, [f, t], _ =>
    have hc := calls3 nl es a b f t
    refine (hc W (fun _ => False) [v0, v1, v2] (fun _ h => h.elim) (fun i h => absurd rfl h) (RelL.cons s0 (RelL.cons s1 (RelL.cons s2 RelL.nil)))).mono fun e W' ⟨v, he, hb, hr⟩ => ?_
    subst he
    unfold RelR RelC at hr
    subst hr
    refine ⟨_, rfl, post_below (pa := p) (pv := []) hW' (fun _ _ _ => (trodAll_cons_mk (shut_bool Try.underlying4 _) trodAll_mk0)) (fun sp hsp => ?_) (fun _ _ => rfl) rfl hb (ok_one (by kernel_rfl) rfl (okWide_bool_mk Try.underlying4 _))⟩
    exact trodAll_below laidOut hb (by kernel_rfl) (fun x hx => hW'.lt x (by simpa using hx)) (fun x hx => hsp x (by simpa using hx)) hA1

set_option maxRecDepth 100000 in
theorem lifted (os : Os) (started : os.Started) (H : Type) (enc : TypeId × Value → H) :
    ReturnsInHanded {} Try.checked os 3 .any (Rows.sheetSumSpec.pre6 enc Try.prog Try.f3 Rows.sheetSumRow.domain false) (Rows.sheetSumSpec.post enc Try.prog Try.f3 false true false false) := by
  refine returnsInHanded_of_change (C := Try.checked) own started (by kernel_rfl) Try.func3
    (ChangeSpec.witness6 (enc := enc) (C := Try.checked) false ⟨#[], #[.slice none 0 0, .agg #[.int .i64 0, .int .i64 0], .agg #[.int .i64 0, .int .i64 0]], []⟩ 8 (by kernel_rfl) (by kernel_rfl) (by kernel_rfl) (by kernel_rfl)) ?_
  intro W base args ds gs before hval hW _ _
  exact contract H enc W base args ds gs before hval hW

theorem proved : Rows.SheetSumSaid :=
  OpenClaim.holds_of_wide 3 Try.f3 rfl rfl rfl rfl rfl rfl rfl ⟨rfl, rfl, rfl, rfl, rfl⟩ rfl rfl rfl rfl rfl (by kernel_rfl) Try.func3 (by kernel_rfl)
    (of_decide_eq_true (by kernel_rfl)) (by unfold Func.isWrapper; first | (rw [if_pos (by decide +kernel)]; kernel_rfl) | (rw [if_neg (by decide +kernel)]; exact ⟨rfl, rfl⟩))
    (fun os started H enc _ => lifted os started H enc)
end Go.Proofs.Ytpkoilfecgmogaa.sheetSum
