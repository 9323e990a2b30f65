/-
  THE ROW 'SheetAlone'.
-/
import Derived.Test.YtpkoilfecgmogaaSheetAl8
import Derived.Test.YtpkoilfecgmogaaSheetE
import Derived.Test.YtpkoilfecgmogaaRows
import Derived.WalkKit
import Derived.ProofKit
import Derived.OpenShut
namespace WB
open Go Go.RowKit Go.Proofs
set_option linter.unusedSimpArgs false

def F8 : List CV → Option Res
  | [.sl _ cs, .int .u16 k, .agg [.int .i64 _, .int .i64 _]] => if 0 ≤ k ∧ k ≤ 65535 then (allM decE cs).map fun _ => .val (.bool true) else none
  | _ => none
def e9 : Env := addF e8 8 F8
theorem ok9 : EOk Try.prog e9 := ok8.addR c8 fun l r h => by
  unfold F8 at h
  split at h
  · simp only [Option.ite_none_right_eq_some, Option.map_eq_some_iff] at h
    obtain ⟨hk, es, hd, rfl⟩ := h
    rw [decL_some hd]
    exact ⟨Nat.le_of_ble_eq_true rfl, w8 (E := e8) rfl (fun nl es a b f t => h10 nl es a b f t) _ _ _ _ _ hk⟩
  · cases h
end WB

namespace Go.Proofs.Ytpkoilfecgmogaa.sheetAlone
open Go.ChangeShapes Go.WideShapes Go.ChangeAt Go.RowKit WB

theorem own : ownKnob Try.prog.godebug = none := by kernel_rfl
theorem laidOut : laidOutB Try.prog = true := by kernel_rfl

theorem contract (H : Type) (enc : TypeId × Value → H) (W : World) (base : Nat) (args : Array Value) (ds gs : List (DataW H)) (before : List MemPlace)
    (hval : ∀ (j : Nat) t v, Try.f8.params[j]? = some t → args[j]? = some v → Value.okWide Try.prog W .any base t v)
    (hW : DataW.Whole enc Try.prog Try.f8.params.toList Rows.sheetAloneSpec.vars false W args.toList ds gs before) :
    Calls Try.prog 8 args W fun e W' => ∃ v, e = .returned v ∧ Rows.sheetAloneSpec.post enc Try.prog Try.f8 false true false false W args v W' := by
  have hW' := hW
  obtain ⟨p, q, hA0, hV, rfl, hfz, hnd⟩ := hW
  have hA : DataW.TrodAll enc Try.prog W 0 (fun _ => true) true Try.f8.params.toList args.toList ds p := hA0
  have hA1 := hA
  rw [Try.params8] at hA hval
  obtain ⟨v0, vs0, d0, ds0, p0, q0, ha0, rfl, hp0, t0, r0⟩ := trodAll_cons hA
  obtain ⟨v1, vs1, d1, ds1, p1, q1, ha1, rfl, hp1, t1, r1⟩ := trodAll_cons r0
  obtain ⟨v2, vs2, d2, ds2, p2, q2, ha2, rfl, hp2, t2, r2⟩ := trodAll_cons r1
  obtain ⟨ha3, rfl, hp3⟩ := trodAll_nil r2
  obtain rfl : args = #[v0, v1, v2] := by cases args; simp_all
  clear ha0 ha1 ha2 ha3 hp0 hp1 hp2 hp3
  obtain ⟨rfl, rfl⟩ := trodVars_none hV
  obtain ⟨nl, ls, hls, s0⟩ := open_intss (by decide) Try.underlying22 Try.underlying46 (by kernel_rfl) (by kernel_rfl) (by intro j f hj; match j, hj with | 0, hj => cases hj; exact Try.underlying25 | 1, hj => cases hj; exact Try.underlying3 | 2, hj => cases hj; exact Try.underlying3) (hval 0 22 v0 rfl rfl) t0
  obtain ⟨y, hy, _, _, wy⟩ := open_int Try.underlying50 (hval 1 50 v1 rfl rfl) t1
  obtain ⟨l1, hl1, s1⟩ := open_ints Try.underlying24 (by kernel_rfl) (by kernel_rfl) (by intro j f hj; match j, hj with | 0, hj => cases hj; exact Try.underlying3 | 1, hj => cases hj; exact Try.underlying3) (hval 2 24 v2 rfl rfl) t2
  have by_ : 0 ≤ y ∧ y ≤ 65535 := by simpa [Lit.wf, IntKind.min, IntKind.max, IntKind.signed, IntKind.bits] using wy
  obtain ⟨es, hes⟩ := toEnt hls
  rw [hes] at s0
  have s3 : RelC W (fun _ => False) (.int .u16 y) v1 := by unfold RelC; exact hy
  match l1, hl1 with
  | [a, b], _ =>
    have hc := (ok9 8 [.sl nl (es.map encE), .int .u16 y, .agg [.int .i64 a, .int .i64 b]] (.val (.bool true)) ((addF_same _ _ _ _).trans (by simp [F8, decL_enc, by_]))).2
    refine (hc W (fun _ => False) [v0, v1, v2] (fun _ h => h.elim) (fun i h => absurd rfl h) (RelL.cons s0 (RelL.cons s3 (RelL.cons s1 RelL.nil)))).mono fun e W' ⟨v, he, hb, hr⟩ => ?_
    subst he
    unfold RelR RelC at hr
    subst hr
    refine ⟨_, rfl, post_below (pa := p) (pv := []) hW' (fun _ _ _ => (trodAll_cons_mk (shut_bool Try.underlying4 _) trodAll_mk0)) (fun sp hsp => ?_) (fun _ _ => rfl) rfl hb (ok_one (by kernel_rfl) rfl (okWide_bool_mk Try.underlying4 _))⟩
    exact trodAll_below laidOut hb (by kernel_rfl) (fun x hx => hW'.lt x (by simpa using hx)) (fun x hx => hsp x (by simpa using hx)) hA1

set_option maxRecDepth 100000 in
theorem lifted (os : Os) (started : os.Started) (H : Type) (enc : TypeId × Value → H) :
    ReturnsInHanded {} Try.checked os 8 .any (Rows.sheetAloneSpec.pre6 enc Try.prog Try.f8 Rows.sheetAloneRow.domain false) (Rows.sheetAloneSpec.post enc Try.prog Try.f8 false true false false) := by
  refine returnsInHanded_of_change (C := Try.checked) own started (by kernel_rfl) Try.func8
    (ChangeSpec.witness6 (enc := enc) (C := Try.checked) false ⟨#[], #[.slice none 0 0, .int .u16 0, .agg #[.int .i64 0, .int .i64 0]], []⟩ 8 (by kernel_rfl) (by kernel_rfl) (by kernel_rfl) (by kernel_rfl)) ?_
  intro W base args ds gs before hval hW _ _
  exact contract H enc W base args ds gs before hval hW

theorem proved : Rows.SheetAloneSaid :=
  OpenClaim.holds_of_wide 8 Try.f8 rfl rfl rfl rfl rfl rfl rfl ⟨rfl, rfl, rfl, rfl, rfl⟩ rfl rfl rfl rfl rfl (by kernel_rfl) Try.func8 (by kernel_rfl)
    (of_decide_eq_true (by kernel_rfl)) (by unfold Func.isWrapper; first | (rw [if_pos (by decide +kernel)]; kernel_rfl) | (rw [if_neg (by decide +kernel)]; exact ⟨rfl, rfl⟩))
    (fun os started H enc _ => lifted os started H enc)
end Go.Proofs.Ytpkoilfecgmogaa.sheetAlone
