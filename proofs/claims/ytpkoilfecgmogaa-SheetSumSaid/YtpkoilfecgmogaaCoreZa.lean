/-
  THE OWN LAYER, ZA: maps, lists of records.
-/
import Derived.Test.YtpkoilfecgmogaaCoreZ
import Derived.IntWalk
namespace WB
open Go Go.RowKit

theorem insert_len {kt : KT} {ks vs : List CV} {k u : CV} (hl : ks.length = vs.length) : (insertK kt ks k).length = (insertV kt ks vs k u).length := by
  unfold insertK insertV
  cases kIdx kt k ks <;> simp [hl]

theorem insert2_len {kt : KT} {ks vs : List CV} {k u v : CV} (hl : ks.length = vs.length) (hk : conf kt k = true) : (insertK kt ks k).length = (insertV kt (insertK kt ks k) (insertV kt ks vs k u) k v).length := by
  cases hi : kIdx kt k ks with
  | some i => simp [insertK, insertV, hi, hl]
  | none => simp [insertK, insertV, hi, hl, kIdx_snoc, keyEq_refl hk]

/-- What is found behind an entry that was made and set. -/
theorem look_set {kt : KT} {z : CV} {ks vs : List CV} {k u v : CV} (k' : CV) (hl : ks.length = vs.length) (hk : conf kt k = true) :
    (look kt z (insertK kt ks k) (insertV kt (insertK kt ks k) (insertV kt ks vs k u) k v) k').1 = if keyEq kt k' k = true then v else (look kt z ks vs k').1 := by
  cases hi : kIdx kt k ks with
  | some i =>
    have hlt := kIdx_lt hi
    have e1 : insertK kt ks k = ks := by simp [insertK, hi]
    have e2 : insertV kt ks (insertV kt ks vs k u) k v = vs.set i v := by simp [insertV, hi]
    rw [e1, e2]
    by_cases hkk : k' = k
    · subst hkk
      simp [keyEq_refl hk, look, hi, List.getD_eq_getElem?_getD, hl ▸ hlt]
    · have hne : keyEq kt k' k = false := by
        cases he : keyEq kt k' k with
        | false => rfl
        | true => exact (hkk (keyEq_eq he)).elim
      rw [hne]
      simp only [Bool.false_eq_true, if_false]
      simp only [look]
      cases hj : kIdx kt k' ks with
      | none => rfl
      | some j =>
        have : i ≠ j := by
          intro e
          subst e
          have h1 := kIdx_some hi
          rw [kIdx_some hj] at h1
          exact hkk (Option.some.inj h1)
        simp [List.getD_eq_getElem?_getD, List.getElem?_set_ne this]
  | none =>
    have e1 : insertK kt ks k = ks ++ [k] := by simp [insertK, hi]
    have e2 : insertV kt ks vs k u = vs ++ [u] := by simp [insertV, hi]
    have e3 : insertV kt (ks ++ [k]) (vs ++ [u]) k v = vs ++ [v] := by
      simp only [insertV, kIdx_snoc, hi, keyEq_refl hk, if_true, hl]
      simp
    rw [e1, e2, e3]
    simp only [look, kIdx_snoc]
    cases hj : kIdx kt k' ks with
    | some j =>
      have hjl := kIdx_lt hj
      have : k' ≠ k := by
        intro e
        subst e
        rw [hi] at hj
        cases hj
      have hne : keyEq kt k' k = false := by
        cases he : keyEq kt k' k with
        | false => rfl
        | true => exact (this (keyEq_eq he)).elim
      simp [hne, List.getD_eq_getElem?_getD, List.getElem?_append_left (by omega : j < vs.length)]
    | none =>
      by_cases hkk : k' = k
      · subst hkk
        simp [keyEq_refl hk, List.getD_eq_getElem?_getD, hl]
      · have : keyEq kt k' k = false := by
          cases he : keyEq kt k' k with
          | false => rfl
          | true => exact (hkk (keyEq_eq he)).elim
        simp [this]

/-- A fact that simp's star does not see. -/
def Hide (p : Prop) : Prop := p
theorem Hide.out {p : Prop} (h : Hide p) : p := h

/-- Records of three whole numbers. -/
abbrev Ent := Int × Int × Int
def encE (e : Ent) : CV := .agg [.int .i64 e.1, .int .i64 e.2.1, .int .i64 e.2.2]
def encW (w : Int) : CV := .agg [.int .i64 w]
def decE : CV → Option Ent
  | .agg [.int .i64 a, .int .i64 b, .int .i64 c] => some (a, b, c)
  | _ => none
theorem decE_enc (e : Ent) : decE (encE e) = some e := rfl
theorem decE_some {c : CV} {e : Ent} (h : decE c = some e) : c = encE e := by
  unfold decE at h
  split at h
  · cases h; rfl
  · cases h
theorem decL_some : ∀ {cs : List CV} {es : List Ent}, allM decE cs = some es → cs = es.map encE
  | [], es, h => by simp only [allM, Option.some.injEq] at h; subst h; rfl
  | c :: cs, es, h => by
    simp only [allM, Option.bind_eq_some_iff, Option.map_eq_some_iff] at h
    obtain ⟨e, he, es', hes, rfl⟩ := h
    rw [decE_some he, decL_some hes]; rfl
theorem decL_enc : ∀ (es : List Ent), allM decE (es.map encE) = some es
  | [] => rfl
  | e :: es => by simp [allM, decE_enc, decL_enc es]
theorem w64 (n : Int) (h : -9223372036854775808 ≤ n ∧ n ≤ 9223372036854775807) : IntKind.i64.wrap n = n := Go.IntWalk.i64_in n h
end WB
