/-
  THE SHEET's ENVIRONMENT: what the functions below the laws come to.
-/
import Derived.Test.YtpkoilfecgmogaaSheetP
namespace WB
open Go Go.RowKit Go.Proofs
set_option linter.unusedSimpArgs false

def F25 : List CV → Option Res
  | [.int .i64 d] => some (.val (.bool (isDay d)))
  | _ => none
def F23 : List CV → Option Res
  | [.int .i64 d] => some (.val (.int .i64 (weekday d)))
  | _ => none
def F17 : List CV → Option Res
  | [.sl _ cs, .agg [.int .i64 a, .int .i64 b]] => (allM decE cs).map fun es => .val (.int .i64 (wrong es a b))
  | _ => none
def F19 : List CV → Option Res
  | [x, y] => (decE x).bind fun x => (decE y).map fun y => .val (encE (addE x y))
  | _ => none
def F18 : List CV → Option Res
  | [.sl _ cs, .agg [.int .i64 a, .int .i64 b]] => (allM decE cs).bind fun es => if wrong es a b = 0 then some (.val (.tup [.sl (nl1 es) ((eachL a b (fun _ => 0) es).map fun p => encE p.1), .sl (nl1 es) ((eachL a b (fun _ => 0) es).map fun p => encW p.2)])) else none
  | _ => none
def F10 : List CV → Option Res
  | [.sl _ cs, .agg [.int .i64 a, .int .i64 b], .agg [.int .i64 f, .int .i64 t]] => (allM decE cs).map fun es => .val (.tup [encE (sumE es a b f t), .int .i64 (wrong es a b)])
  | _ => none
def F11 : List CV → Option Res
  | [.sl _ cs, .agg [.int .i64 a, .int .i64 b]] => (allM decE cs).map fun es => .new (.arr 30 3 ((weeksF es a b).map encE))
  | _ => none
def F9 : List CV → Option Res
  | [] => some (.val (.bool true))
  | _ => none
def addF (E : Env) (f : FuncId) (F : List CV → Option Res) : Env := { E with fn := fun g l => if g = f then F l else E.fn g l }
theorem addF_same (E : Env) (f : FuncId) (F : List CV → Option Res) (l : List CV) : (addF E f F).fn f l = F l := by simp [addF]
theorem addF_ne (E : Env) {f g : FuncId} (F : List CV → Option Res) (l : List CV) (h : g ≠ f) : (addF E f F).fn g l = E.fn g l := by simp [addF, h]

def e0 : Env := { G := fun _ => [], fn := fun _ _ => none }
def e1 : Env := addF e0 25 F25
def e2 : Env := addF e1 23 F23
def e3 : Env := addF e2 17 F17
def e4 : Env := addF e3 19 F19
def e5 : Env := addF e4 18 F18
def e6 : Env := addF e5 10 F10
def e7 : Env := addF e6 11 F11
def e8 : Env := addF e7 9 F9

theorem h25 (d : Int) : e1.fn 25 [.int .i64 d] = some (.val (.bool (isDay d))) := rfl
theorem h23 (d : Int) : e2.fn 23 [.int .i64 d] = some (.val (.int .i64 (weekday d))) := rfl
theorem h17 (nl : Option Bool) (es : List Ent) (a b : Int) : e3.fn 17 [.sl nl (es.map encE), .agg [.int .i64 a, .int .i64 b]] = some (.val (.int .i64 (wrong es a b))) := (addF_same _ _ _ _).trans (by simp [F17, decL_enc])
theorem h19 (a b c a' b' c' : Int) : e4.fn 19 [.agg [.int .i64 a, .int .i64 b, .int .i64 c], .agg [.int .i64 a', .int .i64 b', .int .i64 c']] = some (.val (encE (addE (a, b, c) (a', b', c')))) := rfl
theorem h18 (nl : Option Bool) (es : List Ent) (a b : Int) (hw : wrong es a b = 0) : e5.fn 18 [.sl nl (es.map encE), .agg [.int .i64 a, .int .i64 b]] = some (.val (.tup [.sl (nl1 es) ((eachL a b (fun _ => 0) es).map fun p => encE p.1), .sl (nl1 es) ((eachL a b (fun _ => 0) es).map fun p => encW p.2)])) := (addF_same _ _ _ _).trans (by simp [F18, decL_enc, hw])
theorem h10 (nl : Option Bool) (es : List Ent) (a b f t : Int) : e6.fn 10 [.sl nl (es.map encE), .agg [.int .i64 a, .int .i64 b], .agg [.int .i64 f, .int .i64 t]] = some (.val (.tup [encE (sumE es a b f t), .int .i64 (wrong es a b)])) := (addF_same _ _ _ _).trans (by simp [F10, decL_enc])
theorem h11 (nl : Option Bool) (es : List Ent) (a b : Int) : e7.fn 11 [.sl nl (es.map encE), .agg [.int .i64 a, .int .i64 b]] = some (.new (.arr 30 3 ((weeksF es a b).map encE))) := (addF_same _ _ _ _).trans (by simp [F11, decL_enc])

theorem ok1 : EOk Try.prog e1 := (EOk.nil fun _ => []).addR c25 fun l r h => by
  unfold F25 at h
  split at h
  · cases h; exact ⟨Nat.le_of_ble_eq_true rfl, w25 _⟩
  · cases h
theorem ok2 : EOk Try.prog e2 := ok1.addR c23 fun l r h => by
  unfold F23 at h
  split at h
  · cases h; exact ⟨Nat.le_of_ble_eq_true rfl, w23 h25 _⟩
  · cases h
theorem ok3 : EOk Try.prog e3 := ok2.addR c17 fun l r h => by
  unfold F17 at h
  split at h
  · rw [Option.map_eq_some_iff] at h
    obtain ⟨es, hd, rfl⟩ := h
    rw [decL_some hd]
    exact ⟨Nat.le_of_ble_eq_true rfl, w17 h23 _ _ _ _⟩
  · cases h
theorem ok4 : EOk Try.prog e4 := ok3.addR c19 fun l r h => by
  unfold F19 at h
  split at h
  · simp only [Option.bind_eq_some_iff, Option.map_eq_some_iff] at h
    obtain ⟨x, hx, y, hy, rfl⟩ := h
    rw [decE_some hx, decE_some hy]
    exact ⟨Nat.le_of_ble_eq_true rfl, w19 _ _⟩
  · cases h
theorem ok5 : EOk Try.prog e5 := ok4.addR c18 fun l r h => by
  unfold F18 at h
  split at h
  · simp only [Option.bind_eq_some_iff, Option.ite_none_right_eq_some, Option.some.injEq] at h
    obtain ⟨es, hd, hw, rfl⟩ := h
    rw [decL_some hd]
    obtain ⟨g1, g2, g3, g4⟩ := wrong_ok hw
    exact ⟨Nat.le_of_ble_eq_true rfl, w18 (E := e4) (fun d => h23 d) _ _ _ _ g1 g2 g3 g4⟩
  · cases h
theorem ok6 : EOk Try.prog e6 := ok5.addR c10 fun l r h => by
  unfold F10 at h
  split at h
  · rw [Option.map_eq_some_iff] at h
    obtain ⟨es, hd, rfl⟩ := h
    rw [decL_some hd]
    exact ⟨Nat.le_of_ble_eq_true rfl, w10 (E := e5) (fun nl es a b => h17 nl es a b) (fun nl es a b hw => h18 nl es a b hw) (fun a b c a' b' c' => h19 a b c a' b' c') _ _ _ _ _ _⟩
  · cases h
theorem ok7 : EOk Try.prog e7 := ok6.addR c11 fun l r h => by
  unfold F11 at h
  split at h
  · rw [Option.map_eq_some_iff] at h
    obtain ⟨es, hd, rfl⟩ := h
    rw [decL_some hd]
    exact ⟨Nat.le_of_ble_eq_true rfl, w11 (E := e6) (fun nl es a b => h17 nl es a b) (fun nl es a b hw => h18 nl es a b hw) (fun a b c a' b' c' => h19 a b c a' b' c') _ _ _ _⟩
  · cases h
theorem ok8 : EOk Try.prog e8 := ok7.addR c9 fun l r h => by
  unfold F9 at h
  split at h
  · cases h
    exact ⟨Nat.le_of_ble_eq_true rfl, w9 (E := e7) (fun nl es a b f t => h10 nl es a b f t) (fun nl es a b => h11 nl es a b)⟩
  · cases h
end WB
