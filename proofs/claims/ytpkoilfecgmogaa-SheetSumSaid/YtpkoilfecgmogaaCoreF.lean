/-
  THE OWN LAYER, F: operations that yield a value, one by one.
-/
import Derived.Test.YtpkoilfecgmogaaCoreE
import Derived.Lib.Strings
namespace WB
open Go Go.RowKit

section
variable {P : Program} {w : World} {M : Nat → Prop}

theorem rel_int {k : IntKind} {n : Int} : RelC w M (.int k n) (.int k n) := by unfold RelC; rfl
theorem rel_bool {b : Bool} : RelC w M (.bool b) (.bool b) := by unfold RelC; rfl
theorem rel_str {s : List UInt8} : RelC w M (.str s) (.string ⟨⟨s⟩⟩) := by unfold RelC; rfl
theorem of_int {k : IntKind} {n : Int} {v : Value} (h : RelC w M (.int k n) v) : v = .int k n := by unfold RelC at h; exact h
theorem of_bool {b : Bool} {v : Value} (h : RelC w M (.bool b) v) : v = .bool b := by unfold RelC at h; exact h
theorem of_str {s : List UInt8} {v : Value} (h : RelC w M (.str s) v) : v = .string ⟨⟨s⟩⟩ := by unfold RelC at h; exact h

theorem run_binI {op : BinOp} {t : TypeId} {k : IntKind} {a b : Int} {c : CV} (h : binI op k a b = some c) :
    ∃ v, (binOp op t (.int k a) (.int k b)).run P w = .ok v w ∧ RelC w M c v := by
  cases op <;> simp only [binI, bitsI, cmpB, Option.map_some, Option.some.injEq, reduceCtorEq, Option.ite_none_left_eq_some] at h
  all_goals first
    | (obtain ⟨hb, rfl⟩ := h; simp only [binOp, Op.intDiv, ne_eq, not_true_eq_false, if_false, if_neg hb]; exact ⟨_, rfl, rel_int⟩)
    | (subst h; simp only [binOp, Op.intArith, Op.intCmp, Op.intBits, ne_eq, not_true_eq_false, if_false]; first | exact ⟨_, rfl, rel_int⟩ | exact ⟨_, rfl, rel_bool⟩)

theorem run_binS {op : BinOp} {t : TypeId} {a b : List UInt8} {c : CV} (h : binS op a b = some c) :
    ∃ v, (binOp op t (.string ⟨⟨a⟩⟩) (.string ⟨⟨b⟩⟩)).run P w = .ok v w ∧ RelC w M c v := by
  have e1 : (⟨⟨a⟩⟩ : ByteArray).toList = a := ByteArray.toList_mk a
  have e2 : (⟨⟨b⟩⟩ : ByteArray).toList = b := ByteArray.toList_mk b
  cases op <;> simp only [binS, Option.some.injEq, reduceCtorEq, Option.ite_none_right_eq_some] at h
  case add =>
    obtain ⟨hle, rfl⟩ := h
    have hs : ¬ (((⟨⟨a⟩⟩ : ByteArray).size + (⟨⟨b⟩⟩ : ByteArray).size : Nat) : Int) > IntKind.i64.max := by
      show ¬ ((a.length + b.length : Nat) : Int) > 9223372036854775807
      omega
    refine ⟨.string (⟨⟨a⟩⟩ ++ ⟨⟨b⟩⟩), by simp only [binOp, Op.stringOp, if_neg hs, Sem.run_pure], ?_⟩
    unfold RelC
    rw [ByteArray.mk_append_mk]
  all_goals
    subst h
    simp only [binOp, Op.stringOp, e1, e2, sLess]
    exact ⟨_, rfl, rel_bool⟩

theorem run_bin {op : BinOp} {t : TypeId} {x y c : CV} {vx vy : Value} (hx : RelC w M x vx) (hy : RelC w M y vy) (h : binC op x y = some c) :
    ∃ v, (binOp op t vx vy).run P w = .ok v w ∧ RelC w M c v := by
  cases x <;> try (simp only [binC, reduceCtorEq] at h; done)
  case int k a =>
    cases y <;> try (simp only [binC, reduceCtorEq] at h; done)
    case int k' b =>
      have := of_int hx; subst this
      have := of_int hy; subst this
      by_cases hs : op = .shl ∨ op = .shr
      · rcases hs with rfl | rfl
        all_goals
          simp only [binC, Option.ite_none_left_eq_some] at h
          obtain ⟨hb, h⟩ := h
          simp only [Option.some.injEq] at h
          subst h
          simp only [binOp, Op.shift, if_neg hb]
          exact ⟨_, rfl, rel_int⟩
      · have h' : (if k = k' then binI op k a b else none) = some c := by
          cases op <;> first | exact h | (exact absurd (.inl rfl) hs) | (exact absurd (.inr rfl) hs)
        split at h'
        · rename_i hk
          subst hk
          exact run_binI h'
        · cases h'
  case str a =>
    cases y <;> try (simp only [binC, reduceCtorEq] at h; done)
    case str b =>
      have := of_str hx; subst this
      have := of_str hy; subst this
      exact run_binS h

theorem run_un {op : UnOp} {x c : CV} {vx : Value} (hx : RelC w M x vx) (h : unC op x = some c) : ∃ v, (Op.unary op vx).run P w = .ok v w ∧ RelC w M c v := by
  cases x <;> try (simp only [unC, reduceCtorEq] at h; done)
  case int k n =>
    have := of_int hx; subst this
    cases op <;> simp only [unC, bitsI, Option.map_some, Option.some.injEq, reduceCtorEq] at h
    all_goals
      subst h
      simp only [Op.unary, Op.intArith, Op.intBits]
      exact ⟨_, rfl, rel_int⟩
  case bool b =>
    have := of_bool hx; subst this
    cases op <;> simp only [unC, Option.some.injEq, reduceCtorEq] at h
    all_goals
      subst h
      simp only [Op.unary]
      exact ⟨_, rfl, rel_bool⟩

theorem run_beq {t : TypeId} (hu : P.underlying t = some .bool) (a b : Bool) :
    (binOp .eql t (.bool a) (.bool b)).run P w = .ok (.bool (a == b)) w ∧ (binOp .neq t (.bool a) (.bool b)).run P w = .ok (.bool (!(a == b))) w := by
  have h : ∀ d : Nat, (Op.equalIn (d + 1) t (.bool a) (.bool b)).run P w = .ok (a == b) w := fun d => run_equalIn_bool' w d t a b hu
  have h' := h 9999
  constructor <;> (simp only [binOp]; simp [Op.equal, Op.maxDepth, h'])

theorem run_eq1 {kt : KT} {t : TypeId} (hk : ktOf1 P t = some kt) {x y : CV} {vx vy : Value} (hx : RelC w M x vx) (hy : RelC w M y vy) {r : Bool} (h : eq1 kt x y = some r) (d : Nat) :
    (Op.equalIn (d + 1) t vx vy).run P w = .ok r w := by
  unfold ktOf1 at hk
  split at hk <;> simp only [Option.some.injEq, reduceCtorEq] at hk <;> subst hk <;> rename_i hu
  · cases x <;> try (simp only [eq1, reduceCtorEq] at h; done)
    cases y <;> try (simp only [eq1, reduceCtorEq] at h; done)
    have := of_int hx; subst this
    have := of_int hy; subst this
    simp only [eq1, Option.ite_none_right_eq_some] at h
    obtain ⟨rfl, h⟩ := h
    simp only [Option.some.injEq] at h
    subst h
    exact run_equalIn_int w d t _ _ _ _ hu
  · cases x <;> try (simp only [eq1, reduceCtorEq] at h; done)
    cases y <;> try (simp only [eq1, reduceCtorEq] at h; done)
    have := of_str hx; subst this
    have := of_str hy; subst this
    simp only [eq1, Option.some.injEq] at h
    subst h
    rw [run_equalIn_string w d t _ _ hu]
    simp
  · cases x <;> try (simp only [eq1, reduceCtorEq] at h; done)
    cases y <;> try (simp only [eq1, reduceCtorEq] at h; done)
    have := of_bool hx; subst this
    have := of_bool hy; subst this
    simp only [eq1, Option.some.injEq] at h
    subst h
    exact run_equalIn_bool' w d t _ _ hu

theorem ktOf1_part {t : TypeId} {kt : KT} (hk : ktOf1 P t = some kt) {xs : List Value} {i : Nat} {v : Value} (h : xs[i]? = some v) : (part t ⟨xs⟩ i).run P w = .ok v w := by
  have ha : (isAgg t).run P w = .ok false w := by
    unfold ktOf1 at hk
    split at hk <;> first | (rename_i hu; simp [isAgg, run_underlying hu]; done) | cases hk
  simp [part, ha, h]

theorem run_eqFields (d : Nat) : ∀ (fs : List Field) (i : Nat) (ts : List KT) (as bs : List CV) (xs ys : List Value) (r : Bool), ktFields P i fs = some ts → eqL ts as bs = some r →
    RelL w M as (xs.drop i) → RelL w M bs (ys.drop i) → (Op.eqFields (d + 1) ⟨xs⟩ ⟨ys⟩ fs).run P w = .ok r w
  | [], i, ts, as, bs, xs, ys, r, hk, hr, ha, hb => by
    simp only [ktFields, Option.some.injEq] at hk; subst hk
    cases as <;> cases bs <;> simp only [eqL, reduceCtorEq, Option.some.injEq] at hr
    subst hr
    rfl
  | f :: fs, i, ts, as, bs, xs, ys, r, hk, hr, ha, hb => by
    simp only [ktFields, Option.ite_none_right_eq_some, Option.bind_eq_some_iff, Option.map_eq_some_iff] at hk
    obtain ⟨⟨hoff, hname⟩, k, hk1, ks, hks, rfl⟩ := hk
    cases as with
    | nil => simp only [eqL, reduceCtorEq] at hr
    | cons a as =>
      cases bs with
      | nil => simp only [eqL, reduceCtorEq] at hr
      | cons b bs =>
        simp only [eqL, Option.bind_eq_some_iff, Option.map_eq_some_iff] at hr
        obtain ⟨x, hx, y, hy, rfl⟩ := hr
        unfold RelL at ha hb
        obtain ⟨va, as', ea, ha1, ha2⟩ := ha
        obtain ⟨vb, bs', eb, hb1, hb2⟩ := hb
        have ga : xs[i]? = some va := by have := congrArg (·[0]?) ea; simpa using this
        have gb : ys[i]? = some vb := by have := congrArg (·[0]?) eb; simpa using this
        have da : xs.drop (i + 1) = as' := by have := congrArg (List.drop 1) ea; simpa [List.drop_drop] using this
        have db : ys.drop (i + 1) = bs' := by have := congrArg (List.drop 1) eb; simpa [List.drop_drop] using this
        rw [← da] at ha2
        rw [← db] at hb2
        subst hoff
        have ih := run_eqFields d fs (f.offset + 1) ks as bs xs ys y hks hy ha2 hb2
        simp only [Op.eqFields, if_pos hname, Sem.run_bind, ktOf1_part hk1 ga, ktOf1_part hk1 gb, Result.andThen_ok, run_eq1 hk1 ha1 hb1 hx d]
        cases x
        · simp
        · simpa using ih

theorem run_eqs {t : TypeId} {fs : Array Field} (hu : P.underlying t = some (.struct fs)) (hp : P.stoodInHeld t = false) {ts : List KT} (hk : ktFields P 0 fs.toList = some ts) {x y : CV} {vx vy : Value}
    (hx : RelC w M x vx) (hy : RelC w M y vy) {r : Bool} (h : eqA ts x y = some r) :
    (∃ xs, vx = .agg xs) ∧ (∃ ys, vy = .agg ys) ∧ (∀ d, (Op.equalIn (d + 2) t vx vy).run P w = .ok r w) := by
  cases x <;> try (simp only [eqA, reduceCtorEq] at h; done)
  cases y <;> try (simp only [eqA, reduceCtorEq] at h; done)
  unfold RelC at hx hy
  obtain ⟨xs, rfl, hx⟩ := hx
  obtain ⟨ys, rfl, hy⟩ := hy
  refine ⟨⟨_, rfl⟩, ⟨_, rfl⟩, fun d => ?_⟩
  have hf : P.fieldsOf t = fs := by simp [Program.fieldsOf, hu]
  rw [run_equalIn_struct w (d + 1) t _ _ (by rw [hf]; exact hu) hp, hf]
  exact run_eqFields d fs.toList 0 ts _ _ xs ys r hk h hx hy
end
end WB
