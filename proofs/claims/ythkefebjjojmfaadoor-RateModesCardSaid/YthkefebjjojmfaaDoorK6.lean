/-
  OWN TEXTS, MERGED (wip/merge.py): PrL, PrM, PrO, RShelf, RateT, RateW, RateV. No condition of their own.
-/
import Derived.Test.YthkefebjjojmfaaDoorK5
import Derived.Shelf.Strings.Trim
import Derived.Shelf.Small.Utf8
import Derived.Shelf.Small.Strs
import Derived.Shelf.Small.Wraps
import Derived.Shelf.Strconv.Itoa0
import Derived.Shelf.Strconv.Itoa1
import Derived.Shelf.LaysM
import Derived.Shelf.Strconv.Itoa2
import Derived.Shelf.Strconv.Itoa3
import Derived.Shelf.Strconv.Itoa4
import Derived.Shelf.Strings.Search1
import Derived.Shelf.Strings.Search2
import Derived.Shelf.Strings.Cut
import Derived.Shelf.Strings.Shaped
import Derived.Shelf.Strings.Prefix
import Derived.Shelf.Strings.Runes
import Derived.Shelf.Strings.AsciiSet
import Derived.Shelf.Bits.Mul64
import Derived.Shelf.Unicode.DecodeSlow
import Derived.Test.YthkefebjjojmfaaDoorProg
import Derived.KernelRfl
import Derived.Test.YthkefebjjojmfaaDoorK4
import Derived.Test.YthkefebjjojmfaaDoorRows
import Derived.Deep.DeepHandedRow
set_option linter.unusedVariables false
set_option linter.unusedSimpArgs false
namespace WB
open Go Go.RowKit
set_option linter.unusedSimpArgs false

theorem div_bd {d k : Nat} (hd : 0 < d) {v : Int} (h1 : -((k : Int) * d) < d * v) (h2 : d * v < (k : Int) * d) : -(k : Int) < v ∧ v < k := by
  constructor
  · apply Int.lt_of_mul_lt_mul_left (a := (d : Int)) _ (by omega)
    rw [Int.mul_neg, Int.mul_comm (d : Int) k]
    exact h1
  · apply Int.lt_of_mul_lt_mul_left (a := (d : Int)) _ (by omega)
    rw [Int.mul_comm (d : Int) k]
    exact h2
theorem iter_inl {S T : Type} {b : S → Option (S ⊕ T)} {s s' : S} (h : b s = some (.inl s')) : iter b s = iter b s' := by rw [iter_eq, h]; rfl
theorem iter_inr {S T : Type} {b : S → Option (S ⊕ T)} {s : S} {t : T} (h : b s = some (.inr t)) : iter b s = some t := by rw [iter_eq, h]; rfl
theorem law_RateSums (ha : law02_awake () = some true) {c e num den : Int} (c1 : -9223372036854775808 ≤ c) (c2 : c ≤ 9223372036854775807) (e1 : -9223372036854775808 ≤ e) (e2 : e ≤ 9223372036854775807) (n1 : -9223372036854775808 ≤ num) (n2 : num ≤ 9223372036854775807) (hd : den ≤ 9223372036854775807) : law02_RateSums (c, e, num, den) = some true := by
  unfold law02_RateSums
  dsimp only
  rw [ha, bs, if_neg (by decide)]
  -- one mode
  have step : ∀ (k : Nat) (md : Int), ([1, 4] : List Int)[k]? = some md → law02_RateSums_loop1 (c, e, num, den, 2, (k : Int), [1, 4], (), ()) = some (.inl (c, e, num, den, 2, (k : Int) + 1, [1, 4], (), ())) ∨ law02_RateSums_loop1 (c, e, num, den, 2, (k : Int), [1, 4], (), ()) = some (.inr (.inr true)) := by
    intro k md hmd
    have hk : k < 2 := (List.getElem?_eq_some_iff.1 hmd).1
    have hm : md = 1 ∨ md = 4 := by
      have := List.mem_of_getElem? hmd
      simpa using this
    unfold law02_RateSums_loop1
    dsimp only
    rw [if_pos (decide_eq_true (by omega)), show ((([1, 4] : List Int).length : Nat) : Int) = ((2 : Nat) : Int) from rfl, idxI (show k < 2 from hk), bs, hmd, ms, bs, Fits_eq, bs, orK _ _ _ _ (fun _ => Fits_eq e)]
    have w0 : IntKind.i64.wrap ((k : Int) + 1) = (k : Int) + 1 := w64' (by omega) (by omega)
    by_cases h : (-1125899906842624 ≤ c ∧ c ≤ 1125899906842624) ∧ (-1125899906842624 ≤ e ∧ e ≤ 1125899906842624)
    · rw [decide_eq_true h.1, decide_eq_true h.2, if_neg (by decide), w64' (n := c + e) (by omega) (by omega)]
      left
      have ok : ∀ (y : Int × Int × Int × Int × Int × Int × List Int × Unit × Unit), (show Option ((Int × Int × Int × Int × Int × Int × List Int × Unit × Unit) ⊕ Bool) from some (Sum.inl y)) = some (Sum.inl y) := fun _ => rfl
      rcases part_cases (c := c) (num := num) (den := den) (mode := md) c1 c2 n1 n2 hd with ⟨f, hf, p1⟩ | ⟨d, hd1, hd0, _, _, hr1, p1⟩
      · have t1 : (f != 0) = true := by simpa using hf
        rcases part_cases (c := e) (num := num) (den := den) (mode := md) e1 e2 n1 n2 hd with ⟨f2, hf2, p2⟩ | ⟨d2, _, _, _, _, _, p2⟩ <;>
        rcases part_cases (c := c + e) (num := num) (den := den) (mode := md) (by omega) (by omega) n1 n2 hd with ⟨f3, hf3, p3⟩ | ⟨d3, _, _, _, _, _, p3⟩ <;>
        · rw [p1, bs, p2, bs, p3, bs]
          simp only [w0, t1, if_true, Bool.true_eq_false, if_false, bs]
      subst hd1
      rw [p1, bs]
      have z : ((0 : Int) != 0) = false := rfl
      rcases part_cases (c := e) (num := num) (den := (d : Int)) (mode := md) e1 e2 n1 n2 hd with ⟨f, hf, p2⟩ | ⟨d2, hdd, _, _, _, hr2, p2⟩
      · have t1 : (f != 0) = true := by simpa using hf
        rcases part_cases (c := c + e) (num := num) (den := (d : Int)) (mode := md) (by omega) (by omega) n1 n2 hd with ⟨f3, hf3, p3⟩ | ⟨d3, _, _, _, _, _, p3⟩ <;>
        · rw [p2, bs, p3, bs]
          simp only [w0, z, t1, if_true, Bool.true_eq_false, Bool.false_eq_true, if_false, bs, ms]
      have hdd' : d2 = d := by omega
      subst hdd'
      rw [p2, bs]
      rcases part_cases (c := c + e) (num := num) (den := (d2 : Int)) (mode := md) (by omega) (by omega) n1 n2 hd with ⟨f, hf, p3⟩ | ⟨d3, hdd, _, _, _, hr3, p3⟩
      · have t1 : (f != 0) = true := by simpa using hf
        rw [p3, bs]
        simp only [w0, z, t1, if_true, Bool.true_eq_false, Bool.false_eq_true, if_false, bs, ms]
      have hdd' : d3 = d2 := by omega
      subst hdd'
      rw [p3, bs]
      dsimp only
      have key : -1 ≤ rnd md d3 ((c + e) * num) - rnd md d3 (c * num) - rnd md d3 (e * num) ∧ rnd md d3 ((c + e) * num) - rnd md d3 (c * num) - rnd md d3 (e * num) ≤ 1 ∧ (md = 4 → 0 ≤ rnd md d3 ((c + e) * num) - rnd md d3 (c * num) - rnd md d3 (e * num)) := by
        have ex : (d3 : Int) * (rnd md d3 ((c + e) * num) - rnd md d3 (c * num) - rnd md d3 (e * num)) = d3 * rnd md d3 ((c + e) * num) - d3 * rnd md d3 (c * num) - d3 * rnd md d3 (e * num) := by rw [Int.mul_sub, Int.mul_sub]
        have es : (c + e) * num = c * num + e * num := Int.add_mul _ _ _
        rcases hm with rfl | rfl
        · have a1 := rnd_half hd0 (c * num)
          have a2 := rnd_half hd0 (e * num)
          have a3 := rnd_half hd0 ((c + e) * num)
          rw [es] at a3
          rw [es] at ex ⊢
          generalize rnd 1 d3 (c * num + e * num) - rnd 1 d3 (c * num) - rnd 1 d3 (e * num) = v at *
          generalize (d3 : Int) * rnd 1 d3 (c * num + e * num) = y3 at *
          generalize (d3 : Int) * rnd 1 d3 (c * num) = y1 at *
          generalize (d3 : Int) * rnd 1 d3 (e * num) = y2 at *
          have := div_bd (k := 2) hd0 (v := v) (by omega) (by omega)
          refine ⟨by omega, by omega, fun h => absurd h (by decide)⟩
        · have a1 := rnd_floor hd0 (c * num)
          have a2 := rnd_floor hd0 (e * num)
          have a3 := rnd_floor hd0 ((c + e) * num)
          rw [es] at a3
          rw [es] at ex ⊢
          generalize rnd 4 d3 (c * num + e * num) - rnd 4 d3 (c * num) - rnd 4 d3 (e * num) = v at *
          generalize (d3 : Int) * rnd 4 d3 (c * num + e * num) = y3 at *
          generalize (d3 : Int) * rnd 4 d3 (c * num) = y1 at *
          generalize (d3 : Int) * rnd 4 d3 (e * num) = y2 at *
          have b1 := div_bd (k := 2) hd0 (v := v) (by omega) (by omega)
          have b2 : 0 ≤ v := by
            apply Int.not_lt.1
            intro h
            have : v = -1 := by omega
            subst this
            rw [Int.mul_neg, Int.mul_one] at ex
            omega
          exact ⟨by omega, by omega, fun _ => b2⟩
      generalize rnd md d3 ((c + e) * num) = v3 at *
      generalize rnd md d3 (c * num) = v1 at *
      generalize rnd md d3 (e * num) = v2 at *
      have w1 : IntKind.i64.wrap (v3 - v1) = v3 - v1 := w64' (by omega) (by omega)
      have w2 : IntKind.i64.wrap (v3 - v1 - v2) = v3 - v1 - v2 := w64' (by omega) (by omega)
      have t1 : decide (v3 - v1 - v2 > 1) = false := decide_eq_false (by omega)
      have t2 : decide (v3 - v1 - v2 < -1) = false := decide_eq_false (by omega)
      simp only [z, w1, w2, t1, t2, if_true, Bool.true_eq_false, Bool.false_eq_true, if_false, bs, ms]
      by_cases h4 : md = 4
      · have t3 : (md == 4) = true := by simpa using h4
        have t4 : decide (v3 - v1 - v2 < 0) = false := decide_eq_false (by have := key.2.2 h4; omega)
        simp only [w0, t3, t4, if_true, Bool.false_eq_true, if_false, bs, ms]
      · have t3 : (md == 4) = false := by simpa using h4
        simp only [w0, t3, Option.some.injEq, Bool.false_eq_true, if_false, bs, ms]
    · rw [if_pos (by rw [← Bool.decide_and, decide_eq_false h]; rfl)]
      exact .inr rfl
  have fin : iter law02_RateSums_loop1 (c, e, num, den, 2, 0, [1, 4], (), ()) = some (.inl ()) ∨ iter law02_RateSums_loop1 (c, e, num, den, 2, 0, [1, 4], (), ()) = some (.inr true) := by
    rcases step 0 1 rfl with h | h
    · rw [show ((0 : Nat) : Int) = 0 from rfl] at h
      rw [iter_inl h]
      rcases step 1 4 rfl with h | h
      · rw [show ((1 : Nat) : Int) = 0 + 1 from rfl] at h
        rw [iter_inl h, iter_eq]
        exact .inl rfl
      · rw [show ((1 : Nat) : Int) = 0 + 1 from rfl] at h
        exact .inr (iter_inr h)
    · rw [show ((0 : Nat) : Int) = 0 from rfl] at h
      exact .inr (iter_inr h)
  rw [show ((([1, 4] : List Int).length : Nat) : Int) = 2 from rfl]
  rcases fin with h | h
  · rw [h]; rfl
  · rw [h]; rfl
/-- The chain of what is asked ahead: each but the first one only if none was true. -/
theorem orT {β : Type} (a b : Bool) (F : Bool → Option β) : (Option.bind (if a then some true else (if a = false then some b else none).map (fun z => z)) F) = F (a || b) := by cases a <;> rfl
theorem law_RateExact (ha : law02_awake () = some true) {c num den many mode : Int} (c1 : -9223372036854775808 ≤ c) (c2 : c ≤ 9223372036854775807) (n1 : -2147483648 ≤ num) (n2 : num ≤ 2147483647) (hd1 : -2147483648 ≤ den) (hd2 : den ≤ 2147483647) (k1 : 0 ≤ many) (k2 : many ≤ 65535) (m1 : 0 ≤ mode) (m2 : mode ≤ 255) : law02_RateExact (c, num, den, many, mode) = some true := by
  unfold law02_RateExact
  dsimp only
  rw [ha, bs, if_neg (by decide)]
  have w : (if (5 : Int) = 0 then none else some ((IntKind.i64.wrap mode).tmod 5)) = some (mode % 5) := by
    rw [if_neg (by decide), w64' (by omega) (by omega), Int.tmod_eq_emod_of_nonneg m1]
  rw [w, bs]
  by_cases g1 : den ≤ 0
  · simp only [decide_eq_true g1, if_true, bs, Bool.true_eq_false, if_false]
  by_cases g2 : -1125899906842624 ≤ c ∧ c ≤ 1125899906842624
  · have wd : IntKind.i64.wrap den = den := w64' (by omega) (by omega)
    have wn : IntKind.i64.wrap num = num := w64' (by omega) (by omega)
    have wk : IntKind.i64.wrap (IntKind.i64.wrap many + 1) = many + 1 := by rw [w64' (n := many) (by omega) (by omega), w64' (by omega) (by omega)]
    simp only [decide_eq_false g1, if_true, bs, ms, Bool.false_eq_true, if_false, Fits_eq, decide_eq_true g2, Bool.not_true, wd, wn, wk]
    have hm : 0 ≤ mode % 5 ∧ mode % 5 ≤ 4 := by omega
    generalize mode % 5 = m at *
    obtain ⟨d, rfl⟩ := Int.eq_ofNat_of_zero_le (show 0 ≤ den by omega)
    obtain ⟨k, hk⟩ : ∃ k : Nat, many + 1 = (k : Int) := ⟨(many + 1).toNat, by omega⟩
    rw [hk]
    have hk0 : 0 < k := by omega
    have hk1 : k ≤ 65536 := by omega
    have hd0 : 0 < d := by omega
    have b1 : -(2147483648 * 65536) ≤ num * (k : Int) ∧ num * (k : Int) ≤ 2147483648 * 65536 := by
      have : (num * (k : Int)).natAbs ≤ 2147483648 * 65536 := by rw [Int.natAbs_mul]; exact Nat.mul_le_mul (by omega) (by omega)
      omega
    have b2 : d * k ≤ 2147483648 * 65536 := Nat.mul_le_mul (by omega) (by omega)
    have wnk : IntKind.i64.wrap (num * (k : Int)) = num * (k : Int) := w64' (by omega) (by omega)
    have wdk : IntKind.i64.wrap ((d : Int) * (k : Int)) = ((d * k : Nat) : Int) := by rw [← Int.natCast_mul]; exact w64' (by omega) (by omega)
    have wkd : IntKind.i64.wrap ((k : Int) * (d : Int)) = ((d * k : Nat) : Int) := by rw [Int.mul_comm]; exact wdk
    have p1 : rate_Part (c, (d : Int), (d : Int), m) = some (c, 0) := by
      rw [rPart_eq (by omega) (by omega) (by omega) (by omega) (by omega), partS_ok g2 hd0 hm, rnd_exact hd0, if_neg (by omega)]
    have p2 : rate_Part (c, 0, (d : Int), m) = some (0, 0) := by
      rw [rPart_eq (by omega) (by omega) (by omega) (by omega) (by omega), partS_ok g2 hd0 hm, Int.mul_zero]
      have := rnd_exact (mode := m) hd0 0
      rw [Int.zero_mul] at this
      rw [this]; rfl
    have p3 : rate_Part (c, num, (d : Int), m) = rate_Part (c, num * (k : Int), ((d * k : Nat) : Int), m) := by
      rw [rPart_eq (by omega) (by omega) (by omega) (by omega) (by omega), rPart_eq (by omega) (by omega) (by omega) (by omega) (by omega), partS_ok g2 hd0 hm, partS_ok g2 (Nat.mul_pos hd0 hk0) hm, ← Int.mul_assoc, rnd_many hk0]
    have p4 : rate_Part (num, ((d * k : Nat) : Int), (d : Int), m) = some (num * (k : Int), 0) := by
      rw [rPart_eq (by omega) (by omega) (by omega) (by omega) (by omega), partS_ok ⟨by omega, by omega⟩ hd0 hm]
      have : num * ((d * k : Nat) : Int) = num * (k : Int) * (d : Int) := by rw [Int.natCast_mul, Int.mul_comm (d : Int), Int.mul_assoc]
      rw [this, rnd_exact hd0, if_neg (by omega)]
    obtain ⟨y, hy⟩ : ∃ y, rate_Part (c, num * (k : Int), ((d * k : Nat) : Int), m) = some y := ⟨_, rPart_eq (by omega) (by omega) (by omega) (by omega) (by omega)⟩
    have z : ((0 : Int) != 0) = false := rfl
    have zc : ∀ a : Int, (a != a) = false := fun a => by simp
    simp only [p1, p2, p3, wn, wnk, wdk, wkd, hy, p4, z, zc, bs, ms, if_true, Bool.false_eq_true, if_false, beq_self_eq_true]
  · simp only [decide_eq_false g1, if_true, bs, ms, Bool.false_eq_true, if_false, Fits_eq, decide_eq_false g2, Bool.not_false]
theorem near_key {n d q r : Nat} {V W c : Int} (hn0 : 0 < n) (a1 : -(d : Int) ≤ 2 * (d * V) - 2 * (c * n) ∧ 2 * (d * V) - 2 * (c * n) ≤ d) (a2 : -(n : Int) ≤ 2 * (n * W) - 2 * (V * d) ∧ 2 * (n * W) - 2 * (V * d) ≤ n) (e : n * q + r = d) (hr : r < n) : -((q : Int) + 2) ≤ W - c ∧ W - c ≤ (q : Int) + 2 := by
  have x1 : (n : Int) * (2 * (W - c)) = 2 * (n * W) - 2 * (c * n) := by rw [Int.mul_left_comm, Int.mul_sub, Int.mul_comm c, Int.mul_sub]
  have x2 : (d : Int) * V = V * d := Int.mul_comm _ _
  have x3 : ((q + 3 : Nat) : Int) * (n : Int) = ((n * q : Nat) : Int) + 3 * n := by rw [← Int.natCast_mul, Nat.add_mul, Nat.mul_comm q n]; omega
  rw [x2] at a1
  generalize (n : Int) * W = A at *
  generalize V * (d : Int) = B at *
  generalize c * (n : Int) = C at *
  generalize n * q = E at *
  have := div_bd (k := q + 3) hn0 (v := 2 * (W - c)) (by rw [x1, x3]; omega) (by rw [x1, x3]; omega)
  omega
theorem law_RateNear (ha : law02_awake () = some true) {c num den : Int} (n1 : -2147483648 ≤ num) (n2 : num ≤ 2147483647) (hd1 : -2147483648 ≤ den) (hd2 : den ≤ 2147483647) : law02_RateNear (c, num, den) = some true := by
  unfold law02_RateNear
  dsimp only
  rw [ha, bs, if_neg (by decide)]
  by_cases g1 : num ≤ 0
  · simp only [decide_eq_true g1, if_true, bs, ms, Bool.true_eq_false, if_false]
  by_cases g2 : den ≤ 0
  · simp only [decide_eq_false g1, decide_eq_true g2, if_true, bs, ms, Bool.true_eq_false, Bool.false_eq_true, if_false]
  by_cases g3 : num > 1073741824
  · simp only [decide_eq_false g1, decide_eq_false g2, decide_eq_true g3, if_true, bs, ms, Bool.true_eq_false, Bool.false_eq_true, if_false]
  by_cases g4 : den > 1073741824
  · simp only [decide_eq_false g1, decide_eq_false g2, decide_eq_false g3, decide_eq_true g4, if_true, bs, ms, Bool.true_eq_false, Bool.false_eq_true, if_false]
  by_cases g5 : c > 1073741824
  · simp only [decide_eq_false g1, decide_eq_false g2, decide_eq_false g3, decide_eq_false g4, decide_eq_true g5, if_true, bs, ms, Bool.true_eq_false, Bool.false_eq_true, if_false]
  by_cases g6 : c < -1073741824
  · simp only [decide_eq_false g1, decide_eq_false g2, decide_eq_false g3, decide_eq_false g4, decide_eq_false g5, decide_eq_true g6, if_true, bs, ms, Bool.true_eq_false, Bool.false_eq_true, if_false]
  have wd : IntKind.i64.wrap den = den := w64' (by omega) (by omega)
  have wn : IntKind.i64.wrap num = num := w64' (by omega) (by omega)
  simp only [decide_eq_false g1, decide_eq_false g2, decide_eq_false g3, decide_eq_false g4, decide_eq_false g5, decide_eq_false g6, if_true, bs, ms, Bool.false_eq_true, if_false, wd, wn]
  rcases part_cases (c := c) (num := num) (den := den) (mode := 1) (by omega) (by omega) (by omega) (by omega) (by omega) with ⟨f, hf, p1⟩ | ⟨d, hd, hd0, _, _, hr1, p1⟩
  · have t1 : (f != 0) = true := by simpa using hf
    simp only [p1, bs, t1, if_true]
  subst hd
  have z : ((0 : Int) != 0) = false := rfl
  simp only [p1, bs, z, Bool.false_eq_true, if_false]
  have a1 := rnd_half hd0 (c * num)
  generalize rnd 1 d (c * num) = V at *
  rcases part_cases (c := V) (num := (d : Int)) (den := num) (mode := 1) (by omega) (by omega) (by omega) (by omega) (by omega) with ⟨f, hf, p2⟩ | ⟨n, hn, hn0, _, _, hr2, p2⟩
  · have t1 : (f != 0) = true := by simpa using hf
    simp only [p2, bs, t1, if_true]
  subst hn
  have a2 := rnd_half hn0 (V * d)
  simp only [p2, bs, z, Bool.false_eq_true, if_false]
  generalize rnd 1 n (V * d) = W at *
  have hq : (if (n : Int) = 0 then none else some (IntKind.i64.wrap ((d : Int).tdiv (n : Int)))) = some ((d / n : Nat) : Int) := by
    rw [if_neg (by omega), Int.tdiv_eq_ediv_of_nonneg (by omega), ← Int.natCast_ediv]
    have : d / n ≤ d := Nat.div_le_self _ _
    generalize d / n = q at *
    rw [w64' (by omega) (by omega)]
  have e := Nat.div_add_mod d n
  have hr := Nat.mod_lt d hn0
  have ql : d / n ≤ d := Nat.div_le_self _ _
  generalize d / n = q at *
  generalize d % n = r at *
  have w1 : IntKind.i64.wrap (W - c) = W - c := w64' (by omega) (by omega)
  have w2 : IntKind.i64.wrap ((q : Int) + 2) = (q : Int) + 2 := w64' (by omega) (by omega)
  have w3 : IntKind.i64.wrap (0 - ((q : Int) + 2)) = -((q : Int) + 2) := by rw [w64' (by omega) (by omega)]; omega
  have key : -((q : Int) + 2) ≤ W - c ∧ W - c ≤ (q : Int) + 2 := near_key hn0 a1 a2 e hr
  simp only [hq, bs, w1, w2, w3, decide_eq_true key.2, if_true, ms, decide_eq_true (show W - c ≥ -((q : Int) + 2) from key.1)]
end WB
namespace WB
open Go Go.RowKit

theorem aw_digits2 : rate_digits [49, 50] = some true := by
  unfold rate_digits
  dsimp only
  rw [show iter rate_digits_loop1 (([49, 50] : List UInt8), (([49, 50] : List UInt8).length : Int), 0, ()) = some (Sum.inl ([49, 50], ())) from iter_some.2 ⟨6, rfl⟩]
  rfl
theorem aw_digits1 : rate_digits [53] = some true := by
  unfold rate_digits
  dsimp only
  rw [show iter rate_digits_loop1 (([53] : List UInt8), (([53] : List UInt8).length : Int), 0, ()) = some (Sum.inl ([53], ())) from iter_some.2 ⟨6, rfl⟩]
  rfl
theorem aw_value2 : rate_value ([49, 50], 100000) = some 12 := by
  unfold rate_value
  dsimp only
  rw [show iter rate_value_loop1 (([49, 50] : List UInt8), 100000, 0, (([49, 50] : List UInt8).length : Int), 0, ()) = some ((12, ())) from iter_some.2 ⟨6, rfl⟩]
  rfl
theorem aw_value4 : rate_value ([53, 48, 48, 48], 10000) = some 5000 := by
  unfold rate_value
  dsimp only
  rw [show iter rate_value_loop1 (([53, 48, 48, 48] : List UInt8), 10000, 0, (([53, 48, 48, 48] : List UInt8).length : Int), 0, ()) = some ((5000, ())) from iter_some.2 ⟨6, rfl⟩]
  rfl
theorem aw_Parse : rate_Parse [49, 50, 46, 53, 37] = some (125000, 0) := by
  unfold rate_Parse
  have h1 : strings_CutPrefix ([49, 50, 46, 53, 37], [45]) = some ([49, 50, 46, 53, 37], false) := rfl
  have h2 : strings_CutSuffix ([49, 50, 46, 53, 37], [37]) = some ([49, 50, 46, 53], true) := rfl
  have h3 : strings_Cut ([49, 50, 46, 53], [46]) = some ([49, 50], [53], true) := rfl
  dsimp only
  simp only [gPb, gPm, gPs, gM, gM2, gAnd, gOr, gAndI, gOrI, gAA, gAO, gOA, gOO, gAAf, gAOf, gOAf, gOOf, gAMf, gOMf, gId]
  rw [if_neg (by decide), h1, bs, h2, bs, h3, bs]
  dsimp only
  simp only [aw_digits2, aw_digits1, bs, ms, Bool.not_true, Bool.false_eq_true, if_false]
  have e1 : decide ((([49, 50] : List UInt8).length : Int) > 1) = true := rfl
  have e2 : sAt [49, 50] 0 = some 49 := rfl
  have e3 : decide ((([53] : List UInt8).length : Int) > 4) = false := rfl
  have e4 : sAt [53] (IntKind.i64.wrap ((([53] : List UInt8).length : Int) - 1)) = some 53 := rfl
  have e5 : lSub ([53] ++ [48, 48, 48, 48] : List UInt8) 0 4 = some [53, 48, 48, 48] := rfl
  simp only [e1, e2, e3, e4, if_true, Bool.false_eq_true, if_false, bs, ms]
  simp only [if_true, Bool.false_eq_true, if_false, bs, ms, aw_value2, aw_value4, e5, beq_iff_eq]
  rw [if_neg (by decide), if_neg (by decide), if_pos (by simp only [List.length_cons, List.length_nil]; omega)]
  rfl
theorem aw_d0 : Lib.decDigits 0 = [48] := by rw [Lib.decDigits]; rfl
theorem aw_d1 : Lib.decDigits 10001 = [49, 48, 48, 48, 49] := by
  rw [Lib.decDigits, Lib.decDigits, Lib.decDigits, Lib.decDigits, Lib.decDigits]; rfl
theorem fi_eq (n : Int) (h0 : -9223372036854775808 ≤ n) (h1 : n ≤ 9223372036854775807) : strconv_FormatInt (n, 10) = some (Lib.itoa n) := if_pos ⟨rfl, h0, h1⟩
theorem fi_nat (u : Nat) (h1 : u ≤ 9223372036854775807) : strconv_FormatInt ((u : Int), 10) = some (Lib.decDigits u) := by rw [fi_eq _ (by omega) (by omega), Lib.itoa_nonneg]
theorem aw_f0 : strconv_FormatInt (0, 10) = some [48] := (fi_nat 0 (by omega)).trans (congrArg some aw_d0)
theorem aw_f1 : strconv_FormatInt (10001, 10) = some [49, 48, 48, 48, 49] := (fi_nat 10001 (by omega)).trans (congrArg some aw_d1)
theorem aw_t : strings_TrimRight ([48, 48, 48, 49], [48]) = some [48, 48, 48, 49] := by
  simp only [strings_TrimRight]; rw [if_pos (by simp)]; rfl
theorem aw_z (x y : List UInt8) (hx : x.length ≤ 10) (hy : y.length ≤ 10) : (if x.length + y.length ≤ 4611686018427387904 then some (x ++ y) else none) = some (x ++ y) := if_pos (by omega)
theorem aw_Text : rate_Text (-1) = some [45, 48, 46, 48, 48, 48, 49, 37] := by
  unfold rate_Text
  have e0 : rate_right (-1) = some true := rfl
  have e1 : (if (10000 : Int) = 0 then none else some (IntKind.i64.wrap ((IntKind.i64.wrap (0 - (-1 : Int))).tdiv 10000))) = some 0 := rfl
  have e2 : (if (10000 : Int) = 0 then none else some ((IntKind.i64.wrap (0 - (-1 : Int))).tmod 10000)) = some 1 := rfl
  have e3 : IntKind.i64.wrap (10000 + 1) = 10001 := rfl
  have e4 : lSub ([49, 48, 48, 48, 49] : List UInt8) 1 (([49, 48, 48, 48, 49] : List UInt8).length : Int) = some [48, 48, 48, 49] := rfl
  dsimp only
  rw [e0, bs, if_neg (by decide), if_pos (by decide), bs]
  dsimp only
  simp only [e1, e2, e3, bs, aw_f0, aw_f1, e4, aw_t]
  rw [aw_z _ _ (by decide) (by decide), bs, if_pos (by decide), aw_z _ _ (by decide) (by decide), bs, aw_z _ _ (by decide) (by decide), bs, bs, aw_z _ _ (by decide) (by decide), bs]
  rfl
theorem aw_Of : rate_Of (1001, 125000, 1) = some (125, 0) := by
  rw [rOf_eq (by decide) (by decide)]
  rfl
theorem aw_Part : rate_Part (-5, 1, 2, 2) = some (-2, 0) := by
  rw [rPart_eq (by decide) (by decide) (by decide) (by decide) (by decide)]
  rfl
theorem awake_eq : law02_awake () = some true := by
  unfold law02_awake
  dsimp only
  simp only [gPb, gPm, gPs, gM, gM2, gAnd, gOr, gAndI, gOrI, gAA, gAO, gOA, gOO, gAAf, gAOf, gOAf, gOOf, gAMf, gOMf, gId]
  rw [aw_Of, bs, aw_Part, bs, aw_Parse, bs, aw_Text]
  rfl
end WB
namespace WB
open Go Go.RowKit

/-- A part's sizes by the modes, above 0 and below. -/
theorem modes_key {n d : Nat} (hd : 0 < d) : ∃ q u h e : Int, rnd 0 d n = q ∧ rnd 1 d n = h ∧ rnd 2 d n = e ∧ rnd 3 d n = u ∧ rnd 4 d n = q ∧ rnd 0 d (-(n : Int)) = -q ∧ rnd 1 d (-(n : Int)) = -h ∧ rnd 2 d (-(n : Int)) = -e ∧ rnd 3 d (-(n : Int)) = -u ∧ rnd 4 d (-(n : Int)) = -u ∧
    0 ≤ q ∧ q ≤ u ∧ u ≤ q + 1 ∧ (h = q ∨ h = u) ∧ (e = q ∨ e = u) := by
  have hp : ∀ m, rnd m d (n : Int) = (sizeS false n d m : Int) := fun m => by
    unfold rnd
    rw [if_neg (by omega), Int.natAbs_natCast]
  by_cases h0 : n = 0
  · subst h0
    have z : ∀ m, rnd m d 0 = 0 := fun m => by
      have := hp m
      rw [sizeS0 _ d m hd] at this
      exact this
    refine ⟨0, 0, 0, 0, z 0, z 1, z 2, z 3, z 4, z 0, z 1, z 2, z 3, z 4, by omega, by omega, by omega, .inl rfl, .inl rfl⟩
  · have hn : ∀ m, rnd m d (-(n : Int)) = -(sizeS true n d m : Int) := fun m => by
      unfold rnd
      rw [if_pos (by omega), Int.natAbs_neg, Int.natAbs_natCast]
    have s0 : ∀ b, sizeS b n d 0 = n / d := fun b => by unfold sizeS upS; rfl
    have s1 : ∀ b, sizeS b n d 1 = n / d + (if d - n % d ≤ n % d then 1 else 0) := fun b => by unfold sizeS upS; simp
    have s2 : ∀ b, sizeS b n d 2 = n / d + (if (if n % d = d - n % d then n / d % 2 == 1 else decide (d - n % d ≤ n % d)) = true then 1 else 0) := fun b => by unfold sizeS upS; rfl
    have s3 : ∀ b, sizeS b n d 3 = n / d + (if 0 < n % d then 1 else 0) := fun b => by unfold sizeS upS; simp
    have s4 : sizeS false n d 4 = n / d := by unfold sizeS upS; rfl
    have s5 : sizeS true n d 4 = n / d + (if 0 < n % d then 1 else 0) := by unfold sizeS upS; simp
    have hr := Nat.mod_lt n hd
    generalize n / d = q at *
    generalize n % d = r at *
    refine ⟨(q : Int), ((q + (if 0 < r then 1 else 0) : Nat) : Int), ((q + (if d - r ≤ r then 1 else 0) : Nat) : Int), ((q + (if (if r = d - r then q % 2 == 1 else decide (d - r ≤ r)) = true then 1 else 0) : Nat) : Int),
      by rw [hp, s0], by rw [hp, s1], by rw [hp, s2], by rw [hp, s3], by rw [hp, s4], by rw [hn, s0], by rw [hn, s1], by rw [hn, s2], by rw [hn, s3], by rw [hn, s5], by omega, ?_, ?_, ?_, ?_⟩
    · split <;> omega
    · split <;> omega
    · by_cases h1 : d - r ≤ r
      · right; rw [if_pos h1, if_pos (by omega)]
      · left; rw [if_neg h1]; omega
    · by_cases h1 : r = d - r
      · rw [if_pos h1]
        by_cases h2 : (q % 2 == 1) = true
        · right; rw [if_pos h2, if_pos (by omega)]
        · left; rw [if_neg h2]; omega
      · rw [if_neg h1]
        by_cases h2 : d - r ≤ r
        · right; rw [if_pos (by simpa using h2), if_pos (by omega)]
        · left; rw [if_neg (by simpa using h2)]; omega

theorem law_RateModes (ha : law02_awake () = some true) {c num den : Int} (c1 : -9223372036854775808 ≤ c) (c2 : c ≤ 9223372036854775807) (n1 : -9223372036854775808 ≤ num) (n2 : num ≤ 9223372036854775807) (hd : den ≤ 9223372036854775807) : law02_RateModes (c, num, den) = some true := by
  unfold law02_RateModes
  dsimp only
  simp only [gPb, gPm, gPs, gM, gM2, gAnd, gOr, gAndI, gOrI, gAA, gAO, gOA, gOO, gAAf, gAOf, gOAf, gOOf, gAMf, gOMf, gId]
  rw [ha, bs, if_neg (by decide)]
  by_cases g1 : c < 0
  · simp only [decide_eq_true g1, if_true, bs]
  by_cases g2 : num < 0
  · simp only [decide_eq_true g2, decide_eq_false g1, if_true, bs, Bool.false_eq_true, if_false, ms]
  simp only [decide_eq_false g2, decide_eq_false g1, bs, Bool.false_eq_true, if_false, ms]
  rcases part_cases (c := c) (num := num) (den := den) (mode := 3) c1 c2 n1 n2 hd with ⟨e, he, h⟩ | ⟨d, rfl, hd0, hc, _, hmx, h⟩
  · rw [h, bs]
    have : (e != 0) = true := by simpa using he
    simp only [this, if_true]
  rw [h, bs]
  obtain ⟨n, hn⟩ := Int.eq_ofNat_of_zero_le (Int.mul_nonneg (show 0 ≤ c by omega) (show 0 ≤ num by omega))
  obtain ⟨q, u, hf, ev, k0, k1, k2, k3, k4, l0, l1, l2, l3, l4, hq, hqu, hu, hh, he⟩ := modes_key (n := n) hd0
  rw [hn, k3] at hmx h
  have wc : IntKind.i64.wrap (0 - c) = -c := by rw [w64' (by omega) (by omega), Int.zero_sub]
  have hneg : -c * num = -(n : Int) := by rw [Int.neg_mul, hn]
  have pp : ∀ m : Int, 0 ≤ m → m ≤ 4 → ∀ v, rnd m d (n : Int) = v → v.natAbs ≤ 1125899906842624 → rate_Part (c, num, (d : Int), m) = some (v, 0) := fun m m1 m2 v hv hb => by
    rw [rPart_eq c1 c2 n1 n2 hd, partS_ok hc hd0 ⟨m1, m2⟩, hn, hv, if_neg (by omega)]
  have pn : ∀ m : Int, 0 ≤ m → m ≤ 4 → ∀ v, rnd m d (-(n : Int)) = v → v.natAbs ≤ 1125899906842624 → rate_Part (IntKind.i64.wrap (0 - c), num, (d : Int), m) = some (v, 0) := fun m m1 m2 v hv hb => by
    rw [wc, rPart_eq (by omega) (by omega) n1 n2 hd, partS_ok ⟨by omega, by omega⟩ hd0 ⟨m1, m2⟩, hneg, hv, if_neg (by omega)]
  have p0 := pp 0 (by omega) (by omega) q k0 (by omega)
  have p1 := pp 1 (by omega) (by omega) hf k1 (by omega)
  have p2 := pp 2 (by omega) (by omega) ev k2 (by omega)
  have p3 := pp 3 (by omega) (by omega) u k3 (by omega)
  have p4 := pp 4 (by omega) (by omega) q k4 (by omega)
  have m0 := pn 0 (by omega) (by omega) (-q) l0 (by omega)
  have m1 := pn 1 (by omega) (by omega) (-hf) l1 (by omega)
  have m2 := pn 2 (by omega) (by omega) (-ev) l2 (by omega)
  have m3 := pn 3 (by omega) (by omega) (-u) l3 (by omega)
  have m4 := pn 4 (by omega) (by omega) (-u) l4 (by omega)
  clear pp pn
  have z : ((0 : Int) != 0) = false := rfl
  simp only [hn, k3, z, Bool.false_eq_true, if_false]
  have st : ∀ (m v w : Int) (a0 a1 a2 a3 a4 b0 b1 b2 b3 b4 : Int), rate_Part (c, num, (d : Int), m) = some (v, 0) → rate_Part (IntKind.i64.wrap (0 - c), num, (d : Int), m) = some (w, 0) → 0 ≤ m → m < 5 →
      law02_RateModes_loop2 (c, num, (d : Int), u, m, a0, a1, a2, a3, a4, b0, b1, b2, b3, b4, (), (), (), (), ()) = some (.inl (c, num, (d : Int), u, m + 1,
        (if m.toNat = 0 then v else a0), (if m.toNat = 1 then v else a1), (if m.toNat = 2 then v else a2), (if m.toNat = 3 then v else a3), (if m.toNat = 4 then v else a4),
        (if m.toNat = 0 then w else b0), (if m.toNat = 1 then w else b1), (if m.toNat = 2 then w else b2), (if m.toNat = 3 then w else b3), (if m.toNat = 4 then w else b4), (), (), (), (), ())) := by
    intro m v w a0 a1 a2 a3 a4 b0 b1 b2 b3 b4 h1 h2 h3 h4
    unfold law02_RateModes_loop2
    dsimp only
    simp only [gPb, gPm, gPs, gM, gM2, gAnd, gOr, gAndI, gOrI, gAA, gAO, gOA, gOO, gAAf, gAOf, gOAf, gOOf, gAMf, gOMf, gId]
    have w1 : IntKind.i64.wrap (m + 1) = m + 1 := w64' (by omega) (by omega)
    simp only [decide_eq_true h4, if_true, h1, h2, bs, ms, z, Bool.false_eq_true, if_false, if_pos (And.intro h3 h4), w1]
  have u2 : iter law02_RateModes_loop2 (c, num, (d : Int), u, 0, 0, 0, 0, 0, 0, 0, 0, 0, 0, 0, (), (), (), (), ()) = iter law02_RateModes_loop2 (c, num, (d : Int), u, 5, q, hf, ev, u, q, -q, -hf, -ev, -u, -u, (), (), (), (), ()) := by
    rw [iter_inl (st 0 _ _ 0 0 0 0 0 0 0 0 0 0 p0 m0 (by omega) (by omega))]
    refine (iter_inl (st 1 _ _ _ _ _ _ _ _ _ _ _ _ p1 m1 (by omega) (by omega))).trans ?_
    refine (iter_inl (st 2 _ _ _ _ _ _ _ _ _ _ _ _ p2 m2 (by omega) (by omega))).trans ?_
    refine (iter_inl (st 3 _ _ _ _ _ _ _ _ _ _ _ _ p3 m3 (by omega) (by omega))).trans ?_
    exact iter_inl (st 4 _ _ _ _ _ _ _ _ _ _ _ _ p4 m4 (by omega) (by omega))
  have e2 : law02_RateModes_loop2 (c, num, (d : Int), u, 5, q, hf, ev, u, q, -q, -hf, -ev, -u, -u, (), (), (), (), ()) = some (.inr (.inl (u, q, hf, ev, u, q, -q, -hf, -ev, -u, -u, (), (), (), (), ()))) := rfl
  have wu : IntKind.i64.wrap (q + 1) = q + 1 := w64' (by omega) (by omega)
  have wn : ∀ x : Int, 0 ≤ x → x ≤ 1125899906842624 → IntKind.i64.wrap (0 - x) = -x := fun x h1 h2 => by rw [w64' (by omega) (by omega)]; omega
  have s1 : ∀ (k : Nat) (x : Int), k < 4 → ([q, hf, ev, u, q] : List Int)[k]? = some x → ([-q, -hf, -ev, -u, -u] : List Int)[k]? = some (-x) → (x = q ∨ x = u) → law02_RateModes_loop1 (u, q, (k : Int), q, hf, ev, u, q, -q, -hf, -ev, -u, -u, (), (), (), (), ()) = some (.inl (u, q, ((k + 1 : Nat) : Int), q, hf, ev, u, q, -q, -hf, -ev, -u, -u, (), (), (), (), ())) := by
    intro k x hk h1 h2 h3
    unfold law02_RateModes_loop1
    dsimp only
    simp only [gPb, gPm, gPs, gM, gM2, gAnd, gOr, gAndI, gOrI, gAA, gAO, gOA, gOO, gAAf, gAOf, gOAf, gOOf, gAMf, gOMf, gId]
    have w1 : IntKind.i64.wrap ((k : Int) + 1) = ((k + 1 : Nat) : Int) := by rw [w64' (by omega) (by omega)]; rfl
    have w2 : IntKind.i64.wrap (0 - x) = -x := wn x (by omega) (by omega)
    have w3 : ((k : Int)).toNat = k := by omega
    have x1 : (-x != -x) = false := by simp
    have hk4 : (k : Int) < 4 := by omega
    have hk5 : 0 ≤ (k : Int) ∧ (k : Int) < 5 := by omega
    rcases h3 with h3 | h3
    · have x2 : (x != q) = false := by simp [h3]
      simp only [decide_eq_true hk4, if_true, if_pos hk5, bs, ms, w3, h1, h2, x2, Bool.false_eq_true, if_false, w2, x1, w1]
    · have x2 : (x != u) = false := by simp [h3]
      by_cases x3 : (x != q) = true
      · simp only [decide_eq_true hk4, if_true, if_pos hk5, bs, ms, w3, h1, h2, x2, x3, Bool.false_eq_true, if_false, w2, x1, w1]
      · simp only [decide_eq_true hk4, if_true, if_pos hk5, bs, ms, w3, h1, h2, Bool.not_eq_true] at x3 ⊢
        simp only [x3, Bool.false_eq_true, if_false, bs, ms, if_true, w3, w2, h1, h2, x1, w1]
  rw [u2, iter_inr e2, bs]
  dsimp only
  have a05 : (0 : Int) ≤ 0 ∧ (0 : Int) < 5 := by omega
  have a45 : (0 : Int) ≤ 4 ∧ (4 : Int) < 5 := by omega
  have f0 : ([q, hf, ev, u, q] : List Int)[(0 : Int).toNat]? = some q := rfl
  have f4 : ([q, hf, ev, u, q] : List Int)[(4 : Int).toNat]? = some q := rfl
  have f4' : ([-q, -hf, -ev, -u, -u] : List Int)[(4 : Int).toNat]? = some (-u) := rfl
  have t1 : (q != q) = false := by simp
  have t2 : decide (u < q) = false := decide_eq_false (by omega)
  have t3 : decide (u > q + 1) = false := decide_eq_false (by omega)
  have t4 : decide (q < 0) = false := decide_eq_false (by omega)
  have t5 : (-u != -u) = false := by simp
  simp only [if_pos a05, if_pos a45, bs, ms, f0, f4, f4', t1, t2, t3, t4, t5, wu, wn u (by omega) (by omega), if_true, Bool.false_eq_true, if_false]
  have u1 : iter law02_RateModes_loop1 (u, q, 0, q, hf, ev, u, q, -q, -hf, -ev, -u, -u, (), (), (), (), ()) = some (.inl ()) := by
    refine (iter_inl (s1 0 q (by omega) rfl rfl (.inl rfl))).trans ?_
    refine (iter_inl (s1 1 hf (by omega) rfl rfl hh)).trans ?_
    refine (iter_inl (s1 2 ev (by omega) rfl rfl he)).trans ?_
    refine (iter_inl (s1 3 u (by omega) rfl rfl (.inr rfl))).trans ?_
    exact iter_inr rfl
  rw [u1]
  rfl
end WB
namespace Go.Proofs
open Go.Shelf
def Tryd.laysM173_ren : Go.Shelf.Ren := ⟨fun | 173 => 31 | 246 => 45 | 283 => 55 | 284 => 56 | 285 => 57 | 286 => 58 | 129 => 65 | 317 => 66 | 318 => 67 | 319 => 68 | 320 => 69 | 337 => 77 | 338 => 78 | n => n, fun | 2 => 2 | 3 => 3 | 9 => 9 | 4 => 4 | 171 => 90 | 0 => 0 | 53 => 55 | 37 => 83 | 5 => 5 | 173 => 92 | 212 => 102 | 51 => 103 | 20 => 20 | 213 => 104 | 46 => 84 | 232 => 113 | 233 => 114 | n => n, fun | 17 => 2 | 18 => 4 | 19 => 5 | n => n⟩
theorem Tryd.laysM173 : Go.Proofs.LaysM.n173 Tryd.prog Tryd.laysM173_ren := {
  mixed := by kernel_rfl
  f129 := Tryd.func65.trans (congrArg some (by kernel_rfl))
  f173 := Tryd.func31.trans (congrArg some (by kernel_rfl))
  f246 := Tryd.func45.trans (congrArg some (by kernel_rfl))
  f283 := Tryd.func55.trans (congrArg some (by kernel_rfl))
  f284 := Tryd.func56.trans (congrArg some (by kernel_rfl))
  f285 := Tryd.func57.trans (congrArg some (by kernel_rfl))
  f286 := Tryd.func58.trans (congrArg some (by kernel_rfl))
  f317 := Tryd.func66.trans (congrArg some (by kernel_rfl))
  f318 := Tryd.func67.trans (congrArg some (by kernel_rfl))
  f319 := Tryd.func68.trans (congrArg some (by kernel_rfl))
  f320 := Tryd.func69.trans (congrArg some (by kernel_rfl))
  f337 := Tryd.func77.trans (congrArg some (by kernel_rfl))
  f338 := Tryd.func78.trans (congrArg some (by kernel_rfl))
  t0 := Tryd.underlying0
  a0 := Tryd.isAgg0
  z0 := Tryd.sizeOf0
  v0 := Tryd.zeroValue0
  t2 := Tryd.underlying2
  a2 := Tryd.isAgg2
  z2 := Tryd.sizeOf2
  v2 := Tryd.zeroValue2
  t3 := Tryd.underlying3
  a3 := Tryd.isAgg3
  z3 := Tryd.sizeOf3
  v3 := Tryd.zeroValue3
  t4 := Tryd.underlying4
  a4 := Tryd.isAgg4
  z4 := Tryd.sizeOf4
  v4 := Tryd.zeroValue4
  t5 := Tryd.underlying5
  a5 := Tryd.isAgg5
  z5 := Tryd.sizeOf5
  v5 := Tryd.zeroValue5
  t9 := Tryd.underlying9
  a9 := Tryd.isAgg9
  z9 := Tryd.sizeOf9
  v9 := Tryd.zeroValue9
  t20 := Tryd.underlying20
  a20 := Tryd.isAgg20
  z20 := Tryd.sizeOf20
  v20 := Tryd.zeroValue20
  t37 := Tryd.underlying83
  a37 := Tryd.isAgg83
  z37 := Tryd.sizeOf83
  v37 := Tryd.zeroValue83
  t46 := Tryd.underlying84
  a46 := Tryd.isAgg84
  z46 := Tryd.sizeOf84
  v46 := Tryd.zeroValue84
  t51 := Tryd.underlying103
  a51 := Tryd.isAgg103
  z51 := Tryd.sizeOf103
  v51 := Tryd.zeroValue103
  t53 := Tryd.underlying55
  a53 := Tryd.isAgg55
  z53 := Tryd.sizeOf55
  v53 := Tryd.zeroValue55
  t171 := Tryd.underlying90
  a171 := Tryd.isAgg90
  z171 := Tryd.sizeOf90
  v171 := Tryd.zeroValue90
  t173 := Tryd.underlying92
  a173 := Tryd.isAgg92
  z173 := Tryd.sizeOf92
  v173 := Tryd.zeroValue92
  t212 := Tryd.underlying102
  a212 := Tryd.isAgg102
  z212 := Tryd.sizeOf102
  v212 := Tryd.zeroValue102
  t213 := Tryd.underlying104
  a213 := Tryd.isAgg104
  z213 := Tryd.sizeOf104
  t232 := Tryd.underlying113
  a232 := Tryd.isAgg113
  z232 := Tryd.sizeOf113
  v232 := Tryd.zeroValue113
  t233 := Tryd.underlying114
  a233 := Tryd.isAgg114
  z233 := Tryd.sizeOf114
  v233 := Tryd.zeroValue114
  g17 := by kernel_rfl
  g18 := by kernel_rfl
  g19 := by kernel_rfl
  i0 := by kernel_rfl
  i2 := by kernel_rfl
  i3 := by kernel_rfl
  i4 := by kernel_rfl
  i5 := by kernel_rfl
  i9 := by kernel_rfl
  i20 := by kernel_rfl
  i37 := by kernel_rfl
  i46 := by kernel_rfl
  i51 := by kernel_rfl
  i53 := by kernel_rfl
  i171 := by kernel_rfl
  i173 := by kernel_rfl
  i212 := by kernel_rfl
  i232 := by kernel_rfl
  i233 := by kernel_rfl
  m17 := by kernel_rfl
  m18 := by kernel_rfl
  m19 := by kernel_rfl }
open Go.RowKit Go.Sort Go.Lib in
/-- strconv.FormatInt: "FormatInt returns the string representation of i in the given base": AT BASE 10: i's decimal numeral, for every int64. (LAID: no walk: one application.) -/
theorem Tryd.strconv_FormatInt_10 (n : Int) (h0 : -9223372036854775808 ≤ n) (h1 : n ≤ 9223372036854775807) (w : World) (htab : Lib.TabIs Tryd.prog w "internal/strconv.uint64pow10" .u64 Lib.pow10Tab) :
    Calls Tryd.prog 31 #[.int .i64 n, .int .i64 10] w fun e w' => e = .returned (.string ⟨(Lib.itoa n).toArray⟩) ∧ ∃ k os, w' = grow (w.drewN k) os := Any.strconv_FormatInt_10 Tryd.laysM173 n h0 h1 w htab
def Tryd.lays162_ren : Go.Shelf.Ren := ⟨fun | 162 => 32 | 232 => 46 | 227 => 47 | 234 => 48 | 236 => 49 | 228 => 59 | 271 => 60 | 151 => 61 | 120 => 70 | 197 => 71 | 152 => 72 | 260 => 79 | 137 => 80 | 119 => 81 | 224 => 75 | 225 => 74 | 217 => 73 | 266 => 82 | n => n, fun | 9 => 9 | 4 => 4 | 3 => 3 | 5 => 5 | 117 => 79 | 116 => 78 | 0 => 0 | 124 => 82 | 21 => 21 | 105 => 95 | 46 => 84 | 119 => 115 | 139 => 118 | 138 => 117 | n => n, fun | 3 => 6 | 4 => 7 | n => n⟩
theorem Tryd.lays162 : Go.Proofs.Lays.n162 Tryd.prog Tryd.lays162_ren := {
  mixed := by kernel_rfl
  f119 := Tryd.func81.trans (congrArg some (by kernel_rfl))
  f120 := Tryd.func70.trans (congrArg some (by kernel_rfl))
  f137 := Tryd.func80.trans (congrArg some (by kernel_rfl))
  f151 := Tryd.func61.trans (congrArg some (by kernel_rfl))
  f152 := Tryd.func72.trans (congrArg some (by kernel_rfl))
  f162 := Tryd.func32.trans (congrArg some (by kernel_rfl))
  f197 := Tryd.func71.trans (congrArg some (by kernel_rfl))
  f217 := Tryd.func73.trans (congrArg some (by kernel_rfl))
  f224 := Tryd.func75.trans (congrArg some (by kernel_rfl))
  f225 := Tryd.func74.trans (congrArg some (by kernel_rfl))
  f227 := Tryd.func47.trans (congrArg some (by kernel_rfl))
  f228 := Tryd.func59.trans (congrArg some (by kernel_rfl))
  f232 := Tryd.func46.trans (congrArg some (by kernel_rfl))
  f234 := Tryd.func48.trans (congrArg some (by kernel_rfl))
  f236 := Tryd.func49.trans (congrArg some (by kernel_rfl))
  f260 := Tryd.func79.trans (congrArg some (by kernel_rfl))
  f266 := Tryd.func82.trans (congrArg some (by kernel_rfl))
  f271 := Tryd.func60.trans (congrArg some (by kernel_rfl))
  t0 := Tryd.underlying0
  a0 := Tryd.isAgg0
  z0 := Tryd.sizeOf0
  v0 := Tryd.zeroValue0
  t3 := Tryd.underlying3
  a3 := Tryd.isAgg3
  z3 := Tryd.sizeOf3
  v3 := Tryd.zeroValue3
  t4 := Tryd.underlying4
  a4 := Tryd.isAgg4
  z4 := Tryd.sizeOf4
  v4 := Tryd.zeroValue4
  t5 := Tryd.underlying5
  a5 := Tryd.isAgg5
  z5 := Tryd.sizeOf5
  v5 := Tryd.zeroValue5
  t9 := Tryd.underlying9
  a9 := Tryd.isAgg9
  z9 := Tryd.sizeOf9
  v9 := Tryd.zeroValue9
  t21 := Tryd.underlying21
  a21 := Tryd.isAgg21
  z21 := Tryd.sizeOf21
  v21 := Tryd.zeroValue21
  t46 := Tryd.underlying84
  a46 := Tryd.isAgg84
  z46 := Tryd.sizeOf84
  v46 := Tryd.zeroValue84
  t105 := Tryd.underlying95
  a105 := Tryd.isAgg95
  z105 := Tryd.sizeOf95
  v105 := Tryd.zeroValue95
  t116 := Tryd.underlying78
  a116 := Tryd.isAgg78
  z116 := Tryd.sizeOf78
  t117 := Tryd.underlying79
  a117 := Tryd.isAgg79
  z117 := Tryd.sizeOf79
  v117 := Tryd.zeroValue79
  t119 := Tryd.underlying115
  a119 := Tryd.isAgg115
  z119 := Tryd.sizeOf115
  t124 := Tryd.underlying82
  a124 := Tryd.isAgg82
  z124 := Tryd.sizeOf82
  v124 := Tryd.zeroValue82
  t138 := Tryd.underlying117
  a138 := Tryd.isAgg117
  z138 := Tryd.sizeOf117
  v138 := Tryd.zeroValue117
  t139 := Tryd.underlying118
  a139 := Tryd.isAgg118
  z139 := Tryd.sizeOf118
  v139 := Tryd.zeroValue118
  g3 := by kernel_rfl
  g4 := by kernel_rfl }
open Go.RowKit in
/-- strings.TrimRight: "TrimRight returns a slice of the string s, with all trailing Unicode code points contained in cutset removed.": AT A cutset OF ONE ASCII BYTE. The world is as it was. (LAID: no walk: one application.) -/
theorem Tryd.strings_TrimRight_one (s : ByteArray) (c : UInt8) (hc : c.toNat < 128) (w : World) (hs : s.size ≤ 9223372036854775807) :
    Calls Tryd.prog 32 #[.string s, .string ⟨#[c]⟩] w fun e w' => e = .returned (.string ⟨(Lib.trimRightB s.data.toList c).toArray⟩) ∧ w' = w := Any.strings_TrimRight_one Tryd.lays162 s c hc w hs
def Tryd.lays219_ren : Go.Shelf.Ren := ⟨fun | 219 => 64 | 217 => 73 | 225 => 74 | 224 => 75 | 267 => 76 | 266 => 82 | 314 => 83 | n => n, fun | 9 => 9 | 3 => 3 | 4 => 4 | 5 => 5 | 46 => 84 | 146 => 111 | 51 => 103 | n => n, fun | 1 => 3 | n => n⟩
theorem Tryd.lays219 : Go.Proofs.Lays.n219 Tryd.prog Tryd.lays219_ren := {
  mixed := by kernel_rfl
  f217 := Tryd.func73.trans (congrArg some (by kernel_rfl))
  f219 := Tryd.func64.trans (congrArg some (by kernel_rfl))
  f224 := Tryd.func75.trans (congrArg some (by kernel_rfl))
  f225 := Tryd.func74.trans (congrArg some (by kernel_rfl))
  f266 := Tryd.func82.trans (congrArg some (by kernel_rfl))
  f267 := Tryd.func76.trans (congrArg some (by kernel_rfl))
  f314 := Tryd.func83.trans (congrArg some (by kernel_rfl))
  t3 := Tryd.underlying3
  a3 := Tryd.isAgg3
  z3 := Tryd.sizeOf3
  v3 := Tryd.zeroValue3
  t4 := Tryd.underlying4
  a4 := Tryd.isAgg4
  z4 := Tryd.sizeOf4
  v4 := Tryd.zeroValue4
  t5 := Tryd.underlying5
  a5 := Tryd.isAgg5
  z5 := Tryd.sizeOf5
  v5 := Tryd.zeroValue5
  t9 := Tryd.underlying9
  a9 := Tryd.isAgg9
  z9 := Tryd.sizeOf9
  v9 := Tryd.zeroValue9
  t46 := Tryd.underlying84
  a46 := Tryd.isAgg84
  z46 := Tryd.sizeOf84
  v46 := Tryd.zeroValue84
  t51 := Tryd.underlying103
  a51 := Tryd.isAgg103
  z51 := Tryd.sizeOf103
  v51 := Tryd.zeroValue103
  t146 := Tryd.underlying111
  a146 := Tryd.isAgg111
  z146 := Tryd.sizeOf111
  v146 := Tryd.zeroValue111
  g1 := by kernel_rfl }
open Go.RowKit Go.Lib in
/-- internal/stringslite.Index (what strings.Index calls) AT A substr OF ONE BYTE c: IT RETURNS 'Lib.indexByte s c'; the world is as it was. (LAID: no walk: one application.) -/
theorem Tryd.stringslite_Index_one (s : ByteArray) (c : UInt8) (w : World) :
    Calls Tryd.prog 64 #[.string s, .string ⟨#[c]⟩] w fun e w' => e = .returned (.int .i64 (Lib.indexByte s.data.toList c)) ∧ w' = w := Any.stringslite_Index_one Tryd.lays219 s c w
open Go.RowKit Go.Lib in
def Tryd.lays217_ren : Go.Shelf.Ren := ⟨fun | 217 => 73 | 266 => 82 | n => n, fun | 9 => 9 | 5 => 5 | 3 => 3 | n => n, fun | n => n⟩
theorem Tryd.lays217 : Go.Proofs.Lays.n217 Tryd.prog Tryd.lays217_ren := {
  mixed := by kernel_rfl
  f217 := Tryd.func73.trans (congrArg some (by kernel_rfl))
  f266 := Tryd.func82.trans (congrArg some (by kernel_rfl))
  t3 := Tryd.underlying3
  a3 := Tryd.isAgg3
  z3 := Tryd.sizeOf3
  v3 := Tryd.zeroValue3
  t5 := Tryd.underlying5
  a5 := Tryd.isAgg5
  z5 := Tryd.sizeOf5
  v5 := Tryd.zeroValue5
  t9 := Tryd.underlying9
  a9 := Tryd.isAgg9
  z9 := Tryd.sizeOf9
  v9 := Tryd.zeroValue9 }
open Go.RowKit Go.Lib in
/-- internal/stringslite.IndexByte (what strings.IndexByte calls): IT RETURNS 'Lib.indexByte s c'; the world is as it was. (LAID: no walk: one application.) -/
theorem Tryd.stringslite_IndexByte (s : ByteArray) (c : Int) (w : World) :
    Calls Tryd.prog 73 #[.string s, .int .u8 c] w fun e w' => e = .returned (.int .i64 (Lib.indexByte s.data.toList c.toNat.toUInt8)) ∧ w' = w := Any.stringslite_IndexByte Tryd.lays217 s c w

end Go.Proofs
namespace WB
open Go Go.RowKit Go.Proofs
def lkT {α : Type} : List (Nat × α) → Nat → Option α
  | [], _ => none
  | e :: l, i => if e.1 = i then some e.2 else lkT l i
def B : TB := ⟨fun i => if i = 2 then Lib.pow10Tab.map fun z => .int .u64 z else [], lkT [(3, (.int .i64)), (5, (.int .u8)), (55, (.int .u64))], lkT []⟩
def LNil : List (FuncId × Sig) := []
theorem gNil : GoodT Tryd.prog B LNil := GoodT.nil _ _
def a25 : AF := ⟨9, (.sq (.reg false [] [⟨(some 2), (.mov (.k (.bool false))), none⟩]) (.sq (.reg false [] [⟨(some 3), (.mov (.t 0)), none⟩, ⟨(some 4), (.bin .geq (.t 3) (.k (.int .i64 (-1125899906842624)))), none⟩, ⟨(some 5), (.mov (.t 4)), none⟩, ⟨(some 6), (.mov (.t 0)), (some (5, true))⟩, ⟨(some 7), (.bin .leq (.t 6) (.k (.int .i64 1125899906842624))), (some (5, true))⟩, ⟨(some 8), (.pick (.t 5) (.t 7) (.k (.bool false))), none⟩, ⟨(some 2), (.mov (.t 8)), none⟩]) .ret)), [(.tmp 2)]⟩
noncomputable def s25 : Sig := ⟨(.one (.int .i64)), .bool, rate_amount⟩
theorem c25 : compF Tryd.prog 25 = some ⟨a25.n, erase a25.code, a25.res⟩ := by kernel_rfl
theorem t25 : funT (tp B LNil) s25.a s25.r a25 = some s25.fn := by kernel_rfl
noncomputable def L25 : List (FuncId × Sig) := (25, s25) :: LNil
theorem g25 : GoodT Tryd.prog B L25 := GoodT.addM gNil 25 s25 (by rfl) fun _ _ _ hx hy => funT_ok gNil.E gNil.T t25 c25 (k := 1) rfl (Nat.le_of_ble_eq_true rfl) hx hy
def a30 : AF := ⟨9, (.sq (.reg false [] [⟨(some 2), (.mov (.k (.bool false))), none⟩]) (.sq (.reg false [] [⟨(some 3), (.mov (.t 0)), none⟩, ⟨(some 4), (.bin .geq (.t 3) (.k (.int .i64 (-1000000000)))), none⟩, ⟨(some 5), (.mov (.t 4)), none⟩, ⟨(some 6), (.mov (.t 0)), (some (5, true))⟩, ⟨(some 7), (.bin .leq (.t 6) (.k (.int .i64 1000000000))), (some (5, true))⟩, ⟨(some 8), (.pick (.t 5) (.t 7) (.k (.bool false))), none⟩, ⟨(some 2), (.mov (.t 8)), none⟩]) .ret)), [(.tmp 2)]⟩
noncomputable def s30 : Sig := ⟨(.one (.int .i64)), .bool, rate_right⟩
theorem c30 : compF Tryd.prog 30 = some ⟨a30.n, erase a30.code, a30.res⟩ := by kernel_rfl
theorem t30 : funT (tp B L25) s30.a s30.r a30 = some s30.fn := by kernel_rfl
noncomputable def L30 : List (FuncId × Sig) := (30, s30) :: L25
theorem g30 : GoodT Tryd.prog B L30 := GoodT.addM g25 30 s30 (by rfl) fun _ _ _ hx hy => funT_ok g25.E g25.T t30 c30 (k := 1) rfl (Nat.le_of_ble_eq_true rfl) hx hy
def a41 : AF := ⟨10, (.sq (.reg false [] [⟨(some 2), (.mov (.k (.int .u64 0))), none⟩]) (.seq [(.s 0, .v (.int .i64))] (.sq (.reg false [] [⟨(some 3), (.mov (.t 0)), none⟩, ⟨(some 4), (.bin .lss (.t 3) (.k (.int .i64 0))), none⟩]) (.cond (.t 4) (.sq (.reg false [] [⟨(some 5), (.mov (.t 0)), none⟩, ⟨(some 6), (.cvi .u64 (.t 5)), none⟩, ⟨(some 7), (.un .neg (.t 6)), none⟩, ⟨(some 2), (.mov (.t 7)), none⟩]) .ret) .skip)) (.sq (.reg false [] [⟨(some 8), (.mov (.t 0)), none⟩, ⟨(some 9), (.cvi .u64 (.t 8)), none⟩, ⟨(some 2), (.mov (.t 9)), none⟩]) .ret))), [(.tmp 2)]⟩
noncomputable def s41 : Sig := ⟨(.one (.int .i64)), (.int .u64), rate_size⟩
theorem c41 : compF Tryd.prog 41 = some ⟨a41.n, erase a41.code, a41.res⟩ := by kernel_rfl
theorem t41 : funT (tp B L30) s41.a s41.r a41 = some s41.fn := by kernel_rfl
noncomputable def L41 : List (FuncId × Sig) := (41, s41) :: L30
theorem g41 : GoodT Tryd.prog B L41 := GoodT.addM g30 41 s41 (by rfl) fun _ _ _ hx hy => funT_ok g30.E g30.T t41 c41 (k := 1) rfl (Nat.le_of_ble_eq_true rfl) hx hy
def a40 : AF := ⟨51, (.sq (.reg false [] [⟨(some 4), (.mov (.k (.int .u64 0))), none⟩, ⟨(some 5), (.mov (.k (.int .u64 0))), none⟩]) (.sq (.reg false [] [⟨(some 14), (.mov (.t 0)), none⟩, ⟨(some 15), (.bin .and (.t 14) (.k (.int .u64 4294967295))), none⟩, ⟨(some 6), (.mov (.t 15)), none⟩]) (.sq (.reg false [] [⟨(some 16), (.mov (.t 0)), none⟩, ⟨(some 17), (.bin .shr (.t 16) (.k (.int .u64 32))), none⟩, ⟨(some 7), (.mov (.t 17)), none⟩]) (.sq (.reg false [] [⟨(some 18), (.mov (.t 1)), none⟩, ⟨(some 19), (.bin .and (.t 18) (.k (.int .u64 4294967295))), none⟩, ⟨(some 8), (.mov (.t 19)), none⟩]) (.sq (.reg false [] [⟨(some 20), (.mov (.t 1)), none⟩, ⟨(some 21), (.bin .shr (.t 20) (.k (.int .u64 32))), none⟩, ⟨(some 9), (.mov (.t 21)), none⟩]) (.sq (.reg false [] [⟨(some 22), (.mov (.t 6)), none⟩, ⟨(some 23), (.mov (.t 8)), none⟩, ⟨(some 24), (.bin .mul (.t 22) (.t 23)), none⟩, ⟨(some 10), (.mov (.t 24)), none⟩]) (.sq (.reg false [] [⟨(some 25), (.mov (.t 7)), none⟩, ⟨(some 26), (.mov (.t 8)), none⟩, ⟨(some 27), (.bin .mul (.t 25) (.t 26)), none⟩, ⟨(some 28), (.mov (.t 10)), none⟩, ⟨(some 29), (.bin .shr (.t 28) (.k (.int .u64 32))), none⟩, ⟨(some 30), (.bin .add (.t 27) (.t 29)), none⟩, ⟨(some 11), (.mov (.t 30)), none⟩]) (.sq (.reg false [] [⟨(some 31), (.mov (.t 11)), none⟩, ⟨(some 32), (.bin .and (.t 31) (.k (.int .u64 4294967295))), none⟩, ⟨(some 12), (.mov (.t 32)), none⟩]) (.sq (.reg false [] [⟨(some 33), (.mov (.t 11)), none⟩, ⟨(some 34), (.bin .shr (.t 33) (.k (.int .u64 32))), none⟩, ⟨(some 13), (.mov (.t 34)), none⟩]) (.sq (.reg false [] [⟨(some 35), (.mov (.t 12)), none⟩, ⟨(some 36), (.mov (.t 6)), none⟩, ⟨(some 37), (.mov (.t 9)), none⟩, ⟨(some 38), (.bin .mul (.t 36) (.t 37)), none⟩, ⟨(some 39), (.bin .add (.t 35) (.t 38)), none⟩, ⟨(some 12), (.mov (.t 39)), none⟩]) (.sq (.reg false [] [⟨(some 40), (.mov (.t 7)), none⟩, ⟨(some 41), (.mov (.t 9)), none⟩, ⟨(some 42), (.bin .mul (.t 40) (.t 41)), none⟩, ⟨(some 43), (.mov (.t 13)), none⟩, ⟨(some 44), (.bin .add (.t 42) (.t 43)), none⟩, ⟨(some 45), (.mov (.t 12)), none⟩, ⟨(some 46), (.bin .shr (.t 45) (.k (.int .u64 32))), none⟩, ⟨(some 47), (.bin .add (.t 44) (.t 46)), none⟩, ⟨(some 4), (.mov (.t 47)), none⟩]) (.sq (.reg false [] [⟨(some 48), (.mov (.t 0)), none⟩, ⟨(some 49), (.mov (.t 1)), none⟩, ⟨(some 50), (.bin .mul (.t 48) (.t 49)), none⟩, ⟨(some 5), (.mov (.t 50)), none⟩]) .ret)))))))))))), [(.tmp 4), (.tmp 5)]⟩
noncomputable def s40 : Sig := ⟨(.cons (.int .u64) (.one (.int .u64))), (.tup (.cons (.int .u64) (.one (.int .u64)))), math_bits_Mul64⟩
theorem c40 : compF Tryd.prog 40 = some ⟨a40.n, erase a40.code, a40.res⟩ := by kernel_rfl
theorem t40 : funT (tp B L41) s40.a s40.r a40 = some s40.fn := by kernel_rfl
noncomputable def L40 : List (FuncId × Sig) := (40, s40) :: L41
theorem g40 : GoodT Tryd.prog B L40 := GoodT.addM g41 40 s40 (by rfl) fun _ _ _ hx hy => funT_ok g41.E g41.T t40 c40 (k := 2) rfl (Nat.le_of_ble_eq_true rfl) hx hy
def a65 : AF := ⟨25, (.sq (.reg false [] [⟨(some 2), (.mov (.k (.int .i64 0))), none⟩]) (.join [(.s 0, .v (.int .u64)), (.s 2, .v (.int .i64))] [] false (.sq (.reg false [] [⟨(some 3), (.mov (.t 0)), none⟩, ⟨(some 4), (.bin .geq (.t 3) (.k (.int .u64 4294967296))), none⟩]) (.cond (.t 4) (.sq (.reg false [] [⟨(some 5), (.mov (.t 0)), none⟩, ⟨(some 6), (.bin .shr (.t 5) (.k (.int .u64 32))), none⟩, ⟨(some 0), (.mov (.t 6)), none⟩]) (.reg false [] [⟨(some 2), (.mov (.k (.int .i64 32))), none⟩])) .skip)) (.join [(.s 0, .v (.int .u64)), (.s 2, .v (.int .i64))] [] false (.sq (.reg false [] [⟨(some 7), (.mov (.t 0)), none⟩, ⟨(some 8), (.bin .geq (.t 7) (.k (.int .u64 65536))), none⟩]) (.cond (.t 8) (.sq (.reg false [] [⟨(some 9), (.mov (.t 0)), none⟩, ⟨(some 10), (.bin .shr (.t 9) (.k (.int .u64 16))), none⟩, ⟨(some 0), (.mov (.t 10)), none⟩]) (.reg false [] [⟨(some 11), (.mov (.t 2)), none⟩, ⟨(some 12), (.bin .add (.t 11) (.k (.int .i64 16))), none⟩, ⟨(some 2), (.mov (.t 12)), none⟩])) .skip)) (.join [(.s 0, .v (.int .u64)), (.s 2, .v (.int .i64))] [] false (.sq (.reg false [] [⟨(some 13), (.mov (.t 0)), none⟩, ⟨(some 14), (.bin .geq (.t 13) (.k (.int .u64 256))), none⟩]) (.cond (.t 14) (.sq (.reg false [] [⟨(some 15), (.mov (.t 0)), none⟩, ⟨(some 16), (.bin .shr (.t 15) (.k (.int .u64 8))), none⟩, ⟨(some 0), (.mov (.t 16)), none⟩]) (.reg false [] [⟨(some 17), (.mov (.t 2)), none⟩, ⟨(some 18), (.bin .add (.t 17) (.k (.int .i64 8))), none⟩, ⟨(some 2), (.mov (.t 18)), none⟩])) .skip)) (.sq (.reg false [] [⟨(some 19), (.mov (.t 2)), none⟩, ⟨(some 20), (.mov (.t 0)), none⟩, ⟨(some 21), (.cvi .u8 (.t 20)), none⟩, ⟨(some 22), (.sidx (.k (.str [0, 1, 2, 2, 3, 3, 3, 3, 4, 4, 4, 4, 4, 4, 4, 4, 5, 5, 5, 5, 5, 5, 5, 5, 5, 5, 5, 5, 5, 5, 5, 5, 6, 6, 6, 6, 6, 6, 6, 6, 6, 6, 6, 6, 6, 6, 6, 6, 6, 6, 6, 6, 6, 6, 6, 6, 6, 6, 6, 6, 6, 6, 6, 6, 7, 7, 7, 7, 7, 7, 7, 7, 7, 7, 7, 7, 7, 7, 7, 7, 7, 7, 7, 7, 7, 7, 7, 7, 7, 7, 7, 7, 7, 7, 7, 7, 7, 7, 7, 7, 7, 7, 7, 7, 7, 7, 7, 7, 7, 7, 7, 7, 7, 7, 7, 7, 7, 7, 7, 7, 7, 7, 7, 7, 7, 7, 7, 7, 8, 8, 8, 8, 8, 8, 8, 8, 8, 8, 8, 8, 8, 8, 8, 8, 8, 8, 8, 8, 8, 8, 8, 8, 8, 8, 8, 8, 8, 8, 8, 8, 8, 8, 8, 8, 8, 8, 8, 8, 8, 8, 8, 8, 8, 8, 8, 8, 8, 8, 8, 8, 8, 8, 8, 8, 8, 8, 8, 8, 8, 8, 8, 8, 8, 8, 8, 8, 8, 8, 8, 8, 8, 8, 8, 8, 8, 8, 8, 8, 8, 8, 8, 8, 8, 8, 8, 8, 8, 8, 8, 8, 8, 8, 8, 8, 8, 8, 8, 8, 8, 8, 8, 8, 8, 8, 8, 8, 8, 8, 8, 8, 8, 8, 8, 8, 8, 8, 8, 8, 8, 8, 8, 8, 8, 8, 8, 8])) (.t 21)), none⟩, ⟨(some 23), (.cvi .i64 (.t 22)), none⟩, ⟨(some 24), (.bin .add (.t 19) (.t 23)), none⟩, ⟨(some 2), (.mov (.t 24)), none⟩]) .ret))))), [(.tmp 2)]⟩
noncomputable def s65 : Sig := ⟨(.one (.int .u64)), (.int .i64), math_bits_Len64⟩
theorem c65 : compF Tryd.prog 65 = some ⟨a65.n, erase a65.code, a65.res⟩ := by kernel_rfl
theorem t65 : funT (tp B L40) s65.a s65.r a65 = some s65.fn := by kernel_rfl
noncomputable def L65 : List (FuncId × Sig) := (65, s65) :: L40
theorem g65 : GoodT Tryd.prog B L65 := GoodT.addM g40 65 s65 (by rfl) fun _ _ _ hx hy => funT_ok g40.E g40.T t65 c65 (k := 1) rfl (Nat.le_of_ble_eq_true rfl) hx hy
def a53 : AF := ⟨6, (.sq (.reg false [] [⟨(some 2), (.mov (.k (.int .i64 0))), none⟩]) (.sq (.reg false [] [⟨(some 3), (.mov (.t 0)), none⟩, ⟨(some 4), (.call 65 [(.t 3)]), none⟩, ⟨(some 5), (.bin .sub (.k (.int .i64 64)) (.t 4)), none⟩, ⟨(some 2), (.mov (.t 5)), none⟩]) .ret)), [(.tmp 2)]⟩
noncomputable def s53 : Sig := ⟨(.one (.int .u64)), (.int .i64), math_bits_LeadingZeros64⟩
theorem c53 : compF Tryd.prog 53 = some ⟨a53.n, erase a53.code, a53.res⟩ := by kernel_rfl
theorem t53 : funT (tp B L65) s53.a s53.r a53 = some s53.fn := by kernel_rfl
noncomputable def L53 : List (FuncId × Sig) := (53, s53) :: L65
theorem g53 : GoodT Tryd.prog B L53 := GoodT.addM g65 53 s53 (by rfl) fun _ _ _ hx hy => funT_ok g65.E g65.T t53 c53 (k := 1) rfl (Nat.le_of_ble_eq_true rfl) hx hy
def a42 : AF := ⟨135, (.sq (.reg false [] [⟨(some 6), (.mov (.k (.int .u64 0))), none⟩, ⟨(some 7), (.mov (.k (.int .u64 0))), none⟩]) (.seq [(.s 0, .v (.int .u64)), (.s 1, .v (.int .u64)), (.s 2, .v (.int .u64))] (.sq (.reg false [] [⟨(some 19), (.mov (.t 2)), none⟩, ⟨(some 20), (.bin .eql (.t 19) (.k (.int .u64 0))), none⟩]) (.cond (.t 20) (.raw .bad) .skip)) (.seq [(.s 0, .v (.int .u64)), (.s 1, .v (.int .u64)), (.s 2, .v (.int .u64))] (.sq (.reg false [] [⟨(some 22), (.mov (.t 2)), none⟩, ⟨(some 23), (.mov (.t 0)), none⟩, ⟨(some 24), (.bin .leq (.t 22) (.t 23)), none⟩]) (.cond (.t 24) (.raw .bad) .skip)) (.seq [(.s 0, .v (.int .u64)), (.s 1, .v (.int .u64)), (.s 2, .v (.int .u64))] (.sq (.reg false [] [⟨(some 26), (.mov (.t 0)), none⟩, ⟨(some 27), (.bin .eql (.t 26) (.k (.int .u64 0))), none⟩]) (.cond (.t 27) (.sq (.reg true [] [⟨(some 28), (.mov (.t 1)), none⟩, ⟨(some 29), (.mov (.t 2)), none⟩, ⟨(some 30), (.bin .quo (.t 28) (.t 29)), none⟩, ⟨(some 31), (.mov (.t 1)), none⟩, ⟨(some 32), (.mov (.t 2)), none⟩, ⟨(some 33), (.bin .rem (.t 31) (.t 32)), none⟩, ⟨(some 6), (.mov (.t 30)), none⟩, ⟨(some 7), (.mov (.t 33)), none⟩]) .ret) .skip)) (.sq (.reg false [] [⟨(some 34), (.mov (.t 2)), none⟩, ⟨(some 35), (.call 53 [(.t 34)]), none⟩, ⟨(some 36), (.cvi .u64 (.t 35)), none⟩, ⟨(some 8), (.mov (.t 36)), none⟩]) (.sq (.reg false [] [⟨(some 37), (.mov (.t 2)), none⟩, ⟨(some 38), (.mov (.t 8)), none⟩, ⟨(some 39), (.bin .shl (.t 37) (.t 38)), none⟩, ⟨(some 2), (.mov (.t 39)), none⟩]) (.sq (.reg false [] [⟨(some 40), (.mov (.t 2)), none⟩, ⟨(some 41), (.bin .shr (.t 40) (.k (.int .u64 32))), none⟩, ⟨(some 9), (.mov (.t 41)), none⟩]) (.sq (.reg false [] [⟨(some 42), (.mov (.t 2)), none⟩, ⟨(some 43), (.bin .and (.t 42) (.k (.int .u64 4294967295))), none⟩, ⟨(some 10), (.mov (.t 43)), none⟩]) (.sq (.reg false [] [⟨(some 44), (.mov (.t 0)), none⟩, ⟨(some 45), (.mov (.t 8)), none⟩, ⟨(some 46), (.bin .shl (.t 44) (.t 45)), none⟩, ⟨(some 47), (.mov (.t 1)), none⟩, ⟨(some 48), (.mov (.t 8)), none⟩, ⟨(some 49), (.bin .sub (.k (.int .u64 64)) (.t 48)), none⟩, ⟨(some 50), (.bin .shr (.t 47) (.t 49)), none⟩, ⟨(some 51), (.bin .or (.t 46) (.t 50)), none⟩, ⟨(some 11), (.mov (.t 51)), none⟩]) (.sq (.reg false [] [⟨(some 52), (.mov (.t 1)), none⟩, ⟨(some 53), (.mov (.t 8)), none⟩, ⟨(some 54), (.bin .shl (.t 52) (.t 53)), none⟩, ⟨(some 12), (.mov (.t 54)), none⟩]) (.sq (.reg false [] [⟨(some 55), (.mov (.t 12)), none⟩, ⟨(some 56), (.bin .shr (.t 55) (.k (.int .u64 32))), none⟩, ⟨(some 13), (.mov (.t 56)), none⟩]) (.sq (.reg false [] [⟨(some 57), (.mov (.t 12)), none⟩, ⟨(some 58), (.bin .and (.t 57) (.k (.int .u64 4294967295))), none⟩, ⟨(some 14), (.mov (.t 58)), none⟩]) (.sq (.reg false [] [⟨(some 59), (.mov (.t 11)), none⟩, ⟨(some 60), (.mov (.t 9)), none⟩, ⟨(some 61), (.bin .quo (.t 59) (.t 60)), none⟩, ⟨(some 15), (.mov (.t 61)), none⟩]) (.sq (.reg false [] [⟨(some 62), (.mov (.t 11)), none⟩, ⟨(some 63), (.mov (.t 15)), none⟩, ⟨(some 64), (.mov (.t 9)), none⟩, ⟨(some 65), (.bin .mul (.t 63) (.t 64)), none⟩, ⟨(some 66), (.bin .sub (.t 62) (.t 65)), none⟩, ⟨(some 16), (.mov (.t 66)), none⟩]) (.join [(.s 2, .v (.int .u64)), (.s 8, .v (.int .u64)), (.s 9, .v (.int .u64)), (.s 10, .v (.int .u64)), (.s 11, .v (.int .u64)), (.s 13, .v (.int .u64)), (.s 14, .v (.int .u64)), (.s 15, .v (.int .u64))] [] false (.block 0 (.loop [(.s 2, .v (.int .u64)), (.s 8, .v (.int .u64)), (.s 9, .v (.int .u64)), (.s 10, .v (.int .u64)), (.s 11, .v (.int .u64)), (.s 13, .v (.int .u64)), (.s 14, .v (.int .u64)), (.s 15, .v (.int .u64)), (.s 16, .v (.int .u64))] [0] false (.seq [(.s 2, .v (.int .u64)), (.s 8, .v (.int .u64)), (.s 9, .v (.int .u64)), (.s 10, .v (.int .u64)), (.s 11, .v (.int .u64)), (.s 13, .v (.int .u64)), (.s 14, .v (.int .u64)), (.s 15, .v (.int .u64)), (.s 16, .v (.int .u64))] (.sq (.reg false [] [⟨(some 67), (.mov (.t 15)), none⟩, ⟨(some 68), (.bin .geq (.t 67) (.k (.int .u64 4294967296))), none⟩, ⟨(some 69), (.mov (.t 68)), none⟩, ⟨(some 70), (.mov (.t 15)), (some (69, false))⟩, ⟨(some 71), (.mov (.t 10)), (some (69, false))⟩, ⟨(some 72), (.bin .mul (.t 70) (.t 71)), (some (69, false))⟩, ⟨(some 73), (.mov (.t 16)), (some (69, false))⟩, ⟨(some 74), (.bin .mul (.k (.int .u64 4294967296)) (.t 73)), (some (69, false))⟩, ⟨(some 75), (.mov (.t 13)), (some (69, false))⟩, ⟨(some 76), (.bin .add (.t 74) (.t 75)), (some (69, false))⟩, ⟨(some 77), (.bin .gtr (.t 72) (.t 76)), (some (69, false))⟩, ⟨(some 78), (.pick (.t 69) (.k (.bool true)) (.t 77)), none⟩]) (.cond (.t 78) .skip (.exit 0))) (.block 1 (.sq (.reg false [] [⟨(some 79), (.mov (.t 15)), none⟩, ⟨(some 80), (.bin .sub (.t 79) (.k (.int .u64 1))), none⟩, ⟨(some 15), (.mov (.t 80)), none⟩]) (.sq (.reg false [] [⟨(some 81), (.mov (.t 16)), none⟩, ⟨(some 82), (.mov (.t 9)), none⟩, ⟨(some 83), (.bin .add (.t 81) (.t 82)), none⟩, ⟨(some 16), (.mov (.t 83)), none⟩]) (.sq (.reg false [] [⟨(some 84), (.mov (.t 16)), none⟩, ⟨(some 85), (.bin .geq (.t 84) (.k (.int .u64 4294967296))), none⟩]) (.cond (.t 85) (.exit 0) .skip)))))))) (.sq (.reg false [] [⟨(some 86), (.mov (.t 11)), none⟩, ⟨(some 87), (.bin .mul (.t 86) (.k (.int .u64 4294967296))), none⟩, ⟨(some 88), (.mov (.t 13)), none⟩, ⟨(some 89), (.bin .add (.t 87) (.t 88)), none⟩, ⟨(some 90), (.mov (.t 15)), none⟩, ⟨(some 91), (.mov (.t 2)), none⟩, ⟨(some 92), (.bin .mul (.t 90) (.t 91)), none⟩, ⟨(some 93), (.bin .sub (.t 89) (.t 92)), none⟩, ⟨(some 17), (.mov (.t 93)), none⟩]) (.sq (.reg false [] [⟨(some 94), (.mov (.t 17)), none⟩, ⟨(some 95), (.mov (.t 9)), none⟩, ⟨(some 96), (.bin .quo (.t 94) (.t 95)), none⟩, ⟨(some 18), (.mov (.t 96)), none⟩]) (.sq (.reg false [] [⟨(some 97), (.mov (.t 17)), none⟩, ⟨(some 98), (.mov (.t 18)), none⟩, ⟨(some 99), (.mov (.t 9)), none⟩, ⟨(some 100), (.bin .mul (.t 98) (.t 99)), none⟩, ⟨(some 101), (.bin .sub (.t 97) (.t 100)), none⟩, ⟨(some 16), (.mov (.t 101)), none⟩]) (.join [(.s 2, .v (.int .u64)), (.s 8, .v (.int .u64)), (.s 14, .v (.int .u64)), (.s 15, .v (.int .u64)), (.s 17, .v (.int .u64)), (.s 18, .v (.int .u64))] [] false (.block 2 (.loop [(.s 2, .v (.int .u64)), (.s 8, .v (.int .u64)), (.s 9, .v (.int .u64)), (.s 10, .v (.int .u64)), (.s 14, .v (.int .u64)), (.s 15, .v (.int .u64)), (.s 16, .v (.int .u64)), (.s 17, .v (.int .u64)), (.s 18, .v (.int .u64))] [2] false (.seq [(.s 2, .v (.int .u64)), (.s 8, .v (.int .u64)), (.s 9, .v (.int .u64)), (.s 10, .v (.int .u64)), (.s 14, .v (.int .u64)), (.s 15, .v (.int .u64)), (.s 16, .v (.int .u64)), (.s 17, .v (.int .u64)), (.s 18, .v (.int .u64))] (.sq (.reg false [] [⟨(some 102), (.mov (.t 18)), none⟩, ⟨(some 103), (.bin .geq (.t 102) (.k (.int .u64 4294967296))), none⟩, ⟨(some 104), (.mov (.t 103)), none⟩, ⟨(some 105), (.mov (.t 18)), (some (104, false))⟩, ⟨(some 106), (.mov (.t 10)), (some (104, false))⟩, ⟨(some 107), (.bin .mul (.t 105) (.t 106)), (some (104, false))⟩, ⟨(some 108), (.mov (.t 16)), (some (104, false))⟩, ⟨(some 109), (.bin .mul (.k (.int .u64 4294967296)) (.t 108)), (some (104, false))⟩, ⟨(some 110), (.mov (.t 14)), (some (104, false))⟩, ⟨(some 111), (.bin .add (.t 109) (.t 110)), (some (104, false))⟩, ⟨(some 112), (.bin .gtr (.t 107) (.t 111)), (some (104, false))⟩, ⟨(some 113), (.pick (.t 104) (.k (.bool true)) (.t 112)), none⟩]) (.cond (.t 113) .skip (.exit 2))) (.block 3 (.sq (.reg false [] [⟨(some 114), (.mov (.t 18)), none⟩, ⟨(some 115), (.bin .sub (.t 114) (.k (.int .u64 1))), none⟩, ⟨(some 18), (.mov (.t 115)), none⟩]) (.sq (.reg false [] [⟨(some 116), (.mov (.t 16)), none⟩, ⟨(some 117), (.mov (.t 9)), none⟩, ⟨(some 118), (.bin .add (.t 116) (.t 117)), none⟩, ⟨(some 16), (.mov (.t 118)), none⟩]) (.sq (.reg false [] [⟨(some 119), (.mov (.t 16)), none⟩, ⟨(some 120), (.bin .geq (.t 119) (.k (.int .u64 4294967296))), none⟩]) (.cond (.t 120) (.exit 2) .skip)))))))) (.sq (.reg false [] [⟨(some 121), (.mov (.t 15)), none⟩, ⟨(some 122), (.bin .mul (.t 121) (.k (.int .u64 4294967296))), none⟩, ⟨(some 123), (.mov (.t 18)), none⟩, ⟨(some 124), (.bin .add (.t 122) (.t 123)), none⟩, ⟨(some 125), (.mov (.t 17)), none⟩, ⟨(some 126), (.bin .mul (.t 125) (.k (.int .u64 4294967296))), none⟩, ⟨(some 127), (.mov (.t 14)), none⟩, ⟨(some 128), (.bin .add (.t 126) (.t 127)), none⟩, ⟨(some 129), (.mov (.t 18)), none⟩, ⟨(some 130), (.mov (.t 2)), none⟩, ⟨(some 131), (.bin .mul (.t 129) (.t 130)), none⟩, ⟨(some 132), (.bin .sub (.t 128) (.t 131)), none⟩, ⟨(some 133), (.mov (.t 8)), none⟩, ⟨(some 134), (.bin .shr (.t 132) (.t 133)), none⟩, ⟨(some 6), (.mov (.t 124)), none⟩, ⟨(some 7), (.mov (.t 134)), none⟩]) .ret)))))))))))))))))))), [(.tmp 6), (.tmp 7)]⟩
noncomputable def s42 : Sig := ⟨(.cons (.int .u64) (.cons (.int .u64) (.one (.int .u64)))), (.tup (.cons (.int .u64) (.one (.int .u64)))), math_bits_Div64⟩
theorem c42 : compF Tryd.prog 42 = some ⟨a42.n, erase a42.code, a42.res⟩ := by kernel_rfl
theorem t42 : funT (tp B L53) s42.a s42.r a42 = some s42.fn := by kernel_rfl
noncomputable def L42 : List (FuncId × Sig) := (42, s42) :: L53
theorem g42 : GoodT Tryd.prog B L42 := GoodT.addM g53 42 s42 (by rfl) fun _ _ _ hx hy => funT_ok g53.E g53.T t42 c42 (k := 3) rfl (Nat.le_of_ble_eq_true rfl) hx hy
def a43 : AF := ⟨39, (.sq (.reg false [] [⟨(some 10), (.mov (.k (.bool false))), none⟩]) (.sq (.reg false [] [⟨(some 11), (.mov (.k (.bool false))), none⟩]) (.join [(.s 11, .v .bool)] [] false (.sq (.reg false [] [⟨(some 12), (.mov (.t 4)), none⟩]) (.block 0 (.join [(.s 2, .v (.int .u64)), (.s 3, .v (.int .u64))] [0] false (.block 4 (.seq [(.s 1, .v (.int .u64)), (.s 2, .v (.int .u64)), (.s 3, .v (.int .u64))] (.block 3 (.join [(.s 2, .v (.int .u64))] [3, 4, 0] false (.block 2 (.seq [(.s 0, .v .bool), (.s 2, .v (.int .u64)), (.s 11, .v .bool)] (.block 1 (.seq [(.s 11, .v .bool)] (.seq [(.s 1, .v (.int .u64)), (.s 2, .v (.int .u64)), (.s 3, .v (.int .u64)), (.s 11, .v .bool), (.s 12, .v (.int .i64))] (.sq (.reg false [] [⟨(some 14), (.bin .eql (.t 12) (.k (.int .i64 4))), none⟩, ⟨(some 13), (.mov (.t 14)), none⟩]) (.cond (.t 13) (.exit 1) .skip)) (.seq [(.s 1, .v (.int .u64)), (.s 2, .v (.int .u64)), (.s 3, .v (.int .u64)), (.s 11, .v .bool), (.s 12, .v (.int .i64))] (.sq (.reg false [] [⟨(some 16), (.bin .eql (.t 12) (.k (.int .i64 3))), none⟩, ⟨(some 15), (.mov (.t 16)), none⟩]) (.cond (.t 15) (.exit 2) .skip)) (.seq [(.s 2, .v (.int .u64)), (.s 3, .v (.int .u64)), (.s 11, .v .bool), (.s 12, .v (.int .i64))] (.sq (.reg false [] [⟨(some 18), (.bin .eql (.t 12) (.k (.int .i64 2))), none⟩, ⟨(some 17), (.mov (.t 18)), none⟩]) (.cond (.t 17) (.exit 3) .skip)) (.sq (.reg false [] [⟨(some 20), (.bin .eql (.t 12) (.k (.int .i64 1))), none⟩, ⟨(some 19), (.mov (.t 20)), none⟩]) (.cond (.t 19) (.exit 4) .skip))))) (.exit 0))) (.sq (.reg false [] [⟨(some 21), (.mov (.t 0)), none⟩, ⟨(some 22), (.un .not (.t 21)), none⟩]) (.cond (.t 22) (.exit 0) .skip)))) (.sq (.reg false [] [⟨(some 23), (.mov (.t 2)), none⟩, ⟨(some 24), (.bin .gtr (.t 23) (.k (.int .u64 0))), none⟩, ⟨(some 11), (.mov (.t 24)), none⟩]) (.exit 0)))) (.sq (.reg false [] [⟨(some 25), (.mov (.t 2)), none⟩, ⟨(some 26), (.mov (.t 3)), none⟩, ⟨(some 27), (.mov (.t 2)), none⟩, ⟨(some 28), (.bin .sub (.t 26) (.t 27)), none⟩, ⟨(some 29), (.bin .eql (.t 25) (.t 28)), none⟩]) (.cond (.t 29) (.sq (.reg false [] [⟨(some 30), (.mov (.t 1)), none⟩, ⟨(some 31), (.bin .rem (.t 30) (.k (.int .u64 2))), none⟩, ⟨(some 32), (.bin .eql (.t 31) (.k (.int .u64 1))), none⟩, ⟨(some 11), (.mov (.t 32)), none⟩]) (.exit 0)) .skip)))) (.sq (.reg false [] [⟨(some 33), (.mov (.t 2)), none⟩, ⟨(some 34), (.mov (.t 3)), none⟩, ⟨(some 35), (.mov (.t 2)), none⟩, ⟨(some 36), (.bin .sub (.t 34) (.t 35)), none⟩, ⟨(some 37), (.bin .geq (.t 33) (.t 36)), none⟩, ⟨(some 11), (.mov (.t 37)), none⟩]) (.exit 0))))) (.sq (.reg false [] [⟨(some 38), (.mov (.t 11)), none⟩, ⟨(some 10), (.mov (.t 38)), none⟩]) .ret)))), [(.tmp 10)]⟩
noncomputable def s43 : Sig := ⟨(.cons .bool (.cons (.int .u64) (.cons (.int .u64) (.cons (.int .u64) (.one (.int .i64)))))), .bool, rate_up⟩
theorem c43 : compF Tryd.prog 43 = some ⟨a43.n, erase a43.code, a43.res⟩ := by kernel_rfl
theorem t43 : funT (tp B L42) s43.a s43.r a43 = some s43.fn := by kernel_rfl
noncomputable def L43 : List (FuncId × Sig) := (43, s43) :: L42
theorem g43 : GoodT Tryd.prog B L43 := GoodT.addM g42 43 s43 (by rfl) fun _ _ _ hx hy => funT_ok g42.E g42.T t43 c43 (k := 5) rfl (Nat.le_of_ble_eq_true rfl) hx hy
def a26 : AF := ⟨60, (.sq (.reg false [] [⟨(some 10), (.mov (.k (.int .i64 0))), none⟩, ⟨(some 11), (.mov (.k (.bool false))), none⟩]) (.sq (.reg false [] [⟨(some 17), (.mov (.t 0)), none⟩, ⟨(some 18), (.bin .lss (.t 17) (.k (.int .i64 0))), none⟩, ⟨(some 19), (.mov (.t 1)), none⟩, ⟨(some 20), (.bin .lss (.t 19) (.k (.int .i64 0))), none⟩, ⟨(some 21), (.beq true (.t 18) (.t 20)), none⟩, ⟨(some 12), (.mov (.t 21)), none⟩]) (.sq (.reg false [] [⟨(some 23), (.mov (.t 0)), none⟩, ⟨(some 24), (.call 41 [(.t 23)]), none⟩, ⟨(some 25), (.mov (.t 1)), none⟩, ⟨(some 26), (.call 41 [(.t 25)]), none⟩, ⟨(some 27), (.call 40 [(.t 24), (.t 26)]), none⟩, ⟨(some 22), (.mov (.t 27)), none⟩, ⟨(some 28), (.ext (.t 22) 0), none⟩, ⟨(some 29), (.ext (.t 22) 1), none⟩, ⟨(some 13), (.mov (.t 28)), none⟩, ⟨(some 14), (.mov (.t 29)), none⟩]) (.seq [(.s 2, .v (.int .u64)), (.s 3, .v (.int .u64)), (.s 4, .v (.int .i64)), (.s 12, .v .bool), (.s 13, .v (.int .u64)), (.s 14, .v (.int .u64))] (.sq (.reg false [] [⟨(some 30), (.mov (.t 13)), none⟩, ⟨(some 31), (.mov (.t 2)), none⟩, ⟨(some 32), (.bin .geq (.t 30) (.t 31)), none⟩]) (.cond (.t 32) (.sq (.reg false [] [⟨(some 10), (.mov (.k (.int .i64 0))), none⟩, ⟨(some 11), (.mov (.k (.bool false))), none⟩]) .ret) .skip)) (.sq (.reg false [] [⟨(some 34), (.mov (.t 13)), none⟩, ⟨(some 35), (.mov (.t 14)), none⟩, ⟨(some 36), (.mov (.t 2)), none⟩, ⟨(some 37), (.call 42 [(.t 34), (.t 35), (.t 36)]), none⟩, ⟨(some 33), (.mov (.t 37)), none⟩, ⟨(some 38), (.ext (.t 33) 0), none⟩, ⟨(some 39), (.ext (.t 33) 1), none⟩, ⟨(some 15), (.mov (.t 38)), none⟩, ⟨(some 16), (.mov (.t 39)), none⟩]) (.seq [(.s 2, .v (.int .u64)), (.s 3, .v (.int .u64)), (.s 4, .v (.int .i64)), (.s 12, .v .bool), (.s 15, .v (.int .u64)), (.s 16, .v (.int .u64))] (.sq (.reg false [] [⟨(some 40), (.mov (.t 15)), none⟩, ⟨(some 41), (.mov (.t 3)), none⟩, ⟨(some 42), (.bin .gtr (.t 40) (.t 41)), none⟩]) (.cond (.t 42) (.sq (.reg false [] [⟨(some 10), (.mov (.k (.int .i64 0))), none⟩, ⟨(some 11), (.mov (.k (.bool false))), none⟩]) .ret) .skip)) (.join [(.s 3, .v (.int .u64)), (.s 12, .v .bool), (.s 15, .v (.int .u64))] [] false (.sq (.reg false [] [⟨(some 43), (.mov (.t 12)), none⟩, ⟨(some 44), (.mov (.t 15)), none⟩, ⟨(some 45), (.mov (.t 16)), none⟩, ⟨(some 46), (.mov (.t 2)), none⟩, ⟨(some 47), (.mov (.t 4)), none⟩, ⟨(some 48), (.call 43 [(.t 43), (.t 44), (.t 45), (.t 46), (.t 47)]), none⟩]) (.cond (.t 48) (.reg false [] [⟨(some 49), (.mov (.t 15)), none⟩, ⟨(some 50), (.bin .add (.t 49) (.k (.int .u64 1))), none⟩, ⟨(some 15), (.mov (.t 50)), none⟩]) .skip)) (.seq [(.s 12, .v .bool), (.s 15, .v (.int .u64))] (.sq (.reg false [] [⟨(some 51), (.mov (.t 15)), none⟩, ⟨(some 52), (.mov (.t 3)), none⟩, ⟨(some 53), (.bin .gtr (.t 51) (.t 52)), none⟩]) (.cond (.t 53) (.sq (.reg false [] [⟨(some 10), (.mov (.k (.int .i64 0))), none⟩, ⟨(some 11), (.mov (.k (.bool false))), none⟩]) .ret) .skip)) (.seq [(.s 15, .v (.int .u64))] (.sq (.reg false [] [⟨(some 54), (.mov (.t 12)), none⟩]) (.cond (.t 54) (.sq (.reg false [] [⟨(some 55), (.mov (.t 15)), none⟩, ⟨(some 56), (.cvi .i64 (.t 55)), none⟩, ⟨(some 57), (.un .neg (.t 56)), none⟩, ⟨(some 10), (.mov (.t 57)), none⟩, ⟨(some 11), (.mov (.k (.bool true))), none⟩]) .ret) .skip)) (.sq (.reg false [] [⟨(some 58), (.mov (.t 15)), none⟩, ⟨(some 59), (.cvi .i64 (.t 58)), none⟩, ⟨(some 10), (.mov (.t 59)), none⟩, ⟨(some 11), (.mov (.k (.bool true))), none⟩]) .ret)))))))))), [(.tmp 10), (.tmp 11)]⟩
noncomputable def s26 : Sig := ⟨(.cons (.int .i64) (.cons (.int .i64) (.cons (.int .u64) (.cons (.int .u64) (.one (.int .i64)))))), (.tup (.cons (.int .i64) (.one .bool))), rate_quotient⟩
theorem c26 : compF Tryd.prog 26 = some ⟨a26.n, erase a26.code, a26.res⟩ := by kernel_rfl
theorem t26 : funT (tp B L43) s26.a s26.r a26 = some s26.fn := by kernel_rfl
noncomputable def L26 : List (FuncId × Sig) := (26, s26) :: L43
theorem g26 : GoodT Tryd.prog B L26 := GoodT.addM g43 26 s26 (by rfl) fun _ _ _ hx hy => funT_ok g43.E g43.T t26 c26 (k := 5) rfl (Nat.le_of_ble_eq_true rfl) hx hy
def a13 : AF := ⟨41, (.sq (.reg false [] [⟨(some 8), (.mov (.k (.int .i64 0))), none⟩, ⟨(some 9), (.mov (.k (.int .i64 0))), none⟩]) (.seq [(.s 0, .v (.int .i64)), (.s 1, .v (.int .i64)), (.s 2, .v (.int .i64)), (.s 3, .v (.int .i64))] (.block 0 (.sq (.reg false [] [⟨(some 13), (.mov (.t 0)), none⟩, ⟨(some 14), (.call 25 [(.t 13)]), none⟩, ⟨(some 15), (.un .not (.t 14)), none⟩, ⟨(some 12), (.mov (.t 15)), none⟩]) (.cond (.t 12) (.sq (.reg false [] [⟨(some 8), (.mov (.k (.int .i64 0))), none⟩, ⟨(some 9), (.mov (.k (.int .i64 2))), none⟩]) .ret) (.sq (.reg false [] [⟨(some 17), (.mov (.t 2)), none⟩, ⟨(some 18), (.bin .eql (.t 17) (.k (.int .i64 0))), none⟩, ⟨(some 16), (.mov (.t 18)), none⟩]) (.cond (.t 16) (.sq (.reg false [] [⟨(some 8), (.mov (.k (.int .i64 0))), none⟩, ⟨(some 9), (.mov (.k (.int .i64 22))), none⟩]) .ret) (.sq (.reg false [] [⟨(some 20), (.mov (.t 2)), none⟩, ⟨(some 21), (.bin .lss (.t 20) (.k (.int .i64 0))), none⟩, ⟨(some 19), (.mov (.t 21)), none⟩]) (.cond (.t 19) (.sq (.reg false [] [⟨(some 8), (.mov (.k (.int .i64 0))), none⟩, ⟨(some 9), (.mov (.k (.int .i64 2))), none⟩]) .ret) (.sq (.reg false [] [⟨(some 23), (.mov (.t 3)), none⟩, ⟨(some 24), (.bin .lss (.t 23) (.k (.int .i64 0))), none⟩, ⟨(some 25), (.mov (.t 24)), none⟩, ⟨(some 26), (.mov (.t 3)), (some (25, false))⟩, ⟨(some 27), (.bin .gtr (.t 26) (.k (.int .i64 4))), (some (25, false))⟩, ⟨(some 28), (.pick (.t 25) (.k (.bool true)) (.t 27)), none⟩, ⟨(some 22), (.mov (.t 28)), none⟩]) (.cond (.t 22) (.sq (.reg false [] [⟨(some 8), (.mov (.k (.int .i64 0))), none⟩, ⟨(some 9), (.mov (.k (.int .i64 11))), none⟩]) .ret) .skip))))))))) (.sq (.reg false [] [⟨(some 30), (.mov (.t 0)), none⟩, ⟨(some 31), (.mov (.t 1)), none⟩, ⟨(some 32), (.mov (.t 2)), none⟩, ⟨(some 33), (.cvi .u64 (.t 32)), none⟩, ⟨(some 34), (.mov (.t 3)), none⟩, ⟨(some 35), (.call 26 [(.t 30), (.t 31), (.t 33), (.k (.int .u64 1125899906842624)), (.t 34)]), none⟩, ⟨(some 29), (.mov (.t 35)), none⟩, ⟨(some 36), (.ext (.t 29) 0), none⟩, ⟨(some 37), (.ext (.t 29) 1), none⟩, ⟨(some 10), (.mov (.t 36)), none⟩, ⟨(some 11), (.mov (.t 37)), none⟩]) (.seq [(.s 10, .v (.int .i64))] (.sq (.reg false [] [⟨(some 38), (.mov (.t 11)), none⟩, ⟨(some 39), (.un .not (.t 38)), none⟩]) (.cond (.t 39) (.sq (.reg false [] [⟨(some 8), (.mov (.k (.int .i64 0))), none⟩, ⟨(some 9), (.mov (.k (.int .i64 9))), none⟩]) .ret) .skip)) (.sq (.reg false [] [⟨(some 40), (.mov (.t 10)), none⟩, ⟨(some 8), (.mov (.t 40)), none⟩, ⟨(some 9), (.mov (.k (.int .i64 0))), none⟩]) .ret))))), [(.tmp 8), (.tmp 9)]⟩
noncomputable def s13 : Sig := ⟨(.cons (.int .i64) (.cons (.int .i64) (.cons (.int .i64) (.one (.int .i64))))), (.tup (.cons (.int .i64) (.one (.int .i64)))), rate_Part⟩
theorem c13 : compF Tryd.prog 13 = some ⟨a13.n, erase a13.code, a13.res⟩ := by kernel_rfl
theorem t13 : funT (tp B L26) s13.a s13.r a13 = some s13.fn := by kernel_rfl
noncomputable def L13 : List (FuncId × Sig) := (13, s13) :: L26
theorem g13 : GoodT Tryd.prog B L13 := GoodT.addM g26 13 s13 (by rfl) fun _ _ _ hx hy => funT_ok g26.E g26.T t13 c13 (k := 4) rfl (Nat.le_of_ble_eq_true rfl) hx hy
def a21 : AF := ⟨22, (.sq (.reg false [] [⟨(some 6), (.mov (.k (.int .i64 0))), none⟩, ⟨(some 7), (.mov (.k (.int .i64 0))), none⟩]) (.seq [(.s 0, .v (.int .i64)), (.s 1, .v (.int .i64)), (.s 2, .v (.int .i64))] (.sq (.reg false [] [⟨(some 8), (.mov (.t 0)), none⟩, ⟨(some 9), (.call 25 [(.t 8)]), none⟩, ⟨(some 10), (.un .not (.t 9)), none⟩, ⟨(some 11), (.mov (.t 10)), none⟩, ⟨(some 12), (.mov (.t 1)), (some (11, false))⟩, ⟨(some 13), (.call 30 [(.t 12)]), (some (11, false))⟩, ⟨(some 14), (.un .not (.t 13)), (some (11, false))⟩, ⟨(some 15), (.pick (.t 11) (.k (.bool true)) (.t 14)), none⟩]) (.cond (.t 15) (.sq (.reg false [] [⟨(some 6), (.mov (.k (.int .i64 0))), none⟩, ⟨(some 7), (.mov (.k (.int .i64 2))), none⟩]) .ret) .skip)) (.sq (.reg false [] [⟨(some 16), (.mov (.t 0)), none⟩, ⟨(some 17), (.mov (.t 1)), none⟩, ⟨(some 18), (.mov (.t 2)), none⟩, ⟨(some 19), (.call 13 [(.t 16), (.t 17), (.k (.int .i64 1000000)), (.t 18)]), none⟩, ⟨(some 20), (.ext (.t 19) 0), none⟩, ⟨(some 21), (.ext (.t 19) 1), none⟩, ⟨(some 6), (.mov (.t 20)), none⟩, ⟨(some 7), (.mov (.t 21)), none⟩]) .ret))), [(.tmp 6), (.tmp 7)]⟩
noncomputable def s21 : Sig := ⟨(.cons (.int .i64) (.cons (.int .i64) (.one (.int .i64)))), (.tup (.cons (.int .i64) (.one (.int .i64)))), rate_Of⟩
theorem c21 : compF Tryd.prog 21 = some ⟨a21.n, erase a21.code, a21.res⟩ := by kernel_rfl
theorem t21 : funT (tp B L13) s21.a s21.r a21 = some s21.fn := by kernel_rfl
noncomputable def L21 : List (FuncId × Sig) := (21, s21) :: L13
theorem g21 : GoodT Tryd.prog B L21 := GoodT.addM g13 21 s21 (by rfl) fun _ _ _ hx hy => funT_ok g13.E g13.T t21 c21 (k := 3) rfl (Nat.le_of_ble_eq_true rfl) hx hy
def a62 : AF := ⟨18, (.sq (.reg false [] [⟨(some 4), (.mov (.k (.bool false))), none⟩]) (.sq (.reg false [] [⟨(some 5), (.mov (.t 0)), none⟩, ⟨(some 6), (.len 0 (.t 5)), none⟩, ⟨(some 7), (.mov (.t 1)), none⟩, ⟨(some 8), (.len 0 (.t 7)), none⟩, ⟨(some 9), (.bin .geq (.t 6) (.t 8)), none⟩, ⟨(some 10), (.mov (.t 9)), none⟩, ⟨(some 11), (.mov (.t 0)), (some (10, true))⟩, ⟨(some 12), (.mov (.t 1)), (some (10, true))⟩, ⟨(some 13), (.len 0 (.t 12)), (some (10, true))⟩, ⟨(some 14), (.sslice (.t 11) none (some (.t 13))), (some (10, true))⟩, ⟨(some 15), (.mov (.t 1)), (some (10, true))⟩, ⟨(some 16), (.bin .eql (.t 14) (.t 15)), (some (10, true))⟩, ⟨(some 17), (.pick (.t 10) (.t 16) (.k (.bool false))), none⟩, ⟨(some 4), (.mov (.t 17)), none⟩]) .ret)), [(.tmp 4)]⟩
noncomputable def s62 : Sig := ⟨(.cons .str (.one .str)), .bool, internal_stringslite_HasPrefix⟩
theorem c62 : compF Tryd.prog 62 = some ⟨a62.n, erase a62.code, a62.res⟩ := by kernel_rfl
theorem t62 : funT (tp B L21) s62.a s62.r a62 = some s62.fn := by kernel_rfl
noncomputable def L62 : List (FuncId × Sig) := (62, s62) :: L21
theorem g62 : GoodT Tryd.prog B L62 := GoodT.addM g21 62 s62 (by rfl) fun _ _ _ hx hy => funT_ok g21.E g21.T t62 c62 (k := 2) rfl (Nat.le_of_ble_eq_true rfl) hx hy
def a50 : AF := ⟨15, (.sq (.reg false [] [⟨(some 4), (.mov (.k (.str []))), none⟩, ⟨(some 5), (.mov (.k (.bool false))), none⟩]) (.seq [(.s 0, .v .str), (.s 1, .v .str)] (.sq (.reg false [] [⟨(some 6), (.mov (.t 0)), none⟩, ⟨(some 7), (.mov (.t 1)), none⟩, ⟨(some 8), (.call 62 [(.t 6), (.t 7)]), none⟩, ⟨(some 9), (.un .not (.t 8)), none⟩]) (.cond (.t 9) (.sq (.reg false [] [⟨(some 10), (.mov (.t 0)), none⟩, ⟨(some 4), (.mov (.t 10)), none⟩, ⟨(some 5), (.mov (.k (.bool false))), none⟩]) .ret) .skip)) (.sq (.reg false [] [⟨(some 11), (.mov (.t 0)), none⟩, ⟨(some 12), (.mov (.t 1)), none⟩, ⟨(some 13), (.len 0 (.t 12)), none⟩, ⟨(some 14), (.sslice (.t 11) (some (.t 13)) none), none⟩, ⟨(some 4), (.mov (.t 14)), none⟩, ⟨(some 5), (.mov (.k (.bool true))), none⟩]) .ret))), [(.tmp 4), (.tmp 5)]⟩
noncomputable def s50 : Sig := ⟨(.cons .str (.one .str)), (.tup (.cons .str (.one .bool))), internal_stringslite_CutPrefix⟩
theorem c50 : compF Tryd.prog 50 = some ⟨a50.n, erase a50.code, a50.res⟩ := by kernel_rfl
theorem t50 : funT (tp B L62) s50.a s50.r a50 = some s50.fn := by kernel_rfl
noncomputable def L50 : List (FuncId × Sig) := (50, s50) :: L62
theorem g50 : GoodT Tryd.prog B L50 := GoodT.addM g62 50 s50 (by rfl) fun _ _ _ hx hy => funT_ok g62.E g62.T t50 c50 (k := 2) rfl (Nat.le_of_ble_eq_true rfl) hx hy
def a33 : AF := ⟨11, (.sq (.reg false [] [⟨(some 4), (.mov (.k (.str []))), none⟩, ⟨(some 5), (.mov (.k (.bool false))), none⟩]) (.sq (.reg false [] [⟨(some 6), (.mov (.t 0)), none⟩, ⟨(some 7), (.mov (.t 1)), none⟩, ⟨(some 8), (.call 50 [(.t 6), (.t 7)]), none⟩, ⟨(some 9), (.ext (.t 8) 0), none⟩, ⟨(some 10), (.ext (.t 8) 1), none⟩, ⟨(some 4), (.mov (.t 9)), none⟩, ⟨(some 5), (.mov (.t 10)), none⟩]) .ret)), [(.tmp 4), (.tmp 5)]⟩
noncomputable def s33 : Sig := ⟨(.cons .str (.one .str)), (.tup (.cons .str (.one .bool))), strings_CutPrefix⟩
theorem c33 : compF Tryd.prog 33 = some ⟨a33.n, erase a33.code, a33.res⟩ := by kernel_rfl
theorem t33 : funT (tp B L50) s33.a s33.r a33 = some s33.fn := by kernel_rfl
noncomputable def L33 : List (FuncId × Sig) := (33, s33) :: L50
theorem g33 : GoodT Tryd.prog B L33 := GoodT.addM g50 33 s33 (by rfl) fun _ _ _ hx hy => funT_ok g50.E g50.T t33 c33 (k := 2) rfl (Nat.le_of_ble_eq_true rfl) hx hy
def a63 : AF := ⟨21, (.sq (.reg false [] [⟨(some 4), (.mov (.k (.bool false))), none⟩]) (.sq (.reg false [] [⟨(some 5), (.mov (.t 0)), none⟩, ⟨(some 6), (.len 0 (.t 5)), none⟩, ⟨(some 7), (.mov (.t 1)), none⟩, ⟨(some 8), (.len 0 (.t 7)), none⟩, ⟨(some 9), (.bin .geq (.t 6) (.t 8)), none⟩, ⟨(some 10), (.mov (.t 9)), none⟩, ⟨(some 11), (.mov (.t 0)), (some (10, true))⟩, ⟨(some 12), (.mov (.t 0)), (some (10, true))⟩, ⟨(some 13), (.len 0 (.t 12)), (some (10, true))⟩, ⟨(some 14), (.mov (.t 1)), (some (10, true))⟩, ⟨(some 15), (.len 0 (.t 14)), (some (10, true))⟩, ⟨(some 16), (.bin .sub (.t 13) (.t 15)), (some (10, true))⟩, ⟨(some 17), (.sslice (.t 11) (some (.t 16)) none), (some (10, true))⟩, ⟨(some 18), (.mov (.t 1)), (some (10, true))⟩, ⟨(some 19), (.bin .eql (.t 17) (.t 18)), (some (10, true))⟩, ⟨(some 20), (.pick (.t 10) (.t 19) (.k (.bool false))), none⟩, ⟨(some 4), (.mov (.t 20)), none⟩]) .ret)), [(.tmp 4)]⟩
noncomputable def s63 : Sig := ⟨(.cons .str (.one .str)), .bool, internal_stringslite_HasSuffix⟩
theorem c63 : compF Tryd.prog 63 = some ⟨a63.n, erase a63.code, a63.res⟩ := by kernel_rfl
theorem t63 : funT (tp B L33) s63.a s63.r a63 = some s63.fn := by kernel_rfl
noncomputable def L63 : List (FuncId × Sig) := (63, s63) :: L33
theorem g63 : GoodT Tryd.prog B L63 := GoodT.addM g33 63 s63 (by rfl) fun _ _ _ hx hy => funT_ok g33.E g33.T t63 c63 (k := 2) rfl (Nat.le_of_ble_eq_true rfl) hx hy
def a51 : AF := ⟨18, (.sq (.reg false [] [⟨(some 4), (.mov (.k (.str []))), none⟩, ⟨(some 5), (.mov (.k (.bool false))), none⟩]) (.seq [(.s 0, .v .str), (.s 1, .v .str)] (.sq (.reg false [] [⟨(some 6), (.mov (.t 0)), none⟩, ⟨(some 7), (.mov (.t 1)), none⟩, ⟨(some 8), (.call 63 [(.t 6), (.t 7)]), none⟩, ⟨(some 9), (.un .not (.t 8)), none⟩]) (.cond (.t 9) (.sq (.reg false [] [⟨(some 10), (.mov (.t 0)), none⟩, ⟨(some 4), (.mov (.t 10)), none⟩, ⟨(some 5), (.mov (.k (.bool false))), none⟩]) .ret) .skip)) (.sq (.reg false [] [⟨(some 11), (.mov (.t 0)), none⟩, ⟨(some 12), (.mov (.t 0)), none⟩, ⟨(some 13), (.len 0 (.t 12)), none⟩, ⟨(some 14), (.mov (.t 1)), none⟩, ⟨(some 15), (.len 0 (.t 14)), none⟩, ⟨(some 16), (.bin .sub (.t 13) (.t 15)), none⟩, ⟨(some 17), (.sslice (.t 11) none (some (.t 16))), none⟩, ⟨(some 4), (.mov (.t 17)), none⟩, ⟨(some 5), (.mov (.k (.bool true))), none⟩]) .ret))), [(.tmp 4), (.tmp 5)]⟩
noncomputable def s51 : Sig := ⟨(.cons .str (.one .str)), (.tup (.cons .str (.one .bool))), internal_stringslite_CutSuffix⟩
theorem c51 : compF Tryd.prog 51 = some ⟨a51.n, erase a51.code, a51.res⟩ := by kernel_rfl
theorem t51 : funT (tp B L63) s51.a s51.r a51 = some s51.fn := by kernel_rfl
noncomputable def L51 : List (FuncId × Sig) := (51, s51) :: L63
theorem g51 : GoodT Tryd.prog B L51 := GoodT.addM g63 51 s51 (by rfl) fun _ _ _ hx hy => funT_ok g63.E g63.T t51 c51 (k := 2) rfl (Nat.le_of_ble_eq_true rfl) hx hy
def a34 : AF := ⟨11, (.sq (.reg false [] [⟨(some 4), (.mov (.k (.str []))), none⟩, ⟨(some 5), (.mov (.k (.bool false))), none⟩]) (.sq (.reg false [] [⟨(some 6), (.mov (.t 0)), none⟩, ⟨(some 7), (.mov (.t 1)), none⟩, ⟨(some 8), (.call 51 [(.t 6), (.t 7)]), none⟩, ⟨(some 9), (.ext (.t 8) 0), none⟩, ⟨(some 10), (.ext (.t 8) 1), none⟩, ⟨(some 4), (.mov (.t 9)), none⟩, ⟨(some 5), (.mov (.t 10)), none⟩]) .ret)), [(.tmp 4), (.tmp 5)]⟩
noncomputable def s34 : Sig := ⟨(.cons .str (.one .str)), (.tup (.cons .str (.one .bool))), strings_CutSuffix⟩
theorem c34 : compF Tryd.prog 34 = some ⟨a34.n, erase a34.code, a34.res⟩ := by kernel_rfl
theorem t34 : funT (tp B L51) s34.a s34.r a34 = some s34.fn := by kernel_rfl
noncomputable def L34 : List (FuncId × Sig) := (34, s34) :: L51
theorem g34 : GoodT Tryd.prog B L34 := GoodT.addM g51 34 s34 (by rfl) fun _ _ _ hx hy => funT_ok g51.E g51.T t34 c34 (k := 2) rfl (Nat.le_of_ble_eq_true rfl) hx hy
noncomputable def s64 : Sig := ⟨(.cons .str (.one .str)), (.int .i64), internal_stringslite_Index⟩
noncomputable def L64 : List (FuncId × Sig) := (64, s64) :: L34
theorem g64 : GoodT Tryd.prog B L64 := GoodT.addM g34 64 s64 (by rfl) fun _ _ _ hx hy => internal_stringslite_Index_ok (by kernel_rfl) Go.Proofs.Tryd.stringslite_Index_one hx hy
def a52 : AF := ⟨23, (.sq (.reg false [] [⟨(some 4), (.mov (.k (.str []))), none⟩, ⟨(some 5), (.mov (.k (.str []))), none⟩, ⟨(some 6), (.mov (.k (.bool false))), none⟩]) (.seq [(.s 0, .v .str)] (.sq (.reg false [] [⟨(some 8), (.mov (.t 0)), none⟩, ⟨(some 9), (.mov (.t 1)), none⟩, ⟨(some 10), (.call 64 [(.t 8), (.t 9)]), none⟩, ⟨(some 7), (.mov (.t 10)), none⟩]) (.sq (.reg false [] [⟨(some 11), (.mov (.t 7)), none⟩, ⟨(some 12), (.bin .geq (.t 11) (.k (.int .i64 0))), none⟩]) (.cond (.t 12) (.sq (.reg true [] [⟨(some 13), (.mov (.t 0)), none⟩, ⟨(some 14), (.mov (.t 7)), none⟩, ⟨(some 15), (.sslice (.t 13) none (some (.t 14))), none⟩, ⟨(some 16), (.mov (.t 0)), none⟩, ⟨(some 17), (.mov (.t 7)), none⟩, ⟨(some 18), (.mov (.t 1)), none⟩, ⟨(some 19), (.len 0 (.t 18)), none⟩, ⟨(some 20), (.bin .add (.t 17) (.t 19)), none⟩, ⟨(some 21), (.sslice (.t 16) (some (.t 20)) none), none⟩, ⟨(some 4), (.mov (.t 15)), none⟩, ⟨(some 5), (.mov (.t 21)), none⟩, ⟨(some 6), (.mov (.k (.bool true))), none⟩]) .ret) .skip))) (.sq (.reg false [] [⟨(some 22), (.mov (.t 0)), none⟩, ⟨(some 4), (.mov (.t 22)), none⟩, ⟨(some 5), (.mov (.k (.str []))), none⟩, ⟨(some 6), (.mov (.k (.bool false))), none⟩]) .ret))), [(.tmp 4), (.tmp 5), (.tmp 6)]⟩
noncomputable def s52 : Sig := ⟨(.cons .str (.one .str)), (.tup (.cons .str (.cons .str (.one .bool)))), internal_stringslite_Cut⟩
theorem c52 : compF Tryd.prog 52 = some ⟨a52.n, erase a52.code, a52.res⟩ := by kernel_rfl
theorem t52 : funT (tp B L64) s52.a s52.r a52 = some s52.fn := by kernel_rfl
noncomputable def L52 : List (FuncId × Sig) := (52, s52) :: L64
theorem g52 : GoodT Tryd.prog B L52 := GoodT.addM g64 52 s52 (by rfl) fun _ _ _ hx hy => funT_ok g64.E g64.T t52 c52 (k := 2) rfl (Nat.le_of_ble_eq_true rfl) hx hy
def a35 : AF := ⟨13, (.sq (.reg false [] [⟨(some 4), (.mov (.k (.str []))), none⟩, ⟨(some 5), (.mov (.k (.str []))), none⟩, ⟨(some 6), (.mov (.k (.bool false))), none⟩]) (.sq (.reg false [] [⟨(some 7), (.mov (.t 0)), none⟩, ⟨(some 8), (.mov (.t 1)), none⟩, ⟨(some 9), (.call 52 [(.t 7), (.t 8)]), none⟩, ⟨(some 10), (.ext (.t 9) 0), none⟩, ⟨(some 11), (.ext (.t 9) 1), none⟩, ⟨(some 12), (.ext (.t 9) 2), none⟩, ⟨(some 4), (.mov (.t 10)), none⟩, ⟨(some 5), (.mov (.t 11)), none⟩, ⟨(some 6), (.mov (.t 12)), none⟩]) .ret)), [(.tmp 4), (.tmp 5), (.tmp 6)]⟩
noncomputable def s35 : Sig := ⟨(.cons .str (.one .str)), (.tup (.cons .str (.cons .str (.one .bool)))), strings_Cut⟩
theorem c35 : compF Tryd.prog 35 = some ⟨a35.n, erase a35.code, a35.res⟩ := by kernel_rfl
theorem t35 : funT (tp B L52) s35.a s35.r a35 = some s35.fn := by kernel_rfl
noncomputable def L35 : List (FuncId × Sig) := (35, s35) :: L52
theorem g35 : GoodT Tryd.prog B L35 := GoodT.addM g52 35 s35 (by rfl) fun _ _ _ hx hy => funT_ok g52.E g52.T t35 c35 (k := 2) rfl (Nat.le_of_ble_eq_true rfl) hx hy
def a36 : AF := ⟨22, (.sq (.reg false [] [⟨(some 2), (.mov (.k (.bool false))), none⟩]) (.seq [(.s 0, .v .str)] (.sq (.reg false [] [⟨(some 4), (.mov (.t 0)), none⟩, ⟨(some 5), (.len 0 (.t 4)), none⟩, ⟨(some 6), (.mov (.k (.int .i64 0))), none⟩]) (.block 0 (.loop [(.s 0, .v .str), (.s 5, .v (.int .i64)), (.s 6, .v (.int .i64))] [0] true (.sq (.reg false [] [⟨(some 7), (.bin .lss (.t 6) (.t 5)), none⟩]) (.seq [(.s 0, .v .str), (.s 5, .v (.int .i64)), (.s 6, .v (.int .i64))] (.cond (.t 7) .skip (.exit 0)) (.seq [(.s 0, .v .str), (.s 5, .v (.int .i64)), (.s 6, .v (.int .i64))] (.block 1 (.sq (.reg false [] [⟨(some 8), (.mov (.t 6)), none⟩, ⟨(some 3), (.mov (.t 8)), none⟩]) (.sq (.reg false [] [⟨(some 9), (.mov (.t 0)), none⟩, ⟨(some 10), (.mov (.t 3)), none⟩, ⟨(some 11), (.sidx (.t 9) (.t 10)), none⟩, ⟨(some 12), (.bin .lss (.t 11) (.k (.int .u8 48))), none⟩, ⟨(some 13), (.mov (.t 12)), none⟩, ⟨(some 14), (.mov (.t 0)), (some (13, false))⟩, ⟨(some 15), (.mov (.t 3)), (some (13, false))⟩, ⟨(some 16), (.sidx (.t 14) (.t 15)), (some (13, false))⟩, ⟨(some 17), (.bin .gtr (.t 16) (.k (.int .u8 57))), (some (13, false))⟩, ⟨(some 18), (.pick (.t 13) (.k (.bool true)) (.t 17)), none⟩]) (.cond (.t 18) (.sq (.reg false [] [⟨(some 2), (.mov (.k (.bool false))), none⟩]) .ret) .skip)))) (.reg false [] [⟨(some 19), (.bin .add (.t 6) (.k (.int .i64 1))), none⟩, ⟨(some 6), (.mov (.t 19)), none⟩]))))))) (.sq (.reg false [] [⟨(some 20), (.mov (.t 0)), none⟩, ⟨(some 21), (.bin .neq (.t 20) (.k (.str []))), none⟩, ⟨(some 2), (.mov (.t 21)), none⟩]) .ret))), [(.tmp 2)]⟩
noncomputable def s36 : Sig := ⟨(.one .str), .bool, rate_digits⟩
theorem c36 : compF Tryd.prog 36 = some ⟨a36.n, erase a36.code, a36.res⟩ := by kernel_rfl
theorem t36 : funT (tp B L35) s36.a s36.r a36 = some s36.fn := by kernel_rfl
noncomputable def L36 : List (FuncId × Sig) := (36, s36) :: L35
theorem g36 : GoodT Tryd.prog B L36 := GoodT.addM g35 36 s36 (by rfl) fun _ _ _ hx hy => funT_ok g35.E g35.T t36 c36 (k := 1) rfl (Nat.le_of_ble_eq_true rfl) hx hy
def a37 : AF := ⟨25, (.sq (.reg false [] [⟨(some 4), (.mov (.k (.int .i64 0))), none⟩]) (.sq (.reg false [] [⟨(some 5), (.mov (.k (.int .i64 0))), none⟩]) (.seq [(.s 5, .v (.int .i64))] (.sq (.reg false [] [⟨(some 7), (.mov (.t 0)), none⟩, ⟨(some 8), (.len 0 (.t 7)), none⟩, ⟨(some 9), (.mov (.k (.int .i64 0))), none⟩]) (.block 0 (.loop [(.s 0, .v .str), (.s 1, .v (.int .i64)), (.s 5, .v (.int .i64)), (.s 8, .v (.int .i64)), (.s 9, .v (.int .i64))] [0] false (.sq (.reg false [] [⟨(some 10), (.bin .lss (.t 9) (.t 8)), none⟩]) (.seq [(.s 0, .v .str), (.s 1, .v (.int .i64)), (.s 5, .v (.int .i64)), (.s 8, .v (.int .i64)), (.s 9, .v (.int .i64))] (.cond (.t 10) .skip (.exit 0)) (.seq [(.s 0, .v .str), (.s 1, .v (.int .i64)), (.s 5, .v (.int .i64)), (.s 8, .v (.int .i64)), (.s 9, .v (.int .i64))] (.block 1 (.sq (.reg false [] [⟨(some 11), (.mov (.t 9)), none⟩, ⟨(some 6), (.mov (.t 11)), none⟩]) (.reg false [] [⟨(some 12), (.mov (.t 5)), none⟩, ⟨(some 13), (.bin .mul (.t 12) (.k (.int .i64 10))), none⟩, ⟨(some 14), (.mov (.t 0)), none⟩, ⟨(some 15), (.mov (.t 6)), none⟩, ⟨(some 16), (.sidx (.t 14) (.t 15)), none⟩, ⟨(some 17), (.bin .sub (.t 16) (.k (.int .u8 48))), none⟩, ⟨(some 18), (.cvi .i64 (.t 17)), none⟩, ⟨(some 19), (.bin .add (.t 13) (.t 18)), none⟩, ⟨(some 20), (.mov (.t 1)), none⟩, ⟨(some 21), (.bin .add (.t 20) (.k (.int .i64 1))), none⟩, ⟨(some 22), (.minmax false [(.t 19), (.t 21)]), none⟩, ⟨(some 5), (.mov (.t 22)), none⟩]))) (.reg false [] [⟨(some 23), (.bin .add (.t 9) (.k (.int .i64 1))), none⟩, ⟨(some 9), (.mov (.t 23)), none⟩]))))))) (.sq (.reg false [] [⟨(some 24), (.mov (.t 5)), none⟩, ⟨(some 4), (.mov (.t 24)), none⟩]) .ret)))), [(.tmp 4)]⟩
noncomputable def s37 : Sig := ⟨(.cons .str (.one (.int .i64))), (.int .i64), rate_value⟩
theorem c37 : compF Tryd.prog 37 = some ⟨a37.n, erase a37.code, a37.res⟩ := by kernel_rfl
theorem t37 : funT (tp B L36) s37.a s37.r a37 = some s37.fn := by kernel_rfl
noncomputable def L37 : List (FuncId × Sig) := (37, s37) :: L36
theorem g37 : GoodT Tryd.prog B L37 := GoodT.addM g36 37 s37 (by rfl) fun _ _ _ hx hy => funT_ok g36.E g36.T t37 c37 (k := 2) rfl (Nat.le_of_ble_eq_true rfl) hx hy
def a17 : AF := ⟨91, (.sq (.reg false [] [⟨(some 2), (.mov (.k (.int .i64 0))), none⟩, ⟨(some 3), (.mov (.k (.int .i64 0))), none⟩]) (.seq [(.s 0, .v .str)] (.sq (.reg false [] [⟨(some 11), (.mov (.t 0)), none⟩, ⟨(some 12), (.bin .eql (.t 11) (.k (.str []))), none⟩]) (.cond (.t 12) (.sq (.reg false [] [⟨(some 2), (.mov (.k (.int .i64 0))), none⟩, ⟨(some 3), (.mov (.k (.int .i64 10))), none⟩]) .ret) .skip)) (.sq (.reg false [] [⟨(some 14), (.mov (.t 0)), none⟩, ⟨(some 15), (.call 33 [(.t 14), (.k (.str [45]))]), none⟩, ⟨(some 13), (.mov (.t 15)), none⟩, ⟨(some 16), (.ext (.t 13) 0), none⟩, ⟨(some 17), (.ext (.t 13) 1), none⟩, ⟨(some 4), (.mov (.t 16)), none⟩, ⟨(some 5), (.mov (.t 17)), none⟩]) (.sq (.reg false [] [⟨(some 19), (.mov (.t 4)), none⟩, ⟨(some 20), (.call 34 [(.t 19), (.k (.str [37]))]), none⟩, ⟨(some 18), (.mov (.t 20)), none⟩, ⟨(some 21), (.ext (.t 18) 0), none⟩, ⟨(some 22), (.ext (.t 18) 1), none⟩, ⟨(some 4), (.mov (.t 21)), none⟩, ⟨(some 6), (.mov (.t 22)), none⟩]) (.sq (.reg false [] [⟨(some 24), (.mov (.t 4)), none⟩, ⟨(some 25), (.call 35 [(.t 24), (.k (.str [46]))]), none⟩, ⟨(some 23), (.mov (.t 25)), none⟩, ⟨(some 26), (.ext (.t 23) 0), none⟩, ⟨(some 27), (.ext (.t 23) 1), none⟩, ⟨(some 28), (.ext (.t 23) 2), none⟩, ⟨(some 7), (.mov (.t 26)), none⟩, ⟨(some 8), (.mov (.t 27)), none⟩, ⟨(some 9), (.mov (.t 28)), none⟩]) (.seq [(.s 5, .v .bool), (.s 7, .v .str), (.s 8, .v .str)] (.block 0 (.sq (.reg false [] [⟨(some 30), (.mov (.t 6)), none⟩, ⟨(some 31), (.un .not (.t 30)), none⟩, ⟨(some 32), (.mov (.t 31)), none⟩, ⟨(some 33), (.mov (.t 7)), (some (32, false))⟩, ⟨(some 34), (.call 36 [(.t 33)]), (some (32, false))⟩, ⟨(some 35), (.un .not (.t 34)), (some (32, false))⟩, ⟨(some 36), (.pick (.t 32) (.k (.bool true)) (.t 35)), none⟩, ⟨(some 37), (.mov (.t 36)), none⟩, ⟨(some 38), (.mov (.t 7)), (some (37, false))⟩, ⟨(some 39), (.len 0 (.t 38)), (some (37, false))⟩, ⟨(some 40), (.bin .gtr (.t 39) (.k (.int .i64 1))), (some (37, false))⟩, ⟨(some 41), (.mov (.t 40)), (some (37, false))⟩, ⟨(some 42), (.mov (.t 7)), (some (41, true))⟩, ⟨(some 43), (.sidx (.t 42) (.k (.int .i64 0))), (some (41, true))⟩, ⟨(some 44), (.bin .eql (.t 43) (.k (.int .u8 48))), (some (41, true))⟩, ⟨(some 45), (.pick (.t 41) (.t 44) (.k (.bool false))), (some (37, false))⟩, ⟨(some 46), (.pick (.t 37) (.k (.bool true)) (.t 45)), none⟩, ⟨(some 29), (.mov (.t 46)), none⟩]) (.cond (.t 29) (.sq (.reg false [] [⟨(some 2), (.mov (.k (.int .i64 0))), none⟩, ⟨(some 3), (.mov (.k (.int .i64 3))), none⟩]) .ret) (.sq (.reg false [] [⟨(some 48), (.mov (.t 9)), none⟩, ⟨(some 49), (.mov (.t 48)), none⟩, ⟨(some 50), (.mov (.t 8)), (some (49, true))⟩, ⟨(some 51), (.call 36 [(.t 50)]), (some (49, true))⟩, ⟨(some 52), (.un .not (.t 51)), (some (49, true))⟩, ⟨(some 53), (.mov (.t 52)), (some (49, true))⟩, ⟨(some 54), (.mov (.t 8)), (some (53, false))⟩, ⟨(some 55), (.len 0 (.t 54)), (some (53, false))⟩, ⟨(some 56), (.bin .gtr (.t 55) (.k (.int .i64 4))), (some (53, false))⟩, ⟨(some 57), (.pick (.t 53) (.k (.bool true)) (.t 56)), (some (49, true))⟩, ⟨(some 58), (.mov (.t 57)), (some (49, true))⟩, ⟨(some 59), (.mov (.t 8)), (some (58, false))⟩, ⟨(some 60), (.mov (.t 8)), (some (58, false))⟩, ⟨(some 61), (.len 0 (.t 60)), (some (58, false))⟩, ⟨(some 62), (.bin .sub (.t 61) (.k (.int .i64 1))), (some (58, false))⟩, ⟨(some 63), (.sidx (.t 59) (.t 62)), (some (58, false))⟩, ⟨(some 64), (.bin .eql (.t 63) (.k (.int .u8 48))), (some (58, false))⟩, ⟨(some 65), (.pick (.t 58) (.k (.bool true)) (.t 64)), (some (49, true))⟩, ⟨(some 66), (.pick (.t 49) (.t 65) (.k (.bool false))), none⟩, ⟨(some 47), (.mov (.t 66)), none⟩]) (.cond (.t 47) (.sq (.reg false [] [⟨(some 2), (.mov (.k (.int .i64 0))), none⟩, ⟨(some 3), (.mov (.k (.int .i64 3))), none⟩]) .ret) (.sq (.reg false [] [⟨(some 68), (.mov (.t 5)), none⟩, ⟨(some 69), (.mov (.t 68)), none⟩, ⟨(some 70), (.mov (.t 7)), (some (69, true))⟩, ⟨(some 71), (.bin .eql (.t 70) (.k (.str [48]))), (some (69, true))⟩, ⟨(some 72), (.pick (.t 69) (.t 71) (.k (.bool false))), none⟩, ⟨(some 73), (.mov (.t 72)), none⟩, ⟨(some 74), (.mov (.t 9)), (some (73, true))⟩, ⟨(some 75), (.un .not (.t 74)), (some (73, true))⟩, ⟨(some 76), (.pick (.t 73) (.t 75) (.k (.bool false))), none⟩, ⟨(some 67), (.mov (.t 76)), none⟩]) (.cond (.t 67) (.sq (.reg false [] [⟨(some 2), (.mov (.k (.int .i64 0))), none⟩, ⟨(some 3), (.mov (.k (.int .i64 3))), none⟩]) .ret) .skip))))))) (.sq (.reg true [78, 83] [⟨(some 77), (.mov (.t 7)), none⟩, ⟨(some 78), (.call 37 [(.t 77), (.k (.int .i64 100000))]), none⟩, ⟨(some 79), (.bin .mul (.t 78) (.k (.int .i64 10000))), none⟩, ⟨(some 80), (.mov (.t 8)), none⟩, ⟨(some 81), (.bin .add (.t 80) (.k (.str [48, 48, 48, 48]))), none⟩, ⟨(some 82), (.sslice (.t 81) none (some (.k (.int .i64 4)))), none⟩, ⟨(some 83), (.call 37 [(.t 82), (.k (.int .i64 10000))]), none⟩, ⟨(some 84), (.bin .add (.t 79) (.t 83)), none⟩, ⟨(some 10), (.mov (.t 84)), none⟩]) (.seq [(.s 5, .v .bool), (.s 10, .v (.int .i64))] (.sq (.reg false [] [⟨(some 85), (.mov (.t 10)), none⟩, ⟨(some 86), (.bin .gtr (.t 85) (.k (.int .i64 1000000000))), none⟩]) (.cond (.t 86) (.sq (.reg false [] [⟨(some 2), (.mov (.k (.int .i64 0))), none⟩, ⟨(some 3), (.mov (.k (.int .i64 2))), none⟩]) .ret) .skip)) (.join [(.s 10, .v (.int .i64))] [] false (.sq (.reg false [] [⟨(some 87), (.mov (.t 5)), none⟩]) (.cond (.t 87) (.reg false [] [⟨(some 88), (.mov (.t 10)), none⟩, ⟨(some 89), (.un .neg (.t 88)), none⟩, ⟨(some 10), (.mov (.t 89)), none⟩]) .skip)) (.sq (.reg false [] [⟨(some 90), (.mov (.t 10)), none⟩, ⟨(some 2), (.mov (.t 90)), none⟩, ⟨(some 3), (.mov (.k (.int .i64 0))), none⟩]) .ret)))))))))), [(.tmp 2), (.tmp 3)]⟩
noncomputable def s17 : Sig := ⟨(.one .str), (.tup (.cons (.int .i64) (.one (.int .i64)))), rate_Parse⟩
theorem c17 : compF Tryd.prog 17 = some ⟨a17.n, erase a17.code, a17.res⟩ := by kernel_rfl
theorem t17 : funT (tp B L37) s17.a s17.r a17 = some s17.fn := by kernel_rfl
noncomputable def L17 : List (FuncId × Sig) := (17, s17) :: L37
theorem g17 : GoodT Tryd.prog B L17 := GoodT.addM g37 17 s17 (by rfl) fun _ _ _ hx hy => funT_ok g37.E g37.T t17 c17 (k := 1) rfl (Nat.le_of_ble_eq_true rfl) hx hy
noncomputable def s31 : Sig := ⟨(.cons (.int .i64) (.one (.int .i64))), .str, strconv_FormatInt⟩
noncomputable def L31 : List (FuncId × Sig) := (31, s31) :: L17
theorem g31 : GoodT Tryd.prog B L31 := GoodT.addM g17 31 s31 (by rfl) fun _ _ _ hx hy => strconv_FormatInt_ok (by kernel_rfl) (g := 2) (by kernel_rfl) rfl Go.Proofs.Tryd.strconv_FormatInt_10 hx hy
noncomputable def s32 : Sig := ⟨(.cons .str (.one .str)), .str, strings_TrimRight⟩
noncomputable def L32 : List (FuncId × Sig) := (32, s32) :: L31
theorem g32 : GoodT Tryd.prog B L32 := GoodT.addM g31 32 s32 (by rfl) fun _ _ _ hx hy => strings_TrimRight_ok (by kernel_rfl) Go.Proofs.Tryd.strings_TrimRight_one hx hy
def a16 : AF := ⟨33, (.sq (.reg false [] [⟨(some 2), (.mov (.k (.str []))), none⟩]) (.seq [(.s 0, .v (.int .i64))] (.sq (.reg false [] [⟨(some 6), (.mov (.t 0)), none⟩, ⟨(some 7), (.call 30 [(.t 6)]), none⟩, ⟨(some 8), (.un .not (.t 7)), none⟩]) (.cond (.t 8) (.sq (.reg false [] [⟨(some 2), (.mov (.k (.str []))), none⟩]) .ret) .skip)) (.sq (.reg false [] [⟨(some 3), (.mov (.k (.str []))), none⟩]) (.join [(.s 0, .v (.int .i64)), (.s 3, .v .str)] [] false (.sq (.reg false [] [⟨(some 9), (.mov (.t 0)), none⟩, ⟨(some 10), (.bin .lss (.t 9) (.k (.int .i64 0))), none⟩]) (.cond (.t 10) (.sq (.reg false [] [⟨(some 3), (.mov (.k (.str [45]))), none⟩]) (.reg false [] [⟨(some 11), (.mov (.t 0)), none⟩, ⟨(some 12), (.un .neg (.t 11)), none⟩, ⟨(some 0), (.mov (.t 12)), none⟩])) .skip)) (.sq (.reg false [] [⟨(some 13), (.mov (.t 3)), none⟩, ⟨(some 14), (.mov (.t 0)), none⟩, ⟨(some 15), (.bin .quo (.t 14) (.k (.int .i64 10000))), none⟩, ⟨(some 16), (.call 31 [(.t 15), (.k (.int .i64 10))]), none⟩, ⟨(some 17), (.bin .add (.t 13) (.t 16)), none⟩, ⟨(some 3), (.mov (.t 17)), none⟩]) (.join [(.s 3, .v .str)] [] false (.sq (.reg false [] [⟨(some 18), (.mov (.t 0)), none⟩, ⟨(some 19), (.bin .rem (.t 18) (.k (.int .i64 10000))), none⟩, ⟨(some 4), (.mov (.t 19)), none⟩]) (.sq (.reg false [] [⟨(some 20), (.mov (.t 4)), none⟩, ⟨(some 21), (.bin .gtr (.t 20) (.k (.int .i64 0))), none⟩]) (.cond (.t 21) (.sq (.reg false [] [⟨(some 22), (.mov (.t 4)), none⟩, ⟨(some 23), (.bin .add (.k (.int .i64 10000)) (.t 22)), none⟩, ⟨(some 24), (.call 31 [(.t 23), (.k (.int .i64 10))]), none⟩, ⟨(some 25), (.sslice (.t 24) (some (.k (.int .i64 1))) none), none⟩, ⟨(some 5), (.mov (.t 25)), none⟩]) (.reg false [] [⟨(some 26), (.mov (.t 3)), none⟩, ⟨(some 27), (.mov (.t 5)), none⟩, ⟨(some 28), (.call 32 [(.t 27), (.k (.str [48]))]), none⟩, ⟨(some 29), (.bin .add (.k (.str [46])) (.t 28)), none⟩, ⟨(some 30), (.bin .add (.t 26) (.t 29)), none⟩, ⟨(some 3), (.mov (.t 30)), none⟩])) .skip))) (.sq (.reg false [] [⟨(some 31), (.mov (.t 3)), none⟩, ⟨(some 32), (.bin .add (.t 31) (.k (.str [37]))), none⟩, ⟨(some 2), (.mov (.t 32)), none⟩]) .ret))))))), [(.tmp 2)]⟩
noncomputable def s16 : Sig := ⟨(.one (.int .i64)), .str, rate_Text⟩
theorem c16 : compF Tryd.prog 16 = some ⟨a16.n, erase a16.code, a16.res⟩ := by kernel_rfl
theorem t16 : funT (tp B L32) s16.a s16.r a16 = some s16.fn := by kernel_rfl
noncomputable def L16 : List (FuncId × Sig) := (16, s16) :: L32
theorem g16 : GoodT Tryd.prog B L16 := GoodT.addM g32 16 s16 (by rfl) fun _ _ _ hx hy => funT_ok g32.E g32.T t16 c16 (k := 1) rfl (Nat.le_of_ble_eq_true rfl) hx hy
def a12 : AF := ⟨45, (.sq (.reg false [] [⟨(some 0), (.mov (.k (.bool false))), none⟩]) (.sq (.reg false [] [⟨(some 8), (.call 21 [(.k (.int .i64 1001)), (.k (.int .i64 125000)), (.k (.int .i64 1))]), none⟩, ⟨(some 7), (.mov (.t 8)), none⟩, ⟨(some 9), (.ext (.t 7) 0), none⟩, ⟨(some 10), (.ext (.t 7) 1), none⟩, ⟨(some 1), (.mov (.t 9)), none⟩, ⟨(some 2), (.mov (.t 10)), none⟩]) (.sq (.reg false [] [⟨(some 12), (.call 13 [(.k (.int .i64 (-5))), (.k (.int .i64 1)), (.k (.int .i64 2)), (.k (.int .i64 2))]), none⟩, ⟨(some 11), (.mov (.t 12)), none⟩, ⟨(some 13), (.ext (.t 11) 0), none⟩, ⟨(some 14), (.ext (.t 11) 1), none⟩, ⟨(some 3), (.mov (.t 13)), none⟩, ⟨(some 4), (.mov (.t 14)), none⟩]) (.sq (.reg false [] [⟨(some 16), (.call 17 [(.k (.str [49, 50, 46, 53, 37]))]), none⟩, ⟨(some 15), (.mov (.t 16)), none⟩, ⟨(some 17), (.ext (.t 15) 0), none⟩, ⟨(some 18), (.ext (.t 15) 1), none⟩, ⟨(some 5), (.mov (.t 17)), none⟩, ⟨(some 6), (.mov (.t 18)), none⟩]) (.sq (.reg false [] [⟨(some 19), (.mov (.t 1)), none⟩, ⟨(some 20), (.bin .eql (.t 19) (.k (.int .i64 125))), none⟩, ⟨(some 21), (.mov (.t 20)), none⟩, ⟨(some 22), (.mov (.t 2)), (some (21, true))⟩, ⟨(some 23), (.bin .eql (.t 22) (.k (.int .i64 0))), (some (21, true))⟩, ⟨(some 24), (.pick (.t 21) (.t 23) (.k (.bool false))), none⟩, ⟨(some 25), (.mov (.t 24)), none⟩, ⟨(some 26), (.mov (.t 3)), (some (25, true))⟩, ⟨(some 27), (.bin .eql (.t 26) (.k (.int .i64 (-2)))), (some (25, true))⟩, ⟨(some 28), (.pick (.t 25) (.t 27) (.k (.bool false))), none⟩, ⟨(some 29), (.mov (.t 28)), none⟩, ⟨(some 30), (.mov (.t 4)), (some (29, true))⟩, ⟨(some 31), (.bin .eql (.t 30) (.k (.int .i64 0))), (some (29, true))⟩, ⟨(some 32), (.pick (.t 29) (.t 31) (.k (.bool false))), none⟩, ⟨(some 33), (.mov (.t 32)), none⟩, ⟨(some 34), (.mov (.t 5)), (some (33, true))⟩, ⟨(some 35), (.bin .eql (.t 34) (.k (.int .i64 125000))), (some (33, true))⟩, ⟨(some 36), (.pick (.t 33) (.t 35) (.k (.bool false))), none⟩, ⟨(some 37), (.mov (.t 36)), none⟩, ⟨(some 38), (.mov (.t 6)), (some (37, true))⟩, ⟨(some 39), (.bin .eql (.t 38) (.k (.int .i64 0))), (some (37, true))⟩, ⟨(some 40), (.pick (.t 37) (.t 39) (.k (.bool false))), none⟩, ⟨(some 41), (.mov (.t 40)), none⟩, ⟨(some 42), (.call 16 [(.k (.int .i64 (-1)))]), (some (41, true))⟩, ⟨(some 43), (.bin .eql (.t 42) (.k (.str [45, 48, 46, 48, 48, 48, 49, 37]))), (some (41, true))⟩, ⟨(some 44), (.pick (.t 41) (.t 43) (.k (.bool false))), none⟩, ⟨(some 0), (.mov (.t 44)), none⟩]) .ret))))), [(.tmp 0)]⟩
noncomputable def s12 : Sig := ⟨.nil, .bool, law02_awake⟩
theorem c12 : compF Tryd.prog 12 = some ⟨a12.n, erase a12.code, a12.res⟩ := by kernel_rfl
theorem t12 : funT (tp B L16) s12.a s12.r a12 = some s12.fn := by kernel_rfl
noncomputable def L12 : List (FuncId × Sig) := (12, s12) :: L16
theorem g12 : GoodT Tryd.prog B L12 := GoodT.addM g16 12 s12 (by rfl) fun _ _ _ hx hy => funT_ok g16.E g16.T t12 c12 (k := 0) rfl (Nat.le_of_ble_eq_true rfl) hx hy
def a15 : AF := ⟨9, (.sq (.reg false [] [⟨(some 2), (.mov (.k (.bool false))), none⟩]) (.sq (.reg false [] [⟨(some 3), (.mov (.t 0)), none⟩, ⟨(some 4), (.bin .geq (.t 3) (.k (.int .i64 (-1125899906842624)))), none⟩, ⟨(some 5), (.mov (.t 4)), none⟩, ⟨(some 6), (.mov (.t 0)), (some (5, true))⟩, ⟨(some 7), (.bin .leq (.t 6) (.k (.int .i64 1125899906842624))), (some (5, true))⟩, ⟨(some 8), (.pick (.t 5) (.t 7) (.k (.bool false))), none⟩, ⟨(some 2), (.mov (.t 8)), none⟩]) .ret)), [(.tmp 2)]⟩
noncomputable def s15 : Sig := ⟨(.one (.int .i64)), .bool, ref02_Fits⟩
theorem c15 : compF Tryd.prog 15 = some ⟨a15.n, erase a15.code, a15.res⟩ := by kernel_rfl
theorem t15 : funT (tp B L12) s15.a s15.r a15 = some s15.fn := by kernel_rfl
noncomputable def L15 : List (FuncId × Sig) := (15, s15) :: L12
theorem g15 : GoodT Tryd.prog B L15 := GoodT.addM g12 15 s15 (by rfl) fun _ _ _ hx hy => funT_ok g12.E g12.T t15 c15 (k := 1) rfl (Nat.le_of_ble_eq_true rfl) hx hy
def a28 : AF := ⟨10, (.sq (.reg false [] [⟨(some 2), (.mov (.k (.int .u64 0))), none⟩]) (.seq [(.s 0, .v (.int .i64))] (.sq (.reg false [] [⟨(some 3), (.mov (.t 0)), none⟩, ⟨(some 4), (.bin .lss (.t 3) (.k (.int .i64 0))), none⟩]) (.cond (.t 4) (.sq (.reg false [] [⟨(some 5), (.mov (.t 0)), none⟩, ⟨(some 6), (.cvi .u64 (.t 5)), none⟩, ⟨(some 7), (.un .neg (.t 6)), none⟩, ⟨(some 2), (.mov (.t 7)), none⟩]) .ret) .skip)) (.sq (.reg false [] [⟨(some 8), (.mov (.t 0)), none⟩, ⟨(some 9), (.cvi .u64 (.t 8)), none⟩, ⟨(some 2), (.mov (.t 9)), none⟩]) .ret))), [(.tmp 2)]⟩
noncomputable def s28 : Sig := ⟨(.one (.int .i64)), (.int .u64), ref02_Abs⟩
theorem c28 : compF Tryd.prog 28 = some ⟨a28.n, erase a28.code, a28.res⟩ := by kernel_rfl
theorem t28 : funT (tp B L15) s28.a s28.r a28 = some s28.fn := by kernel_rfl
noncomputable def L28 : List (FuncId × Sig) := (28, s28) :: L15
theorem g28 : GoodT Tryd.prog B L28 := GoodT.addM g15 28 s28 (by rfl) fun _ _ _ hx hy => funT_ok g15.E g15.T t28 c28 (k := 1) rfl (Nat.le_of_ble_eq_true rfl) hx hy
def a54 : AF := ⟨15, (.sq (.reg false [] [⟨(some 4), (.mov (.k (.int .u64 0))), none⟩]) (.seq [(.s 0, .v (.int .u64))] (.sq (.reg false [] [⟨(some 5), (.mov (.k (.int .i64 0))), none⟩]) (.block 0 (.loop [(.s 0, .v (.int .u64)), (.s 1, .v (.int .i64)), (.s 5, .v (.int .i64))] [0] false (.seq [(.s 0, .v (.int .u64)), (.s 1, .v (.int .i64)), (.s 5, .v (.int .i64))] (.sq (.reg false [] [⟨(some 6), (.mov (.t 5)), none⟩, ⟨(some 7), (.mov (.t 1)), none⟩, ⟨(some 8), (.bin .lss (.t 6) (.t 7)), none⟩]) (.cond (.t 8) .skip (.exit 0))) (.seq [(.s 0, .v (.int .u64)), (.s 1, .v (.int .i64)), (.s 5, .v (.int .i64))] (.block 1 (.reg false [] [⟨(some 11), (.mov (.t 0)), none⟩, ⟨(some 12), (.bin .quo (.t 11) (.k (.int .u64 2))), none⟩, ⟨(some 0), (.mov (.t 12)), none⟩])) (.reg false [] [⟨(some 9), (.mov (.t 5)), none⟩, ⟨(some 10), (.bin .add (.t 9) (.k (.int .i64 1))), none⟩, ⟨(some 5), (.mov (.t 10)), none⟩])))))) (.sq (.reg false [] [⟨(some 13), (.mov (.t 0)), none⟩, ⟨(some 14), (.bin .rem (.t 13) (.k (.int .u64 2))), none⟩, ⟨(some 4), (.mov (.t 14)), none⟩]) .ret))), [(.tmp 4)]⟩
noncomputable def s54 : Sig := ⟨(.cons (.int .u64) (.one (.int .i64))), (.int .u64), ref02_bit⟩
theorem c54 : compF Tryd.prog 54 = some ⟨a54.n, erase a54.code, a54.res⟩ := by kernel_rfl
theorem t54 : funT (tp B L28) s54.a s54.r a54 = some s54.fn := by kernel_rfl
noncomputable def L54 : List (FuncId × Sig) := (54, s54) :: L28
theorem g54 : GoodT Tryd.prog B L54 := GoodT.addM g28 54 s54 (by rfl) fun _ _ _ hx hy => funT_ok g28.E g28.T t54 c54 (k := 2) rfl (Nat.le_of_ble_eq_true rfl) hx hy
def a44 : AF := ⟨67, (.sq (.reg false [] [⟨(some 4), (.mov (.k (.sl (some true) []))), none⟩]) (.sq (.reg false [12] [⟨(some 12), (.make 55 1 8 (.int .u64 0) (.k (.int .i64 129)) (.k (.int .i64 129))), none⟩, ⟨(some 5), (.mov (.t 12)), none⟩]) (.seq [(.o 12, .arr 55 1 (.int .u64)), (.s 5, .own 12)] (.sq (.reg false [] [⟨(some 6), (.mov (.k (.int .i64 0))), none⟩]) (.block 0 (.loop [(.s 0, .v (.int .u64)), (.s 1, .v (.int .u64)), (.s 6, .v (.int .i64)), (.o 12, .arr 55 1 (.int .u64)), (.s 5, .own 12)] [0] false (.seq [(.s 0, .v (.int .u64)), (.s 1, .v (.int .u64)), (.s 6, .v (.int .i64)), (.o 12, .arr 55 1 (.int .u64)), (.s 5, .own 12)] (.sq (.reg false [] [⟨(some 13), (.mov (.t 6)), none⟩, ⟨(some 14), (.bin .lss (.t 13) (.k (.int .i64 64))), none⟩]) (.cond (.t 14) .skip (.exit 0))) (.join [(.s 0, .v (.int .u64)), (.s 1, .v (.int .u64)), (.s 6, .v (.int .i64)), (.o 12, .arr 55 1 (.int .u64)), (.s 5, .own 12)] [] false (.block 1 (.seq [(.s 0, .v (.int .u64)), (.s 1, .v (.int .u64)), (.s 6, .v (.int .i64)), (.o 12, .arr 55 1 (.int .u64)), (.s 5, .own 12)] (.sq (.reg false [] [⟨(some 17), (.mov (.t 0)), none⟩, ⟨(some 18), (.mov (.t 6)), none⟩, ⟨(some 19), (.call 54 [(.t 17), (.t 18)]), none⟩, ⟨(some 20), (.bin .eql (.t 19) (.k (.int .u64 0))), none⟩]) (.cond (.t 20) (.exit 1) .skip)) (.sq (.reg false [] [⟨(some 7), (.mov (.k (.int .u64 0))), none⟩]) (.seq [(.s 0, .v (.int .u64)), (.s 1, .v (.int .u64)), (.s 6, .v (.int .i64)), (.s 7, .v (.int .u64)), (.o 12, .arr 55 1 (.int .u64)), (.s 5, .own 12)] (.sq (.reg false [] [⟨(some 8), (.mov (.k (.int .i64 0))), none⟩]) (.block 2 (.loop [(.s 0, .v (.int .u64)), (.s 1, .v (.int .u64)), (.s 6, .v (.int .i64)), (.s 7, .v (.int .u64)), (.s 8, .v (.int .i64)), (.o 12, .arr 55 1 (.int .u64)), (.s 5, .own 12)] [2] false (.seq [(.s 0, .v (.int .u64)), (.s 1, .v (.int .u64)), (.s 6, .v (.int .i64)), (.s 7, .v (.int .u64)), (.s 8, .v (.int .i64)), (.o 12, .arr 55 1 (.int .u64)), (.s 5, .own 12)] (.sq (.reg false [] [⟨(some 21), (.mov (.t 8)), none⟩, ⟨(some 22), (.bin .lss (.t 21) (.k (.int .i64 64))), none⟩]) (.cond (.t 22) .skip (.exit 2))) (.seq [(.s 0, .v (.int .u64)), (.s 1, .v (.int .u64)), (.s 6, .v (.int .i64)), (.s 7, .v (.int .u64)), (.s 8, .v (.int .i64)), (.o 12, .arr 55 1 (.int .u64)), (.s 5, .own 12)] (.block 3 (.sq (.reg true [33] [⟨(some 25), (.mov (.t 5)), none⟩, ⟨(some 26), (.mov (.t 6)), none⟩, ⟨(some 27), (.mov (.t 8)), none⟩, ⟨(some 28), (.bin .add (.t 26) (.t 27)), none⟩, ⟨(some 29), (.iaddr 1 (.t 25) (.t 28)), none⟩, ⟨(some 30), (.load none (.t 29)), none⟩, ⟨(some 31), (.mov (.t 1)), none⟩, ⟨(some 32), (.mov (.t 8)), none⟩, ⟨(some 33), (.call 54 [(.t 31), (.t 32)]), none⟩, ⟨(some 34), (.bin .add (.t 30) (.t 33)), none⟩, ⟨(some 35), (.mov (.t 7)), none⟩, ⟨(some 36), (.bin .add (.t 34) (.t 35)), none⟩, ⟨(some 9), (.mov (.t 36)), none⟩]) (.sq (.reg false [] [⟨(some 37), (.mov (.t 5)), none⟩, ⟨(some 38), (.mov (.t 6)), none⟩, ⟨(some 39), (.mov (.t 8)), none⟩, ⟨(some 40), (.bin .add (.t 38) (.t 39)), none⟩, ⟨(some 41), (.mov (.t 9)), none⟩, ⟨(some 42), (.bin .rem (.t 41) (.k (.int .u64 2))), none⟩, ⟨(some 43), (.iaddr 1 (.t 37) (.t 40)), none⟩, ⟨none, (.store 1 (.t 43) (.t 42)), none⟩]) (.reg false [] [⟨(some 44), (.mov (.t 9)), none⟩, ⟨(some 45), (.bin .quo (.t 44) (.k (.int .u64 2))), none⟩, ⟨(some 7), (.mov (.t 45)), none⟩])))) (.reg false [] [⟨(some 23), (.mov (.t 8)), none⟩, ⟨(some 24), (.bin .add (.t 23) (.k (.int .i64 1))), none⟩, ⟨(some 8), (.mov (.t 24)), none⟩])))))) (.sq (.reg false [] [⟨(some 46), (.mov (.t 6)), none⟩, ⟨(some 47), (.bin .add (.t 46) (.k (.int .i64 64))), none⟩, ⟨(some 10), (.mov (.t 47)), none⟩]) (.block 4 (.loop [(.s 0, .v (.int .u64)), (.s 1, .v (.int .u64)), (.s 6, .v (.int .i64)), (.s 7, .v (.int .u64)), (.s 10, .v (.int .i64)), (.o 12, .arr 55 1 (.int .u64)), (.s 5, .own 12)] [4] false (.seq [(.s 0, .v (.int .u64)), (.s 1, .v (.int .u64)), (.s 6, .v (.int .i64)), (.s 7, .v (.int .u64)), (.s 10, .v (.int .i64)), (.o 12, .arr 55 1 (.int .u64)), (.s 5, .own 12)] (.sq (.reg false [] [⟨(some 48), (.mov (.t 7)), none⟩, ⟨(some 49), (.bin .gtr (.t 48) (.k (.int .u64 0))), none⟩]) (.cond (.t 49) .skip (.exit 4))) (.seq [(.s 0, .v (.int .u64)), (.s 1, .v (.int .u64)), (.s 6, .v (.int .i64)), (.s 7, .v (.int .u64)), (.s 10, .v (.int .i64)), (.o 12, .arr 55 1 (.int .u64)), (.s 5, .own 12)] (.block 5 (.sq (.reg false [] [⟨(some 52), (.mov (.t 5)), none⟩, ⟨(some 53), (.mov (.t 10)), none⟩, ⟨(some 54), (.iaddr 1 (.t 52) (.t 53)), none⟩, ⟨(some 55), (.load none (.t 54)), none⟩, ⟨(some 56), (.mov (.t 7)), none⟩, ⟨(some 57), (.bin .add (.t 55) (.t 56)), none⟩, ⟨(some 11), (.mov (.t 57)), none⟩]) (.sq (.reg false [] [⟨(some 58), (.mov (.t 5)), none⟩, ⟨(some 59), (.mov (.t 10)), none⟩, ⟨(some 60), (.mov (.t 11)), none⟩, ⟨(some 61), (.bin .rem (.t 60) (.k (.int .u64 2))), none⟩, ⟨(some 62), (.iaddr 1 (.t 58) (.t 59)), none⟩, ⟨none, (.store 1 (.t 62) (.t 61)), none⟩]) (.reg false [] [⟨(some 63), (.mov (.t 11)), none⟩, ⟨(some 64), (.bin .quo (.t 63) (.k (.int .u64 2))), none⟩, ⟨(some 7), (.mov (.t 64)), none⟩])))) (.reg false [] [⟨(some 50), (.mov (.t 10)), none⟩, ⟨(some 51), (.bin .add (.t 50) (.k (.int .i64 1))), none⟩, ⟨(some 10), (.mov (.t 51)), none⟩])))))))))) (.reg false [] [⟨(some 15), (.mov (.t 6)), none⟩, ⟨(some 16), (.bin .add (.t 15) (.k (.int .i64 1))), none⟩, ⟨(some 6), (.mov (.t 16)), none⟩])))))) (.sq (.gh (.frz 5) (.reg false [] [⟨(some 65), (.mov (.t 5)), none⟩, ⟨(some 66), (.slice 1 (.t 65) none (some (.k (.int .i64 128)))), none⟩, ⟨(some 4), (.mov (.t 66)), none⟩])) .ret)))), [(.tmp 4)]⟩
noncomputable def s44 : Sig := ⟨(.cons (.int .u64) (.one (.int .u64))), (.sl (.int .u64)), ref02_product⟩
theorem c44 : compF Tryd.prog 44 = some ⟨a44.n, erase a44.code, a44.res⟩ := by kernel_rfl
theorem t44 : funT (tp B L54) s44.a s44.r a44 = some s44.fn := by kernel_rfl
noncomputable def L44 : List (FuncId × Sig) := (44, s44) :: L54
theorem g44 : GoodT Tryd.prog B L44 := GoodT.addM g54 44 s44 (by rfl) fun _ _ _ hx hy => funT_ok g54.E g54.T t44 c44 (k := 2) rfl (Nat.le_of_ble_eq_true rfl) hx hy
def a27 : AF := ⟨46, (.sq (.reg false [] [⟨(some 6), (.mov (.k (.int .u64 0))), none⟩, ⟨(some 7), (.mov (.k (.int .u64 0))), none⟩, ⟨(some 8), (.mov (.k (.bool false))), none⟩]) (.sq (.reg false [16] [⟨(some 14), (.mov (.t 0)), none⟩, ⟨(some 15), (.mov (.t 1)), none⟩, ⟨(some 16), (.call 44 [(.t 14), (.t 15)]), none⟩, ⟨(some 9), (.mov (.t 16)), none⟩]) (.sq (.reg false [] [⟨(some 10), (.mov (.k (.int .u64 0))), none⟩, ⟨(some 11), (.mov (.k (.int .u64 0))), none⟩, ⟨(some 12), (.mov (.k (.bool true))), none⟩]) (.seq [(.s 10, .v (.int .u64)), (.s 11, .v (.int .u64)), (.s 12, .v .bool)] (.sq (.reg false [] [⟨(some 13), (.mov (.k (.int .i64 127))), none⟩]) (.block 0 (.loop [(.s 2, .v (.int .u64)), (.s 9, .v (.sl (.int .u64))), (.s 10, .v (.int .u64)), (.s 11, .v (.int .u64)), (.s 12, .v .bool), (.s 13, .v (.int .i64))] [0] false (.seq [(.s 2, .v (.int .u64)), (.s 9, .v (.sl (.int .u64))), (.s 10, .v (.int .u64)), (.s 11, .v (.int .u64)), (.s 12, .v .bool), (.s 13, .v (.int .i64))] (.sq (.reg false [] [⟨(some 17), (.mov (.t 13)), none⟩, ⟨(some 18), (.bin .geq (.t 17) (.k (.int .i64 0))), none⟩]) (.cond (.t 18) .skip (.exit 0))) (.join [(.s 2, .v (.int .u64)), (.s 9, .v (.sl (.int .u64))), (.s 10, .v (.int .u64)), (.s 11, .v (.int .u64)), (.s 12, .v .bool), (.s 13, .v (.int .i64))] [] false (.block 1 (.sq (.reg false [] [⟨(some 21), (.mov (.t 11)), none⟩, ⟨(some 22), (.bin .mul (.k (.int .u64 2)) (.t 21)), none⟩, ⟨(some 23), (.mov (.t 9)), none⟩, ⟨(some 24), (.mov (.t 13)), none⟩, ⟨(some 25), (.iaddr 1 (.t 23) (.t 24)), none⟩, ⟨(some 26), (.load none (.t 25)), none⟩, ⟨(some 27), (.bin .add (.t 22) (.t 26)), none⟩, ⟨(some 11), (.mov (.t 27)), none⟩]) (.sq (.reg false [] [⟨(some 28), (.mov (.t 12)), none⟩, ⟨(some 29), (.mov (.t 28)), none⟩, ⟨(some 30), (.mov (.t 10)), (some (29, true))⟩, ⟨(some 31), (.bin .lss (.t 30) (.k (.int .u64 2305843009213693952))), (some (29, true))⟩, ⟨(some 32), (.pick (.t 29) (.t 31) (.k (.bool false))), none⟩, ⟨(some 12), (.mov (.t 32)), none⟩]) (.sq (.reg false [] [⟨(some 33), (.mov (.t 10)), none⟩, ⟨(some 34), (.bin .mul (.k (.int .u64 2)) (.t 33)), none⟩, ⟨(some 10), (.mov (.t 34)), none⟩]) (.sq (.reg false [] [⟨(some 35), (.mov (.t 11)), none⟩, ⟨(some 36), (.mov (.t 2)), none⟩, ⟨(some 37), (.bin .geq (.t 35) (.t 36)), none⟩]) (.cond (.t 37) (.sq (.reg false [] [⟨(some 38), (.mov (.t 11)), none⟩, ⟨(some 39), (.mov (.t 2)), none⟩, ⟨(some 40), (.bin .sub (.t 38) (.t 39)), none⟩, ⟨(some 11), (.mov (.t 40)), none⟩]) (.reg false [] [⟨(some 41), (.mov (.t 10)), none⟩, ⟨(some 42), (.bin .add (.t 41) (.k (.int .u64 1))), none⟩, ⟨(some 10), (.mov (.t 42)), none⟩])) .skip)))))) (.reg false [] [⟨(some 19), (.mov (.t 13)), none⟩, ⟨(some 20), (.bin .sub (.t 19) (.k (.int .i64 1))), none⟩, ⟨(some 13), (.mov (.t 20)), none⟩])))))) (.sq (.reg false [] [⟨(some 43), (.mov (.t 10)), none⟩, ⟨(some 44), (.mov (.t 11)), none⟩, ⟨(some 45), (.mov (.t 12)), none⟩, ⟨(some 6), (.mov (.t 43)), none⟩, ⟨(some 7), (.mov (.t 44)), none⟩, ⟨(some 8), (.mov (.t 45)), none⟩]) .ret))))), [(.tmp 6), (.tmp 7), (.tmp 8)]⟩
noncomputable def s27 : Sig := ⟨(.cons (.int .u64) (.cons (.int .u64) (.one (.int .u64)))), (.tup (.cons (.int .u64) (.cons (.int .u64) (.one .bool)))), ref02_Divided⟩
theorem c27 : compF Tryd.prog 27 = some ⟨a27.n, erase a27.code, a27.res⟩ := by kernel_rfl
theorem t27 : funT (tp B L44) s27.a s27.r a27 = some s27.fn := by kernel_rfl
noncomputable def L27 : List (FuncId × Sig) := (27, s27) :: L44
theorem g27 : GoodT Tryd.prog B L27 := GoodT.addM g44 27 s27 (by rfl) fun _ _ _ hx hy => funT_ok g44.E g44.T t27 c27 (k := 3) rfl (Nat.le_of_ble_eq_true rfl) hx hy
def a29 : AF := ⟨54, (.sq (.reg false [] [⟨(some 10), (.mov (.k (.int .u64 0))), none⟩]) (.sq (.reg false [] [⟨(some 11), (.mov (.k (.bool false))), none⟩]) (.join [(.s 0, .v (.int .u64)), (.s 11, .v .bool)] [] false (.sq (.reg false [] [⟨(some 12), (.mov (.t 4)), none⟩]) (.block 0 (.sq (.reg false [] [⟨(some 14), (.bin .eql (.t 12) (.k (.int .i64 1))), none⟩, ⟨(some 13), (.mov (.t 14)), none⟩]) (.cond (.t 13) (.reg false [] [⟨(some 15), (.mov (.t 1)), none⟩, ⟨(some 16), (.mov (.t 2)), none⟩, ⟨(some 17), (.mov (.t 1)), none⟩, ⟨(some 18), (.bin .sub (.t 16) (.t 17)), none⟩, ⟨(some 19), (.bin .geq (.t 15) (.t 18)), none⟩, ⟨(some 11), (.mov (.t 19)), none⟩]) (.sq (.reg false [] [⟨(some 21), (.bin .eql (.t 12) (.k (.int .i64 2))), none⟩, ⟨(some 20), (.mov (.t 21)), none⟩]) (.cond (.t 20) (.reg false [] [⟨(some 22), (.mov (.t 1)), none⟩, ⟨(some 23), (.mov (.t 2)), none⟩, ⟨(some 24), (.mov (.t 1)), none⟩, ⟨(some 25), (.bin .sub (.t 23) (.t 24)), none⟩, ⟨(some 26), (.bin .gtr (.t 22) (.t 25)), none⟩, ⟨(some 27), (.mov (.t 26)), none⟩, ⟨(some 28), (.mov (.t 1)), (some (27, false))⟩, ⟨(some 29), (.mov (.t 2)), (some (27, false))⟩, ⟨(some 30), (.mov (.t 1)), (some (27, false))⟩, ⟨(some 31), (.bin .sub (.t 29) (.t 30)), (some (27, false))⟩, ⟨(some 32), (.bin .eql (.t 28) (.t 31)), (some (27, false))⟩, ⟨(some 33), (.mov (.t 32)), (some (27, false))⟩, ⟨(some 34), (.mov (.t 0)), (some (33, true))⟩, ⟨(some 35), (.bin .rem (.t 34) (.k (.int .u64 2))), (some (33, true))⟩, ⟨(some 36), (.bin .eql (.t 35) (.k (.int .u64 1))), (some (33, true))⟩, ⟨(some 37), (.pick (.t 33) (.t 36) (.k (.bool false))), (some (27, false))⟩, ⟨(some 38), (.pick (.t 27) (.k (.bool true)) (.t 37)), none⟩, ⟨(some 11), (.mov (.t 38)), none⟩]) (.sq (.reg false [] [⟨(some 40), (.bin .eql (.t 12) (.k (.int .i64 3))), none⟩, ⟨(some 39), (.mov (.t 40)), none⟩]) (.cond (.t 39) (.reg false [] [⟨(some 41), (.mov (.t 1)), none⟩, ⟨(some 42), (.bin .gtr (.t 41) (.k (.int .u64 0))), none⟩, ⟨(some 11), (.mov (.t 42)), none⟩]) (.sq (.reg false [] [⟨(some 44), (.bin .eql (.t 12) (.k (.int .i64 4))), none⟩, ⟨(some 43), (.mov (.t 44)), none⟩]) (.cond (.t 43) (.reg false [] [⟨(some 45), (.mov (.t 1)), none⟩, ⟨(some 46), (.bin .gtr (.t 45) (.k (.int .u64 0))), none⟩, ⟨(some 47), (.mov (.t 46)), none⟩, ⟨(some 48), (.mov (.t 3)), (some (47, true))⟩, ⟨(some 49), (.pick (.t 47) (.t 48) (.k (.bool false))), none⟩, ⟨(some 11), (.mov (.t 49)), none⟩]) .skip)))))))))) (.seq [(.s 0, .v (.int .u64))] (.sq (.reg false [] [⟨(some 50), (.mov (.t 11)), none⟩]) (.cond (.t 50) (.sq (.reg false [] [⟨(some 51), (.mov (.t 0)), none⟩, ⟨(some 52), (.bin .add (.t 51) (.k (.int .u64 1))), none⟩, ⟨(some 10), (.mov (.t 52)), none⟩]) .ret) .skip)) (.sq (.reg false [] [⟨(some 53), (.mov (.t 0)), none⟩, ⟨(some 10), (.mov (.t 53)), none⟩]) .ret))))), [(.tmp 10)]⟩
noncomputable def s29 : Sig := ⟨(.cons (.int .u64) (.cons (.int .u64) (.cons (.int .u64) (.cons .bool (.one (.int .i64)))))), (.int .u64), ref02_Rounded⟩
theorem c29 : compF Tryd.prog 29 = some ⟨a29.n, erase a29.code, a29.res⟩ := by kernel_rfl
theorem t29 : funT (tp B L27) s29.a s29.r a29 = some s29.fn := by kernel_rfl
noncomputable def L29 : List (FuncId × Sig) := (29, s29) :: L27
theorem g29 : GoodT Tryd.prog B L29 := GoodT.addM g27 29 s29 (by rfl) fun _ _ _ hx hy => funT_ok g27.E g27.T t29 c29 (k := 5) rfl (Nat.le_of_ble_eq_true rfl) hx hy
def a14 : AF := ⟨63, (.sq (.reg false [] [⟨(some 8), (.mov (.k (.int .i64 0))), none⟩, ⟨(some 9), (.mov (.k (.int .i64 0))), none⟩]) (.seq [(.s 0, .v (.int .i64)), (.s 1, .v (.int .i64)), (.s 2, .v (.int .i64)), (.s 3, .v (.int .i64))] (.sq (.reg false [] [⟨(some 15), (.mov (.t 0)), none⟩, ⟨(some 16), (.call 15 [(.t 15)]), none⟩, ⟨(some 17), (.un .not (.t 16)), none⟩]) (.cond (.t 17) (.sq (.reg false [] [⟨(some 8), (.mov (.k (.int .i64 0))), none⟩, ⟨(some 9), (.mov (.k (.int .i64 2))), none⟩]) .ret) .skip)) (.seq [(.s 0, .v (.int .i64)), (.s 1, .v (.int .i64)), (.s 2, .v (.int .i64)), (.s 3, .v (.int .i64))] (.sq (.reg false [] [⟨(some 18), (.mov (.t 2)), none⟩, ⟨(some 19), (.bin .eql (.t 18) (.k (.int .i64 0))), none⟩]) (.cond (.t 19) (.sq (.reg false [] [⟨(some 8), (.mov (.k (.int .i64 0))), none⟩, ⟨(some 9), (.mov (.k (.int .i64 22))), none⟩]) .ret) .skip)) (.seq [(.s 0, .v (.int .i64)), (.s 1, .v (.int .i64)), (.s 2, .v (.int .i64)), (.s 3, .v (.int .i64))] (.sq (.reg false [] [⟨(some 20), (.mov (.t 2)), none⟩, ⟨(some 21), (.bin .lss (.t 20) (.k (.int .i64 0))), none⟩]) (.cond (.t 21) (.sq (.reg false [] [⟨(some 8), (.mov (.k (.int .i64 0))), none⟩, ⟨(some 9), (.mov (.k (.int .i64 2))), none⟩]) .ret) .skip)) (.seq [(.s 0, .v (.int .i64)), (.s 1, .v (.int .i64)), (.s 2, .v (.int .i64)), (.s 3, .v (.int .i64))] (.sq (.reg false [] [⟨(some 22), (.mov (.t 3)), none⟩, ⟨(some 23), (.bin .lss (.t 22) (.k (.int .i64 0))), none⟩, ⟨(some 24), (.mov (.t 23)), none⟩, ⟨(some 25), (.mov (.t 3)), (some (24, false))⟩, ⟨(some 26), (.bin .gtr (.t 25) (.k (.int .i64 4))), (some (24, false))⟩, ⟨(some 27), (.pick (.t 24) (.k (.bool true)) (.t 26)), none⟩]) (.cond (.t 27) (.sq (.reg false [] [⟨(some 8), (.mov (.k (.int .i64 0))), none⟩, ⟨(some 9), (.mov (.k (.int .i64 11))), none⟩]) .ret) .skip)) (.sq (.reg false [] [⟨(some 28), (.mov (.t 0)), none⟩, ⟨(some 29), (.bin .lss (.t 28) (.k (.int .i64 0))), none⟩, ⟨(some 30), (.mov (.t 1)), none⟩, ⟨(some 31), (.bin .lss (.t 30) (.k (.int .i64 0))), none⟩, ⟨(some 32), (.beq true (.t 29) (.t 31)), none⟩, ⟨(some 10), (.mov (.t 32)), none⟩]) (.sq (.reg false [] [⟨(some 34), (.mov (.t 0)), none⟩, ⟨(some 35), (.call 28 [(.t 34)]), none⟩, ⟨(some 36), (.mov (.t 1)), none⟩, ⟨(some 37), (.call 28 [(.t 36)]), none⟩, ⟨(some 38), (.mov (.t 2)), none⟩, ⟨(some 39), (.cvi .u64 (.t 38)), none⟩, ⟨(some 40), (.call 27 [(.t 35), (.t 37), (.t 39)]), none⟩, ⟨(some 33), (.mov (.t 40)), none⟩, ⟨(some 41), (.ext (.t 33) 0), none⟩, ⟨(some 42), (.ext (.t 33) 1), none⟩, ⟨(some 43), (.ext (.t 33) 2), none⟩, ⟨(some 11), (.mov (.t 41)), none⟩, ⟨(some 12), (.mov (.t 42)), none⟩, ⟨(some 13), (.mov (.t 43)), none⟩]) (.sq (.reg false [] [⟨(some 44), (.mov (.t 11)), none⟩, ⟨(some 45), (.mov (.t 12)), none⟩, ⟨(some 46), (.mov (.t 2)), none⟩, ⟨(some 47), (.cvi .u64 (.t 46)), none⟩, ⟨(some 48), (.mov (.t 10)), none⟩, ⟨(some 49), (.mov (.t 3)), none⟩, ⟨(some 50), (.call 29 [(.t 44), (.t 45), (.t 47), (.t 48), (.t 49)]), none⟩, ⟨(some 14), (.mov (.t 50)), none⟩]) (.seq [(.s 10, .v .bool), (.s 14, .v (.int .u64))] (.sq (.reg false [] [⟨(some 51), (.mov (.t 13)), none⟩, ⟨(some 52), (.un .not (.t 51)), none⟩, ⟨(some 53), (.mov (.t 52)), none⟩, ⟨(some 54), (.mov (.t 14)), (some (53, false))⟩, ⟨(some 55), (.bin .gtr (.t 54) (.k (.int .u64 1125899906842624))), (some (53, false))⟩, ⟨(some 56), (.pick (.t 53) (.k (.bool true)) (.t 55)), none⟩]) (.cond (.t 56) (.sq (.reg false [] [⟨(some 8), (.mov (.k (.int .i64 0))), none⟩, ⟨(some 9), (.mov (.k (.int .i64 9))), none⟩]) .ret) .skip)) (.seq [(.s 14, .v (.int .u64))] (.sq (.reg false [] [⟨(some 57), (.mov (.t 10)), none⟩]) (.cond (.t 57) (.sq (.reg false [] [⟨(some 58), (.mov (.t 14)), none⟩, ⟨(some 59), (.cvi .i64 (.t 58)), none⟩, ⟨(some 60), (.un .neg (.t 59)), none⟩, ⟨(some 8), (.mov (.t 60)), none⟩, ⟨(some 9), (.mov (.k (.int .i64 0))), none⟩]) .ret) .skip)) (.sq (.reg false [] [⟨(some 61), (.mov (.t 14)), none⟩, ⟨(some 62), (.cvi .i64 (.t 61)), none⟩, ⟨(some 8), (.mov (.t 62)), none⟩, ⟨(some 9), (.mov (.k (.int .i64 0))), none⟩]) .ret))))))))))), [(.tmp 8), (.tmp 9)]⟩
noncomputable def s14 : Sig := ⟨(.cons (.int .i64) (.cons (.int .i64) (.cons (.int .i64) (.one (.int .i64))))), (.tup (.cons (.int .i64) (.one (.int .i64)))), ref02_Part⟩
theorem c14 : compF Tryd.prog 14 = some ⟨a14.n, erase a14.code, a14.res⟩ := by kernel_rfl
theorem t14 : funT (tp B L29) s14.a s14.r a14 = some s14.fn := by kernel_rfl
noncomputable def L14 : List (FuncId × Sig) := (14, s14) :: L29
theorem g14 : GoodT Tryd.prog B L14 := GoodT.addM g29 14 s14 (by rfl) fun _ _ _ hx hy => funT_ok g29.E g29.T t14 c14 (k := 4) rfl (Nat.le_of_ble_eq_true rfl) hx hy
def a3 : AF := ⟨39, (.sq (.reg false [] [⟨(some 8), (.mov (.k (.bool false))), none⟩]) (.seq [(.s 0, .v (.int .i64)), (.s 1, .v (.int .i64)), (.s 2, .v (.int .i64)), (.s 3, .v (.int .i64))] (.sq (.reg false [] [⟨(some 13), (.call 12 []), none⟩, ⟨(some 14), (.un .not (.t 13)), none⟩]) (.cond (.t 14) (.sq (.reg false [] [⟨(some 8), (.mov (.k (.bool false))), none⟩]) .ret) .skip)) (.sq (.reg false [] [⟨(some 16), (.mov (.t 0)), none⟩, ⟨(some 17), (.mov (.t 1)), none⟩, ⟨(some 18), (.mov (.t 2)), none⟩, ⟨(some 19), (.mov (.t 3)), none⟩, ⟨(some 20), (.call 13 [(.t 16), (.t 17), (.t 18), (.t 19)]), none⟩, ⟨(some 15), (.mov (.t 20)), none⟩, ⟨(some 21), (.ext (.t 15) 0), none⟩, ⟨(some 22), (.ext (.t 15) 1), none⟩, ⟨(some 9), (.mov (.t 21)), none⟩, ⟨(some 10), (.mov (.t 22)), none⟩]) (.sq (.reg false [] [⟨(some 24), (.mov (.t 0)), none⟩, ⟨(some 25), (.mov (.t 1)), none⟩, ⟨(some 26), (.mov (.t 2)), none⟩, ⟨(some 27), (.mov (.t 3)), none⟩, ⟨(some 28), (.call 14 [(.t 24), (.t 25), (.t 26), (.t 27)]), none⟩, ⟨(some 23), (.mov (.t 28)), none⟩, ⟨(some 29), (.ext (.t 23) 0), none⟩, ⟨(some 30), (.ext (.t 23) 1), none⟩, ⟨(some 11), (.mov (.t 29)), none⟩, ⟨(some 12), (.mov (.t 30)), none⟩]) (.sq (.reg false [] [⟨(some 31), (.mov (.t 9)), none⟩, ⟨(some 32), (.mov (.t 11)), none⟩, ⟨(some 33), (.bin .eql (.t 31) (.t 32)), none⟩, ⟨(some 34), (.mov (.t 33)), none⟩, ⟨(some 35), (.mov (.t 10)), (some (34, true))⟩, ⟨(some 36), (.mov (.t 12)), (some (34, true))⟩, ⟨(some 37), (.bin .eql (.t 35) (.t 36)), (some (34, true))⟩, ⟨(some 38), (.pick (.t 34) (.t 37) (.k (.bool false))), none⟩, ⟨(some 8), (.mov (.t 38)), none⟩]) .ret))))), [(.tmp 8)]⟩
noncomputable def s3 : Sig := ⟨(.cons (.int .i64) (.cons (.int .i64) (.cons (.int .i64) (.one (.int .i64))))), .bool, law02_RatePart⟩
theorem c3 : compF Tryd.prog 3 = some ⟨a3.n, erase a3.code, a3.res⟩ := by kernel_rfl
theorem t3 : funT (tp B L14) s3.a s3.r a3 = some s3.fn := by kernel_rfl
noncomputable def L3 : List (FuncId × Sig) := (3, s3) :: L14
theorem g3 : GoodT Tryd.prog B L3 := GoodT.addM g14 3 s3 (by rfl) fun _ _ _ hx hy => funT_ok g14.E g14.T t3 c3 (k := 4) rfl (Nat.le_of_ble_eq_true rfl) hx hy
def a4 : AF := ⟨122, (.sq (.reg false [] [⟨(some 6), (.mov (.k (.bool false))), none⟩]) (.seq [(.s 0, .v (.int .i64)), (.s 1, .v (.int .i64)), (.s 2, .v (.int .i64))] (.sq (.reg false [] [⟨(some 18), (.call 12 []), none⟩, ⟨(some 19), (.un .not (.t 18)), none⟩]) (.cond (.t 19) (.sq (.reg false [] [⟨(some 6), (.mov (.k (.bool false))), none⟩]) .ret) .skip)) (.seq [(.s 0, .v (.int .i64)), (.s 1, .v (.int .i64)), (.s 2, .v (.int .i64))] (.sq (.reg false [] [⟨(some 20), (.mov (.t 0)), none⟩, ⟨(some 21), (.bin .lss (.t 20) (.k (.int .i64 0))), none⟩, ⟨(some 22), (.mov (.t 21)), none⟩, ⟨(some 23), (.mov (.t 1)), (some (22, false))⟩, ⟨(some 24), (.bin .lss (.t 23) (.k (.int .i64 0))), (some (22, false))⟩, ⟨(some 25), (.pick (.t 22) (.k (.bool true)) (.t 24)), none⟩]) (.cond (.t 25) (.sq (.reg false [] [⟨(some 6), (.mov (.k (.bool true))), none⟩]) .ret) .skip)) (.sq (.reg false [] [⟨(some 27), (.mov (.t 0)), none⟩, ⟨(some 28), (.mov (.t 1)), none⟩, ⟨(some 29), (.mov (.t 2)), none⟩, ⟨(some 30), (.call 13 [(.t 27), (.t 28), (.t 29), (.k (.int .i64 3))]), none⟩, ⟨(some 26), (.mov (.t 30)), none⟩, ⟨(some 31), (.ext (.t 26) 0), none⟩, ⟨(some 32), (.ext (.t 26) 1), none⟩, ⟨(some 7), (.mov (.t 31)), none⟩, ⟨(some 8), (.mov (.t 32)), none⟩]) (.seq [(.s 0, .v (.int .i64)), (.s 1, .v (.int .i64)), (.s 2, .v (.int .i64)), (.s 7, .v (.int .i64))] (.sq (.reg false [] [⟨(some 33), (.mov (.t 8)), none⟩, ⟨(some 34), (.bin .neq (.t 33) (.k (.int .i64 0))), none⟩]) (.cond (.t 34) (.sq (.reg false [] [⟨(some 6), (.mov (.k (.bool true))), none⟩]) .ret) .skip)) (.sq (.reg false [9, 10] [⟨(some 9), (.alloc [(.int .i64 0), (.int .i64 0), (.int .i64 0), (.int .i64 0), (.int .i64 0)]), none⟩, ⟨(some 10), (.alloc [(.int .i64 0), (.int .i64 0), (.int .i64 0), (.int .i64 0), (.int .i64 0)]), none⟩]) (.seq [(.s 7, .v (.int .i64)), (.c 9 0, .v (.int .i64)), (.c 9 1, .v (.int .i64)), (.c 9 2, .v (.int .i64)), (.c 9 3, .v (.int .i64)), (.c 9 4, .v (.int .i64)), (.c 10 0, .v (.int .i64)), (.c 10 1, .v (.int .i64)), (.c 10 2, .v (.int .i64)), (.c 10 3, .v (.int .i64)), (.c 10 4, .v (.int .i64)), (.s 9, .ptr 9 0), (.s 10, .ptr 10 0), (.o 9, .box 5), (.o 10, .box 5)] (.sq (.reg false [] [⟨(some 11), (.mov (.k (.int .i64 0))), none⟩]) (.block 0 (.loop [(.s 0, .v (.int .i64)), (.s 1, .v (.int .i64)), (.s 2, .v (.int .i64)), (.s 7, .v (.int .i64)), (.s 11, .v (.int .i64)), (.c 9 0, .v (.int .i64)), (.c 9 1, .v (.int .i64)), (.c 9 2, .v (.int .i64)), (.c 9 3, .v (.int .i64)), (.c 9 4, .v (.int .i64)), (.c 10 0, .v (.int .i64)), (.c 10 1, .v (.int .i64)), (.c 10 2, .v (.int .i64)), (.c 10 3, .v (.int .i64)), (.c 10 4, .v (.int .i64)), (.s 9, .ptr 9 0), (.s 10, .ptr 10 0), (.o 9, .box 5), (.o 10, .box 5)] [0] true (.seq [(.s 0, .v (.int .i64)), (.s 1, .v (.int .i64)), (.s 2, .v (.int .i64)), (.s 7, .v (.int .i64)), (.s 11, .v (.int .i64)), (.c 9 0, .v (.int .i64)), (.c 9 1, .v (.int .i64)), (.c 9 2, .v (.int .i64)), (.c 9 3, .v (.int .i64)), (.c 9 4, .v (.int .i64)), (.c 10 0, .v (.int .i64)), (.c 10 1, .v (.int .i64)), (.c 10 2, .v (.int .i64)), (.c 10 3, .v (.int .i64)), (.c 10 4, .v (.int .i64)), (.s 9, .ptr 9 0), (.s 10, .ptr 10 0), (.o 9, .box 5), (.o 10, .box 5)] (.sq (.reg false [] [⟨(some 35), (.mov (.t 11)), none⟩, ⟨(some 36), (.bin .lss (.t 35) (.k (.int .i64 5))), none⟩]) (.cond (.t 36) .skip (.exit 0))) (.seq [(.s 0, .v (.int .i64)), (.s 1, .v (.int .i64)), (.s 2, .v (.int .i64)), (.s 7, .v (.int .i64)), (.s 11, .v (.int .i64)), (.c 9 0, .v (.int .i64)), (.c 9 1, .v (.int .i64)), (.c 9 2, .v (.int .i64)), (.c 9 3, .v (.int .i64)), (.c 9 4, .v (.int .i64)), (.c 10 0, .v (.int .i64)), (.c 10 1, .v (.int .i64)), (.c 10 2, .v (.int .i64)), (.c 10 3, .v (.int .i64)), (.c 10 4, .v (.int .i64)), (.s 9, .ptr 9 0), (.s 10, .ptr 10 0), (.o 9, .box 5), (.o 10, .box 5)] (.block 1 (.sq (.reg false [] [⟨(some 40), (.mov (.t 0)), none⟩, ⟨(some 41), (.mov (.t 1)), none⟩, ⟨(some 42), (.mov (.t 2)), none⟩, ⟨(some 43), (.mov (.t 11)), none⟩, ⟨(some 44), (.call 13 [(.t 40), (.t 41), (.t 42), (.t 43)]), none⟩, ⟨(some 39), (.mov (.t 44)), none⟩, ⟨(some 45), (.ext (.t 39) 0), none⟩, ⟨(some 46), (.ext (.t 39) 1), none⟩, ⟨(some 12), (.mov (.t 45)), none⟩, ⟨(some 13), (.mov (.t 46)), none⟩]) (.sq (.reg false [] [⟨(some 48), (.mov (.t 0)), none⟩, ⟨(some 49), (.un .neg (.t 48)), none⟩, ⟨(some 50), (.mov (.t 1)), none⟩, ⟨(some 51), (.mov (.t 2)), none⟩, ⟨(some 52), (.mov (.t 11)), none⟩, ⟨(some 53), (.call 13 [(.t 49), (.t 50), (.t 51), (.t 52)]), none⟩, ⟨(some 47), (.mov (.t 53)), none⟩, ⟨(some 54), (.ext (.t 47) 0), none⟩, ⟨(some 55), (.ext (.t 47) 1), none⟩, ⟨(some 14), (.mov (.t 54)), none⟩, ⟨(some 15), (.mov (.t 55)), none⟩]) (.seq [(.s 0, .v (.int .i64)), (.s 1, .v (.int .i64)), (.s 2, .v (.int .i64)), (.s 7, .v (.int .i64)), (.s 11, .v (.int .i64)), (.s 12, .v (.int .i64)), (.s 14, .v (.int .i64)), (.c 9 0, .v (.int .i64)), (.c 9 1, .v (.int .i64)), (.c 9 2, .v (.int .i64)), (.c 9 3, .v (.int .i64)), (.c 9 4, .v (.int .i64)), (.c 10 0, .v (.int .i64)), (.c 10 1, .v (.int .i64)), (.c 10 2, .v (.int .i64)), (.c 10 3, .v (.int .i64)), (.c 10 4, .v (.int .i64)), (.s 9, .ptr 9 0), (.s 10, .ptr 10 0), (.o 9, .box 5), (.o 10, .box 5)] (.sq (.reg false [] [⟨(some 56), (.mov (.t 13)), none⟩, ⟨(some 57), (.bin .neq (.t 56) (.k (.int .i64 0))), none⟩, ⟨(some 58), (.mov (.t 57)), none⟩, ⟨(some 59), (.mov (.t 15)), (some (58, false))⟩, ⟨(some 60), (.bin .neq (.t 59) (.k (.int .i64 0))), (some (58, false))⟩, ⟨(some 61), (.pick (.t 58) (.k (.bool true)) (.t 60)), none⟩]) (.cond (.t 61) (.sq (.reg false [] [⟨(some 6), (.mov (.k (.bool false))), none⟩]) .ret) .skip)) (.reg false [] [⟨(some 62), (.mov (.t 11)), none⟩, ⟨(some 63), (.mov (.t 11)), none⟩, ⟨(some 64), (.mov (.t 12)), none⟩, ⟨(some 65), (.mov (.t 14)), none⟩, ⟨(some 66), (.aaddr 5 1 (.t 9) (.t 62)), none⟩, ⟨none, (.store 1 (.t 66) (.t 64)), none⟩, ⟨(some 67), (.aaddr 5 1 (.t 10) (.t 63)), none⟩, ⟨none, (.store 1 (.t 67) (.t 65)), none⟩]))))) (.reg false [] [⟨(some 37), (.mov (.t 11)), none⟩, ⟨(some 38), (.bin .add (.t 37) (.k (.int .i64 1))), none⟩, ⟨(some 11), (.mov (.t 38)), none⟩])))))) (.sq (.reg false [] [⟨(some 68), (.aaddr 5 1 (.t 9) (.k (.int .i64 0))), none⟩, ⟨(some 69), (.load none (.t 68)), none⟩, ⟨(some 16), (.mov (.t 69)), none⟩]) (.seq [(.s 7, .v (.int .i64)), (.s 16, .v (.int .i64)), (.c 9 0, .v (.int .i64)), (.c 9 1, .v (.int .i64)), (.c 9 2, .v (.int .i64)), (.c 9 3, .v (.int .i64)), (.c 9 4, .v (.int .i64)), (.c 10 0, .v (.int .i64)), (.c 10 1, .v (.int .i64)), (.c 10 2, .v (.int .i64)), (.c 10 3, .v (.int .i64)), (.c 10 4, .v (.int .i64)), (.s 9, .ptr 9 0), (.s 10, .ptr 10 0), (.o 9, .box 5), (.o 10, .box 5)] (.sq (.reg false [] [⟨(some 70), (.aaddr 5 1 (.t 9) (.k (.int .i64 4))), none⟩, ⟨(some 71), (.load none (.t 70)), none⟩, ⟨(some 72), (.mov (.t 16)), none⟩, ⟨(some 73), (.bin .neq (.t 71) (.t 72)), none⟩, ⟨(some 74), (.mov (.t 73)), none⟩, ⟨(some 75), (.mov (.t 7)), (some (74, false))⟩, ⟨(some 76), (.mov (.t 16)), (some (74, false))⟩, ⟨(some 77), (.bin .lss (.t 75) (.t 76)), (some (74, false))⟩, ⟨(some 78), (.pick (.t 74) (.k (.bool true)) (.t 77)), none⟩, ⟨(some 79), (.mov (.t 78)), none⟩, ⟨(some 80), (.mov (.t 7)), (some (79, false))⟩, ⟨(some 81), (.mov (.t 16)), (some (79, false))⟩, ⟨(some 82), (.bin .add (.t 81) (.k (.int .i64 1))), (some (79, false))⟩, ⟨(some 83), (.bin .gtr (.t 80) (.t 82)), (some (79, false))⟩, ⟨(some 84), (.pick (.t 79) (.k (.bool true)) (.t 83)), none⟩, ⟨(some 85), (.mov (.t 84)), none⟩, ⟨(some 86), (.mov (.t 16)), (some (85, false))⟩, ⟨(some 87), (.bin .lss (.t 86) (.k (.int .i64 0))), (some (85, false))⟩, ⟨(some 88), (.pick (.t 85) (.k (.bool true)) (.t 87)), none⟩, ⟨(some 89), (.mov (.t 88)), none⟩, ⟨(some 90), (.aaddr 5 1 (.t 10) (.k (.int .i64 4))), (some (89, false))⟩, ⟨(some 91), (.load none (.t 90)), (some (89, false))⟩, ⟨(some 92), (.mov (.t 7)), (some (89, false))⟩, ⟨(some 93), (.un .neg (.t 92)), (some (89, false))⟩, ⟨(some 94), (.bin .neq (.t 91) (.t 93)), (some (89, false))⟩, ⟨(some 95), (.pick (.t 89) (.k (.bool true)) (.t 94)), none⟩]) (.cond (.t 95) (.sq (.reg false [] [⟨(some 6), (.mov (.k (.bool false))), none⟩]) .ret) .skip)) (.seq [] (.sq (.reg false [] [⟨(some 17), (.mov (.k (.int .i64 0))), none⟩]) (.block 2 (.loop [(.s 7, .v (.int .i64)), (.s 16, .v (.int .i64)), (.s 17, .v (.int .i64)), (.c 9 0, .v (.int .i64)), (.c 9 1, .v (.int .i64)), (.c 9 2, .v (.int .i64)), (.c 9 3, .v (.int .i64)), (.c 9 4, .v (.int .i64)), (.c 10 0, .v (.int .i64)), (.c 10 1, .v (.int .i64)), (.c 10 2, .v (.int .i64)), (.c 10 3, .v (.int .i64)), (.c 10 4, .v (.int .i64)), (.s 9, .ptr 9 0), (.s 10, .ptr 10 0), (.o 9, .box 5), (.o 10, .box 5)] [2] true (.seq [(.s 7, .v (.int .i64)), (.s 16, .v (.int .i64)), (.s 17, .v (.int .i64)), (.c 9 0, .v (.int .i64)), (.c 9 1, .v (.int .i64)), (.c 9 2, .v (.int .i64)), (.c 9 3, .v (.int .i64)), (.c 9 4, .v (.int .i64)), (.c 10 0, .v (.int .i64)), (.c 10 1, .v (.int .i64)), (.c 10 2, .v (.int .i64)), (.c 10 3, .v (.int .i64)), (.c 10 4, .v (.int .i64)), (.s 9, .ptr 9 0), (.s 10, .ptr 10 0), (.o 9, .box 5), (.o 10, .box 5)] (.sq (.reg false [] [⟨(some 96), (.mov (.t 17)), none⟩, ⟨(some 97), (.bin .lss (.t 96) (.k (.int .i64 4))), none⟩]) (.cond (.t 97) .skip (.exit 2))) (.seq [(.s 7, .v (.int .i64)), (.s 16, .v (.int .i64)), (.s 17, .v (.int .i64)), (.c 9 0, .v (.int .i64)), (.c 9 1, .v (.int .i64)), (.c 9 2, .v (.int .i64)), (.c 9 3, .v (.int .i64)), (.c 9 4, .v (.int .i64)), (.c 10 0, .v (.int .i64)), (.c 10 1, .v (.int .i64)), (.c 10 2, .v (.int .i64)), (.c 10 3, .v (.int .i64)), (.c 10 4, .v (.int .i64)), (.s 9, .ptr 9 0), (.s 10, .ptr 10 0), (.o 9, .box 5), (.o 10, .box 5)] (.block 3 (.sq (.reg true [] [⟨(some 100), (.mov (.t 17)), none⟩, ⟨(some 101), (.aaddr 5 1 (.t 9) (.t 100)), none⟩, ⟨(some 102), (.load none (.t 101)), none⟩, ⟨(some 103), (.mov (.t 16)), none⟩, ⟨(some 104), (.bin .neq (.t 102) (.t 103)), none⟩, ⟨(some 105), (.mov (.t 104)), none⟩, ⟨(some 106), (.mov (.t 17)), (some (105, true))⟩, ⟨(some 107), (.aaddr 5 1 (.t 9) (.t 106)), (some (105, true))⟩, ⟨(some 108), (.load none (.t 107)), (some (105, true))⟩, ⟨(some 109), (.mov (.t 7)), (some (105, true))⟩, ⟨(some 110), (.bin .neq (.t 108) (.t 109)), (some (105, true))⟩, ⟨(some 111), (.pick (.t 105) (.t 110) (.k (.bool false))), none⟩, ⟨(some 112), (.mov (.t 111)), none⟩, ⟨(some 113), (.mov (.t 17)), (some (112, false))⟩, ⟨(some 114), (.aaddr 5 1 (.t 10) (.t 113)), (some (112, false))⟩, ⟨(some 115), (.load none (.t 114)), (some (112, false))⟩, ⟨(some 116), (.mov (.t 17)), (some (112, false))⟩, ⟨(some 117), (.aaddr 5 1 (.t 9) (.t 116)), (some (112, false))⟩, ⟨(some 118), (.load none (.t 117)), (some (112, false))⟩, ⟨(some 119), (.un .neg (.t 118)), (some (112, false))⟩, ⟨(some 120), (.bin .neq (.t 115) (.t 119)), (some (112, false))⟩, ⟨(some 121), (.pick (.t 112) (.k (.bool true)) (.t 120)), none⟩]) (.cond (.t 121) (.sq (.reg false [] [⟨(some 6), (.mov (.k (.bool false))), none⟩]) .ret) .skip))) (.reg false [] [⟨(some 98), (.mov (.t 17)), none⟩, ⟨(some 99), (.bin .add (.t 98) (.k (.int .i64 1))), none⟩, ⟨(some 17), (.mov (.t 99)), none⟩])))))) (.sq (.reg false [] [⟨(some 6), (.mov (.k (.bool true))), none⟩]) .ret))))))))))), [(.tmp 6)]⟩
noncomputable def s4 : Sig := ⟨(.cons (.int .i64) (.cons (.int .i64) (.one (.int .i64)))), .bool, law02_RateModes⟩
theorem c4 : compF Tryd.prog 4 = some ⟨a4.n, erase a4.code, a4.res⟩ := by kernel_rfl
theorem t4 : funT (tp B L3) s4.a s4.r a4 = some s4.fn := by kernel_rfl
noncomputable def L4 : List (FuncId × Sig) := (4, s4) :: L3
theorem g4 : GoodT Tryd.prog B L4 := GoodT.addM g3 4 s4 (by rfl) fun _ _ _ hx hy => funT_ok g3.E g3.T t4 c4 (k := 3) rfl (Nat.le_of_ble_eq_true rfl) hx hy
def a5 : AF := ⟨90, (.sq (.reg false [] [⟨(some 8), (.mov (.k (.bool false))), none⟩]) (.seq [(.s 0, .v (.int .i64)), (.s 1, .v (.int .i64)), (.s 2, .v (.int .i64)), (.s 3, .v (.int .i64))] (.sq (.reg false [] [⟨(some 18), (.call 12 []), none⟩, ⟨(some 19), (.un .not (.t 18)), none⟩]) (.cond (.t 19) (.sq (.reg false [] [⟨(some 8), (.mov (.k (.bool false))), none⟩]) .ret) .skip)) (.seq [] (.sq (.reg false [20] [⟨(some 20), (.mksl 3 1 [(.k (.int .i64 1)), (.k (.int .i64 4))]), none⟩, ⟨(some 21), (.len 1 (.t 20)), none⟩, ⟨(some 22), (.mov (.k (.int .i64 0))), none⟩]) (.block 0 (.loop [(.s 0, .v (.int .i64)), (.s 1, .v (.int .i64)), (.s 2, .v (.int .i64)), (.s 3, .v (.int .i64)), (.s 21, .v (.int .i64)), (.s 22, .v (.int .i64)), (.o 20, .arr 3 1 (.int .i64)), (.s 20, .own 20)] [0] true (.sq (.reg false [] [⟨(some 23), (.bin .lss (.t 22) (.t 21)), none⟩]) (.seq [(.s 0, .v (.int .i64)), (.s 1, .v (.int .i64)), (.s 2, .v (.int .i64)), (.s 3, .v (.int .i64)), (.s 21, .v (.int .i64)), (.s 22, .v (.int .i64)), (.o 20, .arr 3 1 (.int .i64)), (.s 20, .own 20)] (.cond (.t 23) .skip (.exit 0)) (.join [(.s 0, .v (.int .i64)), (.s 1, .v (.int .i64)), (.s 2, .v (.int .i64)), (.s 3, .v (.int .i64)), (.s 21, .v (.int .i64)), (.s 22, .v (.int .i64)), (.o 20, .arr 3 1 (.int .i64)), (.s 20, .own 20)] [] true (.block 1 (.sq (.reg false [] [⟨(some 24), (.iaddr 1 (.t 20) (.t 22)), none⟩, ⟨(some 25), (.load none (.t 24)), none⟩, ⟨(some 10), (.mov (.t 25)), none⟩]) (.seq [(.s 0, .v (.int .i64)), (.s 1, .v (.int .i64)), (.s 2, .v (.int .i64)), (.s 3, .v (.int .i64)), (.s 10, .v (.int .i64)), (.s 21, .v (.int .i64)), (.s 22, .v (.int .i64)), (.o 20, .arr 3 1 (.int .i64)), (.s 20, .own 20)] (.sq (.reg false [] [⟨(some 26), (.mov (.t 0)), none⟩, ⟨(some 27), (.call 15 [(.t 26)]), none⟩, ⟨(some 28), (.un .not (.t 27)), none⟩, ⟨(some 29), (.mov (.t 28)), none⟩, ⟨(some 30), (.mov (.t 1)), (some (29, false))⟩, ⟨(some 31), (.call 15 [(.t 30)]), (some (29, false))⟩, ⟨(some 32), (.un .not (.t 31)), (some (29, false))⟩, ⟨(some 33), (.pick (.t 29) (.k (.bool true)) (.t 32)), none⟩]) (.cond (.t 33) (.sq (.reg false [] [⟨(some 8), (.mov (.k (.bool true))), none⟩]) .ret) .skip)) (.sq (.reg false [] [⟨(some 35), (.mov (.t 0)), none⟩, ⟨(some 36), (.mov (.t 2)), none⟩, ⟨(some 37), (.mov (.t 3)), none⟩, ⟨(some 38), (.mov (.t 10)), none⟩, ⟨(some 39), (.call 13 [(.t 35), (.t 36), (.t 37), (.t 38)]), none⟩, ⟨(some 34), (.mov (.t 39)), none⟩, ⟨(some 40), (.ext (.t 34) 0), none⟩, ⟨(some 41), (.ext (.t 34) 1), none⟩, ⟨(some 11), (.mov (.t 40)), none⟩, ⟨(some 12), (.mov (.t 41)), none⟩]) (.sq (.reg false [] [⟨(some 43), (.mov (.t 1)), none⟩, ⟨(some 44), (.mov (.t 2)), none⟩, ⟨(some 45), (.mov (.t 3)), none⟩, ⟨(some 46), (.mov (.t 10)), none⟩, ⟨(some 47), (.call 13 [(.t 43), (.t 44), (.t 45), (.t 46)]), none⟩, ⟨(some 42), (.mov (.t 47)), none⟩, ⟨(some 48), (.ext (.t 42) 0), none⟩, ⟨(some 49), (.ext (.t 42) 1), none⟩, ⟨(some 13), (.mov (.t 48)), none⟩, ⟨(some 14), (.mov (.t 49)), none⟩]) (.sq (.reg false [] [⟨(some 51), (.mov (.t 0)), none⟩, ⟨(some 52), (.mov (.t 1)), none⟩, ⟨(some 53), (.bin .add (.t 51) (.t 52)), none⟩, ⟨(some 54), (.mov (.t 2)), none⟩, ⟨(some 55), (.mov (.t 3)), none⟩, ⟨(some 56), (.mov (.t 10)), none⟩, ⟨(some 57), (.call 13 [(.t 53), (.t 54), (.t 55), (.t 56)]), none⟩, ⟨(some 50), (.mov (.t 57)), none⟩, ⟨(some 58), (.ext (.t 50) 0), none⟩, ⟨(some 59), (.ext (.t 50) 1), none⟩, ⟨(some 15), (.mov (.t 58)), none⟩, ⟨(some 16), (.mov (.t 59)), none⟩]) (.seq [(.s 0, .v (.int .i64)), (.s 1, .v (.int .i64)), (.s 2, .v (.int .i64)), (.s 3, .v (.int .i64)), (.s 10, .v (.int .i64)), (.s 11, .v (.int .i64)), (.s 13, .v (.int .i64)), (.s 15, .v (.int .i64)), (.s 21, .v (.int .i64)), (.s 22, .v (.int .i64)), (.o 20, .arr 3 1 (.int .i64)), (.s 20, .own 20)] (.sq (.reg false [] [⟨(some 60), (.mov (.t 12)), none⟩, ⟨(some 61), (.bin .neq (.t 60) (.k (.int .i64 0))), none⟩, ⟨(some 62), (.mov (.t 61)), none⟩, ⟨(some 63), (.mov (.t 14)), (some (62, false))⟩, ⟨(some 64), (.bin .neq (.t 63) (.k (.int .i64 0))), (some (62, false))⟩, ⟨(some 65), (.pick (.t 62) (.k (.bool true)) (.t 64)), none⟩, ⟨(some 66), (.mov (.t 65)), none⟩, ⟨(some 67), (.mov (.t 16)), (some (66, false))⟩, ⟨(some 68), (.bin .neq (.t 67) (.k (.int .i64 0))), (some (66, false))⟩, ⟨(some 69), (.pick (.t 66) (.k (.bool true)) (.t 68)), none⟩]) (.cond (.t 69) (.exit 1) .skip)) (.sq (.reg false [] [⟨(some 70), (.mov (.t 15)), none⟩, ⟨(some 71), (.mov (.t 11)), none⟩, ⟨(some 72), (.bin .sub (.t 70) (.t 71)), none⟩, ⟨(some 73), (.mov (.t 13)), none⟩, ⟨(some 74), (.bin .sub (.t 72) (.t 73)), none⟩, ⟨(some 17), (.mov (.t 74)), none⟩]) (.sq (.reg false [] [⟨(some 75), (.mov (.t 17)), none⟩, ⟨(some 76), (.bin .gtr (.t 75) (.k (.int .i64 1))), none⟩, ⟨(some 77), (.mov (.t 76)), none⟩, ⟨(some 78), (.mov (.t 17)), (some (77, false))⟩, ⟨(some 79), (.bin .lss (.t 78) (.k (.int .i64 (-1)))), (some (77, false))⟩, ⟨(some 80), (.pick (.t 77) (.k (.bool true)) (.t 79)), none⟩, ⟨(some 81), (.mov (.t 80)), none⟩, ⟨(some 82), (.mov (.t 10)), (some (81, false))⟩, ⟨(some 83), (.bin .eql (.t 82) (.k (.int .i64 4))), (some (81, false))⟩, ⟨(some 84), (.mov (.t 83)), (some (81, false))⟩, ⟨(some 85), (.mov (.t 17)), (some (84, true))⟩, ⟨(some 86), (.bin .lss (.t 85) (.k (.int .i64 0))), (some (84, true))⟩, ⟨(some 87), (.pick (.t 84) (.t 86) (.k (.bool false))), (some (81, false))⟩, ⟨(some 88), (.pick (.t 81) (.k (.bool true)) (.t 87)), none⟩]) (.cond (.t 88) (.sq (.reg false [] [⟨(some 8), (.mov (.k (.bool false))), none⟩]) .ret) .skip)))))))))) (.reg false [] [⟨(some 89), (.bin .add (.t 22) (.k (.int .i64 1))), none⟩, ⟨(some 22), (.mov (.t 89)), none⟩]))))))) (.sq (.reg false [] [⟨(some 8), (.mov (.k (.bool true))), none⟩]) .ret)))), [(.tmp 8)]⟩
noncomputable def s5 : Sig := ⟨(.cons (.int .i64) (.cons (.int .i64) (.cons (.int .i64) (.one (.int .i64))))), .bool, law02_RateSums⟩
theorem c5 : compF Tryd.prog 5 = some ⟨a5.n, erase a5.code, a5.res⟩ := by kernel_rfl
theorem t5 : funT (tp B L4) s5.a s5.r a5 = some s5.fn := by kernel_rfl
noncomputable def L5 : List (FuncId × Sig) := (5, s5) :: L4
theorem g5 : GoodT Tryd.prog B L5 := GoodT.addM g4 5 s5 (by rfl) fun _ _ _ hx hy => funT_ok g4.E g4.T t5 c5 (k := 4) rfl (Nat.le_of_ble_eq_true rfl) hx hy
def a6 : AF := ⟨122, (.sq (.reg false [] [⟨(some 10), (.mov (.k (.bool false))), none⟩]) (.seq [(.s 0, .v (.int .i64)), (.s 1, .v (.int .i32)), (.s 2, .v (.int .i32)), (.s 3, .v (.int .u16)), (.s 4, .v (.int .u8))] (.sq (.reg false [] [⟨(some 24), (.call 12 []), none⟩, ⟨(some 25), (.un .not (.t 24)), none⟩]) (.cond (.t 25) (.sq (.reg false [] [⟨(some 10), (.mov (.k (.bool false))), none⟩]) .ret) .skip)) (.sq (.reg false [] [⟨(some 26), (.mov (.t 4)), none⟩, ⟨(some 27), (.cvi .i64 (.t 26)), none⟩, ⟨(some 28), (.bin .rem (.t 27) (.k (.int .i64 5))), none⟩, ⟨(some 11), (.mov (.t 28)), none⟩]) (.seq [(.s 0, .v (.int .i64)), (.s 1, .v (.int .i32)), (.s 2, .v (.int .i32)), (.s 3, .v (.int .u16)), (.s 11, .v (.int .i64))] (.sq (.reg false [] [⟨(some 29), (.mov (.t 2)), none⟩, ⟨(some 30), (.bin .leq (.t 29) (.k (.int .i32 0))), none⟩, ⟨(some 31), (.mov (.t 30)), none⟩, ⟨(some 32), (.mov (.t 0)), (some (31, false))⟩, ⟨(some 33), (.call 15 [(.t 32)]), (some (31, false))⟩, ⟨(some 34), (.un .not (.t 33)), (some (31, false))⟩, ⟨(some 35), (.pick (.t 31) (.k (.bool true)) (.t 34)), none⟩]) (.cond (.t 35) (.sq (.reg false [] [⟨(some 10), (.mov (.k (.bool true))), none⟩]) .ret) .skip)) (.sq (.reg false [] [⟨(some 36), (.mov (.t 2)), none⟩, ⟨(some 37), (.cvi .i64 (.t 36)), none⟩, ⟨(some 12), (.mov (.t 37)), none⟩]) (.sq (.reg false [] [⟨(some 39), (.mov (.t 0)), none⟩, ⟨(some 40), (.mov (.t 12)), none⟩, ⟨(some 41), (.mov (.t 12)), none⟩, ⟨(some 42), (.mov (.t 11)), none⟩, ⟨(some 43), (.call 13 [(.t 39), (.t 40), (.t 41), (.t 42)]), none⟩, ⟨(some 38), (.mov (.t 43)), none⟩, ⟨(some 44), (.ext (.t 38) 0), none⟩, ⟨(some 45), (.ext (.t 38) 1), none⟩, ⟨(some 13), (.mov (.t 44)), none⟩, ⟨(some 14), (.mov (.t 45)), none⟩]) (.sq (.reg false [] [⟨(some 47), (.mov (.t 0)), none⟩, ⟨(some 48), (.mov (.t 12)), none⟩, ⟨(some 49), (.mov (.t 11)), none⟩, ⟨(some 50), (.call 13 [(.t 47), (.k (.int .i64 0)), (.t 48), (.t 49)]), none⟩, ⟨(some 46), (.mov (.t 50)), none⟩, ⟨(some 51), (.ext (.t 46) 0), none⟩, ⟨(some 52), (.ext (.t 46) 1), none⟩, ⟨(some 15), (.mov (.t 51)), none⟩, ⟨(some 16), (.mov (.t 52)), none⟩]) (.seq [(.s 0, .v (.int .i64)), (.s 1, .v (.int .i32)), (.s 3, .v (.int .u16)), (.s 11, .v (.int .i64)), (.s 12, .v (.int .i64))] (.sq (.reg false [] [⟨(some 53), (.mov (.t 14)), none⟩, ⟨(some 54), (.bin .neq (.t 53) (.k (.int .i64 0))), none⟩, ⟨(some 55), (.mov (.t 54)), none⟩, ⟨(some 56), (.mov (.t 16)), (some (55, false))⟩, ⟨(some 57), (.bin .neq (.t 56) (.k (.int .i64 0))), (some (55, false))⟩, ⟨(some 58), (.pick (.t 55) (.k (.bool true)) (.t 57)), none⟩, ⟨(some 59), (.mov (.t 58)), none⟩, ⟨(some 60), (.mov (.t 13)), (some (59, false))⟩, ⟨(some 61), (.mov (.t 0)), (some (59, false))⟩, ⟨(some 62), (.bin .neq (.t 60) (.t 61)), (some (59, false))⟩, ⟨(some 63), (.pick (.t 59) (.k (.bool true)) (.t 62)), none⟩, ⟨(some 64), (.mov (.t 63)), none⟩, ⟨(some 65), (.mov (.t 15)), (some (64, false))⟩, ⟨(some 66), (.bin .neq (.t 65) (.k (.int .i64 0))), (some (64, false))⟩, ⟨(some 67), (.pick (.t 64) (.k (.bool true)) (.t 66)), none⟩]) (.cond (.t 67) (.sq (.reg false [] [⟨(some 10), (.mov (.k (.bool false))), none⟩]) .ret) .skip)) (.sq (.reg false [] [⟨(some 68), (.mov (.t 3)), none⟩, ⟨(some 69), (.cvi .i64 (.t 68)), none⟩, ⟨(some 70), (.bin .add (.t 69) (.k (.int .i64 1))), none⟩, ⟨(some 17), (.mov (.t 70)), none⟩]) (.sq (.reg false [] [⟨(some 72), (.mov (.t 0)), none⟩, ⟨(some 73), (.mov (.t 1)), none⟩, ⟨(some 74), (.cvi .i64 (.t 73)), none⟩, ⟨(some 75), (.mov (.t 12)), none⟩, ⟨(some 76), (.mov (.t 11)), none⟩, ⟨(some 77), (.call 13 [(.t 72), (.t 74), (.t 75), (.t 76)]), none⟩, ⟨(some 71), (.mov (.t 77)), none⟩, ⟨(some 78), (.ext (.t 71) 0), none⟩, ⟨(some 79), (.ext (.t 71) 1), none⟩, ⟨(some 18), (.mov (.t 78)), none⟩, ⟨(some 19), (.mov (.t 79)), none⟩]) (.sq (.reg false [] [⟨(some 81), (.mov (.t 0)), none⟩, ⟨(some 82), (.mov (.t 1)), none⟩, ⟨(some 83), (.cvi .i64 (.t 82)), none⟩, ⟨(some 84), (.mov (.t 17)), none⟩, ⟨(some 85), (.bin .mul (.t 83) (.t 84)), none⟩, ⟨(some 86), (.mov (.t 12)), none⟩, ⟨(some 87), (.mov (.t 17)), none⟩, ⟨(some 88), (.bin .mul (.t 86) (.t 87)), none⟩, ⟨(some 89), (.mov (.t 11)), none⟩, ⟨(some 90), (.call 13 [(.t 81), (.t 85), (.t 88), (.t 89)]), none⟩, ⟨(some 80), (.mov (.t 90)), none⟩, ⟨(some 91), (.ext (.t 80) 0), none⟩, ⟨(some 92), (.ext (.t 80) 1), none⟩, ⟨(some 20), (.mov (.t 91)), none⟩, ⟨(some 21), (.mov (.t 92)), none⟩]) (.seq [(.s 1, .v (.int .i32)), (.s 11, .v (.int .i64)), (.s 12, .v (.int .i64)), (.s 17, .v (.int .i64))] (.sq (.reg false [] [⟨(some 93), (.mov (.t 18)), none⟩, ⟨(some 94), (.mov (.t 20)), none⟩, ⟨(some 95), (.bin .neq (.t 93) (.t 94)), none⟩, ⟨(some 96), (.mov (.t 95)), none⟩, ⟨(some 97), (.mov (.t 19)), (some (96, false))⟩, ⟨(some 98), (.mov (.t 21)), (some (96, false))⟩, ⟨(some 99), (.bin .neq (.t 97) (.t 98)), (some (96, false))⟩, ⟨(some 100), (.pick (.t 96) (.k (.bool true)) (.t 99)), none⟩]) (.cond (.t 100) (.sq (.reg false [] [⟨(some 10), (.mov (.k (.bool false))), none⟩]) .ret) .skip)) (.sq (.reg false [] [⟨(some 102), (.mov (.t 1)), none⟩, ⟨(some 103), (.cvi .i64 (.t 102)), none⟩, ⟨(some 104), (.mov (.t 17)), none⟩, ⟨(some 105), (.mov (.t 12)), none⟩, ⟨(some 106), (.bin .mul (.t 104) (.t 105)), none⟩, ⟨(some 107), (.mov (.t 12)), none⟩, ⟨(some 108), (.mov (.t 11)), none⟩, ⟨(some 109), (.call 13 [(.t 103), (.t 106), (.t 107), (.t 108)]), none⟩, ⟨(some 101), (.mov (.t 109)), none⟩, ⟨(some 110), (.ext (.t 101) 0), none⟩, ⟨(some 111), (.ext (.t 101) 1), none⟩, ⟨(some 22), (.mov (.t 110)), none⟩, ⟨(some 23), (.mov (.t 111)), none⟩]) (.sq (.reg false [] [⟨(some 112), (.mov (.t 23)), none⟩, ⟨(some 113), (.bin .eql (.t 112) (.k (.int .i64 0))), none⟩, ⟨(some 114), (.mov (.t 113)), none⟩, ⟨(some 115), (.mov (.t 22)), (some (114, true))⟩, ⟨(some 116), (.mov (.t 1)), (some (114, true))⟩, ⟨(some 117), (.cvi .i64 (.t 116)), (some (114, true))⟩, ⟨(some 118), (.mov (.t 17)), (some (114, true))⟩, ⟨(some 119), (.bin .mul (.t 117) (.t 118)), (some (114, true))⟩, ⟨(some 120), (.bin .eql (.t 115) (.t 119)), (some (114, true))⟩, ⟨(some 121), (.pick (.t 114) (.t 120) (.k (.bool false))), none⟩, ⟨(some 10), (.mov (.t 121)), none⟩]) .ret)))))))))))))), [(.tmp 10)]⟩
noncomputable def s6 : Sig := ⟨(.cons (.int .i64) (.cons (.int .i32) (.cons (.int .i32) (.cons (.int .u16) (.one (.int .u8)))))), .bool, law02_RateExact⟩
theorem c6 : compF Tryd.prog 6 = some ⟨a6.n, erase a6.code, a6.res⟩ := by kernel_rfl
theorem t6 : funT (tp B L5) s6.a s6.r a6 = some s6.fn := by kernel_rfl
noncomputable def L6 : List (FuncId × Sig) := (6, s6) :: L5
theorem g6 : GoodT Tryd.prog B L6 := GoodT.addM g5 6 s6 (by rfl) fun _ _ _ hx hy => funT_ok g5.E g5.T t6 c6 (k := 5) rfl (Nat.le_of_ble_eq_true rfl) hx hy
def a38 : AF := ⟨31, (.sq (.reg false [] [⟨(some 4), (.mov (.k (.int .i64 0))), none⟩]) (.sq (.reg false [] [⟨(some 5), (.mov (.k (.int .i64 0))), none⟩]) (.seq [(.s 5, .v (.int .i64))] (.block 0 (.loop [(.s 0, .v .str), (.s 1, .v (.int .i64)), (.s 5, .v (.int .i64))] [0] false (.seq [(.s 0, .v .str), (.s 1, .v (.int .i64)), (.s 5, .v (.int .i64))] (.sq (.reg false [] [⟨(some 6), (.mov (.t 1)), none⟩, ⟨(some 7), (.mov (.t 5)), none⟩, ⟨(some 8), (.bin .add (.t 6) (.t 7)), none⟩, ⟨(some 9), (.mov (.t 0)), none⟩, ⟨(some 10), (.len 0 (.t 9)), none⟩, ⟨(some 11), (.bin .lss (.t 8) (.t 10)), none⟩, ⟨(some 12), (.mov (.t 11)), none⟩, ⟨(some 13), (.mov (.t 0)), (some (12, true))⟩, ⟨(some 14), (.mov (.t 1)), (some (12, true))⟩, ⟨(some 15), (.mov (.t 5)), (some (12, true))⟩, ⟨(some 16), (.bin .add (.t 14) (.t 15)), (some (12, true))⟩, ⟨(some 17), (.sidx (.t 13) (.t 16)), (some (12, true))⟩, ⟨(some 18), (.bin .geq (.t 17) (.k (.int .u8 48))), (some (12, true))⟩, ⟨(some 19), (.pick (.t 12) (.t 18) (.k (.bool false))), none⟩, ⟨(some 20), (.mov (.t 19)), none⟩, ⟨(some 21), (.mov (.t 0)), (some (20, true))⟩, ⟨(some 22), (.mov (.t 1)), (some (20, true))⟩, ⟨(some 23), (.mov (.t 5)), (some (20, true))⟩, ⟨(some 24), (.bin .add (.t 22) (.t 23)), (some (20, true))⟩, ⟨(some 25), (.sidx (.t 21) (.t 24)), (some (20, true))⟩, ⟨(some 26), (.bin .leq (.t 25) (.k (.int .u8 57))), (some (20, true))⟩, ⟨(some 27), (.pick (.t 20) (.t 26) (.k (.bool false))), none⟩]) (.cond (.t 27) .skip (.exit 0))) (.block 1 (.reg false [] [⟨(some 28), (.mov (.t 5)), none⟩, ⟨(some 29), (.bin .add (.t 28) (.k (.int .i64 1))), none⟩, ⟨(some 5), (.mov (.t 29)), none⟩]))))) (.sq (.reg false [] [⟨(some 30), (.mov (.t 5)), none⟩, ⟨(some 4), (.mov (.t 30)), none⟩]) .ret)))), [(.tmp 4)]⟩
noncomputable def s38 : Sig := ⟨(.cons .str (.one (.int .i64))), (.int .i64), ref02_digits⟩
theorem c38 : compF Tryd.prog 38 = some ⟨a38.n, erase a38.code, a38.res⟩ := by kernel_rfl
theorem t38 : funT (tp B L6) s38.a s38.r a38 = some s38.fn := by kernel_rfl
noncomputable def L38 : List (FuncId × Sig) := (38, s38) :: L6
theorem g38 : GoodT Tryd.prog B L38 := GoodT.addM g6 38 s38 (by rfl) fun _ _ _ hx hy => funT_ok g6.E g6.T t38 c38 (k := 2) rfl (Nat.le_of_ble_eq_true rfl) hx hy
def a18 : AF := ⟨138, (.sq (.reg false [] [⟨(some 2), (.mov (.k (.int .i64 0))), none⟩, ⟨(some 3), (.mov (.k (.int .i64 0))), none⟩]) (.seq [(.s 0, .v .str)] (.sq (.reg false [] [⟨(some 12), (.mov (.t 0)), none⟩, ⟨(some 13), (.bin .eql (.t 12) (.k (.str []))), none⟩]) (.cond (.t 13) (.sq (.reg false [] [⟨(some 2), (.mov (.k (.int .i64 0))), none⟩, ⟨(some 3), (.mov (.k (.int .i64 10))), none⟩]) .ret) .skip)) (.sq (.reg false [] [⟨(some 4), (.mov (.k (.int .i64 0))), none⟩]) (.join [(.s 0, .v .str), (.s 4, .v (.int .i64))] [] false (.sq (.reg false [] [⟨(some 14), (.mov (.t 0)), none⟩, ⟨(some 15), (.sidx (.t 14) (.k (.int .i64 0))), none⟩, ⟨(some 16), (.bin .eql (.t 15) (.k (.int .u8 45))), none⟩]) (.cond (.t 16) (.reg false [] [⟨(some 4), (.mov (.k (.int .i64 1))), none⟩]) .skip)) (.sq (.reg false [] [⟨(some 17), (.mov (.t 0)), none⟩, ⟨(some 18), (.mov (.t 4)), none⟩, ⟨(some 19), (.call 38 [(.t 17), (.t 18)]), none⟩, ⟨(some 5), (.mov (.t 19)), none⟩]) (.seq [(.s 0, .v .str), (.s 4, .v (.int .i64)), (.s 5, .v (.int .i64))] (.sq (.reg false [] [⟨(some 20), (.mov (.t 5)), none⟩, ⟨(some 21), (.bin .eql (.t 20) (.k (.int .i64 0))), none⟩, ⟨(some 22), (.mov (.t 21)), none⟩, ⟨(some 23), (.mov (.t 5)), (some (22, false))⟩, ⟨(some 24), (.bin .gtr (.t 23) (.k (.int .i64 1))), (some (22, false))⟩, ⟨(some 25), (.mov (.t 24)), (some (22, false))⟩, ⟨(some 26), (.mov (.t 0)), (some (25, true))⟩, ⟨(some 27), (.mov (.t 4)), (some (25, true))⟩, ⟨(some 28), (.sidx (.t 26) (.t 27)), (some (25, true))⟩, ⟨(some 29), (.bin .eql (.t 28) (.k (.int .u8 48))), (some (25, true))⟩, ⟨(some 30), (.pick (.t 25) (.t 29) (.k (.bool false))), (some (22, false))⟩, ⟨(some 31), (.pick (.t 22) (.k (.bool true)) (.t 30)), none⟩]) (.cond (.t 31) (.sq (.reg false [] [⟨(some 2), (.mov (.k (.int .i64 0))), none⟩, ⟨(some 3), (.mov (.k (.int .i64 3))), none⟩]) .ret) .skip)) (.sq (.reg false [] [⟨(some 32), (.mov (.t 4)), none⟩, ⟨(some 33), (.mov (.t 5)), none⟩, ⟨(some 34), (.bin .add (.t 32) (.t 33)), none⟩, ⟨(some 6), (.mov (.t 34)), none⟩]) (.sq (.reg false [] [⟨(some 7), (.mov (.k (.int .i64 0))), none⟩]) (.join [(.s 0, .v .str), (.s 4, .v (.int .i64)), (.s 5, .v (.int .i64)), (.s 6, .v (.int .i64)), (.s 7, .v (.int .i64))] [] true (.sq (.reg false [] [⟨(some 35), (.mov (.t 6)), none⟩, ⟨(some 36), (.mov (.t 0)), none⟩, ⟨(some 37), (.len 0 (.t 36)), none⟩, ⟨(some 38), (.bin .lss (.t 35) (.t 37)), none⟩, ⟨(some 39), (.mov (.t 38)), none⟩, ⟨(some 40), (.mov (.t 0)), (some (39, true))⟩, ⟨(some 41), (.mov (.t 6)), (some (39, true))⟩, ⟨(some 42), (.sidx (.t 40) (.t 41)), (some (39, true))⟩, ⟨(some 43), (.bin .eql (.t 42) (.k (.int .u8 46))), (some (39, true))⟩, ⟨(some 44), (.pick (.t 39) (.t 43) (.k (.bool false))), none⟩]) (.cond (.t 44) (.sq (.reg false [] [⟨(some 45), (.mov (.t 0)), none⟩, ⟨(some 46), (.mov (.t 6)), none⟩, ⟨(some 47), (.bin .add (.t 46) (.k (.int .i64 1))), none⟩, ⟨(some 48), (.call 38 [(.t 45), (.t 47)]), none⟩, ⟨(some 7), (.mov (.t 48)), none⟩]) (.seq [(.s 0, .v .str), (.s 4, .v (.int .i64)), (.s 5, .v (.int .i64)), (.s 6, .v (.int .i64)), (.s 7, .v (.int .i64))] (.sq (.reg false [] [⟨(some 49), (.mov (.t 7)), none⟩, ⟨(some 50), (.bin .eql (.t 49) (.k (.int .i64 0))), none⟩, ⟨(some 51), (.mov (.t 50)), none⟩, ⟨(some 52), (.mov (.t 7)), (some (51, false))⟩, ⟨(some 53), (.bin .gtr (.t 52) (.k (.int .i64 4))), (some (51, false))⟩, ⟨(some 54), (.pick (.t 51) (.k (.bool true)) (.t 53)), none⟩, ⟨(some 55), (.mov (.t 54)), none⟩, ⟨(some 56), (.mov (.t 0)), (some (55, false))⟩, ⟨(some 57), (.mov (.t 6)), (some (55, false))⟩, ⟨(some 58), (.mov (.t 7)), (some (55, false))⟩, ⟨(some 59), (.bin .add (.t 57) (.t 58)), (some (55, false))⟩, ⟨(some 60), (.sidx (.t 56) (.t 59)), (some (55, false))⟩, ⟨(some 61), (.bin .eql (.t 60) (.k (.int .u8 48))), (some (55, false))⟩, ⟨(some 62), (.pick (.t 55) (.k (.bool true)) (.t 61)), none⟩]) (.cond (.t 62) (.sq (.reg false [] [⟨(some 2), (.mov (.k (.int .i64 0))), none⟩, ⟨(some 3), (.mov (.k (.int .i64 3))), none⟩]) .ret) .skip)) (.reg false [] [⟨(some 63), (.mov (.t 6)), none⟩, ⟨(some 64), (.bin .add (.t 63) (.k (.int .i64 1))), none⟩, ⟨(some 65), (.mov (.t 7)), none⟩, ⟨(some 66), (.bin .add (.t 64) (.t 65)), none⟩, ⟨(some 6), (.mov (.t 66)), none⟩]))) .skip)) (.seq [(.s 0, .v .str), (.s 4, .v (.int .i64)), (.s 5, .v (.int .i64)), (.s 7, .v (.int .i64))] (.sq (.reg false [] [⟨(some 67), (.mov (.t 6)), none⟩, ⟨(some 68), (.mov (.t 0)), none⟩, ⟨(some 69), (.len 0 (.t 68)), none⟩, ⟨(some 70), (.bin .sub (.t 69) (.k (.int .i64 1))), none⟩, ⟨(some 71), (.bin .neq (.t 67) (.t 70)), none⟩, ⟨(some 72), (.mov (.t 71)), none⟩, ⟨(some 73), (.mov (.t 0)), (some (72, false))⟩, ⟨(some 74), (.mov (.t 6)), (some (72, false))⟩, ⟨(some 75), (.sidx (.t 73) (.t 74)), (some (72, false))⟩, ⟨(some 76), (.bin .neq (.t 75) (.k (.int .u8 37))), (some (72, false))⟩, ⟨(some 77), (.pick (.t 72) (.k (.bool true)) (.t 76)), none⟩]) (.cond (.t 77) (.sq (.reg false [] [⟨(some 2), (.mov (.k (.int .i64 0))), none⟩, ⟨(some 3), (.mov (.k (.int .i64 3))), none⟩]) .ret) .skip)) (.sq (.reg false [] [⟨(some 8), (.mov (.k (.int .u64 0))), none⟩]) (.seq [(.s 0, .v .str), (.s 4, .v (.int .i64)), (.s 5, .v (.int .i64)), (.s 7, .v (.int .i64)), (.s 8, .v (.int .u64))] (.sq (.reg false [] [⟨(some 78), (.mov (.t 4)), none⟩, ⟨(some 9), (.mov (.t 78)), none⟩]) (.block 0 (.loop [(.s 0, .v .str), (.s 4, .v (.int .i64)), (.s 5, .v (.int .i64)), (.s 7, .v (.int .i64)), (.s 8, .v (.int .u64)), (.s 9, .v (.int .i64))] [0] false (.seq [(.s 0, .v .str), (.s 4, .v (.int .i64)), (.s 5, .v (.int .i64)), (.s 7, .v (.int .i64)), (.s 8, .v (.int .u64)), (.s 9, .v (.int .i64))] (.sq (.reg false [] [⟨(some 79), (.mov (.t 9)), none⟩, ⟨(some 80), (.mov (.t 4)), none⟩, ⟨(some 81), (.mov (.t 5)), none⟩, ⟨(some 82), (.bin .add (.t 80) (.t 81)), none⟩, ⟨(some 83), (.bin .lss (.t 79) (.t 82)), none⟩]) (.cond (.t 83) .skip (.exit 0))) (.join [(.s 0, .v .str), (.s 4, .v (.int .i64)), (.s 5, .v (.int .i64)), (.s 7, .v (.int .i64)), (.s 8, .v (.int .u64)), (.s 9, .v (.int .i64))] [] false (.block 1 (.sq (.reg false [] [⟨(some 86), (.mov (.t 8)), none⟩, ⟨(some 87), (.bin .lss (.t 86) (.k (.int .u64 1000000))), none⟩]) (.cond (.t 87) (.reg false [] [⟨(some 88), (.mov (.t 8)), none⟩, ⟨(some 89), (.bin .mul (.k (.int .u64 10)) (.t 88)), none⟩, ⟨(some 90), (.mov (.t 0)), none⟩, ⟨(some 91), (.mov (.t 9)), none⟩, ⟨(some 92), (.sidx (.t 90) (.t 91)), none⟩, ⟨(some 93), (.cvi .u64 (.t 92)), none⟩, ⟨(some 94), (.bin .add (.t 89) (.t 93)), none⟩, ⟨(some 95), (.bin .sub (.t 94) (.k (.int .u64 48))), none⟩, ⟨(some 8), (.mov (.t 95)), none⟩]) .skip))) (.reg false [] [⟨(some 84), (.mov (.t 9)), none⟩, ⟨(some 85), (.bin .add (.t 84) (.k (.int .i64 1))), none⟩, ⟨(some 9), (.mov (.t 85)), none⟩])))))) (.sq (.reg false [] [⟨(some 10), (.mov (.k (.int .u64 1000))), none⟩]) (.sq (.reg false [] [⟨(some 96), (.mov (.t 8)), none⟩, ⟨(some 97), (.bin .mul (.k (.int .u64 10000)) (.t 96)), none⟩, ⟨(some 8), (.mov (.t 97)), none⟩]) (.seq [(.s 4, .v (.int .i64)), (.s 8, .v (.int .u64))] (.sq (.reg false [] [⟨(some 98), (.mov (.t 4)), none⟩, ⟨(some 99), (.mov (.t 5)), none⟩, ⟨(some 100), (.bin .add (.t 98) (.t 99)), none⟩, ⟨(some 101), (.bin .add (.t 100) (.k (.int .i64 1))), none⟩, ⟨(some 11), (.mov (.t 101)), none⟩]) (.block 2 (.loop [(.s 0, .v .str), (.s 4, .v (.int .i64)), (.s 5, .v (.int .i64)), (.s 7, .v (.int .i64)), (.s 8, .v (.int .u64)), (.s 10, .v (.int .u64)), (.s 11, .v (.int .i64))] [2] false (.seq [(.s 0, .v .str), (.s 4, .v (.int .i64)), (.s 5, .v (.int .i64)), (.s 7, .v (.int .i64)), (.s 8, .v (.int .u64)), (.s 10, .v (.int .u64)), (.s 11, .v (.int .i64))] (.sq (.reg false [] [⟨(some 102), (.mov (.t 11)), none⟩, ⟨(some 103), (.mov (.t 4)), none⟩, ⟨(some 104), (.mov (.t 5)), none⟩, ⟨(some 105), (.bin .add (.t 103) (.t 104)), none⟩, ⟨(some 106), (.bin .add (.t 105) (.k (.int .i64 1))), none⟩, ⟨(some 107), (.mov (.t 7)), none⟩, ⟨(some 108), (.bin .add (.t 106) (.t 107)), none⟩, ⟨(some 109), (.bin .lss (.t 102) (.t 108)), none⟩]) (.cond (.t 109) .skip (.exit 2))) (.seq [(.s 0, .v .str), (.s 4, .v (.int .i64)), (.s 5, .v (.int .i64)), (.s 7, .v (.int .i64)), (.s 8, .v (.int .u64)), (.s 10, .v (.int .u64)), (.s 11, .v (.int .i64))] (.block 3 (.sq (.reg false [] [⟨(some 112), (.mov (.t 8)), none⟩, ⟨(some 113), (.mov (.t 10)), none⟩, ⟨(some 114), (.mov (.t 0)), none⟩, ⟨(some 115), (.mov (.t 11)), none⟩, ⟨(some 116), (.sidx (.t 114) (.t 115)), none⟩, ⟨(some 117), (.cvi .u64 (.t 116)), none⟩, ⟨(some 118), (.bin .sub (.t 117) (.k (.int .u64 48))), none⟩, ⟨(some 119), (.bin .mul (.t 113) (.t 118)), none⟩, ⟨(some 120), (.bin .add (.t 112) (.t 119)), none⟩, ⟨(some 8), (.mov (.t 120)), none⟩]) (.reg false [] [⟨(some 121), (.mov (.t 10)), none⟩, ⟨(some 122), (.bin .quo (.t 121) (.k (.int .u64 10))), none⟩, ⟨(some 10), (.mov (.t 122)), none⟩]))) (.reg false [] [⟨(some 110), (.mov (.t 11)), none⟩, ⟨(some 111), (.bin .add (.t 110) (.k (.int .i64 1))), none⟩, ⟨(some 11), (.mov (.t 111)), none⟩])))))) (.seq [(.s 4, .v (.int .i64)), (.s 8, .v (.int .u64))] (.sq (.reg false [] [⟨(some 123), (.mov (.t 8)), none⟩, ⟨(some 124), (.bin .eql (.t 123) (.k (.int .u64 0))), none⟩, ⟨(some 125), (.mov (.t 124)), none⟩, ⟨(some 126), (.mov (.t 4)), (some (125, true))⟩, ⟨(some 127), (.bin .eql (.t 126) (.k (.int .i64 1))), (some (125, true))⟩, ⟨(some 128), (.pick (.t 125) (.t 127) (.k (.bool false))), none⟩]) (.cond (.t 128) (.sq (.reg false [] [⟨(some 2), (.mov (.k (.int .i64 0))), none⟩, ⟨(some 3), (.mov (.k (.int .i64 3))), none⟩]) .ret) .skip)) (.seq [(.s 4, .v (.int .i64)), (.s 8, .v (.int .u64))] (.sq (.reg false [] [⟨(some 129), (.mov (.t 8)), none⟩, ⟨(some 130), (.bin .gtr (.t 129) (.k (.int .u64 1000000000))), none⟩]) (.cond (.t 130) (.sq (.reg false [] [⟨(some 2), (.mov (.k (.int .i64 0))), none⟩, ⟨(some 3), (.mov (.k (.int .i64 2))), none⟩]) .ret) .skip)) (.seq [(.s 8, .v (.int .u64))] (.sq (.reg false [] [⟨(some 131), (.mov (.t 4)), none⟩, ⟨(some 132), (.bin .eql (.t 131) (.k (.int .i64 1))), none⟩]) (.cond (.t 132) (.sq (.reg false [] [⟨(some 133), (.mov (.t 8)), none⟩, ⟨(some 134), (.cvi .i64 (.t 133)), none⟩, ⟨(some 135), (.un .neg (.t 134)), none⟩, ⟨(some 2), (.mov (.t 135)), none⟩, ⟨(some 3), (.mov (.k (.int .i64 0))), none⟩]) .ret) .skip)) (.sq (.reg false [] [⟨(some 136), (.mov (.t 8)), none⟩, ⟨(some 137), (.cvi .i64 (.t 136)), none⟩, ⟨(some 2), (.mov (.t 137)), none⟩, ⟨(some 3), (.mov (.k (.int .i64 0))), none⟩]) .ret))))))))))))))))))), [(.tmp 2), (.tmp 3)]⟩
noncomputable def s18 : Sig := ⟨(.one .str), (.tup (.cons (.int .i64) (.one (.int .i64)))), ref02_Parse⟩
theorem c18 : compF Tryd.prog 18 = some ⟨a18.n, erase a18.code, a18.res⟩ := by kernel_rfl
theorem t18 : funT (tp B L38) s18.a s18.r a18 = some s18.fn := by kernel_rfl
noncomputable def L18 : List (FuncId × Sig) := (18, s18) :: L38
theorem g18 : GoodT Tryd.prog B L18 := GoodT.addM g38 18 s18 (by rfl) fun _ _ _ hx hy => funT_ok g38.E g38.T t18 c18 (k := 1) rfl (Nat.le_of_ble_eq_true rfl) hx hy
def a20 : AF := ⟨9, (.sq (.reg false [] [⟨(some 2), (.mov (.k (.bool false))), none⟩]) (.sq (.reg false [] [⟨(some 3), (.mov (.t 0)), none⟩, ⟨(some 4), (.bin .geq (.t 3) (.k (.int .i64 (-1000000000)))), none⟩, ⟨(some 5), (.mov (.t 4)), none⟩, ⟨(some 6), (.mov (.t 0)), (some (5, true))⟩, ⟨(some 7), (.bin .leq (.t 6) (.k (.int .i64 1000000000))), (some (5, true))⟩, ⟨(some 8), (.pick (.t 5) (.t 7) (.k (.bool false))), none⟩, ⟨(some 2), (.mov (.t 8)), none⟩]) .ret)), [(.tmp 2)]⟩
noncomputable def s20 : Sig := ⟨(.one (.int .i64)), .bool, ref02_Right⟩
theorem c20 : compF Tryd.prog 20 = some ⟨a20.n, erase a20.code, a20.res⟩ := by kernel_rfl
theorem t20 : funT (tp B L18) s20.a s20.r a20 = some s20.fn := by kernel_rfl
noncomputable def L20 : List (FuncId × Sig) := (20, s20) :: L18
theorem g20 : GoodT Tryd.prog B L20 := GoodT.addM g18 20 s20 (by rfl) fun _ _ _ hx hy => funT_ok g18.E g18.T t20 c20 (k := 1) rfl (Nat.le_of_ble_eq_true rfl) hx hy
def a39 : AF := ⟨23, (.sq (.reg false [] [⟨(some 2), (.mov (.k (.str []))), none⟩]) (.sq (.reg false [] [⟨(some 3), (.mov (.k (.str []))), none⟩]) (.seq [(.s 0, .v (.int .u64)), (.s 3, .v .str)] (.block 0 (.loop [(.s 0, .v (.int .u64)), (.s 3, .v .str)] [0] false (.seq [(.s 0, .v (.int .u64)), (.s 3, .v .str)] (.sq (.reg false [] [⟨(some 4), (.mov (.t 0)), none⟩, ⟨(some 5), (.bin .gtr (.t 4) (.k (.int .u64 9))), none⟩]) (.cond (.t 5) .skip (.exit 0))) (.block 1 (.sq (.reg false [10] [⟨(some 6), (.mov (.t 0)), none⟩, ⟨(some 7), (.bin .rem (.t 6) (.k (.int .u64 10))), none⟩, ⟨(some 8), (.bin .add (.k (.int .u64 48)) (.t 7)), none⟩, ⟨(some 9), (.cvi .u8 (.t 8)), none⟩, ⟨(some 10), (.mksl 5 1 [(.t 9)]), none⟩, ⟨(some 11), (.cvbs (.t 10)), none⟩, ⟨(some 12), (.mov (.t 3)), none⟩, ⟨(some 13), (.bin .add (.t 11) (.t 12)), none⟩, ⟨(some 3), (.mov (.t 13)), none⟩]) (.reg false [] [⟨(some 14), (.mov (.t 0)), none⟩, ⟨(some 15), (.bin .quo (.t 14) (.k (.int .u64 10))), none⟩, ⟨(some 0), (.mov (.t 15)), none⟩])))))) (.sq (.reg false [19] [⟨(some 16), (.mov (.t 0)), none⟩, ⟨(some 17), (.bin .add (.k (.int .u64 48)) (.t 16)), none⟩, ⟨(some 18), (.cvi .u8 (.t 17)), none⟩, ⟨(some 19), (.mksl 5 1 [(.t 18)]), none⟩, ⟨(some 20), (.cvbs (.t 19)), none⟩, ⟨(some 21), (.mov (.t 3)), none⟩, ⟨(some 22), (.bin .add (.t 20) (.t 21)), none⟩, ⟨(some 2), (.mov (.t 22)), none⟩]) .ret)))), [(.tmp 2)]⟩
noncomputable def s39 : Sig := ⟨(.one (.int .u64)), .str, ref02_tens⟩
theorem c39 : compF Tryd.prog 39 = some ⟨a39.n, erase a39.code, a39.res⟩ := by kernel_rfl
theorem t39 : funT (tp B L20) s39.a s39.r a39 = some s39.fn := by kernel_rfl
noncomputable def L39 : List (FuncId × Sig) := (39, s39) :: L20
theorem g39 : GoodT Tryd.prog B L39 := GoodT.addM g20 39 s39 (by rfl) fun _ _ _ hx hy => funT_ok g20.E g20.T t39 c39 (k := 1) rfl (Nat.le_of_ble_eq_true rfl) hx hy
def a19 : AF := ⟨44, (.sq (.reg false [] [⟨(some 2), (.mov (.k (.str []))), none⟩]) (.seq [(.s 0, .v (.int .i64))] (.sq (.reg false [] [⟨(some 7), (.mov (.t 0)), none⟩, ⟨(some 8), (.call 20 [(.t 7)]), none⟩, ⟨(some 9), (.un .not (.t 8)), none⟩]) (.cond (.t 9) (.sq (.reg false [] [⟨(some 2), (.mov (.k (.str []))), none⟩]) .ret) .skip)) (.sq (.reg false [] [⟨(some 10), (.mov (.t 0)), none⟩, ⟨(some 11), (.call 28 [(.t 10)]), none⟩, ⟨(some 3), (.mov (.t 11)), none⟩]) (.sq (.reg false [] [⟨(some 12), (.mov (.t 3)), none⟩, ⟨(some 13), (.bin .quo (.t 12) (.k (.int .u64 10000))), none⟩, ⟨(some 14), (.call 39 [(.t 13)]), none⟩, ⟨(some 4), (.mov (.t 14)), none⟩]) (.join [(.s 3, .v (.int .u64)), (.s 4, .v .str)] [] false (.sq (.reg false [] [⟨(some 15), (.mov (.t 0)), none⟩, ⟨(some 16), (.bin .lss (.t 15) (.k (.int .i64 0))), none⟩]) (.cond (.t 16) (.reg false [] [⟨(some 17), (.mov (.t 4)), none⟩, ⟨(some 18), (.bin .add (.k (.str [45])) (.t 17)), none⟩, ⟨(some 4), (.mov (.t 18)), none⟩]) .skip)) (.sq (.reg false [] [⟨(some 19), (.mov (.t 3)), none⟩, ⟨(some 20), (.bin .rem (.t 19) (.k (.int .u64 10000))), none⟩, ⟨(some 5), (.mov (.t 20)), none⟩]) (.join [(.s 4, .v .str)] [] false (.sq (.reg false [] [⟨(some 21), (.mov (.t 5)), none⟩, ⟨(some 22), (.bin .gtr (.t 21) (.k (.int .u64 0))), none⟩]) (.cond (.t 22) (.sq (.reg false [] [⟨(some 23), (.mov (.t 5)), none⟩, ⟨(some 24), (.bin .add (.k (.int .u64 10000)) (.t 23)), none⟩, ⟨(some 25), (.call 39 [(.t 24)]), none⟩, ⟨(some 26), (.sslice (.t 25) (some (.k (.int .i64 1))) none), none⟩, ⟨(some 6), (.mov (.t 26)), none⟩]) (.seq [(.s 4, .v .str), (.s 6, .v .str)] (.block 0 (.loop [(.s 4, .v .str), (.s 6, .v .str)] [0] false (.seq [(.s 4, .v .str), (.s 6, .v .str)] (.sq (.reg false [] [⟨(some 27), (.mov (.t 6)), none⟩, ⟨(some 28), (.mov (.t 6)), none⟩, ⟨(some 29), (.len 0 (.t 28)), none⟩, ⟨(some 30), (.bin .sub (.t 29) (.k (.int .i64 1))), none⟩, ⟨(some 31), (.sidx (.t 27) (.t 30)), none⟩, ⟨(some 32), (.bin .eql (.t 31) (.k (.int .u8 48))), none⟩]) (.cond (.t 32) .skip (.exit 0))) (.block 1 (.reg false [] [⟨(some 33), (.mov (.t 6)), none⟩, ⟨(some 34), (.mov (.t 6)), none⟩, ⟨(some 35), (.len 0 (.t 34)), none⟩, ⟨(some 36), (.bin .sub (.t 35) (.k (.int .i64 1))), none⟩, ⟨(some 37), (.sslice (.t 33) none (some (.t 36))), none⟩, ⟨(some 6), (.mov (.t 37)), none⟩]))))) (.reg false [] [⟨(some 38), (.mov (.t 4)), none⟩, ⟨(some 39), (.bin .add (.t 38) (.k (.str [46]))), none⟩, ⟨(some 40), (.mov (.t 6)), none⟩, ⟨(some 41), (.bin .add (.t 39) (.t 40)), none⟩, ⟨(some 4), (.mov (.t 41)), none⟩]))) .skip)) (.sq (.reg false [] [⟨(some 42), (.mov (.t 4)), none⟩, ⟨(some 43), (.bin .add (.t 42) (.k (.str [37]))), none⟩, ⟨(some 2), (.mov (.t 43)), none⟩]) .ret)))))))), [(.tmp 2)]⟩
noncomputable def s19 : Sig := ⟨(.one (.int .i64)), .str, ref02_Text⟩
theorem c19 : compF Tryd.prog 19 = some ⟨a19.n, erase a19.code, a19.res⟩ := by kernel_rfl
theorem t19 : funT (tp B L39) s19.a s19.r a19 = some s19.fn := by kernel_rfl
noncomputable def L19 : List (FuncId × Sig) := (19, s19) :: L39
theorem g19 : GoodT Tryd.prog B L19 := GoodT.addM g39 19 s19 (by rfl) fun _ _ _ hx hy => funT_ok g39.E g39.T t19 c19 (k := 1) rfl (Nat.le_of_ble_eq_true rfl) hx hy
def a7 : AF := ⟨74, (.sq (.reg false [] [⟨(some 4), (.mov (.k (.bool false))), none⟩]) (.seq [(.s 0, .v (.int .i64)), (.s 1, .v .str)] (.sq (.reg false [] [⟨(some 12), (.call 12 []), none⟩, ⟨(some 13), (.un .not (.t 12)), none⟩]) (.cond (.t 13) (.sq (.reg false [] [⟨(some 4), (.mov (.k (.bool false))), none⟩]) .ret) .skip)) (.seq [(.s 0, .v (.int .i64)), (.s 1, .v .str)] (.sq (.reg false [] [⟨(some 14), (.mov (.t 1)), none⟩, ⟨(some 15), (.len 0 (.t 14)), none⟩, ⟨(some 16), (.bin .gtr (.t 15) (.k (.int .i64 3000))), none⟩]) (.cond (.t 16) (.sq (.reg false [] [⟨(some 4), (.mov (.k (.bool true))), none⟩]) .ret) .skip)) (.sq (.reg false [] [⟨(some 17), (.mov (.t 0)), none⟩, ⟨(some 18), (.call 16 [(.t 17)]), none⟩, ⟨(some 5), (.mov (.t 18)), none⟩]) (.sq (.reg false [] [⟨(some 20), (.mov (.t 1)), none⟩, ⟨(some 21), (.call 17 [(.t 20)]), none⟩, ⟨(some 19), (.mov (.t 21)), none⟩, ⟨(some 22), (.ext (.t 19) 0), none⟩, ⟨(some 23), (.ext (.t 19) 1), none⟩, ⟨(some 6), (.mov (.t 22)), none⟩, ⟨(some 7), (.mov (.t 23)), none⟩]) (.sq (.reg false [] [⟨(some 25), (.mov (.t 1)), none⟩, ⟨(some 26), (.call 18 [(.t 25)]), none⟩, ⟨(some 24), (.mov (.t 26)), none⟩, ⟨(some 27), (.ext (.t 24) 0), none⟩, ⟨(some 28), (.ext (.t 24) 1), none⟩, ⟨(some 8), (.mov (.t 27)), none⟩, ⟨(some 9), (.mov (.t 28)), none⟩]) (.seq [(.s 0, .v (.int .i64)), (.s 5, .v .str)] (.sq (.reg false [] [⟨(some 29), (.mov (.t 5)), none⟩, ⟨(some 30), (.mov (.t 0)), none⟩, ⟨(some 31), (.call 19 [(.t 30)]), none⟩, ⟨(some 32), (.bin .neq (.t 29) (.t 31)), none⟩, ⟨(some 33), (.mov (.t 32)), none⟩, ⟨(some 34), (.mov (.t 6)), (some (33, false))⟩, ⟨(some 35), (.mov (.t 8)), (some (33, false))⟩, ⟨(some 36), (.bin .neq (.t 34) (.t 35)), (some (33, false))⟩, ⟨(some 37), (.pick (.t 33) (.k (.bool true)) (.t 36)), none⟩, ⟨(some 38), (.mov (.t 37)), none⟩, ⟨(some 39), (.mov (.t 7)), (some (38, false))⟩, ⟨(some 40), (.mov (.t 9)), (some (38, false))⟩, ⟨(some 41), (.bin .neq (.t 39) (.t 40)), (some (38, false))⟩, ⟨(some 42), (.pick (.t 38) (.k (.bool true)) (.t 41)), none⟩, ⟨(some 43), (.mov (.t 42)), none⟩, ⟨(some 44), (.mov (.t 7)), (some (43, false))⟩, ⟨(some 45), (.bin .eql (.t 44) (.k (.int .i64 0))), (some (43, false))⟩, ⟨(some 46), (.mov (.t 45)), (some (43, false))⟩, ⟨(some 47), (.mov (.t 6)), (some (46, true))⟩, ⟨(some 48), (.call 16 [(.t 47)]), (some (46, true))⟩, ⟨(some 49), (.mov (.t 1)), (some (46, true))⟩, ⟨(some 50), (.bin .neq (.t 48) (.t 49)), (some (46, true))⟩, ⟨(some 51), (.pick (.t 46) (.t 50) (.k (.bool false))), (some (43, false))⟩, ⟨(some 52), (.pick (.t 43) (.k (.bool true)) (.t 51)), none⟩]) (.cond (.t 52) (.sq (.reg false [] [⟨(some 4), (.mov (.k (.bool false))), none⟩]) .ret) .skip)) (.sq (.reg false [] [⟨(some 54), (.mov (.t 5)), none⟩, ⟨(some 55), (.call 17 [(.t 54)]), none⟩, ⟨(some 53), (.mov (.t 55)), none⟩, ⟨(some 56), (.ext (.t 53) 0), none⟩, ⟨(some 57), (.ext (.t 53) 1), none⟩, ⟨(some 10), (.mov (.t 56)), none⟩, ⟨(some 11), (.mov (.t 57)), none⟩]) (.seq [(.s 0, .v (.int .i64)), (.s 10, .v (.int .i64)), (.s 11, .v (.int .i64))] (.sq (.reg false [] [⟨(some 58), (.mov (.t 0)), none⟩, ⟨(some 59), (.call 20 [(.t 58)]), none⟩, ⟨(some 60), (.un .not (.t 59)), none⟩]) (.cond (.t 60) (.sq (.reg false [] [⟨(some 61), (.mov (.t 5)), none⟩, ⟨(some 62), (.bin .eql (.t 61) (.k (.str []))), none⟩, ⟨(some 63), (.mov (.t 62)), none⟩, ⟨(some 64), (.mov (.t 11)), (some (63, true))⟩, ⟨(some 65), (.bin .eql (.t 64) (.k (.int .i64 10))), (some (63, true))⟩, ⟨(some 66), (.pick (.t 63) (.t 65) (.k (.bool false))), none⟩, ⟨(some 4), (.mov (.t 66)), none⟩]) .ret) .skip)) (.sq (.reg false [] [⟨(some 67), (.mov (.t 11)), none⟩, ⟨(some 68), (.bin .eql (.t 67) (.k (.int .i64 0))), none⟩, ⟨(some 69), (.mov (.t 68)), none⟩, ⟨(some 70), (.mov (.t 10)), (some (69, true))⟩, ⟨(some 71), (.mov (.t 0)), (some (69, true))⟩, ⟨(some 72), (.bin .eql (.t 70) (.t 71)), (some (69, true))⟩, ⟨(some 73), (.pick (.t 69) (.t 72) (.k (.bool false))), none⟩, ⟨(some 4), (.mov (.t 73)), none⟩]) .ret)))))))))), [(.tmp 4)]⟩
noncomputable def s7 : Sig := ⟨(.cons (.int .i64) (.one .str)), .bool, law02_RateText⟩
theorem c7 : compF Tryd.prog 7 = some ⟨a7.n, erase a7.code, a7.res⟩ := by kernel_rfl
theorem t7 : funT (tp B L19) s7.a s7.r a7 = some s7.fn := by kernel_rfl
noncomputable def L7 : List (FuncId × Sig) := (7, s7) :: L19
theorem g7 : GoodT Tryd.prog B L7 := GoodT.addM g19 7 s7 (by rfl) fun _ _ _ hx hy => funT_ok g19.E g19.T t7 c7 (k := 2) rfl (Nat.le_of_ble_eq_true rfl) hx hy
def a8 : AF := ⟨85, (.sq (.reg false [] [⟨(some 12), (.mov (.k (.bool false))), none⟩]) (.seq [(.s 0, .v (.int .i64)), (.s 1, .v (.int .i64)), (.s 2, .v (.int .i64)), (.s 3, .v (.int .i64)), (.s 4, .v (.int .i64)), (.s 5, .v (.int .u8))] (.sq (.reg false [] [⟨(some 20), (.call 12 []), none⟩, ⟨(some 21), (.un .not (.t 20)), none⟩]) (.cond (.t 21) (.sq (.reg false [] [⟨(some 12), (.mov (.k (.bool false))), none⟩]) .ret) .skip)) (.seq [(.s 0, .v (.int .i64)), (.s 1, .v (.int .i64)), (.s 2, .v (.int .i64)), (.s 3, .v (.int .i64)), (.s 4, .v (.int .i64)), (.s 5, .v (.int .u8))] (.sq (.reg false [] [⟨(some 22), (.mov (.t 2)), none⟩, ⟨(some 23), (.bin .lss (.t 22) (.k (.int .i64 0))), none⟩, ⟨(some 24), (.mov (.t 23)), none⟩, ⟨(some 25), (.mov (.t 3)), (some (24, false))⟩, ⟨(some 26), (.mov (.t 2)), (some (24, false))⟩, ⟨(some 27), (.bin .lss (.t 25) (.t 26)), (some (24, false))⟩, ⟨(some 28), (.pick (.t 24) (.k (.bool true)) (.t 27)), none⟩, ⟨(some 29), (.mov (.t 28)), none⟩, ⟨(some 30), (.mov (.t 1)), (some (29, false))⟩, ⟨(some 31), (.mov (.t 0)), (some (29, false))⟩, ⟨(some 32), (.bin .lss (.t 30) (.t 31)), (some (29, false))⟩, ⟨(some 33), (.pick (.t 29) (.k (.bool true)) (.t 32)), none⟩]) (.cond (.t 33) (.sq (.reg false [] [⟨(some 12), (.mov (.k (.bool true))), none⟩]) .ret) .skip)) (.sq (.reg false [] [⟨(some 34), (.mov (.t 5)), none⟩, ⟨(some 35), (.cvi .i64 (.t 34)), none⟩, ⟨(some 36), (.bin .rem (.t 35) (.k (.int .i64 5))), none⟩, ⟨(some 13), (.mov (.t 36)), none⟩]) (.sq (.reg false [] [⟨(some 38), (.mov (.t 0)), none⟩, ⟨(some 39), (.mov (.t 2)), none⟩, ⟨(some 40), (.mov (.t 4)), none⟩, ⟨(some 41), (.mov (.t 13)), none⟩, ⟨(some 42), (.call 13 [(.t 38), (.t 39), (.t 40), (.t 41)]), none⟩, ⟨(some 37), (.mov (.t 42)), none⟩, ⟨(some 43), (.ext (.t 37) 0), none⟩, ⟨(some 44), (.ext (.t 37) 1), none⟩, ⟨(some 14), (.mov (.t 43)), none⟩, ⟨(some 15), (.mov (.t 44)), none⟩]) (.sq (.reg false [] [⟨(some 46), (.mov (.t 1)), none⟩, ⟨(some 47), (.mov (.t 2)), none⟩, ⟨(some 48), (.mov (.t 4)), none⟩, ⟨(some 49), (.mov (.t 13)), none⟩, ⟨(some 50), (.call 13 [(.t 46), (.t 47), (.t 48), (.t 49)]), none⟩, ⟨(some 45), (.mov (.t 50)), none⟩, ⟨(some 51), (.ext (.t 45) 0), none⟩, ⟨(some 52), (.ext (.t 45) 1), none⟩, ⟨(some 16), (.mov (.t 51)), none⟩, ⟨(some 17), (.mov (.t 52)), none⟩]) (.sq (.reg false [] [⟨(some 54), (.mov (.t 0)), none⟩, ⟨(some 55), (.mov (.t 3)), none⟩, ⟨(some 56), (.mov (.t 4)), none⟩, ⟨(some 57), (.mov (.t 13)), none⟩, ⟨(some 58), (.call 13 [(.t 54), (.t 55), (.t 56), (.t 57)]), none⟩, ⟨(some 53), (.mov (.t 58)), none⟩, ⟨(some 59), (.ext (.t 53) 0), none⟩, ⟨(some 60), (.ext (.t 53) 1), none⟩, ⟨(some 18), (.mov (.t 59)), none⟩, ⟨(some 19), (.mov (.t 60)), none⟩]) (.seq [(.s 0, .v (.int .i64)), (.s 14, .v (.int .i64)), (.s 16, .v (.int .i64)), (.s 17, .v (.int .i64)), (.s 18, .v (.int .i64)), (.s 19, .v (.int .i64))] (.sq (.reg false [] [⟨(some 61), (.mov (.t 15)), none⟩, ⟨(some 62), (.bin .neq (.t 61) (.k (.int .i64 0))), none⟩]) (.cond (.t 62) (.sq (.reg false [] [⟨(some 63), (.mov (.t 14)), none⟩, ⟨(some 64), (.bin .eql (.t 63) (.k (.int .i64 0))), none⟩, ⟨(some 12), (.mov (.t 64)), none⟩]) .ret) .skip)) (.sq (.reg false [] [⟨(some 65), (.mov (.t 17)), none⟩, ⟨(some 66), (.bin .neq (.t 65) (.k (.int .i64 0))), none⟩, ⟨(some 67), (.mov (.t 66)), none⟩, ⟨(some 68), (.mov (.t 16)), (some (67, false))⟩, ⟨(some 69), (.mov (.t 14)), (some (67, false))⟩, ⟨(some 70), (.bin .geq (.t 68) (.t 69)), (some (67, false))⟩, ⟨(some 71), (.pick (.t 67) (.k (.bool true)) (.t 70)), none⟩, ⟨(some 72), (.mov (.t 71)), none⟩, ⟨(some 73), (.mov (.t 19)), (some (72, true))⟩, ⟨(some 74), (.bin .neq (.t 73) (.k (.int .i64 0))), (some (72, true))⟩, ⟨(some 75), (.mov (.t 74)), (some (72, true))⟩, ⟨(some 76), (.mov (.t 0)), (some (75, false))⟩, ⟨(some 77), (.bin .lss (.t 76) (.k (.int .i64 0))), (some (75, false))⟩, ⟨(some 78), (.pick (.t 75) (.k (.bool true)) (.t 77)), (some (72, true))⟩, ⟨(some 79), (.mov (.t 78)), (some (72, true))⟩, ⟨(some 80), (.mov (.t 18)), (some (79, false))⟩, ⟨(some 81), (.mov (.t 14)), (some (79, false))⟩, ⟨(some 82), (.bin .geq (.t 80) (.t 81)), (some (79, false))⟩, ⟨(some 83), (.pick (.t 79) (.k (.bool true)) (.t 82)), (some (72, true))⟩, ⟨(some 84), (.pick (.t 72) (.t 83) (.k (.bool false))), none⟩, ⟨(some 12), (.mov (.t 84)), none⟩]) .ret))))))))), [(.tmp 12)]⟩
noncomputable def s8 : Sig := ⟨(.cons (.int .i64) (.cons (.int .i64) (.cons (.int .i64) (.cons (.int .i64) (.cons (.int .i64) (.one (.int .u8))))))), .bool, law02_RateRises⟩
theorem c8 : compF Tryd.prog 8 = some ⟨a8.n, erase a8.code, a8.res⟩ := by kernel_rfl
theorem t8 : funT (tp B L7) s8.a s8.r a8 = some s8.fn := by kernel_rfl
noncomputable def L8 : List (FuncId × Sig) := (8, s8) :: L7
theorem g8 : GoodT Tryd.prog B L8 := GoodT.addM g7 8 s8 (by rfl) fun _ _ _ hx hy => funT_ok g7.E g7.T t8 c8 (k := 6) rfl (Nat.le_of_ble_eq_true rfl) hx hy
def a9 : AF := ⟨77, (.sq (.reg false [] [⟨(some 6), (.mov (.k (.bool false))), none⟩]) (.seq [(.s 0, .v (.int .i64)), (.s 1, .v (.int .i32)), (.s 2, .v (.int .i32))] (.sq (.reg false [] [⟨(some 13), (.call 12 []), none⟩, ⟨(some 14), (.un .not (.t 13)), none⟩]) (.cond (.t 14) (.sq (.reg false [] [⟨(some 6), (.mov (.k (.bool false))), none⟩]) .ret) .skip)) (.seq [(.s 0, .v (.int .i64)), (.s 1, .v (.int .i32)), (.s 2, .v (.int .i32))] (.sq (.reg false [] [⟨(some 15), (.mov (.t 1)), none⟩, ⟨(some 16), (.bin .leq (.t 15) (.k (.int .i32 0))), none⟩, ⟨(some 17), (.mov (.t 16)), none⟩, ⟨(some 18), (.mov (.t 2)), (some (17, false))⟩, ⟨(some 19), (.bin .leq (.t 18) (.k (.int .i32 0))), (some (17, false))⟩, ⟨(some 20), (.pick (.t 17) (.k (.bool true)) (.t 19)), none⟩, ⟨(some 21), (.mov (.t 20)), none⟩, ⟨(some 22), (.mov (.t 1)), (some (21, false))⟩, ⟨(some 23), (.bin .gtr (.t 22) (.k (.int .i32 1073741824))), (some (21, false))⟩, ⟨(some 24), (.pick (.t 21) (.k (.bool true)) (.t 23)), none⟩, ⟨(some 25), (.mov (.t 24)), none⟩, ⟨(some 26), (.mov (.t 2)), (some (25, false))⟩, ⟨(some 27), (.bin .gtr (.t 26) (.k (.int .i32 1073741824))), (some (25, false))⟩, ⟨(some 28), (.pick (.t 25) (.k (.bool true)) (.t 27)), none⟩, ⟨(some 29), (.mov (.t 28)), none⟩, ⟨(some 30), (.mov (.t 0)), (some (29, false))⟩, ⟨(some 31), (.bin .gtr (.t 30) (.k (.int .i64 1073741824))), (some (29, false))⟩, ⟨(some 32), (.pick (.t 29) (.k (.bool true)) (.t 31)), none⟩, ⟨(some 33), (.mov (.t 32)), none⟩, ⟨(some 34), (.mov (.t 0)), (some (33, false))⟩, ⟨(some 35), (.bin .lss (.t 34) (.k (.int .i64 (-1073741824)))), (some (33, false))⟩, ⟨(some 36), (.pick (.t 33) (.k (.bool true)) (.t 35)), none⟩]) (.cond (.t 36) (.sq (.reg false [] [⟨(some 6), (.mov (.k (.bool true))), none⟩]) .ret) .skip)) (.sq (.reg false [] [⟨(some 38), (.mov (.t 0)), none⟩, ⟨(some 39), (.mov (.t 1)), none⟩, ⟨(some 40), (.cvi .i64 (.t 39)), none⟩, ⟨(some 41), (.mov (.t 2)), none⟩, ⟨(some 42), (.cvi .i64 (.t 41)), none⟩, ⟨(some 43), (.call 13 [(.t 38), (.t 40), (.t 42), (.k (.int .i64 1))]), none⟩, ⟨(some 37), (.mov (.t 43)), none⟩, ⟨(some 44), (.ext (.t 37) 0), none⟩, ⟨(some 45), (.ext (.t 37) 1), none⟩, ⟨(some 7), (.mov (.t 44)), none⟩, ⟨(some 8), (.mov (.t 45)), none⟩]) (.seq [(.s 0, .v (.int .i64)), (.s 1, .v (.int .i32)), (.s 2, .v (.int .i32)), (.s 7, .v (.int .i64))] (.sq (.reg false [] [⟨(some 46), (.mov (.t 8)), none⟩, ⟨(some 47), (.bin .neq (.t 46) (.k (.int .i64 0))), none⟩]) (.cond (.t 47) (.sq (.reg false [] [⟨(some 6), (.mov (.k (.bool true))), none⟩]) .ret) .skip)) (.sq (.reg false [] [⟨(some 49), (.mov (.t 7)), none⟩, ⟨(some 50), (.mov (.t 2)), none⟩, ⟨(some 51), (.cvi .i64 (.t 50)), none⟩, ⟨(some 52), (.mov (.t 1)), none⟩, ⟨(some 53), (.cvi .i64 (.t 52)), none⟩, ⟨(some 54), (.call 13 [(.t 49), (.t 51), (.t 53), (.k (.int .i64 1))]), none⟩, ⟨(some 48), (.mov (.t 54)), none⟩, ⟨(some 55), (.ext (.t 48) 0), none⟩, ⟨(some 56), (.ext (.t 48) 1), none⟩, ⟨(some 9), (.mov (.t 55)), none⟩, ⟨(some 10), (.mov (.t 56)), none⟩]) (.seq [(.s 0, .v (.int .i64)), (.s 1, .v (.int .i32)), (.s 2, .v (.int .i32)), (.s 9, .v (.int .i64))] (.sq (.reg false [] [⟨(some 57), (.mov (.t 10)), none⟩, ⟨(some 58), (.bin .neq (.t 57) (.k (.int .i64 0))), none⟩]) (.cond (.t 58) (.sq (.reg false [] [⟨(some 6), (.mov (.k (.bool true))), none⟩]) .ret) .skip)) (.sq (.reg false [] [⟨(some 59), (.mov (.t 9)), none⟩, ⟨(some 60), (.mov (.t 0)), none⟩, ⟨(some 61), (.bin .sub (.t 59) (.t 60)), none⟩, ⟨(some 11), (.mov (.t 61)), none⟩]) (.sq (.reg false [] [⟨(some 62), (.mov (.t 2)), none⟩, ⟨(some 63), (.cvi .i64 (.t 62)), none⟩, ⟨(some 64), (.mov (.t 1)), none⟩, ⟨(some 65), (.cvi .i64 (.t 64)), none⟩, ⟨(some 66), (.bin .quo (.t 63) (.t 65)), none⟩, ⟨(some 67), (.bin .add (.t 66) (.k (.int .i64 2))), none⟩, ⟨(some 12), (.mov (.t 67)), none⟩]) (.sq (.reg false [] [⟨(some 68), (.mov (.t 11)), none⟩, ⟨(some 69), (.mov (.t 12)), none⟩, ⟨(some 70), (.bin .leq (.t 68) (.t 69)), none⟩, ⟨(some 71), (.mov (.t 70)), none⟩, ⟨(some 72), (.mov (.t 11)), (some (71, true))⟩, ⟨(some 73), (.mov (.t 12)), (some (71, true))⟩, ⟨(some 74), (.un .neg (.t 73)), (some (71, true))⟩, ⟨(some 75), (.bin .geq (.t 72) (.t 74)), (some (71, true))⟩, ⟨(some 76), (.pick (.t 71) (.t 75) (.k (.bool false))), none⟩, ⟨(some 6), (.mov (.t 76)), none⟩]) .ret)))))))))), [(.tmp 6)]⟩
noncomputable def s9 : Sig := ⟨(.cons (.int .i64) (.cons (.int .i32) (.one (.int .i32)))), .bool, law02_RateNear⟩
theorem c9 : compF Tryd.prog 9 = some ⟨a9.n, erase a9.code, a9.res⟩ := by kernel_rfl
theorem t9 : funT (tp B L8) s9.a s9.r a9 = some s9.fn := by kernel_rfl
noncomputable def L9 : List (FuncId × Sig) := (9, s9) :: L8
theorem g9 : GoodT Tryd.prog B L9 := GoodT.addM g8 9 s9 (by rfl) fun _ _ _ hx hy => funT_ok g8.E g8.T t9 c9 (k := 3) rfl (Nat.le_of_ble_eq_true rfl) hx hy
def a22 : AF := ⟨22, (.sq (.reg false [] [⟨(some 6), (.mov (.k (.int .i64 0))), none⟩, ⟨(some 7), (.mov (.k (.int .i64 0))), none⟩]) (.seq [(.s 0, .v (.int .i64)), (.s 1, .v (.int .i64)), (.s 2, .v (.int .i64))] (.sq (.reg false [] [⟨(some 8), (.mov (.t 0)), none⟩, ⟨(some 9), (.call 15 [(.t 8)]), none⟩, ⟨(some 10), (.un .not (.t 9)), none⟩, ⟨(some 11), (.mov (.t 10)), none⟩, ⟨(some 12), (.mov (.t 1)), (some (11, false))⟩, ⟨(some 13), (.call 20 [(.t 12)]), (some (11, false))⟩, ⟨(some 14), (.un .not (.t 13)), (some (11, false))⟩, ⟨(some 15), (.pick (.t 11) (.k (.bool true)) (.t 14)), none⟩]) (.cond (.t 15) (.sq (.reg false [] [⟨(some 6), (.mov (.k (.int .i64 0))), none⟩, ⟨(some 7), (.mov (.k (.int .i64 2))), none⟩]) .ret) .skip)) (.sq (.reg false [] [⟨(some 16), (.mov (.t 0)), none⟩, ⟨(some 17), (.mov (.t 1)), none⟩, ⟨(some 18), (.mov (.t 2)), none⟩, ⟨(some 19), (.call 14 [(.t 16), (.t 17), (.k (.int .i64 1000000)), (.t 18)]), none⟩, ⟨(some 20), (.ext (.t 19) 0), none⟩, ⟨(some 21), (.ext (.t 19) 1), none⟩, ⟨(some 6), (.mov (.t 20)), none⟩, ⟨(some 7), (.mov (.t 21)), none⟩]) .ret))), [(.tmp 6), (.tmp 7)]⟩
noncomputable def s22 : Sig := ⟨(.cons (.int .i64) (.cons (.int .i64) (.one (.int .i64)))), (.tup (.cons (.int .i64) (.one (.int .i64)))), ref02_Of⟩
theorem c22 : compF Tryd.prog 22 = some ⟨a22.n, erase a22.code, a22.res⟩ := by kernel_rfl
theorem t22 : funT (tp B L9) s22.a s22.r a22 = some s22.fn := by kernel_rfl
noncomputable def L22 : List (FuncId × Sig) := (22, s22) :: L9
theorem g22 : GoodT Tryd.prog B L22 := GoodT.addM g9 22 s22 (by rfl) fun _ _ _ hx hy => funT_ok g9.E g9.T t22 c22 (k := 3) rfl (Nat.le_of_ble_eq_true rfl) hx hy
def a23 : AF := ⟨25, (.sq (.reg false [] [⟨(some 4), (.mov (.k (.int .i64 0))), none⟩, ⟨(some 5), (.mov (.k (.int .i64 0))), none⟩]) (.seq [(.s 0, .v (.int .i64)), (.s 1, .v (.int .i64))] (.sq (.reg false [] [⟨(some 8), (.mov (.t 0)), none⟩, ⟨(some 9), (.call 30 [(.t 8)]), none⟩, ⟨(some 10), (.un .not (.t 9)), none⟩, ⟨(some 11), (.mov (.t 10)), none⟩, ⟨(some 12), (.mov (.t 1)), (some (11, false))⟩, ⟨(some 13), (.call 30 [(.t 12)]), (some (11, false))⟩, ⟨(some 14), (.un .not (.t 13)), (some (11, false))⟩, ⟨(some 15), (.pick (.t 11) (.k (.bool true)) (.t 14)), none⟩]) (.cond (.t 15) (.sq (.reg false [] [⟨(some 4), (.mov (.k (.int .i64 0))), none⟩, ⟨(some 5), (.mov (.k (.int .i64 2))), none⟩]) .ret) .skip)) (.sq (.reg false [] [⟨(some 17), (.mov (.t 0)), none⟩, ⟨(some 18), (.mov (.t 1)), none⟩, ⟨(some 19), (.call 26 [(.t 17), (.t 18), (.k (.int .u64 1000000)), (.k (.int .u64 1000000000)), (.k (.int .i64 1))]), none⟩, ⟨(some 16), (.mov (.t 19)), none⟩, ⟨(some 20), (.ext (.t 16) 0), none⟩, ⟨(some 21), (.ext (.t 16) 1), none⟩, ⟨(some 6), (.mov (.t 20)), none⟩, ⟨(some 7), (.mov (.t 21)), none⟩]) (.seq [(.s 6, .v (.int .i64))] (.sq (.reg false [] [⟨(some 22), (.mov (.t 7)), none⟩, ⟨(some 23), (.un .not (.t 22)), none⟩]) (.cond (.t 23) (.sq (.reg false [] [⟨(some 4), (.mov (.k (.int .i64 0))), none⟩, ⟨(some 5), (.mov (.k (.int .i64 9))), none⟩]) .ret) .skip)) (.sq (.reg false [] [⟨(some 24), (.mov (.t 6)), none⟩, ⟨(some 4), (.mov (.t 24)), none⟩, ⟨(some 5), (.mov (.k (.int .i64 0))), none⟩]) .ret))))), [(.tmp 4), (.tmp 5)]⟩
noncomputable def s23 : Sig := ⟨(.cons (.int .i64) (.one (.int .i64))), (.tup (.cons (.int .i64) (.one (.int .i64)))), rate_Times⟩
theorem c23 : compF Tryd.prog 23 = some ⟨a23.n, erase a23.code, a23.res⟩ := by kernel_rfl
theorem t23 : funT (tp B L22) s23.a s23.r a23 = some s23.fn := by kernel_rfl
noncomputable def L23 : List (FuncId × Sig) := (23, s23) :: L22
theorem g23 : GoodT Tryd.prog B L23 := GoodT.addM g22 23 s23 (by rfl) fun _ _ _ hx hy => funT_ok g22.E g22.T t23 c23 (k := 2) rfl (Nat.le_of_ble_eq_true rfl) hx hy
def a24 : AF := ⟨26, (.sq (.reg false [] [⟨(some 4), (.mov (.k (.int .i64 0))), none⟩, ⟨(some 5), (.mov (.k (.int .i64 0))), none⟩]) (.seq [(.s 0, .v (.int .i64)), (.s 1, .v (.int .i64))] (.sq (.reg false [] [⟨(some 8), (.mov (.t 0)), none⟩, ⟨(some 9), (.call 20 [(.t 8)]), none⟩, ⟨(some 10), (.un .not (.t 9)), none⟩, ⟨(some 11), (.mov (.t 10)), none⟩, ⟨(some 12), (.mov (.t 1)), (some (11, false))⟩, ⟨(some 13), (.call 20 [(.t 12)]), (some (11, false))⟩, ⟨(some 14), (.un .not (.t 13)), (some (11, false))⟩, ⟨(some 15), (.pick (.t 11) (.k (.bool true)) (.t 14)), none⟩]) (.cond (.t 15) (.sq (.reg false [] [⟨(some 4), (.mov (.k (.int .i64 0))), none⟩, ⟨(some 5), (.mov (.k (.int .i64 2))), none⟩]) .ret) .skip)) (.sq (.reg false [] [⟨(some 17), (.mov (.t 0)), none⟩, ⟨(some 18), (.mov (.t 1)), none⟩, ⟨(some 19), (.call 14 [(.t 17), (.t 18), (.k (.int .i64 1000000)), (.k (.int .i64 1))]), none⟩, ⟨(some 16), (.mov (.t 19)), none⟩, ⟨(some 20), (.ext (.t 16) 0), none⟩, ⟨(some 21), (.ext (.t 16) 1), none⟩, ⟨(some 6), (.mov (.t 20)), none⟩, ⟨(some 7), (.mov (.t 21)), none⟩]) (.seq [(.s 6, .v (.int .i64))] (.sq (.reg false [] [⟨(some 22), (.mov (.t 6)), none⟩, ⟨(some 23), (.call 20 [(.t 22)]), none⟩, ⟨(some 24), (.un .not (.t 23)), none⟩]) (.cond (.t 24) (.sq (.reg false [] [⟨(some 4), (.mov (.k (.int .i64 0))), none⟩, ⟨(some 5), (.mov (.k (.int .i64 9))), none⟩]) .ret) .skip)) (.sq (.reg false [] [⟨(some 25), (.mov (.t 6)), none⟩, ⟨(some 4), (.mov (.t 25)), none⟩, ⟨(some 5), (.mov (.k (.int .i64 0))), none⟩]) .ret))))), [(.tmp 4), (.tmp 5)]⟩
noncomputable def s24 : Sig := ⟨(.cons (.int .i64) (.one (.int .i64))), (.tup (.cons (.int .i64) (.one (.int .i64)))), ref02_Times⟩
theorem c24 : compF Tryd.prog 24 = some ⟨a24.n, erase a24.code, a24.res⟩ := by kernel_rfl
theorem t24 : funT (tp B L23) s24.a s24.r a24 = some s24.fn := by kernel_rfl
noncomputable def L24 : List (FuncId × Sig) := (24, s24) :: L23
theorem g24 : GoodT Tryd.prog B L24 := GoodT.addM g23 24 s24 (by rfl) fun _ _ _ hx hy => funT_ok g23.E g23.T t24 c24 (k := 2) rfl (Nat.le_of_ble_eq_true rfl) hx hy
def a10 : AF := ⟨63, (.sq (.reg false [] [⟨(some 8), (.mov (.k (.bool false))), none⟩]) (.seq [(.s 0, .v (.int .i64)), (.s 1, .v (.int .i64)), (.s 2, .v (.int .i64)), (.s 3, .v (.int .i64))] (.sq (.reg false [] [⟨(some 17), (.call 12 []), none⟩, ⟨(some 18), (.un .not (.t 17)), none⟩]) (.cond (.t 18) (.sq (.reg false [] [⟨(some 8), (.mov (.k (.bool false))), none⟩]) .ret) .skip)) (.sq (.reg false [] [⟨(some 20), (.mov (.t 0)), none⟩, ⟨(some 21), (.mov (.t 1)), none⟩, ⟨(some 22), (.mov (.t 3)), none⟩, ⟨(some 23), (.call 21 [(.t 20), (.t 21), (.t 22)]), none⟩, ⟨(some 19), (.mov (.t 23)), none⟩, ⟨(some 24), (.ext (.t 19) 0), none⟩, ⟨(some 25), (.ext (.t 19) 1), none⟩, ⟨(some 9), (.mov (.t 24)), none⟩, ⟨(some 10), (.mov (.t 25)), none⟩]) (.sq (.reg false [] [⟨(some 27), (.mov (.t 0)), none⟩, ⟨(some 28), (.mov (.t 1)), none⟩, ⟨(some 29), (.mov (.t 3)), none⟩, ⟨(some 30), (.call 22 [(.t 27), (.t 28), (.t 29)]), none⟩, ⟨(some 26), (.mov (.t 30)), none⟩, ⟨(some 31), (.ext (.t 26) 0), none⟩, ⟨(some 32), (.ext (.t 26) 1), none⟩, ⟨(some 11), (.mov (.t 31)), none⟩, ⟨(some 12), (.mov (.t 32)), none⟩]) (.sq (.reg false [] [⟨(some 34), (.mov (.t 1)), none⟩, ⟨(some 35), (.mov (.t 2)), none⟩, ⟨(some 36), (.call 23 [(.t 34), (.t 35)]), none⟩, ⟨(some 33), (.mov (.t 36)), none⟩, ⟨(some 37), (.ext (.t 33) 0), none⟩, ⟨(some 38), (.ext (.t 33) 1), none⟩, ⟨(some 13), (.mov (.t 37)), none⟩, ⟨(some 14), (.mov (.t 38)), none⟩]) (.sq (.reg false [] [⟨(some 40), (.mov (.t 1)), none⟩, ⟨(some 41), (.mov (.t 2)), none⟩, ⟨(some 42), (.call 24 [(.t 40), (.t 41)]), none⟩, ⟨(some 39), (.mov (.t 42)), none⟩, ⟨(some 43), (.ext (.t 39) 0), none⟩, ⟨(some 44), (.ext (.t 39) 1), none⟩, ⟨(some 15), (.mov (.t 43)), none⟩, ⟨(some 16), (.mov (.t 44)), none⟩]) (.sq (.reg false [] [⟨(some 45), (.mov (.t 9)), none⟩, ⟨(some 46), (.mov (.t 11)), none⟩, ⟨(some 47), (.bin .eql (.t 45) (.t 46)), none⟩, ⟨(some 48), (.mov (.t 47)), none⟩, ⟨(some 49), (.mov (.t 10)), (some (48, true))⟩, ⟨(some 50), (.mov (.t 12)), (some (48, true))⟩, ⟨(some 51), (.bin .eql (.t 49) (.t 50)), (some (48, true))⟩, ⟨(some 52), (.pick (.t 48) (.t 51) (.k (.bool false))), none⟩, ⟨(some 53), (.mov (.t 52)), none⟩, ⟨(some 54), (.mov (.t 13)), (some (53, true))⟩, ⟨(some 55), (.mov (.t 15)), (some (53, true))⟩, ⟨(some 56), (.bin .eql (.t 54) (.t 55)), (some (53, true))⟩, ⟨(some 57), (.pick (.t 53) (.t 56) (.k (.bool false))), none⟩, ⟨(some 58), (.mov (.t 57)), none⟩, ⟨(some 59), (.mov (.t 14)), (some (58, true))⟩, ⟨(some 60), (.mov (.t 16)), (some (58, true))⟩, ⟨(some 61), (.bin .eql (.t 59) (.t 60)), (some (58, true))⟩, ⟨(some 62), (.pick (.t 58) (.t 61) (.k (.bool false))), none⟩, ⟨(some 8), (.mov (.t 62)), none⟩]) .ret))))))), [(.tmp 8)]⟩
noncomputable def s10 : Sig := ⟨(.cons (.int .i64) (.cons (.int .i64) (.cons (.int .i64) (.one (.int .i64))))), .bool, law02_RateOf⟩
theorem c10 : compF Tryd.prog 10 = some ⟨a10.n, erase a10.code, a10.res⟩ := by kernel_rfl
theorem t10 : funT (tp B L24) s10.a s10.r a10 = some s10.fn := by kernel_rfl
noncomputable def L10 : List (FuncId × Sig) := (10, s10) :: L24
theorem g10 : GoodT Tryd.prog B L10 := GoodT.addM g24 10 s10 (by rfl) fun _ _ _ hx hy => funT_ok g24.E g24.T t10 c10 (k := 4) rfl (Nat.le_of_ble_eq_true rfl) hx hy
def a11 : AF := ⟨89, (.sq (.reg false [] [⟨(some 4), (.mov (.k (.bool false))), none⟩]) (.seq [(.s 0, .v (.int .i64)), (.s 1, .v (.int .i64))] (.sq (.reg false [] [⟨(some 15), (.call 12 []), none⟩, ⟨(some 16), (.un .not (.t 15)), none⟩]) (.cond (.t 16) (.sq (.reg false [] [⟨(some 4), (.mov (.k (.bool false))), none⟩]) .ret) .skip)) (.seq [(.s 0, .v (.int .i64)), (.s 1, .v (.int .i64))] (.sq (.reg false [] [⟨(some 17), (.mov (.t 0)), none⟩, ⟨(some 18), (.call 20 [(.t 17)]), none⟩, ⟨(some 19), (.un .not (.t 18)), none⟩, ⟨(some 20), (.mov (.t 19)), none⟩, ⟨(some 21), (.mov (.t 1)), (some (20, false))⟩, ⟨(some 22), (.call 20 [(.t 21)]), (some (20, false))⟩, ⟨(some 23), (.un .not (.t 22)), (some (20, false))⟩, ⟨(some 24), (.pick (.t 20) (.k (.bool true)) (.t 23)), none⟩]) (.cond (.t 24) (.sq (.reg false [] [⟨(some 26), (.mov (.t 0)), none⟩, ⟨(some 27), (.mov (.t 1)), none⟩, ⟨(some 28), (.call 23 [(.t 26), (.t 27)]), none⟩, ⟨(some 25), (.mov (.t 28)), none⟩, ⟨(some 29), (.ext (.t 25) 0), none⟩, ⟨(some 30), (.ext (.t 25) 1), none⟩, ⟨(some 5), (.mov (.t 29)), none⟩, ⟨(some 6), (.mov (.t 30)), none⟩]) (.sq (.reg false [] [⟨(some 31), (.mov (.t 5)), none⟩, ⟨(some 32), (.bin .eql (.t 31) (.k (.int .i64 0))), none⟩, ⟨(some 33), (.mov (.t 32)), none⟩, ⟨(some 34), (.mov (.t 6)), (some (33, true))⟩, ⟨(some 35), (.bin .eql (.t 34) (.k (.int .i64 2))), (some (33, true))⟩, ⟨(some 36), (.pick (.t 33) (.t 35) (.k (.bool false))), none⟩, ⟨(some 4), (.mov (.t 36)), none⟩]) .ret)) .skip)) (.sq (.reg false [] [⟨(some 38), (.mov (.t 0)), none⟩, ⟨(some 39), (.mov (.t 1)), none⟩, ⟨(some 40), (.call 23 [(.t 38), (.t 39)]), none⟩, ⟨(some 37), (.mov (.t 40)), none⟩, ⟨(some 41), (.ext (.t 37) 0), none⟩, ⟨(some 42), (.ext (.t 37) 1), none⟩, ⟨(some 7), (.mov (.t 41)), none⟩, ⟨(some 8), (.mov (.t 42)), none⟩]) (.sq (.reg false [] [⟨(some 44), (.mov (.t 1)), none⟩, ⟨(some 45), (.mov (.t 0)), none⟩, ⟨(some 46), (.call 23 [(.t 44), (.t 45)]), none⟩, ⟨(some 43), (.mov (.t 46)), none⟩, ⟨(some 47), (.ext (.t 43) 0), none⟩, ⟨(some 48), (.ext (.t 43) 1), none⟩, ⟨(some 9), (.mov (.t 47)), none⟩, ⟨(some 10), (.mov (.t 48)), none⟩]) (.sq (.reg false [] [⟨(some 50), (.mov (.t 0)), none⟩, ⟨(some 51), (.call 23 [(.t 50), (.k (.int .i64 1000000))]), none⟩, ⟨(some 49), (.mov (.t 51)), none⟩, ⟨(some 52), (.ext (.t 49) 0), none⟩, ⟨(some 53), (.ext (.t 49) 1), none⟩, ⟨(some 11), (.mov (.t 52)), none⟩, ⟨(some 12), (.mov (.t 53)), none⟩]) (.sq (.reg false [] [⟨(some 55), (.mov (.t 0)), none⟩, ⟨(some 56), (.un .neg (.t 55)), none⟩, ⟨(some 57), (.mov (.t 1)), none⟩, ⟨(some 58), (.call 23 [(.t 56), (.t 57)]), none⟩, ⟨(some 54), (.mov (.t 58)), none⟩, ⟨(some 59), (.ext (.t 54) 0), none⟩, ⟨(some 60), (.ext (.t 54) 1), none⟩, ⟨(some 13), (.mov (.t 59)), none⟩, ⟨(some 14), (.mov (.t 60)), none⟩]) (.sq (.reg false [] [⟨(some 61), (.mov (.t 7)), none⟩, ⟨(some 62), (.mov (.t 9)), none⟩, ⟨(some 63), (.bin .eql (.t 61) (.t 62)), none⟩, ⟨(some 64), (.mov (.t 63)), none⟩, ⟨(some 65), (.mov (.t 8)), (some (64, true))⟩, ⟨(some 66), (.mov (.t 10)), (some (64, true))⟩, ⟨(some 67), (.bin .eql (.t 65) (.t 66)), (some (64, true))⟩, ⟨(some 68), (.pick (.t 64) (.t 67) (.k (.bool false))), none⟩, ⟨(some 69), (.mov (.t 68)), none⟩, ⟨(some 70), (.mov (.t 11)), (some (69, true))⟩, ⟨(some 71), (.mov (.t 0)), (some (69, true))⟩, ⟨(some 72), (.bin .eql (.t 70) (.t 71)), (some (69, true))⟩, ⟨(some 73), (.pick (.t 69) (.t 72) (.k (.bool false))), none⟩, ⟨(some 74), (.mov (.t 73)), none⟩, ⟨(some 75), (.mov (.t 12)), (some (74, true))⟩, ⟨(some 76), (.bin .eql (.t 75) (.k (.int .i64 0))), (some (74, true))⟩, ⟨(some 77), (.pick (.t 74) (.t 76) (.k (.bool false))), none⟩, ⟨(some 78), (.mov (.t 77)), none⟩, ⟨(some 79), (.mov (.t 13)), (some (78, true))⟩, ⟨(some 80), (.mov (.t 7)), (some (78, true))⟩, ⟨(some 81), (.un .neg (.t 80)), (some (78, true))⟩, ⟨(some 82), (.bin .eql (.t 79) (.t 81)), (some (78, true))⟩, ⟨(some 83), (.pick (.t 78) (.t 82) (.k (.bool false))), none⟩, ⟨(some 84), (.mov (.t 83)), none⟩, ⟨(some 85), (.mov (.t 14)), (some (84, true))⟩, ⟨(some 86), (.mov (.t 8)), (some (84, true))⟩, ⟨(some 87), (.bin .eql (.t 85) (.t 86)), (some (84, true))⟩, ⟨(some 88), (.pick (.t 84) (.t 87) (.k (.bool false))), none⟩, ⟨(some 4), (.mov (.t 88)), none⟩]) .ret)))))))), [(.tmp 4)]⟩
noncomputable def s11 : Sig := ⟨(.cons (.int .i64) (.one (.int .i64))), .bool, law02_RateTimes⟩
theorem c11 : compF Tryd.prog 11 = some ⟨a11.n, erase a11.code, a11.res⟩ := by kernel_rfl
theorem t11 : funT (tp B L10) s11.a s11.r a11 = some s11.fn := by kernel_rfl
noncomputable def L11 : List (FuncId × Sig) := (11, s11) :: L10
theorem g11 : GoodT Tryd.prog B L11 := GoodT.addM g10 11 s11 (by rfl) fun _ _ _ hx hy => funT_ok g10.E g10.T t11 c11 (k := 2) rfl (Nat.le_of_ble_eq_true rfl) hx hy
end WB
namespace WB
open Go Go.RowKit Go.Proofs

/-- The cells of a table. -/
def flatD : Nat → DataW Unit → List Value
  | 0, _ => []
  | n + 1, .agg ds => ds.flatMap (flatD n)
  | _, .lit l => [l.value]
  | _, _ => []
def fillW (P : Program) : List (String × DataW Unit) → World → World
  | [], w => w
  | e :: l, w => match P.globalNamed e.1 with
    | some g => fillW P l { w with heap := w.heap.modify g fun
        | .cells _ t fr => .cells ⟨flatD 4 e.2⟩ t fr
        | o => o }
    | none => fillW P l w

theorem ownK : ownKnob Tryd.prog.godebug = none := by kernel_rfl
theorem laidOut : laidOutB Tryd.prog = true := by kernel_rfl
theorem gPow : Tryd.prog.globalNamed "internal/strconv.uint64pow10" = some 2 := by kernel_rfl
theorem gPowT : (Tryd.prog.globals[2]?).map (·.type) = some 102 := by kernel_rfl

/-- The tables of a row's list. -/
def tabsR : List (String × DataW Unit) := Go.Proofs.YthkefebjjojmfaaDoor.Rows.ratePartRow.laid
noncomputable def laidW (os : Os) : World := fillW Tryd.prog tabsR (World.holding Tryd.prog os ⟨#[], #[], []⟩)
theorem laid_met (os : Os) (args : Array Value) : laidMet Tryd.prog tabsR ((laidW os).forCall (fun _ _ => 0) ⟨#[], args, []⟩).memory :=
  laidMet_of_run' 8 (by kernel_rfl) (by kernel_rfl)
end WB
namespace WB
open Go Go.RowKit Go.Proofs
set_option maxRecDepth 100000 in
theorem powMem : tabsR[2]? = some ("internal/strconv.uint64pow10", Lib.tabData .u64 Lib.pow10Tab) := by kernel_rfl
theorem noH : (tabsR.filter fun x => x.2.handleName?.isSome) = [] := by kernel_rfl
theorem gok {W : World} (h : laidMetH Tryd.prog tabsR W) : GOk B.G W (fun _ => False) := by
  have ht : Lib.TabIs Tryd.prog W "internal/strconv.uint64pow10" .u64 Lib.pow10Tab := tabIs_of_mem (l := tabsR) (List.mem_of_getElem? powMem) gPow gPowT Tryd.underlying102 Tryd.underlying55 (by kernel_rfl) (by kernel_rfl) (laidMet_of_H noH h)
  intro i hi
  by_cases h2 : i = 2
  · subst h2
    exact GOk.ints gPow ht
  · exact absurd (show B.G i = [] from if_neg h2) hi
end WB
