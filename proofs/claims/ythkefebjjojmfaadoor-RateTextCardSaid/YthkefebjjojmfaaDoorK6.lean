/-
  OWN TEXTS, MERGED (wip/merge.py): PrL, PrM, PrO, PrP, PrQ, PrR, PrS, PrT, RShelf. No condition of their own.
-/
import Derived.Test.YthkefebjjojmfaaDoorK5
import Derived.Shelf.Strings.Trim
import Derived.Shelf.Small.Utf8
import Derived.Shelf.Small.Strs
import Derived.Shelf.Small.Wraps
import Derived.Shelf.Strconv.Itoa0
import Derived.Shelf.Strconv.Itoa1
import Derived.Shelf.LaysM
import Derived.Shelf.Strconv.Itoa2
import Derived.Shelf.Strconv.Itoa3
import Derived.Shelf.Strconv.Itoa4
import Derived.Shelf.Strings.Search1
import Derived.Shelf.Strings.Search2
import Derived.Shelf.Strings.Cut
import Derived.Shelf.Strings.Shaped
import Derived.Shelf.Strings.Prefix
import Derived.Shelf.Strings.Runes
import Derived.Shelf.Strings.AsciiSet
import Derived.Shelf.Bits.Mul64
import Derived.Shelf.Unicode.DecodeSlow
import Derived.Test.YthkefebjjojmfaaDoorProg
set_option linter.unusedVariables false
set_option linter.unusedSimpArgs false
namespace WB
open Go Go.RowKit
set_option linter.unusedSimpArgs false

theorem div_bd {d k : Nat} (hd : 0 < d) {v : Int} (h1 : -((k : Int) * d) < d * v) (h2 : d * v < (k : Int) * d) : -(k : Int) < v ∧ v < k := by
  constructor
  · apply Int.lt_of_mul_lt_mul_left (a := (d : Int)) _ (by omega)
    rw [Int.mul_neg, Int.mul_comm (d : Int) k]
    exact h1
  · apply Int.lt_of_mul_lt_mul_left (a := (d : Int)) _ (by omega)
    rw [Int.mul_comm (d : Int) k]
    exact h2
theorem iter_inl {S T : Type} {b : S → Option (S ⊕ T)} {s s' : S} (h : b s = some (.inl s')) : iter b s = iter b s' := by rw [iter_eq, h]; rfl
theorem iter_inr {S T : Type} {b : S → Option (S ⊕ T)} {s : S} {t : T} (h : b s = some (.inr t)) : iter b s = some t := by rw [iter_eq, h]; rfl
theorem law_RateSums (ha : law02_awake () = some true) {c e num den : Int} (c1 : -9223372036854775808 ≤ c) (c2 : c ≤ 9223372036854775807) (e1 : -9223372036854775808 ≤ e) (e2 : e ≤ 9223372036854775807) (n1 : -9223372036854775808 ≤ num) (n2 : num ≤ 9223372036854775807) (hd : den ≤ 9223372036854775807) : law02_RateSums (c, e, num, den) = some true := by
  unfold law02_RateSums
  dsimp only
  rw [ha, bs, if_neg (by decide)]
  -- one mode
  have step : ∀ (k : Nat) (md : Int), ([1, 4] : List Int)[k]? = some md → law02_RateSums_loop1 (c, e, num, den, 2, (k : Int), [1, 4], (), ()) = some (.inl (c, e, num, den, 2, (k : Int) + 1, [1, 4], (), ())) ∨ law02_RateSums_loop1 (c, e, num, den, 2, (k : Int), [1, 4], (), ()) = some (.inr (.inr true)) := by
    intro k md hmd
    have hk : k < 2 := (List.getElem?_eq_some_iff.1 hmd).1
    have hm : md = 1 ∨ md = 4 := by
      have := List.mem_of_getElem? hmd
      simpa using this
    unfold law02_RateSums_loop1
    dsimp only
    rw [if_pos (decide_eq_true (by omega)), show ((([1, 4] : List Int).length : Nat) : Int) = ((2 : Nat) : Int) from rfl, idxI (show k < 2 from hk), bs, hmd, ms, bs, Fits_eq, bs, orK _ _ _ _ (fun _ => Fits_eq e)]
    have w0 : IntKind.i64.wrap ((k : Int) + 1) = (k : Int) + 1 := w64' (by omega) (by omega)
    by_cases h : (-1125899906842624 ≤ c ∧ c ≤ 1125899906842624) ∧ (-1125899906842624 ≤ e ∧ e ≤ 1125899906842624)
    · rw [decide_eq_true h.1, decide_eq_true h.2, if_neg (by decide), w64' (n := c + e) (by omega) (by omega)]
      left
      have ok : ∀ (y : Int × Int × Int × Int × Int × Int × List Int × Unit × Unit), (show Option ((Int × Int × Int × Int × Int × Int × List Int × Unit × Unit) ⊕ Bool) from some (Sum.inl y)) = some (Sum.inl y) := fun _ => rfl
      rcases part_cases (c := c) (num := num) (den := den) (mode := md) c1 c2 n1 n2 hd with ⟨f, hf, p1⟩ | ⟨d, hd1, hd0, _, _, hr1, p1⟩
      · have t1 : (f != 0) = true := by simpa using hf
        rcases part_cases (c := e) (num := num) (den := den) (mode := md) e1 e2 n1 n2 hd with ⟨f2, hf2, p2⟩ | ⟨d2, _, _, _, _, _, p2⟩ <;>
        rcases part_cases (c := c + e) (num := num) (den := den) (mode := md) (by omega) (by omega) n1 n2 hd with ⟨f3, hf3, p3⟩ | ⟨d3, _, _, _, _, _, p3⟩ <;>
        · rw [p1, bs, p2, bs, p3, bs]
          simp only [w0, t1, if_true, Bool.true_eq_false, if_false, bs]
      subst hd1
      rw [p1, bs]
      have z : ((0 : Int) != 0) = false := rfl
      rcases part_cases (c := e) (num := num) (den := (d : Int)) (mode := md) e1 e2 n1 n2 hd with ⟨f, hf, p2⟩ | ⟨d2, hdd, _, _, _, hr2, p2⟩
      · have t1 : (f != 0) = true := by simpa using hf
        rcases part_cases (c := c + e) (num := num) (den := (d : Int)) (mode := md) (by omega) (by omega) n1 n2 hd with ⟨f3, hf3, p3⟩ | ⟨d3, _, _, _, _, _, p3⟩ <;>
        · rw [p2, bs, p3, bs]
          simp only [w0, z, t1, if_true, Bool.true_eq_false, Bool.false_eq_true, if_false, bs, ms]
      have hdd' : d2 = d := by omega
      subst hdd'
      rw [p2, bs]
      rcases part_cases (c := c + e) (num := num) (den := (d2 : Int)) (mode := md) (by omega) (by omega) n1 n2 hd with ⟨f, hf, p3⟩ | ⟨d3, hdd, _, _, _, hr3, p3⟩
      · have t1 : (f != 0) = true := by simpa using hf
        rw [p3, bs]
        simp only [w0, z, t1, if_true, Bool.true_eq_false, Bool.false_eq_true, if_false, bs, ms]
      have hdd' : d3 = d2 := by omega
      subst hdd'
      rw [p3, bs]
      dsimp only
      have key : -1 ≤ rnd md d3 ((c + e) * num) - rnd md d3 (c * num) - rnd md d3 (e * num) ∧ rnd md d3 ((c + e) * num) - rnd md d3 (c * num) - rnd md d3 (e * num) ≤ 1 ∧ (md = 4 → 0 ≤ rnd md d3 ((c + e) * num) - rnd md d3 (c * num) - rnd md d3 (e * num)) := by
        have ex : (d3 : Int) * (rnd md d3 ((c + e) * num) - rnd md d3 (c * num) - rnd md d3 (e * num)) = d3 * rnd md d3 ((c + e) * num) - d3 * rnd md d3 (c * num) - d3 * rnd md d3 (e * num) := by rw [Int.mul_sub, Int.mul_sub]
        have es : (c + e) * num = c * num + e * num := Int.add_mul _ _ _
        rcases hm with rfl | rfl
        · have a1 := rnd_half hd0 (c * num)
          have a2 := rnd_half hd0 (e * num)
          have a3 := rnd_half hd0 ((c + e) * num)
          rw [es] at a3
          rw [es] at ex ⊢
          generalize rnd 1 d3 (c * num + e * num) - rnd 1 d3 (c * num) - rnd 1 d3 (e * num) = v at *
          generalize (d3 : Int) * rnd 1 d3 (c * num + e * num) = y3 at *
          generalize (d3 : Int) * rnd 1 d3 (c * num) = y1 at *
          generalize (d3 : Int) * rnd 1 d3 (e * num) = y2 at *
          have := div_bd (k := 2) hd0 (v := v) (by omega) (by omega)
          refine ⟨by omega, by omega, fun h => absurd h (by decide)⟩
        · have a1 := rnd_floor hd0 (c * num)
          have a2 := rnd_floor hd0 (e * num)
          have a3 := rnd_floor hd0 ((c + e) * num)
          rw [es] at a3
          rw [es] at ex ⊢
          generalize rnd 4 d3 (c * num + e * num) - rnd 4 d3 (c * num) - rnd 4 d3 (e * num) = v at *
          generalize (d3 : Int) * rnd 4 d3 (c * num + e * num) = y3 at *
          generalize (d3 : Int) * rnd 4 d3 (c * num) = y1 at *
          generalize (d3 : Int) * rnd 4 d3 (e * num) = y2 at *
          have b1 := div_bd (k := 2) hd0 (v := v) (by omega) (by omega)
          have b2 : 0 ≤ v := by
            apply Int.not_lt.1
            intro h
            have : v = -1 := by omega
            subst this
            rw [Int.mul_neg, Int.mul_one] at ex
            omega
          exact ⟨by omega, by omega, fun _ => b2⟩
      generalize rnd md d3 ((c + e) * num) = v3 at *
      generalize rnd md d3 (c * num) = v1 at *
      generalize rnd md d3 (e * num) = v2 at *
      have w1 : IntKind.i64.wrap (v3 - v1) = v3 - v1 := w64' (by omega) (by omega)
      have w2 : IntKind.i64.wrap (v3 - v1 - v2) = v3 - v1 - v2 := w64' (by omega) (by omega)
      have t1 : decide (v3 - v1 - v2 > 1) = false := decide_eq_false (by omega)
      have t2 : decide (v3 - v1 - v2 < -1) = false := decide_eq_false (by omega)
      simp only [z, w1, w2, t1, t2, if_true, Bool.true_eq_false, Bool.false_eq_true, if_false, bs, ms]
      by_cases h4 : md = 4
      · have t3 : (md == 4) = true := by simpa using h4
        have t4 : decide (v3 - v1 - v2 < 0) = false := decide_eq_false (by have := key.2.2 h4; omega)
        simp only [w0, t3, t4, if_true, Bool.false_eq_true, if_false, bs, ms]
      · have t3 : (md == 4) = false := by simpa using h4
        simp only [w0, t3, Option.some.injEq, Bool.false_eq_true, if_false, bs, ms]
    · rw [if_pos (by rw [← Bool.decide_and, decide_eq_false h]; rfl)]
      exact .inr rfl
  have fin : iter law02_RateSums_loop1 (c, e, num, den, 2, 0, [1, 4], (), ()) = some (.inl ()) ∨ iter law02_RateSums_loop1 (c, e, num, den, 2, 0, [1, 4], (), ()) = some (.inr true) := by
    rcases step 0 1 rfl with h | h
    · rw [show ((0 : Nat) : Int) = 0 from rfl] at h
      rw [iter_inl h]
      rcases step 1 4 rfl with h | h
      · rw [show ((1 : Nat) : Int) = 0 + 1 from rfl] at h
        rw [iter_inl h, iter_eq]
        exact .inl rfl
      · rw [show ((1 : Nat) : Int) = 0 + 1 from rfl] at h
        exact .inr (iter_inr h)
    · rw [show ((0 : Nat) : Int) = 0 from rfl] at h
      exact .inr (iter_inr h)
  rw [show ((([1, 4] : List Int).length : Nat) : Int) = 2 from rfl]
  rcases fin with h | h
  · rw [h]; rfl
  · rw [h]; rfl
/-- The chain of what is asked ahead: each but the first one only if none was true. -/
theorem orT {β : Type} (a b : Bool) (F : Bool → Option β) : (Option.bind (if a then some true else (if a = false then some b else none).map (fun z => z)) F) = F (a || b) := by cases a <;> rfl
theorem law_RateExact (ha : law02_awake () = some true) {c num den many mode : Int} (c1 : -9223372036854775808 ≤ c) (c2 : c ≤ 9223372036854775807) (n1 : -2147483648 ≤ num) (n2 : num ≤ 2147483647) (hd1 : -2147483648 ≤ den) (hd2 : den ≤ 2147483647) (k1 : 0 ≤ many) (k2 : many ≤ 65535) (m1 : 0 ≤ mode) (m2 : mode ≤ 255) : law02_RateExact (c, num, den, many, mode) = some true := by
  unfold law02_RateExact
  dsimp only
  rw [ha, bs, if_neg (by decide)]
  have w : (if (5 : Int) = 0 then none else some ((IntKind.i64.wrap mode).tmod 5)) = some (mode % 5) := by
    rw [if_neg (by decide), w64' (by omega) (by omega), Int.tmod_eq_emod_of_nonneg m1]
  rw [w, bs]
  by_cases g1 : den ≤ 0
  · simp only [decide_eq_true g1, if_true, bs, Bool.true_eq_false, if_false]
  by_cases g2 : -1125899906842624 ≤ c ∧ c ≤ 1125899906842624
  · have wd : IntKind.i64.wrap den = den := w64' (by omega) (by omega)
    have wn : IntKind.i64.wrap num = num := w64' (by omega) (by omega)
    have wk : IntKind.i64.wrap (IntKind.i64.wrap many + 1) = many + 1 := by rw [w64' (n := many) (by omega) (by omega), w64' (by omega) (by omega)]
    simp only [decide_eq_false g1, if_true, bs, ms, Bool.false_eq_true, if_false, Fits_eq, decide_eq_true g2, Bool.not_true, wd, wn, wk]
    have hm : 0 ≤ mode % 5 ∧ mode % 5 ≤ 4 := by omega
    generalize mode % 5 = m at *
    obtain ⟨d, rfl⟩ := Int.eq_ofNat_of_zero_le (show 0 ≤ den by omega)
    obtain ⟨k, hk⟩ : ∃ k : Nat, many + 1 = (k : Int) := ⟨(many + 1).toNat, by omega⟩
    rw [hk]
    have hk0 : 0 < k := by omega
    have hk1 : k ≤ 65536 := by omega
    have hd0 : 0 < d := by omega
    have b1 : -(2147483648 * 65536) ≤ num * (k : Int) ∧ num * (k : Int) ≤ 2147483648 * 65536 := by
      have : (num * (k : Int)).natAbs ≤ 2147483648 * 65536 := by rw [Int.natAbs_mul]; exact Nat.mul_le_mul (by omega) (by omega)
      omega
    have b2 : d * k ≤ 2147483648 * 65536 := Nat.mul_le_mul (by omega) (by omega)
    have wnk : IntKind.i64.wrap (num * (k : Int)) = num * (k : Int) := w64' (by omega) (by omega)
    have wdk : IntKind.i64.wrap ((d : Int) * (k : Int)) = ((d * k : Nat) : Int) := by rw [← Int.natCast_mul]; exact w64' (by omega) (by omega)
    have wkd : IntKind.i64.wrap ((k : Int) * (d : Int)) = ((d * k : Nat) : Int) := by rw [Int.mul_comm]; exact wdk
    have p1 : rate_Part (c, (d : Int), (d : Int), m) = some (c, 0) := by
      rw [rPart_eq (by omega) (by omega) (by omega) (by omega) (by omega), partS_ok g2 hd0 hm, rnd_exact hd0, if_neg (by omega)]
    have p2 : rate_Part (c, 0, (d : Int), m) = some (0, 0) := by
      rw [rPart_eq (by omega) (by omega) (by omega) (by omega) (by omega), partS_ok g2 hd0 hm, Int.mul_zero]
      have := rnd_exact (mode := m) hd0 0
      rw [Int.zero_mul] at this
      rw [this]; rfl
    have p3 : rate_Part (c, num, (d : Int), m) = rate_Part (c, num * (k : Int), ((d * k : Nat) : Int), m) := by
      rw [rPart_eq (by omega) (by omega) (by omega) (by omega) (by omega), rPart_eq (by omega) (by omega) (by omega) (by omega) (by omega), partS_ok g2 hd0 hm, partS_ok g2 (Nat.mul_pos hd0 hk0) hm, ← Int.mul_assoc, rnd_many hk0]
    have p4 : rate_Part (num, ((d * k : Nat) : Int), (d : Int), m) = some (num * (k : Int), 0) := by
      rw [rPart_eq (by omega) (by omega) (by omega) (by omega) (by omega), partS_ok ⟨by omega, by omega⟩ hd0 hm]
      have : num * ((d * k : Nat) : Int) = num * (k : Int) * (d : Int) := by rw [Int.natCast_mul, Int.mul_comm (d : Int), Int.mul_assoc]
      rw [this, rnd_exact hd0, if_neg (by omega)]
    obtain ⟨y, hy⟩ : ∃ y, rate_Part (c, num * (k : Int), ((d * k : Nat) : Int), m) = some y := ⟨_, rPart_eq (by omega) (by omega) (by omega) (by omega) (by omega)⟩
    have z : ((0 : Int) != 0) = false := rfl
    have zc : ∀ a : Int, (a != a) = false := fun a => by simp
    simp only [p1, p2, p3, wn, wnk, wdk, wkd, hy, p4, z, zc, bs, ms, if_true, Bool.false_eq_true, if_false, beq_self_eq_true]
  · simp only [decide_eq_false g1, if_true, bs, ms, Bool.false_eq_true, if_false, Fits_eq, decide_eq_false g2, Bool.not_false]
theorem near_key {n d q r : Nat} {V W c : Int} (hn0 : 0 < n) (a1 : -(d : Int) ≤ 2 * (d * V) - 2 * (c * n) ∧ 2 * (d * V) - 2 * (c * n) ≤ d) (a2 : -(n : Int) ≤ 2 * (n * W) - 2 * (V * d) ∧ 2 * (n * W) - 2 * (V * d) ≤ n) (e : n * q + r = d) (hr : r < n) : -((q : Int) + 2) ≤ W - c ∧ W - c ≤ (q : Int) + 2 := by
  have x1 : (n : Int) * (2 * (W - c)) = 2 * (n * W) - 2 * (c * n) := by rw [Int.mul_left_comm, Int.mul_sub, Int.mul_comm c, Int.mul_sub]
  have x2 : (d : Int) * V = V * d := Int.mul_comm _ _
  have x3 : ((q + 3 : Nat) : Int) * (n : Int) = ((n * q : Nat) : Int) + 3 * n := by rw [← Int.natCast_mul, Nat.add_mul, Nat.mul_comm q n]; omega
  rw [x2] at a1
  generalize (n : Int) * W = A at *
  generalize V * (d : Int) = B at *
  generalize c * (n : Int) = C at *
  generalize n * q = E at *
  have := div_bd (k := q + 3) hn0 (v := 2 * (W - c)) (by rw [x1, x3]; omega) (by rw [x1, x3]; omega)
  omega
theorem law_RateNear (ha : law02_awake () = some true) {c num den : Int} (n1 : -2147483648 ≤ num) (n2 : num ≤ 2147483647) (hd1 : -2147483648 ≤ den) (hd2 : den ≤ 2147483647) : law02_RateNear (c, num, den) = some true := by
  unfold law02_RateNear
  dsimp only
  rw [ha, bs, if_neg (by decide)]
  by_cases g1 : num ≤ 0
  · simp only [decide_eq_true g1, if_true, bs, ms, Bool.true_eq_false, if_false]
  by_cases g2 : den ≤ 0
  · simp only [decide_eq_false g1, decide_eq_true g2, if_true, bs, ms, Bool.true_eq_false, Bool.false_eq_true, if_false]
  by_cases g3 : num > 1073741824
  · simp only [decide_eq_false g1, decide_eq_false g2, decide_eq_true g3, if_true, bs, ms, Bool.true_eq_false, Bool.false_eq_true, if_false]
  by_cases g4 : den > 1073741824
  · simp only [decide_eq_false g1, decide_eq_false g2, decide_eq_false g3, decide_eq_true g4, if_true, bs, ms, Bool.true_eq_false, Bool.false_eq_true, if_false]
  by_cases g5 : c > 1073741824
  · simp only [decide_eq_false g1, decide_eq_false g2, decide_eq_false g3, decide_eq_false g4, decide_eq_true g5, if_true, bs, ms, Bool.true_eq_false, Bool.false_eq_true, if_false]
  by_cases g6 : c < -1073741824
  · simp only [decide_eq_false g1, decide_eq_false g2, decide_eq_false g3, decide_eq_false g4, decide_eq_false g5, decide_eq_true g6, if_true, bs, ms, Bool.true_eq_false, Bool.false_eq_true, if_false]
  have wd : IntKind.i64.wrap den = den := w64' (by omega) (by omega)
  have wn : IntKind.i64.wrap num = num := w64' (by omega) (by omega)
  simp only [decide_eq_false g1, decide_eq_false g2, decide_eq_false g3, decide_eq_false g4, decide_eq_false g5, decide_eq_false g6, if_true, bs, ms, Bool.false_eq_true, if_false, wd, wn]
  rcases part_cases (c := c) (num := num) (den := den) (mode := 1) (by omega) (by omega) (by omega) (by omega) (by omega) with ⟨f, hf, p1⟩ | ⟨d, hd, hd0, _, _, hr1, p1⟩
  · have t1 : (f != 0) = true := by simpa using hf
    simp only [p1, bs, t1, if_true]
  subst hd
  have z : ((0 : Int) != 0) = false := rfl
  simp only [p1, bs, z, Bool.false_eq_true, if_false]
  have a1 := rnd_half hd0 (c * num)
  generalize rnd 1 d (c * num) = V at *
  rcases part_cases (c := V) (num := (d : Int)) (den := num) (mode := 1) (by omega) (by omega) (by omega) (by omega) (by omega) with ⟨f, hf, p2⟩ | ⟨n, hn, hn0, _, _, hr2, p2⟩
  · have t1 : (f != 0) = true := by simpa using hf
    simp only [p2, bs, t1, if_true]
  subst hn
  have a2 := rnd_half hn0 (V * d)
  simp only [p2, bs, z, Bool.false_eq_true, if_false]
  generalize rnd 1 n (V * d) = W at *
  have hq : (if (n : Int) = 0 then none else some (IntKind.i64.wrap ((d : Int).tdiv (n : Int)))) = some ((d / n : Nat) : Int) := by
    rw [if_neg (by omega), Int.tdiv_eq_ediv_of_nonneg (by omega), ← Int.natCast_ediv]
    have : d / n ≤ d := Nat.div_le_self _ _
    generalize d / n = q at *
    rw [w64' (by omega) (by omega)]
  have e := Nat.div_add_mod d n
  have hr := Nat.mod_lt d hn0
  have ql : d / n ≤ d := Nat.div_le_self _ _
  generalize d / n = q at *
  generalize d % n = r at *
  have w1 : IntKind.i64.wrap (W - c) = W - c := w64' (by omega) (by omega)
  have w2 : IntKind.i64.wrap ((q : Int) + 2) = (q : Int) + 2 := w64' (by omega) (by omega)
  have w3 : IntKind.i64.wrap (0 - ((q : Int) + 2)) = -((q : Int) + 2) := by rw [w64' (by omega) (by omega)]; omega
  have key : -((q : Int) + 2) ≤ W - c ∧ W - c ≤ (q : Int) + 2 := near_key hn0 a1 a2 e hr
  simp only [hq, bs, w1, w2, w3, decide_eq_true key.2, if_true, ms, decide_eq_true (show W - c ≥ -((q : Int) + 2) from key.1)]
end WB
namespace WB
open Go Go.RowKit

theorem aw_digits2 : rate_digits [49, 50] = some true := by
  unfold rate_digits
  dsimp only
  rw [show iter rate_digits_loop1 (([49, 50] : List UInt8), (([49, 50] : List UInt8).length : Int), 0, ()) = some (Sum.inl ([49, 50], ())) from iter_some.2 ⟨6, rfl⟩]
  rfl
theorem aw_digits1 : rate_digits [53] = some true := by
  unfold rate_digits
  dsimp only
  rw [show iter rate_digits_loop1 (([53] : List UInt8), (([53] : List UInt8).length : Int), 0, ()) = some (Sum.inl ([53], ())) from iter_some.2 ⟨6, rfl⟩]
  rfl
theorem aw_value2 : rate_value ([49, 50], 100000) = some 12 := by
  unfold rate_value
  dsimp only
  rw [show iter rate_value_loop1 (([49, 50] : List UInt8), 100000, 0, (([49, 50] : List UInt8).length : Int), 0, ()) = some ((12, ())) from iter_some.2 ⟨6, rfl⟩]
  rfl
theorem aw_value4 : rate_value ([53, 48, 48, 48], 10000) = some 5000 := by
  unfold rate_value
  dsimp only
  rw [show iter rate_value_loop1 (([53, 48, 48, 48] : List UInt8), 10000, 0, (([53, 48, 48, 48] : List UInt8).length : Int), 0, ()) = some ((5000, ())) from iter_some.2 ⟨6, rfl⟩]
  rfl
theorem aw_Parse : rate_Parse [49, 50, 46, 53, 37] = some (125000, 0) := by
  unfold rate_Parse
  have h1 : strings_CutPrefix ([49, 50, 46, 53, 37], [45]) = some ([49, 50, 46, 53, 37], false) := rfl
  have h2 : strings_CutSuffix ([49, 50, 46, 53, 37], [37]) = some ([49, 50, 46, 53], true) := rfl
  have h3 : strings_Cut ([49, 50, 46, 53], [46]) = some ([49, 50], [53], true) := rfl
  dsimp only
  simp only [gPb, gPm, gPs, gM, gM2, gAnd, gOr, gAndI, gOrI, gAA, gAO, gOA, gOO, gAAf, gAOf, gOAf, gOOf, gAMf, gOMf, gId]
  rw [if_neg (by decide), h1, bs, h2, bs, h3, bs]
  dsimp only
  simp only [aw_digits2, aw_digits1, bs, ms, Bool.not_true, Bool.false_eq_true, if_false]
  have e1 : decide ((([49, 50] : List UInt8).length : Int) > 1) = true := rfl
  have e2 : sAt [49, 50] 0 = some 49 := rfl
  have e3 : decide ((([53] : List UInt8).length : Int) > 4) = false := rfl
  have e4 : sAt [53] (IntKind.i64.wrap ((([53] : List UInt8).length : Int) - 1)) = some 53 := rfl
  have e5 : lSub ([53] ++ [48, 48, 48, 48] : List UInt8) 0 4 = some [53, 48, 48, 48] := rfl
  simp only [e1, e2, e3, e4, if_true, Bool.false_eq_true, if_false, bs, ms]
  simp only [if_true, Bool.false_eq_true, if_false, bs, ms, aw_value2, aw_value4, e5, beq_iff_eq]
  rw [if_neg (by decide), if_neg (by decide), if_pos (by simp only [List.length_cons, List.length_nil]; omega)]
  rfl
theorem aw_d0 : Lib.decDigits 0 = [48] := by rw [Lib.decDigits]; rfl
theorem aw_d1 : Lib.decDigits 10001 = [49, 48, 48, 48, 49] := by
  rw [Lib.decDigits, Lib.decDigits, Lib.decDigits, Lib.decDigits, Lib.decDigits]; rfl
theorem fi_eq (n : Int) (h0 : -9223372036854775808 ≤ n) (h1 : n ≤ 9223372036854775807) : strconv_FormatInt (n, 10) = some (Lib.itoa n) := if_pos ⟨rfl, h0, h1⟩
theorem fi_nat (u : Nat) (h1 : u ≤ 9223372036854775807) : strconv_FormatInt ((u : Int), 10) = some (Lib.decDigits u) := by rw [fi_eq _ (by omega) (by omega), Lib.itoa_nonneg]
theorem aw_f0 : strconv_FormatInt (0, 10) = some [48] := (fi_nat 0 (by omega)).trans (congrArg some aw_d0)
theorem aw_f1 : strconv_FormatInt (10001, 10) = some [49, 48, 48, 48, 49] := (fi_nat 10001 (by omega)).trans (congrArg some aw_d1)
theorem aw_t : strings_TrimRight ([48, 48, 48, 49], [48]) = some [48, 48, 48, 49] := by
  simp only [strings_TrimRight]; rw [if_pos (by simp)]; rfl
theorem aw_z (x y : List UInt8) (hx : x.length ≤ 10) (hy : y.length ≤ 10) : (if x.length + y.length ≤ 4611686018427387904 then some (x ++ y) else none) = some (x ++ y) := if_pos (by omega)
theorem aw_Text : rate_Text (-1) = some [45, 48, 46, 48, 48, 48, 49, 37] := by
  unfold rate_Text
  have e0 : rate_right (-1) = some true := rfl
  have e1 : (if (10000 : Int) = 0 then none else some (IntKind.i64.wrap ((IntKind.i64.wrap (0 - (-1 : Int))).tdiv 10000))) = some 0 := rfl
  have e2 : (if (10000 : Int) = 0 then none else some ((IntKind.i64.wrap (0 - (-1 : Int))).tmod 10000)) = some 1 := rfl
  have e3 : IntKind.i64.wrap (10000 + 1) = 10001 := rfl
  have e4 : lSub ([49, 48, 48, 48, 49] : List UInt8) 1 (([49, 48, 48, 48, 49] : List UInt8).length : Int) = some [48, 48, 48, 49] := rfl
  dsimp only
  rw [e0, bs, if_neg (by decide), if_pos (by decide), bs]
  dsimp only
  simp only [e1, e2, e3, bs, aw_f0, aw_f1, e4, aw_t]
  rw [aw_z _ _ (by decide) (by decide), bs, if_pos (by decide), aw_z _ _ (by decide) (by decide), bs, aw_z _ _ (by decide) (by decide), bs, bs, aw_z _ _ (by decide) (by decide), bs]
  rfl
theorem aw_Of : rate_Of (1001, 125000, 1) = some (125, 0) := by
  rw [rOf_eq (by decide) (by decide)]
  rfl
theorem aw_Part : rate_Part (-5, 1, 2, 2) = some (-2, 0) := by
  rw [rPart_eq (by decide) (by decide) (by decide) (by decide) (by decide)]
  rfl
theorem awake_eq : law02_awake () = some true := by
  unfold law02_awake
  dsimp only
  simp only [gPb, gPm, gPs, gM, gM2, gAnd, gOr, gAndI, gOrI, gAA, gAO, gOA, gOO, gAAf, gAOf, gOAf, gOOf, gAMf, gOMf, gId]
  rw [aw_Of, bs, aw_Part, bs, aw_Parse, bs, aw_Text]
  rfl
end WB
namespace WB
open Go Go.RowKit

/-- A part's sizes by the modes, above 0 and below. -/
theorem modes_key {n d : Nat} (hd : 0 < d) : ∃ q u h e : Int, rnd 0 d n = q ∧ rnd 1 d n = h ∧ rnd 2 d n = e ∧ rnd 3 d n = u ∧ rnd 4 d n = q ∧ rnd 0 d (-(n : Int)) = -q ∧ rnd 1 d (-(n : Int)) = -h ∧ rnd 2 d (-(n : Int)) = -e ∧ rnd 3 d (-(n : Int)) = -u ∧ rnd 4 d (-(n : Int)) = -u ∧
    0 ≤ q ∧ q ≤ u ∧ u ≤ q + 1 ∧ (h = q ∨ h = u) ∧ (e = q ∨ e = u) := by
  have hp : ∀ m, rnd m d (n : Int) = (sizeS false n d m : Int) := fun m => by
    unfold rnd
    rw [if_neg (by omega), Int.natAbs_natCast]
  by_cases h0 : n = 0
  · subst h0
    have z : ∀ m, rnd m d 0 = 0 := fun m => by
      have := hp m
      rw [sizeS0 _ d m hd] at this
      exact this
    refine ⟨0, 0, 0, 0, z 0, z 1, z 2, z 3, z 4, z 0, z 1, z 2, z 3, z 4, by omega, by omega, by omega, .inl rfl, .inl rfl⟩
  · have hn : ∀ m, rnd m d (-(n : Int)) = -(sizeS true n d m : Int) := fun m => by
      unfold rnd
      rw [if_pos (by omega), Int.natAbs_neg, Int.natAbs_natCast]
    have s0 : ∀ b, sizeS b n d 0 = n / d := fun b => by unfold sizeS upS; rfl
    have s1 : ∀ b, sizeS b n d 1 = n / d + (if d - n % d ≤ n % d then 1 else 0) := fun b => by unfold sizeS upS; simp
    have s2 : ∀ b, sizeS b n d 2 = n / d + (if (if n % d = d - n % d then n / d % 2 == 1 else decide (d - n % d ≤ n % d)) = true then 1 else 0) := fun b => by unfold sizeS upS; rfl
    have s3 : ∀ b, sizeS b n d 3 = n / d + (if 0 < n % d then 1 else 0) := fun b => by unfold sizeS upS; simp
    have s4 : sizeS false n d 4 = n / d := by unfold sizeS upS; rfl
    have s5 : sizeS true n d 4 = n / d + (if 0 < n % d then 1 else 0) := by unfold sizeS upS; simp
    have hr := Nat.mod_lt n hd
    generalize n / d = q at *
    generalize n % d = r at *
    refine ⟨(q : Int), ((q + (if 0 < r then 1 else 0) : Nat) : Int), ((q + (if d - r ≤ r then 1 else 0) : Nat) : Int), ((q + (if (if r = d - r then q % 2 == 1 else decide (d - r ≤ r)) = true then 1 else 0) : Nat) : Int),
      by rw [hp, s0], by rw [hp, s1], by rw [hp, s2], by rw [hp, s3], by rw [hp, s4], by rw [hn, s0], by rw [hn, s1], by rw [hn, s2], by rw [hn, s3], by rw [hn, s5], by omega, ?_, ?_, ?_, ?_⟩
    · split <;> omega
    · split <;> omega
    · by_cases h1 : d - r ≤ r
      · right; rw [if_pos h1, if_pos (by omega)]
      · left; rw [if_neg h1]; omega
    · by_cases h1 : r = d - r
      · rw [if_pos h1]
        by_cases h2 : (q % 2 == 1) = true
        · right; rw [if_pos h2, if_pos (by omega)]
        · left; rw [if_neg h2]; omega
      · rw [if_neg h1]
        by_cases h2 : d - r ≤ r
        · right; rw [if_pos (by simpa using h2), if_pos (by omega)]
        · left; rw [if_neg (by simpa using h2)]; omega

theorem law_RateModes (ha : law02_awake () = some true) {c num den : Int} (c1 : -9223372036854775808 ≤ c) (c2 : c ≤ 9223372036854775807) (n1 : -9223372036854775808 ≤ num) (n2 : num ≤ 9223372036854775807) (hd : den ≤ 9223372036854775807) : law02_RateModes (c, num, den) = some true := by
  unfold law02_RateModes
  dsimp only
  simp only [gPb, gPm, gPs, gM, gM2, gAnd, gOr, gAndI, gOrI, gAA, gAO, gOA, gOO, gAAf, gAOf, gOAf, gOOf, gAMf, gOMf, gId]
  rw [ha, bs, if_neg (by decide)]
  by_cases g1 : c < 0
  · simp only [decide_eq_true g1, if_true, bs]
  by_cases g2 : num < 0
  · simp only [decide_eq_true g2, decide_eq_false g1, if_true, bs, Bool.false_eq_true, if_false, ms]
  simp only [decide_eq_false g2, decide_eq_false g1, bs, Bool.false_eq_true, if_false, ms]
  rcases part_cases (c := c) (num := num) (den := den) (mode := 3) c1 c2 n1 n2 hd with ⟨e, he, h⟩ | ⟨d, rfl, hd0, hc, _, hmx, h⟩
  · rw [h, bs]
    have : (e != 0) = true := by simpa using he
    simp only [this, if_true]
  rw [h, bs]
  obtain ⟨n, hn⟩ := Int.eq_ofNat_of_zero_le (Int.mul_nonneg (show 0 ≤ c by omega) (show 0 ≤ num by omega))
  obtain ⟨q, u, hf, ev, k0, k1, k2, k3, k4, l0, l1, l2, l3, l4, hq, hqu, hu, hh, he⟩ := modes_key (n := n) hd0
  rw [hn, k3] at hmx h
  have wc : IntKind.i64.wrap (0 - c) = -c := by rw [w64' (by omega) (by omega), Int.zero_sub]
  have hneg : -c * num = -(n : Int) := by rw [Int.neg_mul, hn]
  have pp : ∀ m : Int, 0 ≤ m → m ≤ 4 → ∀ v, rnd m d (n : Int) = v → v.natAbs ≤ 1125899906842624 → rate_Part (c, num, (d : Int), m) = some (v, 0) := fun m m1 m2 v hv hb => by
    rw [rPart_eq c1 c2 n1 n2 hd, partS_ok hc hd0 ⟨m1, m2⟩, hn, hv, if_neg (by omega)]
  have pn : ∀ m : Int, 0 ≤ m → m ≤ 4 → ∀ v, rnd m d (-(n : Int)) = v → v.natAbs ≤ 1125899906842624 → rate_Part (IntKind.i64.wrap (0 - c), num, (d : Int), m) = some (v, 0) := fun m m1 m2 v hv hb => by
    rw [wc, rPart_eq (by omega) (by omega) n1 n2 hd, partS_ok ⟨by omega, by omega⟩ hd0 ⟨m1, m2⟩, hneg, hv, if_neg (by omega)]
  have p0 := pp 0 (by omega) (by omega) q k0 (by omega)
  have p1 := pp 1 (by omega) (by omega) hf k1 (by omega)
  have p2 := pp 2 (by omega) (by omega) ev k2 (by omega)
  have p3 := pp 3 (by omega) (by omega) u k3 (by omega)
  have p4 := pp 4 (by omega) (by omega) q k4 (by omega)
  have m0 := pn 0 (by omega) (by omega) (-q) l0 (by omega)
  have m1 := pn 1 (by omega) (by omega) (-hf) l1 (by omega)
  have m2 := pn 2 (by omega) (by omega) (-ev) l2 (by omega)
  have m3 := pn 3 (by omega) (by omega) (-u) l3 (by omega)
  have m4 := pn 4 (by omega) (by omega) (-u) l4 (by omega)
  clear pp pn
  have z : ((0 : Int) != 0) = false := rfl
  simp only [hn, k3, z, Bool.false_eq_true, if_false]
  have st : ∀ (m v w : Int) (a0 a1 a2 a3 a4 b0 b1 b2 b3 b4 : Int), rate_Part (c, num, (d : Int), m) = some (v, 0) → rate_Part (IntKind.i64.wrap (0 - c), num, (d : Int), m) = some (w, 0) → 0 ≤ m → m < 5 →
      law02_RateModes_loop2 (c, num, (d : Int), u, m, a0, a1, a2, a3, a4, b0, b1, b2, b3, b4, (), (), (), (), ()) = some (.inl (c, num, (d : Int), u, m + 1,
        (if m.toNat = 0 then v else a0), (if m.toNat = 1 then v else a1), (if m.toNat = 2 then v else a2), (if m.toNat = 3 then v else a3), (if m.toNat = 4 then v else a4),
        (if m.toNat = 0 then w else b0), (if m.toNat = 1 then w else b1), (if m.toNat = 2 then w else b2), (if m.toNat = 3 then w else b3), (if m.toNat = 4 then w else b4), (), (), (), (), ())) := by
    intro m v w a0 a1 a2 a3 a4 b0 b1 b2 b3 b4 h1 h2 h3 h4
    unfold law02_RateModes_loop2
    dsimp only
    simp only [gPb, gPm, gPs, gM, gM2, gAnd, gOr, gAndI, gOrI, gAA, gAO, gOA, gOO, gAAf, gAOf, gOAf, gOOf, gAMf, gOMf, gId]
    have w1 : IntKind.i64.wrap (m + 1) = m + 1 := w64' (by omega) (by omega)
    simp only [decide_eq_true h4, if_true, h1, h2, bs, ms, z, Bool.false_eq_true, if_false, if_pos (And.intro h3 h4), w1]
  have u2 : iter law02_RateModes_loop2 (c, num, (d : Int), u, 0, 0, 0, 0, 0, 0, 0, 0, 0, 0, 0, (), (), (), (), ()) = iter law02_RateModes_loop2 (c, num, (d : Int), u, 5, q, hf, ev, u, q, -q, -hf, -ev, -u, -u, (), (), (), (), ()) := by
    rw [iter_inl (st 0 _ _ 0 0 0 0 0 0 0 0 0 0 p0 m0 (by omega) (by omega))]
    refine (iter_inl (st 1 _ _ _ _ _ _ _ _ _ _ _ _ p1 m1 (by omega) (by omega))).trans ?_
    refine (iter_inl (st 2 _ _ _ _ _ _ _ _ _ _ _ _ p2 m2 (by omega) (by omega))).trans ?_
    refine (iter_inl (st 3 _ _ _ _ _ _ _ _ _ _ _ _ p3 m3 (by omega) (by omega))).trans ?_
    exact iter_inl (st 4 _ _ _ _ _ _ _ _ _ _ _ _ p4 m4 (by omega) (by omega))
  have e2 : law02_RateModes_loop2 (c, num, (d : Int), u, 5, q, hf, ev, u, q, -q, -hf, -ev, -u, -u, (), (), (), (), ()) = some (.inr (.inl (u, q, hf, ev, u, q, -q, -hf, -ev, -u, -u, (), (), (), (), ()))) := rfl
  have wu : IntKind.i64.wrap (q + 1) = q + 1 := w64' (by omega) (by omega)
  have wn : ∀ x : Int, 0 ≤ x → x ≤ 1125899906842624 → IntKind.i64.wrap (0 - x) = -x := fun x h1 h2 => by rw [w64' (by omega) (by omega)]; omega
  have s1 : ∀ (k : Nat) (x : Int), k < 4 → ([q, hf, ev, u, q] : List Int)[k]? = some x → ([-q, -hf, -ev, -u, -u] : List Int)[k]? = some (-x) → (x = q ∨ x = u) → law02_RateModes_loop1 (u, q, (k : Int), q, hf, ev, u, q, -q, -hf, -ev, -u, -u, (), (), (), (), ()) = some (.inl (u, q, ((k + 1 : Nat) : Int), q, hf, ev, u, q, -q, -hf, -ev, -u, -u, (), (), (), (), ())) := by
    intro k x hk h1 h2 h3
    unfold law02_RateModes_loop1
    dsimp only
    simp only [gPb, gPm, gPs, gM, gM2, gAnd, gOr, gAndI, gOrI, gAA, gAO, gOA, gOO, gAAf, gAOf, gOAf, gOOf, gAMf, gOMf, gId]
    have w1 : IntKind.i64.wrap ((k : Int) + 1) = ((k + 1 : Nat) : Int) := by rw [w64' (by omega) (by omega)]; rfl
    have w2 : IntKind.i64.wrap (0 - x) = -x := wn x (by omega) (by omega)
    have w3 : ((k : Int)).toNat = k := by omega
    have x1 : (-x != -x) = false := by simp
    have hk4 : (k : Int) < 4 := by omega
    have hk5 : 0 ≤ (k : Int) ∧ (k : Int) < 5 := by omega
    rcases h3 with h3 | h3
    · have x2 : (x != q) = false := by simp [h3]
      simp only [decide_eq_true hk4, if_true, if_pos hk5, bs, ms, w3, h1, h2, x2, Bool.false_eq_true, if_false, w2, x1, w1]
    · have x2 : (x != u) = false := by simp [h3]
      by_cases x3 : (x != q) = true
      · simp only [decide_eq_true hk4, if_true, if_pos hk5, bs, ms, w3, h1, h2, x2, x3, Bool.false_eq_true, if_false, w2, x1, w1]
      · simp only [decide_eq_true hk4, if_true, if_pos hk5, bs, ms, w3, h1, h2, Bool.not_eq_true] at x3 ⊢
        simp only [x3, Bool.false_eq_true, if_false, bs, ms, if_true, w3, w2, h1, h2, x1, w1]
  rw [u2, iter_inr e2, bs]
  dsimp only
  have a05 : (0 : Int) ≤ 0 ∧ (0 : Int) < 5 := by omega
  have a45 : (0 : Int) ≤ 4 ∧ (4 : Int) < 5 := by omega
  have f0 : ([q, hf, ev, u, q] : List Int)[(0 : Int).toNat]? = some q := rfl
  have f4 : ([q, hf, ev, u, q] : List Int)[(4 : Int).toNat]? = some q := rfl
  have f4' : ([-q, -hf, -ev, -u, -u] : List Int)[(4 : Int).toNat]? = some (-u) := rfl
  have t1 : (q != q) = false := by simp
  have t2 : decide (u < q) = false := decide_eq_false (by omega)
  have t3 : decide (u > q + 1) = false := decide_eq_false (by omega)
  have t4 : decide (q < 0) = false := decide_eq_false (by omega)
  have t5 : (-u != -u) = false := by simp
  simp only [if_pos a05, if_pos a45, bs, ms, f0, f4, f4', t1, t2, t3, t4, t5, wu, wn u (by omega) (by omega), if_true, Bool.false_eq_true, if_false]
  have u1 : iter law02_RateModes_loop1 (u, q, 0, q, hf, ev, u, q, -q, -hf, -ev, -u, -u, (), (), (), (), ()) = some (.inl ()) := by
    refine (iter_inl (s1 0 q (by omega) rfl rfl (.inl rfl))).trans ?_
    refine (iter_inl (s1 1 hf (by omega) rfl rfl hh)).trans ?_
    refine (iter_inl (s1 2 ev (by omega) rfl rfl he)).trans ?_
    refine (iter_inl (s1 3 u (by omega) rfl rfl (.inr rfl))).trans ?_
    exact iter_inr rfl
  rw [u1]
  rfl
end WB
namespace WB
open Go Go.RowKit

/-- A byte that is a digit. -/
def dig (b : UInt8) : Bool := decide (48 ≤ b.toNat) && decide (b.toNat ≤ 57)
/-- A number that digits go on. -/
def numF (n : Nat) (l : List UInt8) : Nat := l.foldl (fun n b => 10 * n + (b.toNat - 48)) n
def numS (l : List UInt8) : Nat := numF 0 l

theorem sAt_mid {pre t : List UInt8} {b : UInt8} : sAt (pre ++ b :: t) (pre.length : Int) = some (b.toNat : Int) := sAt_nat (by simp)
theorem dig_ge {b : UInt8} (h : dig b = true) : 48 ≤ b.toNat ∧ b.toNat ≤ 57 := by simpa [dig] using h

/-- How many digits stand from a place on. -/
theorem ref_digits_loop (at_ : Nat) : ∀ (t pre : List UInt8) (n : Nat), pre.length = at_ + n → pre.length + t.length ≤ 4611686018427387904 → iter ref02_digits_loop1 (pre ++ t, (at_ : Int), (n : Int), ()) = some (((n + (t.takeWhile dig).length : Nat) : Int), ())
  | [], pre, n, h1, h2 => by
    have w : IntKind.i64.wrap ((at_ : Int) + (n : Int)) = (pre.length : Int) := by rw [w64' (by omega) (by omega)]; omega
    refine iter_inr ?_
    unfold ref02_digits_loop1
    dsimp only
    simp only [gPb, gPm, gPs, gM, gM2, gAnd, gOr, gAndI, gOrI, gAA, gAO, gOA, gOO, gAAf, gAOf, gOAf, gOOf, gAMf, gOMf, gId]
    simp only [w]
    have c : decide ((pre.length : Int) < (((pre ++ []) : List UInt8).length : Int)) = false := decide_eq_false (by simp)
    simp only [c, Bool.false_eq_true, if_false, bs, ms, List.takeWhile_nil, List.length_nil, Nat.add_zero]
  | b :: t, pre, n, h1, h2 => by
    simp only [List.length_cons] at h2
    have w : IntKind.i64.wrap ((at_ : Int) + (n : Int)) = (pre.length : Int) := by rw [w64' (by omega) (by omega)]; omega
    have w1 : IntKind.i64.wrap ((n : Int) + 1) = ((n + 1 : Nat) : Int) := by rw [w64' (by omega) (by omega)]; rfl
    have c : decide ((pre.length : Int) < (((pre ++ b :: t) : List UInt8).length : Int)) = true := decide_eq_true (by simp; omega)
    by_cases hd : dig b = true
    · have h3 := dig_ge hd
      have e := ref_digits_loop at_ t (pre ++ [b]) (n + 1) (by simp; omega) (by simp; omega)
      rw [List.append_assoc, List.singleton_append] at e
      refine (iter_inl (s' := (pre ++ b :: t, (at_ : Int), ((n + 1 : Nat) : Int), ())) ?_).trans (e.trans ?_)
      · unfold ref02_digits_loop1
        dsimp only
        simp only [gPb, gPm, gPs, gM, gM2, gAnd, gOr, gAndI, gOrI, gAA, gAO, gOA, gOO, gAAf, gAOf, gOAf, gOOf, gAMf, gOMf, gId]
        simp only [w, c, if_true, sAt_mid, bs, ms]
        have d1 : decide ((b.toNat : Int) ≥ 48) = true := decide_eq_true (by omega)
        have d2 : decide ((b.toNat : Int) ≤ 57) = true := decide_eq_true (by omega)
        simp only [d1, d2, if_true, bs, ms, w, w1, sAt_mid]
      · rw [List.takeWhile_cons, if_pos hd, List.length_cons]
        congr 2
        omega
    · refine (iter_inr (t := ((n : Int), ())) ?_).trans ?_
      · unfold ref02_digits_loop1
        dsimp only
        simp only [gPb, gPm, gPs, gM, gM2, gAnd, gOr, gAndI, gOrI, gAA, gAO, gOA, gOO, gAAf, gAOf, gOAf, gOOf, gAMf, gOMf, gId]
        simp only [w, c, if_true, sAt_mid, bs, ms]
        by_cases h48 : 48 ≤ b.toNat
        · have h57 : ¬ b.toNat ≤ 57 := fun h => hd (by simp [dig, h48, h])
          have d1 : decide ((b.toNat : Int) ≥ 48) = true := decide_eq_true (by omega)
          have d2 : decide ((b.toNat : Int) ≤ 57) = false := decide_eq_false (by omega)
          simp only [d1, d2, if_true, bs, ms, w, Bool.false_eq_true, if_false, sAt_mid]
        · have d1 : decide ((b.toNat : Int) ≥ 48) = false := decide_eq_false (by omega)
          simp only [d1, bs, ms, Bool.false_eq_true, if_false]
      · rw [List.takeWhile_cons, if_neg hd]
        rfl
theorem ref_digits_eq {pre t : List UInt8} (h : pre.length + t.length ≤ 4611686018427387904) : ref02_digits (pre ++ t, (pre.length : Int)) = some ((t.takeWhile dig).length : Int) := by
  unfold ref02_digits
  dsimp only
  have := ref_digits_loop pre.length t pre 0 (by omega) h
  rw [show ((0 : Nat) : Int) = 0 from rfl] at this
  rw [this, bs, Nat.zero_add]

/-- Digits alone. -/
theorem digits_loop : ∀ (t pre : List UInt8), pre.length + t.length ≤ 4611686018427387904 → iter rate_digits_loop1 (pre ++ t, ((pre ++ t).length : Int), (pre.length : Int), ()) = some (if t.all dig then .inl (pre ++ t, ()) else .inr false)
  | [], pre, h2 => by
    refine iter_inr ?_
    unfold rate_digits_loop1
    dsimp only
    have c : decide ((pre.length : Int) < (((pre ++ []) : List UInt8).length : Int)) = false := decide_eq_false (by simp)
    simp only [c, Bool.false_eq_true, if_false, List.all_nil, if_true]
  | b :: t, pre, h2 => by
    simp only [List.length_cons] at h2
    have w1 : IntKind.i64.wrap ((pre.length : Int) + 1) = ((pre ++ [b]).length : Int) := by rw [w64' (by omega) (by omega)]; simp
    have c : decide ((pre.length : Int) < (((pre ++ b :: t) : List UInt8).length : Int)) = true := decide_eq_true (by simp; omega)
    by_cases hd : dig b = true
    · have h3 := dig_ge hd
      have e := digits_loop t (pre ++ [b]) (by simp; omega)
      rw [List.append_assoc, List.singleton_append] at e
      refine (iter_inl (s' := (pre ++ b :: t, ((pre ++ b :: t).length : Int), ((pre ++ [b]).length : Int), ())) ?_).trans (e.trans ?_)
      · unfold rate_digits_loop1
        dsimp only
        simp only [gPb, gPm, gPs, gM, gM2, gAnd, gOr, gAndI, gOrI, gAA, gAO, gOA, gOO, gAAf, gAOf, gOAf, gOOf, gAMf, gOMf, gId]
        try simp only [gIn1, gIn2, gIn3, gIn4, gIn5, gIn6, gIn7, gIn8]
        have d1 : decide ((b.toNat : Int) < 48) = false := decide_eq_false (by omega)
        have d2 : decide ((b.toNat : Int) > 57) = false := decide_eq_false (by omega)
        simp only [c, if_true, sAt_mid, bs, ms, d1, d2, Bool.false_eq_true, if_false, w1]
      · simp [hd]
    · refine (iter_inr (t := Sum.inr false) ?_).trans ?_
      · unfold rate_digits_loop1
        dsimp only
        simp only [gPb, gPm, gPs, gM, gM2, gAnd, gOr, gAndI, gOrI, gAA, gAO, gOA, gOO, gAAf, gAOf, gOAf, gOOf, gAMf, gOMf, gId]
        try simp only [gIn1, gIn2, gIn3, gIn4, gIn5, gIn6, gIn7, gIn8]
        simp only [c, if_true, sAt_mid, bs, ms]
        by_cases h48 : b.toNat < 48
        · have d1 : decide ((b.toNat : Int) < 48) = true := decide_eq_true (by omega)
          simp only [d1, if_true, bs]
        · have h57 : ¬ b.toNat ≤ 57 := fun h => hd (by simp [dig, h]; omega)
          have d1 : decide ((b.toNat : Int) < 48) = false := decide_eq_false (by omega)
          have d2 : decide ((b.toNat : Int) > 57) = true := decide_eq_true (by omega)
          simp only [d1, d2, if_true, bs, ms, Bool.false_eq_true, if_false, sAt_mid]
      · simp [hd]
theorem digits_eq (s : List UInt8) (h : s.length ≤ 4611686018427387904) : rate_digits s = some (s.all dig && !(s == [])) := by
  unfold rate_digits
  dsimp only
  have := digits_loop s [] (by simpa using h)
  simp only [List.nil_append, List.length_nil] at this
  rw [show ((0 : Nat) : Int) = 0 from rfl] at this
  rw [this, bs]
  cases hh : s.all dig with
  | true => simp
  | false => simp

/-- A number, at most so much. -/
theorem value_loop {most : Nat} (hm : most ≤ 1000000) : ∀ (t pre : List UInt8) (n : Nat), t.all dig = true → pre.length + t.length ≤ 4611686018427387904 →
    iter rate_value_loop1 (pre ++ t, (most : Int), ((min n (most + 1) : Nat) : Int), ((pre ++ t).length : Int), (pre.length : Int), ()) = some (((min (numF n t) (most + 1) : Nat) : Int), ())
  | [], pre, n, _, h2 => by
    refine iter_inr ?_
    unfold rate_value_loop1
    dsimp only
    have c : decide ((pre.length : Int) < (((pre ++ []) : List UInt8).length : Int)) = false := decide_eq_false (by simp)
    simp only [c, Bool.false_eq_true, if_false]
    rfl
  | b :: t, pre, n, hd, h2 => by
    simp only [List.length_cons] at h2
    simp only [List.all_cons, Bool.and_eq_true] at hd
    have h3 := dig_ge hd.1
    have w1 : IntKind.i64.wrap ((pre.length : Int) + 1) = ((pre ++ [b]).length : Int) := by rw [w64' (by omega) (by omega)]; simp
    have c : decide ((pre.length : Int) < (((pre ++ b :: t) : List UInt8).length : Int)) = true := decide_eq_true (by simp; omega)
    have e := value_loop hm t (pre ++ [b]) (10 * n + (b.toNat - 48)) hd.2 (by simp; omega)
    rw [List.append_assoc, List.singleton_append] at e
    refine (iter_inl (s' := (pre ++ b :: t, (most : Int), ((min (10 * n + (b.toNat - 48)) (most + 1) : Nat) : Int), ((pre ++ b :: t).length : Int), ((pre ++ [b]).length : Int), ())) ?_).trans (e.trans rfl)
    unfold rate_value_loop1
    dsimp only
    have v1 : IntKind.u8.wrap ((b.toNat : Int) - 48) = (b.toNat : Int) - 48 := by unfold IntKind.wrap; simp [IntKind.bits, IntKind.signed]; omega
    have v2 : IntKind.i64.wrap ((b.toNat : Int) - 48) = (b.toNat : Int) - 48 := w64' (by omega) (by omega)
    have v3 : IntKind.i64.wrap (((min n (most + 1) : Nat) : Int) * 10) = ((min n (most + 1) : Nat) : Int) * 10 := w64' (by omega) (by omega)
    have v4 : IntKind.i64.wrap (((min n (most + 1) : Nat) : Int) * 10 + ((b.toNat : Int) - 48)) = ((min n (most + 1) : Nat) : Int) * 10 + ((b.toNat : Int) - 48) := w64' (by omega) (by omega)
    have v5 : IntKind.i64.wrap ((most : Int) + 1) = (most : Int) + 1 := w64' (by omega) (by omega)
    simp only [c, if_true, sAt_mid, bs, v1, v2, v3, w1]
    rw [v4, v5]
    have : min (((min n (most + 1) : Nat) : Int) * 10 + ((b.toNat : Int) - 48)) ((most : Int) + 1) = ((min (10 * n + (b.toNat - 48)) (most + 1) : Nat) : Int) := by omega
    rw [this]
theorem value_eq {most : Nat} (hm : most ≤ 1000000) {s : List UInt8} (hd : s.all dig = true) (h : s.length ≤ 4611686018427387904) : rate_value (s, (most : Int)) = some ((min (numS s) (most + 1) : Nat) : Int) := by
  unfold rate_value
  dsimp only
  have := value_loop hm s [] 0 hd (by simpa using h)
  simp only [List.nil_append, List.length_nil, Nat.zero_min] at this
  rw [show ((0 : Nat) : Int) = 0 from rfl] at this
  rw [this, bs]
  rfl

/-! ### Cutting -/

theorem cutPrefix_eq (s : List UInt8) (c : UInt8) : strings_CutPrefix (s, [c]) = some (if s.head? = some c then (s.tail, true) else (s, false)) := by
  have hp : internal_stringslite_HasPrefix (s, [c]) = some (decide (s.head? = some c)) := by
    unfold internal_stringslite_HasPrefix
    dsimp only
    simp only [gPb, gPm, gPs, gM, gM2, gAnd, gOr, gAndI, gOrI, gAA, gAO, gOA, gOO, gAAf, gAOf, gOAf, gOOf, gAMf, gOMf, gId]
    try simp only [gIn1, gIn2, gIn3, gIn4, gIn5, gIn6, gIn7, gIn8]
    cases s with
    | nil => rfl
    | cons b t =>
      have e : decide ((((b :: t) : List UInt8).length : Int) ≥ (([c] : List UInt8).length : Int)) = true := decide_eq_true (by simp only [List.length_cons, List.length_nil]; omega)
      have l : lSub (b :: t) 0 (([c] : List UInt8).length : Int) = some [b] := by
        have := lSub_nat (xs := b :: t) (i := 0) (j := 1) (by omega) (by simp)
        simpa using this
      simp only [e, if_true, l, bs, ms]
      by_cases hb : b = c
      · subst hb; simp
      · simp [hb]
  unfold strings_CutPrefix internal_stringslite_CutPrefix
  dsimp only
  rw [hp, bs]
  cases s with
  | nil => rfl
  | cons b t =>
    by_cases hb : b = c
    · subst hb
      have l : lSub (b :: t) (([b] : List UInt8).length : Int) (((b :: t) : List UInt8).length : Int) = some t := by
        have := lSub_nat (xs := b :: t) (i := 1) (j := (b :: t).length) (by simp) (by omega)
        simpa using this
      simp only [List.head?_cons, decide_true, Bool.not_true, Bool.false_eq_true, if_false, l, bs, if_true, List.tail_cons]
    · have hc : decide ((b :: t).head? = some c) = false := by simpa using hb
      have hc' : ¬ (b :: t).head? = some c := by simpa using hb
      simp only [hc, Bool.not_false, if_true, bs, if_neg hc']

theorem dropLast_snoc {α : Type} (l : List α) (a : α) : (l ++ [a]).dropLast = l := by simp
theorem cutSuffix_eq (s : List UInt8) (c : UInt8) (h : s.length ≤ 4611686018427387904) : strings_CutSuffix (s, [c]) = some (if s.getLast? = some c then (s.dropLast, true) else (s, false)) := by
  have hp : internal_stringslite_HasSuffix (s, [c]) = some (decide (s.getLast? = some c)) := by
    unfold internal_stringslite_HasSuffix
    dsimp only
    simp only [gPb, gPm, gPs, gM, gM2, gAnd, gOr, gAndI, gOrI, gAA, gAO, gOA, gOO, gAAf, gAOf, gOAf, gOOf, gAMf, gOMf, gId]
    try simp only [gIn1, gIn2, gIn3, gIn4, gIn5, gIn6, gIn7, gIn8]
    rcases List.eq_nil_or_concat s with rfl | ⟨t, b, rfl⟩
    · rfl
    · simp only [List.concat_eq_append] at *
      have hlen : (t ++ [b]).length = t.length + 1 := by simp
      have e : decide ((((t ++ [b]) : List UInt8).length : Int) ≥ (([c] : List UInt8).length : Int)) = true := decide_eq_true (by rw [hlen]; simp only [List.length_cons, List.length_nil]; omega)
      have w : IntKind.i64.wrap ((((t ++ [b]) : List UInt8).length : Int) - (([c] : List UInt8).length : Int)) = (t.length : Int) := by
        simp only [List.length_cons, List.length_nil]
        rw [w64' (by omega) (by omega)]; omega
      have l : lSub (t ++ [b]) (t.length : Int) (((t ++ [b]) : List UInt8).length : Int) = some [b] := by
        rw [lSub_nat (xs := t ++ [b]) (i := t.length) (j := (t ++ [b]).length) (by omega) (by omega), List.take_length]
        simp
      simp only [e, if_true, w, l, bs, ms]
      by_cases hb : b = c
      · subst hb; simp
      · simp [hb]
  unfold strings_CutSuffix internal_stringslite_CutSuffix
  dsimp only
  rw [hp, bs]
  rcases List.eq_nil_or_concat s with rfl | ⟨t, b, rfl⟩
  · rfl
  · simp only [List.concat_eq_append] at *
    by_cases hb : b = c
    · subst hb
      have w : IntKind.i64.wrap ((((t ++ [b]) : List UInt8).length : Int) - (([b] : List UInt8).length : Int)) = (t.length : Int) := by
        rw [w64' (by simp only [List.length_append, List.length_cons, List.length_nil]; omega) (by simp only [List.length_append, List.length_cons, List.length_nil] at *; omega)]; simp
      have l : lSub (t ++ [b]) 0 (t.length : Int) = some t := by
        have := lSub_nat (xs := t ++ [b]) (i := 0) (j := t.length) (by simp) (by simp)
        simpa using this
      have hl : (t ++ [b]).getLast? = some b := by simp
      simp only [hl, decide_true, Bool.not_true, Bool.false_eq_true, if_false, w, l, bs, if_true, dropLast_snoc]
    · have hc' : ¬ (t ++ [b]).getLast? = some c := by simpa using hb
      have hc : decide ((t ++ [b]).getLast? = some c) = false := decide_eq_false hc'
      simp only [hc, Bool.not_false, if_true, bs, if_neg hc']

/-- Where a byte stands first. -/
theorem index_not {l : List UInt8} {c : UInt8} (h : ∀ b ∈ l, b ≠ c) : Lib.indexByte l c = -1 := by
  induction l with
  | nil => rfl
  | cons b t ih =>
    have hb : (b == c) = false := by simpa using h b (by simp)
    simp [Lib.indexByte, hb, ih fun x hx => h x (by simp [hx])]
theorem index_at {l t : List UInt8} {c : UInt8} (h : ∀ b ∈ l, b ≠ c) : Lib.indexByte (l ++ c :: t) c = (l.length : Int) := by
  induction l with
  | nil => simp [Lib.indexByte]
  | cons b u ih =>
    have hb : (b == c) = false := by simpa using h b (by simp)
    have e := ih fun x hx => h x (by simp [hx])
    simp only [List.cons_append, Lib.indexByte, hb, e]
    have : (((u.length : Int)) == -1) = false := by simp
    simp [this]
theorem cut_not {l : List UInt8} {c : UInt8} (h : ∀ b ∈ l, b ≠ c) : strings_Cut (l, [c]) = some (l, [], false) := by
  have hi : internal_stringslite_Index (l, [c]) = some (-1) := congrArg some (index_not h)
  unfold strings_Cut internal_stringslite_Cut
  dsimp only
  rw [hi, bs]
  rfl
theorem cut_at {l t : List UInt8} {c : UInt8} (h : ∀ b ∈ l, b ≠ c) (hl : (l ++ c :: t).length ≤ 4611686018427387904) : strings_Cut (l ++ c :: t, [c]) = some (l, t, true) := by
  have hi : internal_stringslite_Index (l ++ c :: t, [c]) = some (l.length : Int) := congrArg some (index_at h)
  unfold strings_Cut internal_stringslite_Cut
  dsimp only
  rw [hi, bs]
  have e : decide ((l.length : Int) ≥ 0) = true := decide_eq_true (by omega)
  have l1 : lSub (l ++ c :: t) 0 (l.length : Int) = some l := by
    have := lSub_nat (xs := l ++ c :: t) (i := 0) (j := l.length) (by omega) (by simp)
    simpa using this
  have w : IntKind.i64.wrap ((l.length : Int) + (([c] : List UInt8).length : Int)) = ((l.length + 1 : Nat) : Int) := by
    simp only [List.length_append, List.length_cons] at hl
    rw [w64' (by omega) (by simp only [List.length_cons, List.length_nil]; omega)]; simp
  have l2 : lSub (l ++ c :: t) ((l.length + 1 : Nat) : Int) (((l ++ c :: t) : List UInt8).length : Int) = some t := by
    have := lSub_nat (xs := l ++ c :: t) (i := l.length + 1) (j := (l ++ c :: t).length) (by simp) (by omega)
    rw [this, List.take_length]
    simp
  simp only [e, if_true, l1, l2, w, bs]
end WB
namespace WB
open Go Go.RowKit

def padS (E : List UInt8) : List UInt8 := (E ++ [48, 48, 48, 48]).take 4
/-- The number of a text's digits, in millionths. -/
def finS (neg : Bool) (D E : List UInt8) : Int × Int :=
  let n := numS D * 10000 + numS (padS E)
  if n = 0 ∧ neg = true then (0, 3) else if 1000000000 < n then (0, 2) else (if neg then -(n : Int) else (n : Int), 0)
/-- What a text is the rate of, or why there is none (behind its sign). -/
def bodyS (neg : Bool) (r : List UInt8) : Int × Int :=
  let D := r.takeWhile dig
  if D = [] ∨ (1 < D.length ∧ D.head? = some 48) then (0, 3)
  else match r.dropWhile dig with
    | [] => (0, 3)
    | c :: T =>
      if c = 37 then (if T = [] then finS neg D [] else (0, 3))
      else if c = 46 then (if T.takeWhile dig = [] ∨ 4 < (T.takeWhile dig).length ∨ (T.takeWhile dig).getLast? = some 48 ∨ T.dropWhile dig ≠ [37] then (0, 3) else finS neg D (T.takeWhile dig))
      else (0, 3)
def parseS (s : List UInt8) : Int × Int := if s = [] then (0, 10) else if s.head? = some 45 then bodyS true s.tail else bodyS false s

theorem numF_append (n : Nat) (l m : List UInt8) : numF n (l ++ m) = numF (numF n l) m := by simp [numF, List.foldl_append]
theorem numF_le : ∀ (l : List UInt8) (n : Nat), n ≤ numF n l
  | [], n => Nat.le_refl _
  | b :: l, n => by
    have := numF_le l (10 * n + (b.toNat - 48))
    simp only [numF, List.foldl_cons] at this ⊢
    omega
theorem numF_lt : ∀ (l : List UInt8) (n : Nat), l.all dig = true → numF n l < (n + 1) * 10 ^ l.length
  | [], n, _ => by simp [numF]
  | b :: l, n, h => by
    simp only [List.all_cons, Bool.and_eq_true] at h
    have h3 := dig_ge h.1
    have := numF_lt l (10 * n + (b.toNat - 48)) h.2
    simp only [numF, List.foldl_cons, List.length_cons] at this ⊢
    refine Nat.lt_of_lt_of_le this ?_
    rw [Nat.pow_succ, Nat.mul_comm (10 ^ l.length) 10, ← Nat.mul_assoc]
    exact Nat.mul_le_mul_right _ (by omega)
theorem tw_all (l : List UInt8) : (l.takeWhile dig).all dig = true := by
  induction l with
  | nil => rfl
  | cons b l ih =>
    rw [List.takeWhile_cons]
    split
    · rename_i h; simp only [List.all_cons, h, ih, Bool.and_self]
    · rfl
theorem tw_dw (l : List UInt8) : l.takeWhile dig ++ l.dropWhile dig = l := List.takeWhile_append_dropWhile
theorem tw_app {l : List UInt8} (h : l.all dig = true) (m : List UInt8) : (l ++ m).takeWhile dig = l ++ m.takeWhile dig ∧ (l ++ m).dropWhile dig = m.dropWhile dig := by
  induction l with
  | nil => exact ⟨rfl, rfl⟩
  | cons b l ih =>
    simp only [List.all_cons, Bool.and_eq_true] at h
    obtain ⟨i1, i2⟩ := ih h.2
    constructor
    · rw [List.cons_append, List.takeWhile_cons, if_pos h.1, i1]; rfl
    · rw [List.cons_append, List.dropWhile_cons, if_pos h.1, i2]
theorem dw_head {l T : List UInt8} {c : UInt8} (h : l.dropWhile dig = c :: T) : dig c = false := by
  induction l with
  | nil => cases h
  | cons b l ih =>
    rw [List.dropWhile_cons] at h
    split at h
    · exact ih h
    · rename_i hb; cases h; simpa using hb
theorem pad_len (E : List UInt8) : (padS E).length = 4 := by simp [padS]
theorem pad_dig {E : List UInt8} (h : E.all dig = true) : (padS E).all dig = true := by
  rw [List.all_eq_true] at h ⊢
  intro b hb
  have := List.mem_of_mem_take hb
  rw [List.mem_append] at this
  rcases this with h1 | h1
  · exact h b h1
  · simp at h1; subst h1; rfl
theorem pad_lt {E : List UInt8} (h : E.all dig = true) : numS (padS E) < 10000 := by
  have := numF_lt _ 0 (pad_dig h)
  rw [pad_len] at this
  simpa [numS] using this

/-! ### The program -/

theorem prog_fin {neg : Bool} {D E : List UInt8} (hD : D.all dig = true) (hE : E.all dig = true) (hl : D.length ≤ 1000000) (hEl : E.length ≤ 4) (hz : neg = true → ¬ (numS D = 0 ∧ numS (padS E) = 0)) :
    (Option.bind (rate_value (D, 100000)) fun x78 => if E.length + ([48, 48, 48, 48] : List UInt8).length ≤ 4611686018427387904 then
        (lSub (E ++ [48, 48, 48, 48]) 0 4).bind fun x82 => (rate_value (x82, 10000)).bind fun x83 =>
          if decide (IntKind.i64.wrap (IntKind.i64.wrap (x78 * 10000) + x83) > 1000000000) = true then some ((0 : Int), (2 : Int))
          else (if neg = true then some (IntKind.i64.wrap (0 - IntKind.i64.wrap (IntKind.i64.wrap (x78 * 10000) + x83)), ()) else some (IntKind.i64.wrap (IntKind.i64.wrap (x78 * 10000) + x83), ())).bind fun o => some (o.1, 0)
      else none) = some (finS neg D E) := by
  have v1 : rate_value (D, 100000) = some ((min (numS D) 100001 : Nat) : Int) := value_eq (most := 100000) (by omega) hD (by omega)
  have v2 : rate_value (padS E, 10000) = some ((min (numS (padS E)) 10001 : Nat) : Int) := value_eq (most := 10000) (by omega) (pad_dig hE) (by rw [pad_len]; omega)
  have l1 : lSub (E ++ [48, 48, 48, 48]) 0 4 = some (padS E) := by
    have := lSub_nat (xs := E ++ [48, 48, 48, 48]) (i := 0) (j := 4) (by omega) (by simp)
    simpa [padS] using this
  have hp := pad_lt hE
  rw [v1, bs, if_pos (by simp only [List.length_cons, List.length_nil]; omega), l1, bs, v2, bs]
  have e1 : min (numS (padS E)) 10001 = numS (padS E) := by omega
  rw [e1]
  unfold finS
  dsimp only
  generalize numS (padS E) = f at *
  generalize numS D = a at *
  have w1 : IntKind.i64.wrap (((min a 100001 : Nat) : Int) * 10000) = ((min a 100001 : Nat) : Int) * 10000 := w64' (by omega) (by omega)
  have w2 : IntKind.i64.wrap (((min a 100001 : Nat) : Int) * 10000 + (f : Int)) = ((min a 100001 : Nat) : Int) * 10000 + (f : Int) := w64' (by omega) (by omega)
  rw [w1, w2, if_neg (show ¬(a * 10000 + f = 0 ∧ neg = true) from fun h => hz h.2 (by omega))]
  by_cases hb : 1000000000 < a * 10000 + f
  · rw [if_pos hb, if_pos (decide_eq_true (by omega))]
  · rw [if_neg hb, if_neg (by simp; omega)]
    have e2 : min a 100001 = a := by omega
    rw [e2]
    cases neg with
    | true =>
      simp only [if_true, bs]
      rw [w64' (by omega) (by omega)]
      congr 2
      omega
    | false => simp only [Bool.false_eq_true, if_false, bs]; rfl

theorem num_pos {W : List UInt8} (hd : W.all dig = true) (h0 : W ≠ []) (h1 : ¬ (1 < W.length ∧ W.head? = some 48)) (h2 : W ≠ [48]) : 0 < numS W := by
  cases W with
  | nil => exact absurd rfl h0
  | cons b t =>
    simp only [List.all_cons, Bool.and_eq_true] at hd
    have h3 := dig_ge hd.1
    have hb : b ≠ 48 := by
      intro e
      subst e
      cases t with
      | nil => exact h2 rfl
      | cons _ _ => exact h1 ⟨by simp, rfl⟩
    have hb' : b.toNat ≠ 48 := fun e => hb (UInt8.toNat_inj.1 e)
    have := numF_le t (10 * 0 + (b.toNat - 48))
    show 0 < numF 0 (b :: t)
    simp only [numF, List.foldl_cons] at this ⊢
    omega
theorem pad_pos {P : List UInt8} (hd : P.all dig = true) (h0 : P ≠ []) (h4 : P.length ≤ 4) (hl : ¬ P.getLast? = some 48) : 0 < numS (padS P) := by
  rcases List.eq_nil_or_concat P with rfl | ⟨Q, x, rfl⟩
  · exact absurd rfl h0
  · simp only [List.concat_eq_append] at *
    have hx : x ≠ 48 := by simpa using hl
    have hx' : x.toNat ≠ 48 := fun e => hx (UInt8.toNat_inj.1 e)
    have hxd : dig x = true := by simp at hd; exact hd.2
    have h3 := dig_ge hxd
    have e : padS (Q ++ [x]) = (Q ++ [x]) ++ ([48, 48, 48, 48] : List UInt8).take (4 - (Q ++ [x]).length) := by
      unfold padS
      rw [List.take_append, List.take_of_length_le h4]
    unfold numS
    rw [e, numF_append, numF_append]
    have h5 : numF 0 Q ≤ numF 0 Q := Nat.le_refl _
    have h6 := numF_le (([48, 48, 48, 48] : List UInt8).take (4 - (Q ++ [x]).length)) (numF (numF 0 Q) [x])
    have h7 : numF (numF 0 Q) [x] = 10 * numF 0 Q + (x.toNat - 48) := rfl
    omega

/-- Behind the cut. -/
noncomputable def progK (neg : Bool) (W P : List UInt8) (pt : Bool) : Option (Int × Int) :=
  ((rate_digits W).bind fun v => some !v).bind fun x36 =>
    (if x36 = true then some true else if decide ((W.length : Int) > 1) = true then (sAt W 0).bind fun v => some (v == 48) else some false).bind fun x46 =>
      if x46 = true then some ((0 : Int), (3 : Int)) else
        (if pt = true then (rate_digits P).bind fun v => (if (!v) = true then some true else some (decide ((P.length : Int) > 4))).bind fun z => if z = true then some true else (sAt P (IntKind.i64.wrap ((P.length : Int) - 1))).bind fun v => some (v == 48) else some false).bind fun x66 =>
          if x66 = true then some ((0 : Int), (3 : Int)) else
            (if neg = true then some (W == [48]) else some false).bind fun x72 => (if x72 = true then some !pt else some false).bind fun x76 =>
              if x76 = true then some ((0 : Int), (3 : Int)) else
                (rate_value (W, 100000)).bind fun x78 => if P.length + ([48, 48, 48, 48] : List UInt8).length ≤ 4611686018427387904 then
                  (lSub (P ++ [48, 48, 48, 48]) 0 4).bind fun x82 => (rate_value (x82, 10000)).bind fun x83 =>
                    if decide (IntKind.i64.wrap (IntKind.i64.wrap (x78 * 10000) + x83) > 1000000000) = true then some ((0 : Int), (2 : Int))
                    else (if neg = true then some (IntKind.i64.wrap (0 - IntKind.i64.wrap (IntKind.i64.wrap (x78 * 10000) + x83)), ()) else some (IntKind.i64.wrap (IntKind.i64.wrap (x78 * 10000) + x83), ())).bind fun o => some (o.1, 0)
                else none
theorem progK_eq (neg : Bool) (W P : List UInt8) (pt : Bool) (hW : W.length ≤ 3000) (hP : P.length ≤ 3000) (hp : pt = false → P = []) :
    progK neg W P pt = some (if ¬ (W.all dig = true ∧ W ≠ []) ∨ (1 < W.length ∧ W.head? = some 48) ∨ (pt = true ∧ (¬ (P.all dig = true ∧ P ≠ []) ∨ 4 < P.length ∨ P.getLast? = some 48)) then (0, 3) else finS neg W P) := by
  have R1 : (¬ (W.all dig = true ∧ W ≠ []) ∨ (1 < W.length ∧ W.head? = some 48) ∨ (pt = true ∧ (¬ (P.all dig = true ∧ P ≠ []) ∨ 4 < P.length ∨ P.getLast? = some 48))) → (if ¬ (W.all dig = true ∧ W ≠ []) ∨ (1 < W.length ∧ W.head? = some 48) ∨ (pt = true ∧ (¬ (P.all dig = true ∧ P ≠ []) ∨ 4 < P.length ∨ P.getLast? = some 48)) then ((0 : Int), (3 : Int)) else finS neg W P) = (0, 3) := fun h => if_pos h
  have R2 : ¬ (¬ (W.all dig = true ∧ W ≠ []) ∨ (1 < W.length ∧ W.head? = some 48) ∨ (pt = true ∧ (¬ (P.all dig = true ∧ P ≠ []) ∨ 4 < P.length ∨ P.getLast? = some 48))) → (if ¬ (W.all dig = true ∧ W ≠ []) ∨ (1 < W.length ∧ W.head? = some 48) ∨ (pt = true ∧ (¬ (P.all dig = true ∧ P ≠ []) ∨ 4 < P.length ∨ P.getLast? = some 48)) then ((0 : Int), (3 : Int)) else finS neg W P) = finS neg W P := fun h => if_neg h
  unfold progK
  rw [digits_eq W (by omega), bs, bs]
  by_cases h1' : ¬ (W.all dig = true ∧ W ≠ [])
  · have h1 := h1'
    have e : (!(W.all dig && !(W == []))) = true := by
      cases hh : W.all dig with
      | false => rfl
      | true =>
        have : W = [] := Classical.byContradiction fun h => h1 ⟨hh, h⟩
        subst this; rfl
    simp only [e, if_true, bs]
    rw [R1 (.inl h1)]
  have h1 : W.all dig = true ∧ W ≠ [] := Classical.not_not.1 h1'
  have e : (!(W.all dig && !(W == []))) = false := by
    have : (W == []) = false := by simpa using h1.2
    simp [h1.1, this]
  simp only [e, Bool.false_eq_true, if_false]
  by_cases h2 : 1 < W.length ∧ W.head? = some 48
  · rw [R1 (.inr (.inl h2))]
    have c : decide ((W.length : Int) > 1) = true := decide_eq_true (by omega)
    have a : sAt W 0 = some 48 := by
      cases W with
      | nil => exact absurd rfl h1.2
      | cons b t =>
        have hb : b = 48 := by simpa using h2.2
        subst hb
        exact sAt_mid (pre := []) (b := 48)
    simp only [c, if_true, a, bs]
    rfl
  have g2 : (if decide ((W.length : Int) > 1) = true then (sAt W 0).bind fun v => some (v == 48) else some false) = some false := by
    by_cases hl : 1 < W.length
    · have c : decide ((W.length : Int) > 1) = true := decide_eq_true (by omega)
      cases W with
      | nil => exact absurd rfl h1.2
      | cons b t =>
        have hb : b ≠ 48 := fun e => h2 ⟨hl, by rw [e]; rfl⟩
        have hb' : b.toNat ≠ 48 := fun e => hb (UInt8.toNat_inj.1 e)
        have a : sAt (b :: t) 0 = some (b.toNat : Int) := sAt_mid (pre := []) (b := b)
        have z : ((b.toNat : Int) == 48) = false := by simp; omega
        simp only [c, if_true, a, bs, z]
    · have c : decide ((W.length : Int) > 1) = false := decide_eq_false (by omega)
      simp only [c, Bool.false_eq_true, if_false]
  simp only [g2, bs, Bool.false_eq_true, if_false]
  by_cases h3 : pt = true ∧ (¬ (P.all dig = true ∧ P ≠ []) ∨ 4 < P.length ∨ P.getLast? = some 48)
  · rw [R1 (.inr (.inr h3))]
    obtain ⟨hpt, h3⟩ := h3
    subst hpt
    simp only [if_true, digits_eq P (show P.length ≤ 4611686018427387904 by omega), bs]
    by_cases h4 : P.all dig = true ∧ P ≠ []
    · have e : (!(P.all dig && !(P == []))) = false := by
        have : (P == []) = false := by simpa using h4.2
        simp [h4.1, this]
      simp only [e, Bool.false_eq_true, if_false, bs]
      by_cases h5 : 4 < P.length
      · have c : decide ((P.length : Int) > 4) = true := decide_eq_true (by omega)
        simp only [c, if_true, bs]
      · have c : decide ((P.length : Int) > 4) = false := decide_eq_false (by omega)
        have h6 : P.getLast? = some 48 := by
          rcases h3 with h | h | h
          · exact absurd h4 h
          · exact absurd h h5
          · exact h
        have a : sAt P (IntKind.i64.wrap ((P.length : Int) - 1)) = some 48 := by
          rcases List.eq_nil_or_concat P with rfl | ⟨Q, x, rfl⟩
          · exact absurd rfl h4.2
          · simp only [List.concat_eq_append] at *
            have hx : x = 48 := by simpa using h6
            subst hx
            have w : IntKind.i64.wrap ((((Q ++ [48]) : List UInt8).length : Int) - 1) = (Q.length : Int) := by
              simp only [List.length_append, List.length_cons, List.length_nil] at *
              rw [w64' (by omega) (by omega)]; omega
            rw [w]
            exact sAt_mid (b := 48)
        simp only [c, Bool.false_eq_true, if_false, a, bs]
        rfl
    · have e : (!(P.all dig && !(P == []))) = true := by
        cases hh : P.all dig with
        | false => rfl
        | true =>
          have : P = [] := Classical.byContradiction fun h => h4 ⟨hh, h⟩
          subst this; rfl
      simp only [e, if_true, bs]
  rw [R2 (show ¬ (¬ (W.all dig = true ∧ W ≠ []) ∨ (1 < W.length ∧ W.head? = some 48) ∨ (pt = true ∧ (¬ (P.all dig = true ∧ P ≠ []) ∨ 4 < P.length ∨ P.getLast? = some 48))) from fun h => by
    rcases h with h | h | h
    · exact h h1
    · exact h2 h
    · exact h3 h)]
  have g3 : (if pt = true then (rate_digits P).bind fun v => (if (!v) = true then some true else some (decide ((P.length : Int) > 4))).bind fun z => if z = true then some true else (sAt P (IntKind.i64.wrap ((P.length : Int) - 1))).bind fun v => some (v == 48) else some false) = some false := by
    by_cases hpt : pt = true
    · have h4 : P.all dig = true ∧ P ≠ [] := Classical.byContradiction fun h => h3 ⟨hpt, .inl h⟩
      have h5 : ¬ 4 < P.length := fun h => h3 ⟨hpt, .inr (.inl h)⟩
      have h6 : ¬ P.getLast? = some 48 := fun h => h3 ⟨hpt, .inr (.inr h)⟩
      have e : (!(P.all dig && !(P == []))) = false := by
        have : (P == []) = false := by simpa using h4.2
        simp [h4.1, this]
      have c : decide ((P.length : Int) > 4) = false := decide_eq_false (by omega)
      rcases List.eq_nil_or_concat P with rfl | ⟨Q, x, rfl⟩
      · exact absurd rfl h4.2
      · simp only [List.concat_eq_append] at *
        have hx : x ≠ 48 := by simpa using h6
        have hx' : x.toNat ≠ 48 := fun e => hx (UInt8.toNat_inj.1 e)
        have w : IntKind.i64.wrap ((((Q ++ [x]) : List UInt8).length : Int) - 1) = (Q.length : Int) := by
          simp only [List.length_append, List.length_cons, List.length_nil] at *
          rw [w64' (by omega) (by omega)]; omega
        have z : ((x.toNat : Int) == 48) = false := by simp; omega
        simp only [if_pos hpt, digits_eq (Q ++ [x]) (show (Q ++ [x]).length ≤ 4611686018427387904 by omega), bs, e, Bool.false_eq_true, if_false, c, w, sAt_mid, z]
    · rw [if_neg hpt]
  simp only [g3, bs, Bool.false_eq_true, if_false]
  have hPd : P.all dig = true ∧ P.length ≤ 4 := by
    by_cases hpt : pt = true
    · have h4 : P.all dig = true ∧ P ≠ [] := Classical.byContradiction fun h => h3 ⟨hpt, .inl h⟩
      exact ⟨h4.1, Nat.le_of_not_lt fun h => h3 ⟨hpt, .inr (.inl h)⟩⟩
    · have := hp (by simpa using hpt); subst this; simp
  by_cases h7 : neg = true ∧ W = [48] ∧ pt = false
  · obtain ⟨hn, hw, hpt⟩ := h7
    have := hp hpt
    subst hn; subst hw; subst hpt; subst this
    have k1 : (([48] : List UInt8) == [48]) = true := rfl
    have k2 : numS [48] = 0 := by decide
    have k3 : numS (padS []) = 0 := by decide
    simp only [k1, if_true, bs, Bool.not_false, finS, k2, k3, Nat.zero_mul, Nat.add_zero, and_self]
  · have g4 : (Option.bind (if neg = true then some (W == [48]) else some false) fun x72 => (if x72 = true then some !pt else some false)) = some false := by
      cases neg with
      | false => rfl
      | true =>
        by_cases hw : W = [48]
        · have hpt : pt = true := by
            cases pt with
            | true => rfl
            | false => exact absurd ⟨rfl, hw, rfl⟩ h7
          subst hw; subst hpt; rfl
        · have : (W == [48]) = false := by simpa using hw
          simp [this]
    rw [← gBb, g4, bs, if_neg (by decide)]
    exact prog_fin h1.1 hPd.1 (by omega) hPd.2 fun hn hz => by
      by_cases hpt : pt = true
      · have h4 : P.all dig = true ∧ P ≠ [] := Classical.byContradiction fun h => h3 ⟨hpt, .inl h⟩
        have := pad_pos hPd.1 h4.2 hPd.2 (fun h => h3 ⟨hpt, .inr (.inr h)⟩)
        omega
      · have hw : W ≠ [48] := fun hw => h7 ⟨hn, hw, by simpa using hpt⟩
        have := num_pos h1.1 h1.2 h2 hw
        omega
end WB
namespace WB
open Go Go.RowKit

/-- A text up to its first point, and what stands behind it. -/
theorem point_split (b : List UInt8) : (∀ x ∈ b, x ≠ 46) ∨ ∃ W P, b = W ++ 46 :: P ∧ ∀ x ∈ W, x ≠ 46 := by
  induction b with
  | nil => exact .inl (by simp)
  | cons x b ih =>
    by_cases hx : x = 46
    · subst hx; exact .inr ⟨[], b, rfl, by simp⟩
    · rcases ih with h | ⟨W, P, rfl, h⟩
      · refine .inl fun y hy => ?_
        rcases List.mem_cons.1 hy with rfl | hy
        · exact hx
        · exact h y hy
      · refine .inr ⟨x :: W, P, rfl, fun y hy => ?_⟩
        rcases List.mem_cons.1 hy with rfl | hy
        · exact hx
        · exact h y hy

theorem dw_snoc (l : List UInt8) : ((l ++ [37]).dropWhile dig) = (l.dropWhile dig) ++ [37] ∧ (l ++ [37]).takeWhile dig = l.takeWhile dig := by
  induction l with
  | nil => exact ⟨rfl, rfl⟩
  | cons b l ih =>
    simp only [List.cons_append, List.dropWhile_cons, List.takeWhile_cons]
    by_cases hb : dig b = true
    · simp only [hb, if_true, ih.1, ih.2, and_self]
    · simp only [hb, Bool.false_eq_true, if_false, List.cons_append, and_self]
theorem dw_nil {l : List UInt8} : l.dropWhile dig = [] ↔ l.all dig = true := by
  induction l with
  | nil => simp
  | cons b l ih =>
    rw [List.dropWhile_cons, List.all_cons]
    by_cases hb : dig b = true
    · simp only [hb, if_true, Bool.true_and]; exact ih
    · simp [hb]
theorem tw_self {l : List UInt8} (h : l.all dig = true) : l.takeWhile dig = l := by
  have := (tw_app h []).1
  simpa using this

theorem last37 (X : List UInt8) : (X ++ [37]).getLast? = some 37 := by simp
theorem body_bad {neg : Bool} {r : List UInt8} (h : ¬ r.getLast? = some 37) : bodyS neg r = (0, 3) := by
  unfold bodyS
  dsimp only
  split
  · rfl
  · split
    · rfl
    · rename_i c T hc
      have hr := tw_dw r
      rw [hc] at hr
      by_cases h37 : c = 37
      · rw [if_pos h37]
        by_cases hT : T = []
        · exfalso
          subst hT; subst h37
          exact h (by rw [← hr]; simp)
        · rw [if_neg hT]
      · rw [if_neg h37]
        by_cases h46 : c = 46
        · rw [if_pos h46]
          by_cases hd : T.dropWhile dig = [37]
          · exfalso
            have ht := tw_dw T
            rw [hd] at ht
            have hx : r = (r.takeWhile dig ++ c :: T.takeWhile dig) ++ [37] := by rw [List.append_assoc, List.cons_append, ht, hr]
            exact h (by rw [hx]; exact last37 _)
          · rw [if_pos (.inr (.inr (.inr hd)))]
        · rw [if_neg h46]

/-- Without a point. -/
theorem body_whole (neg : Bool) {b : List UInt8} (h : ∀ x ∈ b, x ≠ 46) : (if ¬ (b.all dig = true ∧ b ≠ []) ∨ (1 < b.length ∧ b.head? = some 48) then ((0 : Int), (3 : Int)) else finS neg b []) = bodyS neg (b ++ [37]) := by
  obtain ⟨e1, e2⟩ := dw_snoc b
  unfold bodyS
  rw [e1, e2]
  dsimp only
  by_cases hd : b.all dig = true
  · rw [tw_self hd, dw_nil.2 hd, List.nil_append]
    dsimp only
    rw [if_pos rfl, if_pos rfl]
    by_cases h0 : b = []
    · subst h0; rfl
    · by_cases h1 : 1 < b.length ∧ b.head? = some 48
      · rw [if_pos (.inr h1), if_pos (.inr h1)]
      · rw [if_neg (fun k => by rcases k with k | k; exact k ⟨hd, h0⟩; exact h1 k), if_neg (fun k => by rcases k with k | k; exact h0 k; exact h1 k)]
  · rw [if_pos (.inl fun k => hd k.1)]
    split
    · rfl
    · rename_i hn
      have hne : b.dropWhile dig ≠ [] := fun k => hd (dw_nil.1 k)
      cases hc : b.dropWhile dig with
      | nil => exact absurd hc hne
      | cons c T =>
        rw [List.cons_append]
        dsimp only
        have hm : c ∈ b := by
          have := tw_dw b
          rw [hc] at this
          rw [← this]; simp
        rw [if_neg (h c hm)]
        by_cases h37 : c = 37
        · rw [if_pos h37, if_neg (by simp)]
        · rw [if_neg h37]
/-- With a point. -/
theorem body_point (neg : Bool) {W P : List UInt8} (h : ∀ x ∈ W, x ≠ 46) : (if ¬ (W.all dig = true ∧ W ≠ []) ∨ (1 < W.length ∧ W.head? = some 48) ∨ ((true = true) ∧ (¬ (P.all dig = true ∧ P ≠ []) ∨ 4 < P.length ∨ P.getLast? = some 48)) then ((0 : Int), (3 : Int)) else finS neg W P) = bodyS neg (W ++ 46 :: P ++ [37]) := by
  rw [List.append_assoc, List.cons_append]
  unfold bodyS
  dsimp only
  by_cases hd : W.all dig = true
  · obtain ⟨e1, e2⟩ := tw_app hd (46 :: (P ++ [37]))
    have e3 : (46 :: (P ++ [37])).takeWhile dig = [] := rfl
    have e4 : (46 :: (P ++ [37])).dropWhile dig = 46 :: (P ++ [37]) := rfl
    rw [e1, e2, e3, e4, List.append_nil]
    dsimp only
    rw [if_neg (show ¬ (46 : UInt8) = 37 by decide), if_pos rfl]
    obtain ⟨e5, e6⟩ := dw_snoc P
    rw [e5, e6]
    by_cases h0 : W = []
    · rw [if_pos (.inl fun k => k.2 h0), if_pos (.inl h0)]
    by_cases h1 : 1 < W.length ∧ W.head? = some 48
    · rw [if_pos (.inr (.inl h1)), if_pos (.inr h1)]
    rw [if_neg (show ¬ (W = [] ∨ (1 < W.length ∧ W.head? = some 48)) from fun k => by rcases k with k | k; exact h0 k; exact h1 k)]
    by_cases hp : P.all dig = true
    · rw [tw_self hp, dw_nil.2 hp, List.nil_append]
      by_cases hq : P = [] ∨ 4 < P.length ∨ P.getLast? = some 48
      · have c2 : P = [] ∨ 4 < P.length ∨ P.getLast? = some 48 ∨ ([37] : List UInt8) ≠ [37] := by
          rcases hq with k | k | k
          · exact .inl k
          · exact .inr (.inl k)
          · exact .inr (.inr (.inl k))
        have c1 : ¬ (P.all dig = true ∧ P ≠ []) ∨ 4 < P.length ∨ P.getLast? = some 48 := by
          rcases hq with k | k | k
          · exact .inl fun q => q.2 k
          · exact .inr (.inl k)
          · exact .inr (.inr k)
        rw [if_pos (.inr (.inr ⟨rfl, c1⟩)), if_pos c2]
      · rw [if_neg, if_neg]
        · intro k
          rcases k with k | k | k | k
          · exact hq (.inl k)
          · exact hq (.inr (.inl k))
          · exact hq (.inr (.inr k))
          · exact k rfl
        · intro k
          rcases k with k | k | ⟨_, k | k | k⟩
          · exact k ⟨hd, h0⟩
          · exact h1 k
          · exact k ⟨hp, fun q => hq (.inl q)⟩
          · exact hq (.inr (.inl k))
          · exact hq (.inr (.inr k))
    · rw [if_pos (.inr (.inr ⟨rfl, .inl fun k => hp k.1⟩)), if_pos]
      refine .inr (.inr (.inr fun k => hp (dw_nil.1 ?_)))
      cases hc : P.dropWhile dig with
      | nil => rfl
      | cons c T => rw [hc] at k; simp at k
  · rw [if_pos (.inl fun k => hd k.1)]
    have hne : W.dropWhile dig ≠ [] := fun k => hd (dw_nil.1 k)
    cases hc : W.dropWhile dig with
    | nil => exact absurd hc hne
    | cons c T =>
      have hw := tw_dw W
      rw [hc] at hw
      have hcd := dw_head hc
      have hm : c ∈ W := by rw [← hw]; simp
      have e : W ++ 46 :: (P ++ [37]) = W.takeWhile dig ++ (c :: (T ++ 46 :: (P ++ [37]))) := by
        have := congrArg (· ++ 46 :: (P ++ [37])) hw.symm
        simpa [List.append_assoc] using this
      obtain ⟨e1, e2⟩ := tw_app (tw_all W) (c :: (T ++ 46 :: (P ++ [37])))
      have e3 : (c :: (T ++ 46 :: (P ++ [37]))).takeWhile dig = [] := by rw [List.takeWhile_cons, if_neg (by simp [hcd])]
      have e4 : (c :: (T ++ 46 :: (P ++ [37]))).dropWhile dig = c :: (T ++ 46 :: (P ++ [37])) := by rw [List.dropWhile_cons, if_neg (by simp [hcd])]
      rw [e, e1, e2, e3, e4, List.append_nil]
      split
      · rfl
      · dsimp only
        rw [if_neg (h c hm)]
        by_cases h37 : c = 37
        · rw [if_pos h37, if_neg (by simp)]
        · rw [if_neg h37]

theorem prog_body (neg : Bool) (r : List UInt8) (hr : r.length ≤ 3000) :
    (Option.bind (strings_CutSuffix (r, [37])) fun x20 => (strings_Cut (x20.1, [46])).bind fun x25 => if x20.2 = true then progK neg x25.1 x25.2.1 x25.2.2 else some ((0 : Int), (3 : Int))) = some (bodyS neg r) := by
  rw [cutSuffix_eq _ _ (by omega), bs]
  by_cases hl : r.getLast? = some 37
  · rw [if_pos hl]
    obtain ⟨b, rfl⟩ : ∃ b, r = b ++ [37] := by
      rcases List.eq_nil_or_concat r with rfl | ⟨t, x, rfl⟩
      · cases hl
      · simp only [List.concat_eq_append] at hl ⊢
        simp at hl; subst hl; exact ⟨t, rfl⟩
    rw [dropLast_snoc]
    simp only [List.length_append, List.length_cons, List.length_nil] at hr
    dsimp only
    simp only [if_true]
    rcases point_split b with h | ⟨W, P, rfl, h⟩
    · rw [cut_not h, bs]
      dsimp only
      rw [progK_eq neg b [] false (by omega) (by simp) (fun _ => rfl), ← body_whole neg h]
      congr 1
      by_cases hc : ¬ (b.all dig = true ∧ b ≠ []) ∨ (1 < b.length ∧ b.head? = some 48)
      · rw [if_pos hc, if_pos]
        rcases hc with k | k
        · exact .inl k
        · exact .inr (.inl k)
      · rw [if_neg hc, if_neg]
        intro k
        rcases k with k | k | k
        · exact hc (.inl k)
        · exact hc (.inr k)
        · cases k.1
    · simp only [List.length_append, List.length_cons] at hr
      rw [cut_at h (by simp only [List.length_append, List.length_cons]; omega), bs]
      dsimp only
      rw [progK_eq neg W P true (by omega) (by omega) (fun k => by cases k), body_point neg h]
  · rw [if_neg hl, body_bad hl]
    dsimp only
    obtain ⟨y, hy⟩ : ∃ y, strings_Cut (r, [46]) = some y := by
      rcases point_split r with h | ⟨W, P, rfl, h⟩
      · exact ⟨_, cut_not h⟩
      · exact ⟨_, cut_at h (by omega)⟩
    rw [hy, bs]
    rfl

theorem rate_Parse_eq (s : List UInt8) (h : s.length ≤ 3000) : rate_Parse s = some (parseS s) := by
  unfold rate_Parse parseS
  dsimp only
  simp only [gPb, gPm, gPs, gM, gM2, gAnd, gOr, gAndI, gOrI, gAA, gAO, gOA, gOO, gAAf, gAOf, gOAf, gOOf, gAMf, gOMf, gId]
  simp only [gIn1, gIn2, gIn3, gIn4, gIn5, gIn6, gIn7, gIn8, gId, gIdF, gMb, gMm, gBm, gBb, bs, ms]
  by_cases h0 : s = []
  · subst h0; rfl
  have e0 : (s == []) = false := by simpa using h0
  rw [if_neg h0]
  simp only [e0, Bool.false_eq_true, if_false]
  rw [cutPrefix_eq, bs]
  have key : ∀ (neg : Bool) (r : List UInt8), r.length ≤ 3000 → (Option.bind (strings_CutSuffix (r, [37])) fun x20 => (strings_Cut (x20.1, [46])).bind fun x25 => if x20.2 = true then progK neg x25.1 x25.2.1 x25.2.2 else some ((0 : Int), (3 : Int))) = some (bodyS neg r) := prog_body
  by_cases hh : s.head? = some 45
  · rw [if_pos hh, if_pos hh, ← key true s.tail (by simp; omega)]
    congr 1
    funext x20
    congr 1
    funext x25
    obtain ⟨r, ok⟩ := x20
    cases ok
    · simp only [Bool.not_false, if_true, bs, Bool.false_eq_true, if_false]
    · simp only [Bool.not_true, if_true, Bool.false_eq_true, if_false]
      rfl
  · rw [if_neg hh, if_neg hh, ← key false s h]
    congr 1
    funext x20
    congr 1
    funext x25
    obtain ⟨r, ok⟩ := x20
    cases ok
    · simp only [Bool.not_false, if_true, bs, Bool.false_eq_true, if_false]
    · simp only [Bool.not_true, if_true, Bool.false_eq_true, if_false]
      rfl
end WB
namespace WB
open Go Go.RowKit

theorem u64w {n : Int} (h1 : 0 ≤ n) (h2 : n ≤ 18446744073709551615) : IntKind.u64.wrap n = n := by
  unfold IntKind.wrap
  simp [IntKind.bits, IntKind.signed]
  omega
/-- A number as the document goes on with it: it stops where it is great. -/
def capF (n : Nat) : List UInt8 → Nat
  | [] => n
  | b :: l => capF (if n < 1000000 then 10 * n + (b.toNat - 48) else n) l
theorem capF_ok : ∀ {l : List UInt8} {n m : Nat}, l.all dig = true → n < 10000000 → (n = m ∨ (1000000 ≤ n ∧ 1000000 ≤ m)) → capF n l < 10000000 ∧ (capF n l = numF m l ∨ (1000000 ≤ capF n l ∧ 1000000 ≤ numF m l))
  | [], n, m, _, h, k => ⟨h, k⟩
  | b :: l, n, m, hd, h, k => by
    simp only [List.all_cons, Bool.and_eq_true] at hd
    have h3 := dig_ge hd.1
    have e : numF m (b :: l) = numF (10 * m + (b.toNat - 48)) l := rfl
    rw [e]
    unfold capF
    by_cases hn : n < 1000000
    · rw [if_pos hn]
      have hm : n = m := by omega
      subst hm
      exact capF_ok hd.2 (by omega) (.inl rfl)
    · rw [if_neg hn]
      refine capF_ok hd.2 h (.inr ?_)
      omega
theorem ref_loop2 (at_ whole few : Nat) (post : List UInt8) : ∀ (t pre : List UInt8) (n : Nat), t.all dig = true → n < 10000000 → pre.length + t.length = at_ + whole → at_ + whole + post.length ≤ 1000000 →
    iter ref02_Parse_loop2 (pre ++ (t ++ post), (at_ : Int), (whole : Int), (few : Int), (n : Int), (pre.length : Int), ()) = some (pre ++ (t ++ post), (at_ : Int), (whole : Int), (few : Int), ((capF n t : Nat) : Int), ())
  | [], pre, n, _, _, h1, h2 => by
    refine iter_inr ?_
    unfold ref02_Parse_loop2
    dsimp only
    have w : IntKind.i64.wrap ((at_ : Int) + (whole : Int)) = ((at_ + whole : Nat) : Int) := by rw [w64' (by omega) (by omega)]; rfl
    have c : decide ((pre.length : Int) < ((at_ + whole : Nat) : Int)) = false := decide_eq_false (by simp at h1; omega)
    simp only [w, c, Bool.false_eq_true, if_false]
    rfl
  | b :: t, pre, n, hd, hn, h1, h2 => by
    simp only [List.all_cons, Bool.and_eq_true] at hd
    simp only [List.length_cons] at h1
    have h3 := dig_ge hd.1
    have w : IntKind.i64.wrap ((at_ : Int) + (whole : Int)) = ((at_ + whole : Nat) : Int) := by rw [w64' (by omega) (by omega)]; rfl
    have c : decide ((pre.length : Int) < ((at_ + whole : Nat) : Int)) = true := decide_eq_true (by omega)
    have w1 : IntKind.i64.wrap ((pre.length : Int) + 1) = ((pre ++ [b]).length : Int) := by rw [w64' (by omega) (by omega)]; simp
    have e := ref_loop2 at_ whole few post t (pre ++ [b]) (if n < 1000000 then 10 * n + (b.toNat - 48) else n) hd.2 (by split <;> omega) (by simp; omega) h2
    rw [List.append_assoc, List.singleton_append] at e
    refine (iter_inl (s' := (pre ++ (b :: t ++ post), (at_ : Int), (whole : Int), (few : Int), (((if n < 1000000 then 10 * n + (b.toNat - 48) else n : Nat)) : Int), ((pre ++ [b]).length : Int), ())) ?_).trans e
    unfold ref02_Parse_loop2
    dsimp only
    have sa : sAt (pre ++ (b :: t ++ post)) (pre.length : Int) = some (b.toNat : Int) := sAt_mid (t := t ++ post)
    by_cases hlt : n < 1000000
    · have c2 : decide ((n : Int) < 1000000) = true := decide_eq_true (by omega)
      have v1 : IntKind.u64.wrap (10 * (n : Int)) = 10 * (n : Int) := u64w (by omega) (by omega)
      have v2 : IntKind.u64.wrap (b.toNat : Int) = (b.toNat : Int) := u64w (by omega) (by omega)
      have v3 : IntKind.u64.wrap (10 * (n : Int) + (b.toNat : Int)) = 10 * (n : Int) + (b.toNat : Int) := u64w (by omega) (by omega)
      have v4 : IntKind.u64.wrap (10 * (n : Int) + (b.toNat : Int) - 48) = ((10 * n + (b.toNat - 48) : Nat) : Int) := by rw [u64w (by omega) (by omega)]; omega
      simp only [w, c, if_true, c2, sa, bs, v1, v2, v3, v4, w1, if_pos hlt]
    · have c2 : decide ((n : Int) < 1000000) = false := decide_eq_false (by omega)
      simp only [w, c, if_true, c2, Bool.false_eq_true, if_false, bs, w1, if_neg hlt]

/-- Digits behind the point, by a scale. -/
def fracF (scale : Nat) : List UInt8 → Nat
  | [] => 0
  | b :: l => scale * (b.toNat - 48) + fracF (scale / 10) l
theorem ref_loop1 (at_ whole few : Nat) (post : List UInt8) : ∀ (t pre : List UInt8) (n scale : Nat), t.all dig = true → n ≤ 1000000000000 → t.length ≤ 4 → scale ≤ 1000 → pre.length + t.length = at_ + whole + 1 + few → at_ + whole + 1 + few + post.length ≤ 1000000 → n + 10000 * t.length ≤ 1000000000000 →
    iter ref02_Parse_loop1 (pre ++ (t ++ post), (at_ : Int), (whole : Int), (few : Int), (n : Int), (scale : Int), (pre.length : Int), ()) = some ((at_ : Int), ((n + fracF scale t : Nat) : Int), ())
  | [], pre, n, scale, _, _, _, _, h1, h2, _ => by
    refine iter_inr ?_
    unfold ref02_Parse_loop1
    dsimp only
    have w : IntKind.i64.wrap (IntKind.i64.wrap (IntKind.i64.wrap ((at_ : Int) + (whole : Int)) + 1) + (few : Int)) = ((at_ + whole + 1 + few : Nat) : Int) := by
      rw [w64' (n := (at_ : Int) + (whole : Int)) (by omega) (by omega), w64' (n := (at_ : Int) + (whole : Int) + 1) (by omega) (by omega), w64' (by omega) (by omega)]; rfl
    have c : decide ((pre.length : Int) < ((at_ + whole + 1 + few : Nat) : Int)) = false := decide_eq_false (by simp at h1; omega)
    simp only [w, c, Bool.false_eq_true, if_false]
    rfl
  | b :: t, pre, n, scale, hd, hn, hl, hs, h1, h2, h4 => by
    simp only [List.all_cons, Bool.and_eq_true] at hd
    simp only [List.length_cons] at h1 hl h4
    have h3 := dig_ge hd.1
    have w : IntKind.i64.wrap (IntKind.i64.wrap (IntKind.i64.wrap ((at_ : Int) + (whole : Int)) + 1) + (few : Int)) = ((at_ + whole + 1 + few : Nat) : Int) := by
      rw [w64' (n := (at_ : Int) + (whole : Int)) (by omega) (by omega), w64' (n := (at_ : Int) + (whole : Int) + 1) (by omega) (by omega), w64' (by omega) (by omega)]; rfl
    have c : decide ((pre.length : Int) < ((at_ + whole + 1 + few : Nat) : Int)) = true := decide_eq_true (by omega)
    have w1 : IntKind.i64.wrap ((pre.length : Int) + 1) = ((pre ++ [b]).length : Int) := by rw [w64' (by omega) (by omega)]; simp
    have hm : scale * (b.toNat - 48) ≤ 1000 * 9 := Nat.mul_le_mul hs (by omega)
    have e := ref_loop1 at_ whole few post t (pre ++ [b]) (n + scale * (b.toNat - 48)) (scale / 10) hd.2 (by omega) (by omega) (by omega) (by simp; omega) h2 (by omega)
    rw [List.append_assoc, List.singleton_append] at e
    refine (iter_inl (s' := (pre ++ (b :: t ++ post), (at_ : Int), (whole : Int), (few : Int), ((n + scale * (b.toNat - 48) : Nat) : Int), ((scale / 10 : Nat) : Int), ((pre ++ [b]).length : Int), ())) ?_).trans (e.trans ?_)
    · unfold ref02_Parse_loop1
      dsimp only
      have sa : sAt (pre ++ (b :: t ++ post)) (pre.length : Int) = some (b.toNat : Int) := sAt_mid (t := t ++ post)
      have v2 : IntKind.u64.wrap (b.toNat : Int) = (b.toNat : Int) := u64w (by omega) (by omega)
      have v3 : IntKind.u64.wrap ((b.toNat : Int) - 48) = ((b.toNat - 48 : Nat) : Int) := by rw [u64w (by omega) (by omega)]; omega
      have v4 : IntKind.u64.wrap ((scale : Int) * ((b.toNat - 48 : Nat) : Int)) = ((scale * (b.toNat - 48) : Nat) : Int) := by
        rw [← Int.natCast_mul]; exact u64w (by omega) (by omega)
      have v5 : IntKind.u64.wrap ((n : Int) + ((scale * (b.toNat - 48) : Nat) : Int)) = ((n + scale * (b.toNat - 48) : Nat) : Int) := by
        rw [← Int.natCast_add]; exact u64w (by omega) (by omega)
      have v6 : (if (10 : Int) = 0 then none else some (IntKind.u64.wrap ((scale : Int).tdiv 10))) = some ((scale / 10 : Nat) : Int) := by
        rw [if_neg (by omega), Int.tdiv_eq_ediv_of_nonneg (by omega)]
        have : (scale : Int) / 10 = ((scale / 10 : Nat) : Int) := by omega
        rw [this, u64w (by omega) (by omega)]
      simp only [w, c, if_true, sa, bs, v2, v3, v4, v5, v6, w1]
    · have e2 : fracF scale (b :: t) = scale * (b.toNat - 48) + fracF (scale / 10) t := rfl
      rw [e2, Nat.add_assoc]
theorem frac_pad : ∀ {E : List UInt8}, E.length ≤ 4 → fracF 1000 E = numS (padS E)
  | [], _ => by decide
  | [a], _ => by simp [fracF, padS, numS, numF]; omega
  | [a, b], _ => by simp [fracF, padS, numS, numF]; omega
  | [a, b, c], _ => by simp [fracF, padS, numS, numF]; omega
  | [a, b, c, d], _ => by simp [fracF, padS, numS, numF]; omega
  | _ :: _ :: _ :: _ :: _ :: _, h => by simp at h

/-- The document's end: the number, and what is wrong with it. -/
theorem ref_fin {a : Nat} (ha : a ≤ 1) {D E : List UInt8} (hD : D.all dig = true) (hE : E.length ≤ 4) (hEd : E.all dig = true) {K : Int → Int → Option (Int × Int)} (hK : ∀ x y, K x y = (if (y == 0) = true then some (x == 1) else some false).bind fun x128 =>
      if x128 = true then some (0, 3) else if decide (y > 1000000000) = true then some (0, 2) else if (x == 1) = true then some (IntKind.i64.wrap (0 - IntKind.i64.wrap y), 0) else some (IntKind.i64.wrap y, 0)) :
    K (a : Int) ((10000 * capF 0 D + fracF 1000 E : Nat) : Int) = some (finS (decide (a = 1)) D E) := by
  obtain ⟨h1, h2⟩ := capF_ok (n := 0) (m := 0) hD (by omega) (.inl rfl)
  rw [hK, frac_pad hE]
  unfold finS
  dsimp only
  have hp := pad_lt hEd
  have e : numS D = numF 0 D := rfl
  rw [e]
  generalize numF 0 D = m at *
  generalize capF 0 D = n at *
  generalize numS (padS E) = f at *
  have hf : (10000 * n + f = m * 10000 + f) ∨ (1000000000 < 10000 * n + f ∧ 1000000000 < m * 10000 + f) := by omega
  generalize 10000 * n + f = u at *
  generalize hv : m * 10000 + f = v at *
  by_cases h0 : u = 0
  · have hv0 : v = 0 := by omega
    subst h0; rw [hv0]
    match a, ha with
    | 0, _ => rfl
    | 1, _ => rfl
  · have z : ((u : Int) == 0) = false := by simpa using h0
    have hv0 : ¬ (v = 0 ∧ decide (a = 1) = true) := by omega
    rw [if_neg hv0]
    simp only [z, Bool.false_eq_true, if_false, bs]
    by_cases hb : 1000000000 < u
    · rw [if_pos (decide_eq_true (by omega)), if_pos (by omega)]
    · have huv : u = v := by omega
      subst huv
      rw [if_neg (by simp; omega), if_neg hb, w64' (n := (u : Int)) (by omega) (by omega)]
      match a, ha with
      | 0, _ => rfl
      | 1, _ =>
        show some (IntKind.i64.wrap (0 - (u : Int)), (0 : Int)) = some (-(u : Int), 0)
        rw [w64' (by omega) (by omega), Int.zero_sub]

theorem ref_tail {X Y : List UInt8} (h : X.length + Y.length ≤ 1000000) : (if ((X.length : Int) != IntKind.i64.wrap ((((X ++ Y) : List UInt8).length : Int) - 1)) = true then some true else (sAt (X ++ Y) (X.length : Int)).bind fun v => some (v != 37)) = some (decide (Y ≠ [37])) := by
  have hl : (((X ++ Y) : List UInt8).length : Int) = (X.length : Int) + (Y.length : Int) := by simp
  rw [hl, w64' (by omega) (by omega)]
  cases Y with
  | nil =>
    have : ((X.length : Int) != (X.length : Int) + (([] : List UInt8).length : Int) - 1) = true := by simp; omega
    rw [if_pos this]; rfl
  | cons y Z =>
    cases Z with
    | nil =>
      have : ((X.length : Int) != (X.length : Int) + (([y] : List UInt8).length : Int) - 1) = false := by simp
      rw [this, if_neg (by decide), sAt_mid, bs]
      by_cases hy : y = 37
      · subst hy; rfl
      · have hy' : y.toNat ≠ 37 := fun e => hy (UInt8.toNat_inj.1 e)
        have z : ((y.toNat : Int) != 37) = true := by simp; omega
        rw [z]
        simp [hy]
    | cons z Z =>
      have : ((X.length : Int) != (X.length : Int) + (((y :: z :: Z) : List UInt8).length : Int) - 1) = true := by simp; omega
      rw [if_pos this]
      simp
theorem ref_body {pre r : List UInt8} (hpre : pre.length ≤ 1) (hr : r.length ≤ 3000) :
    ((ref02_digits (pre ++ r, (pre.length : Int))).bind fun x19 =>
      (if (x19 == 0) = true then some true else if decide (x19 > 1) = true then (sAt (pre ++ r) (pre.length : Int)).bind fun v => some (v == 48) else some false).bind fun x31 =>
        if x31 = true then some ((0 : Int), (3 : Int)) else
          (if decide (IntKind.i64.wrap ((pre.length : Int) + x19) < ((pre ++ r).length : Int)) = true then (sAt (pre ++ r) (IntKind.i64.wrap ((pre.length : Int) + x19))).bind fun v => some (v == 46) else some false).bind fun v =>
            (if v = true then (ref02_digits (pre ++ r, IntKind.i64.wrap (IntKind.i64.wrap ((pre.length : Int) + x19) + 1))).bind fun x48 =>
                (if (x48 == 0) = true then some true else some (decide (x48 > 4))).bind fun x54 =>
                  (if x54 = true then some true else (sAt (pre ++ r) (IntKind.i64.wrap (IntKind.i64.wrap ((pre.length : Int) + x19) + x48))).bind fun v => some (v == 48)).bind fun x62 =>
                    if x62 = true then some (Sum.inr ((0 : Int), (3 : Int))) else some (Sum.inl (pre ++ r, (pre.length : Int), x19, IntKind.i64.wrap (IntKind.i64.wrap (IntKind.i64.wrap ((pre.length : Int) + x19) + 1) + x48), x48, ()))
              else some (Sum.inl (pre ++ r, (pre.length : Int), x19, IntKind.i64.wrap ((pre.length : Int) + x19), 0, ()))).bind fun o => match o with
              | Sum.inl p184 =>
                (if (p184.2.2.2.1 != IntKind.i64.wrap ((p184.1.length : Int) - 1)) = true then some true else (sAt p184.1 p184.2.2.2.1).bind fun v => some (v != 37)).bind fun x77 =>
                  if x77 = true then some (0, 3) else
                    (iter ref02_Parse_loop2 (p184.1, p184.2.1, p184.2.2.1, p184.2.2.2.2.1, 0, p184.2.1, ())).bind fun o =>
                      (iter ref02_Parse_loop1 (o.1, o.2.1, o.2.2.1, o.2.2.2.1, IntKind.u64.wrap (10000 * o.2.2.2.2.1), 1000, IntKind.i64.wrap (IntKind.i64.wrap (o.2.1 + o.2.2.1) + 1), ())).bind fun o =>
                        (if (o.2.1 == 0) = true then some (o.1 == 1) else some false).bind fun x128 =>
                          if x128 = true then some (0, 3) else if decide (o.2.1 > 1000000000) = true then some (0, 2) else if (o.1 == 1) = true then some (IntKind.i64.wrap (0 - IntKind.i64.wrap o.2.1), 0) else some (IntKind.i64.wrap o.2.1, 0)
              | Sum.inr q185 => some q185) = some (bodyS (decide (pre.length = 1)) r) := by
  rw [ref_digits_eq (by omega), bs]
  have hDR := tw_dw r
  have hDd := tw_all r
  unfold bodyS
  dsimp only
  -- the digits ahead
  have c1 : (if (((r.takeWhile dig).length : Int) == 0) = true then some true else if decide (((r.takeWhile dig).length : Int) > 1) = true then (sAt (pre ++ r) (pre.length : Int)).bind fun v => some (v == 48) else some false) = some (decide (r.takeWhile dig = [] ∨ (1 < (r.takeWhile dig).length ∧ (r.takeWhile dig).head? = some 48))) := by
    cases hD : r.takeWhile dig with
    | nil => rfl
    | cons b D' =>
      have z : ((((b :: D') : List UInt8).length : Int) == 0) = false := by simp; omega
      rw [z, if_neg (by decide)]
      by_cases hl : 1 < (b :: D').length
      · have sa : sAt (pre ++ r) (pre.length : Int) = some (b.toNat : Int) := by rw [← hDR, hD, List.cons_append]; exact sAt_mid
        rw [if_pos (decide_eq_true (by omega)), sa, bs]
        by_cases hb : b = 48
        · subst hb
          have : ((((48 : UInt8).toNat : Int)) == 48) = true := rfl
          rw [this, decide_eq_true]
          exact .inr ⟨hl, rfl⟩
        · have hb' : b.toNat ≠ 48 := fun e => hb (UInt8.toNat_inj.1 e)
          have : ((b.toNat : Int) == 48) = false := by simp; omega
          rw [this, decide_eq_false]
          simp [hb]
      · rw [decide_eq_false (show ¬ ((((b :: D') : List UInt8).length : Int) > 1) by omega), if_neg (by decide), decide_eq_false]
        intro k
        rcases k with k | k
        · cases k
        · exact hl k.1
  rw [c1, bs]
  by_cases hc : r.takeWhile dig = [] ∨ (1 < (r.takeWhile dig).length ∧ (r.takeWhile dig).head? = some 48)
  · rw [decide_eq_true hc, if_pos rfl, if_pos hc]
  rw [decide_eq_false hc, if_neg (by decide), if_neg hc]
  generalize hD : r.takeWhile dig = D at *
  generalize hR : r.dropWhile dig = R at *
  subst hDR
  simp only [List.length_append] at hr
  have w1 : IntKind.i64.wrap ((pre.length : Int) + (D.length : Int)) = ((pre ++ D).length : Int) := by rw [w64' (by omega) (by omega)]; simp
  have w2 : IntKind.i64.wrap (((pre ++ D).length : Int) + 1) = ((pre ++ D).length : Int) + 1 := w64' (by omega) (by simp; omega)
  simp only [w1, w2]
  have hlen : (((pre ++ (D ++ R)) : List UInt8).length : Int) = ((pre ++ D).length : Int) + (R.length : Int) := by simp; omega
  have key : ∀ (E Y : List UInt8) (X : List UInt8) (few : Int), X ++ Y = pre ++ (D ++ R) → E.all dig = true → E.length ≤ 4 → few = (E.length : Int) → (Y = [37] → (few = 0 ∧ X = pre ++ D ∧ E = []) ∨ X = (pre ++ D ++ [46]) ++ E) →
      ((if ((X.length : Int) != IntKind.i64.wrap ((((pre ++ (D ++ R)) : List UInt8).length : Int) - 1)) = true then some true else (sAt (pre ++ (D ++ R)) (X.length : Int)).bind fun v => some (v != 37)).bind fun x77 =>
          if x77 = true then some ((0 : Int), (3 : Int)) else
            (iter ref02_Parse_loop2 (pre ++ (D ++ R), (pre.length : Int), (D.length : Int), few, 0, (pre.length : Int), ())).bind fun o =>
              (iter ref02_Parse_loop1 (o.1, o.2.1, o.2.2.1, o.2.2.2.1, IntKind.u64.wrap (10000 * o.2.2.2.2.1), 1000, IntKind.i64.wrap (IntKind.i64.wrap (o.2.1 + o.2.2.1) + 1), ())).bind fun o =>
                (if (o.2.1 == 0) = true then some (o.1 == 1) else some false).bind fun x128 =>
                  if x128 = true then some (0, 3) else if decide (o.2.1 > 1000000000) = true then some (0, 2) else if (o.1 == 1) = true then some (IntKind.i64.wrap (0 - IntKind.i64.wrap o.2.1), 0) else some (IntKind.i64.wrap o.2.1, 0)) =
        some (if Y = [37] then finS (decide (pre.length = 1)) D E else (0, 3)) := by
    intro E Y X few hXY hE hE4 hfew hshape
    have hXl : X.length + Y.length = pre.length + (D.length + R.length) := by have := congrArg List.length hXY; simpa using this
    rw [← hXY, ref_tail (by omega), bs]
    by_cases hY : Y = [37]
    · subst hY
      rw [decide_eq_false (by simp), if_neg (by decide), if_pos rfl]
      have l2 := ref_loop2 pre.length D.length E.length R D pre 0 hDd (by omega) (by omega) (by omega)
      rw [show ((0 : Nat) : Int) = 0 from rfl] at l2
      rw [hXY, hfew, l2, bs]
      dsimp only
      have hcap := (capF_ok (n := 0) (m := 0) hDd (by omega) (.inl rfl)).1
      have w3 : IntKind.u64.wrap (10000 * ((capF 0 D : Nat) : Int)) = ((10000 * capF 0 D : Nat) : Int) := by rw [u64w (by omega) (by omega)]; simp
      rw [w3, w1, w2]
      have l1 : iter ref02_Parse_loop1 (pre ++ (D ++ R), (pre.length : Int), (D.length : Int), (E.length : Int), ((10000 * capF 0 D : Nat) : Int), 1000, ((pre ++ D).length : Int) + 1, ()) = some ((pre.length : Int), ((10000 * capF 0 D + fracF 1000 E : Nat) : Int), ()) := by
        rcases hshape rfl with ⟨hf0, hX, hE0⟩ | hX
        · subst hE0
          have e1 : pre ++ (D ++ R) = (pre ++ D ++ [37]) ++ ([] ++ []) := by rw [← hXY, hX]; simp
          have := ref_loop1 pre.length D.length 0 [] [] (pre ++ D ++ [37]) (10000 * capF 0 D) 1000 rfl (by omega) (by simp) (by omega) (by simp; omega) (by simp; omega) (by simp; omega)
          rw [e1]
          have e2 : (((pre ++ D ++ [37]) : List UInt8).length : Int) = ((pre ++ D).length : Int) + 1 := by rw [List.length_append]; rfl
          rw [e2] at this
          exact this
        · have e1 : pre ++ (D ++ R) = (pre ++ D ++ [46]) ++ (E ++ [37]) := by rw [← hXY, hX]; simp
          have hl : X.length = pre.length + D.length + 1 + E.length := by rw [hX]; simp; omega
          have := ref_loop1 pre.length D.length E.length [37] E (pre ++ D ++ [46]) (10000 * capF 0 D) 1000 hE (by omega) hE4 (by omega) (by simp; omega) (by simp at hXl ⊢; omega) (by omega)
          rw [e1]
          have e2 : (((pre ++ D ++ [46]) : List UInt8).length : Int) = ((pre ++ D).length : Int) + 1 := by rw [List.length_append]; rfl
          rw [e2] at this
          exact this
      rw [l1, bs]
      exact ref_fin hpre hDd hE4 hE (K := fun x y => (if (y == 0) = true then some (x == 1) else some false).bind fun x128 => if x128 = true then some (0, 3) else if decide (y > 1000000000) = true then some (0, 2) else if (x == 1) = true then some (IntKind.i64.wrap (0 - IntKind.i64.wrap y), 0) else some (IntKind.i64.wrap y, 0)) (fun x y => rfl)
    · rw [decide_eq_true hY, if_pos rfl, if_neg hY]
  cases R with
  | nil =>
    have c2 : decide (((pre ++ D).length : Int) < (((pre ++ (D ++ [])) : List UInt8).length : Int)) = false := decide_eq_false (by rw [hlen]; simp)
    simp only [c2, Bool.false_eq_true, if_false, bs]
    refine (key [] [] (pre ++ D) 0 (by simp) rfl (by simp) rfl (fun h => by cases h)).trans ?_
    rfl
  | cons c T =>
    have c2 : decide (((pre ++ D).length : Int) < (((pre ++ (D ++ c :: T)) : List UInt8).length : Int)) = true := decide_eq_true (by rw [hlen]; simp; omega)
    have sa : sAt (pre ++ (D ++ c :: T)) ((pre ++ D).length : Int) = some (c.toNat : Int) := by rw [← List.append_assoc]; exact sAt_mid
    simp only [c2, if_true, sa, bs]
    by_cases h46 : c = 46
    · subst h46
      have z : ((((46 : UInt8).toNat : Int)) == 46) = true := rfl
      simp only [z, if_true]
      have e1 : pre ++ (D ++ 46 :: T) = (pre ++ D ++ [46]) ++ T := by simp
      have e2 : (((pre ++ D ++ [46]) : List UInt8).length : Int) = ((pre ++ D).length : Int) + 1 := by rw [List.length_append]; rfl
      have hT := tw_dw T
      have hE := tw_all T
      simp only [List.length_cons] at hr
      have rd : ref02_digits (pre ++ (D ++ 46 :: T), ((pre ++ D).length : Int) + 1) = some ((T.takeWhile dig).length : Int) := by
        rw [e1, ← e2]; exact ref_digits_eq (by simp; omega)
      rw [rd, bs, if_neg (show ¬ (46 : UInt8) = 37 by decide)]
      generalize hEE : T.takeWhile dig = E at *
      generalize hYY : T.dropWhile dig = Y at *
      subst hT
      simp only [List.length_append] at hr
      have w3 : IntKind.i64.wrap (((pre ++ D).length : Int) + (E.length : Int)) = ((pre ++ D).length : Int) + (E.length : Int) := w64' (by omega) (by simp; omega)
      have w4 : IntKind.i64.wrap (((pre ++ D).length : Int) + 1 + (E.length : Int)) = (((pre ++ D ++ [46]) ++ E).length : Int) := by rw [w64' (by omega) (by simp; omega)]; simp; omega
      simp only [w3, w4]
      have R1 : (E = [] ∨ 4 < E.length ∨ E.getLast? = some 48 ∨ Y ≠ [37]) → (if E = [] ∨ 4 < E.length ∨ E.getLast? = some 48 ∨ Y ≠ [37] then ((0 : Int), (3 : Int)) else finS (decide (pre.length = 1)) D E) = (0, 3) := fun h => if_pos h
      have R2 : ¬ (E = [] ∨ 4 < E.length ∨ E.getLast? = some 48 ∨ Y ≠ [37]) → (if E = [] ∨ 4 < E.length ∨ E.getLast? = some 48 ∨ Y ≠ [37] then ((0 : Int), (3 : Int)) else finS (decide (pre.length = 1)) D E) = finS (decide (pre.length = 1)) D E := fun h => if_neg h
      by_cases hE0 : E = []
      · subst hE0
        rw [R1 (.inl rfl)]
        rfl
      have z0 : ((E.length : Int) == 0) = false := by
        have : E.length ≠ 0 := fun h => hE0 (List.eq_nil_of_length_eq_zero h)
        simp; omega
      simp only [z0, Bool.false_eq_true, if_false, bs]
      by_cases hE4 : 4 < E.length
      · rw [R1 (.inr (.inl hE4))]
        have z4 : decide ((E.length : Int) > 4) = true := decide_eq_true (by omega)
        simp only [z4, if_true, bs]
      have z4 : decide ((E.length : Int) > 4) = false := decide_eq_false (by omega)
      simp only [z4, Bool.false_eq_true, if_false]
      obtain ⟨Q, x, rfl⟩ : ∃ Q x, E = Q ++ [x] := by
        rcases List.eq_nil_or_concat E with h | ⟨Q, x, h⟩
        · exact absurd h hE0
        · exact ⟨Q, x, by simpa using h⟩
      have sx : sAt (pre ++ (D ++ 46 :: (Q ++ [x] ++ Y))) (((pre ++ D).length : Int) + (((Q ++ [x]) : List UInt8).length : Int)) = some (x.toNat : Int) := by
        have e3 : pre ++ (D ++ 46 :: (Q ++ [x] ++ Y)) = (pre ++ D ++ [46] ++ Q) ++ x :: Y := by simp
        have e4 : ((pre ++ D).length : Int) + (((Q ++ [x]) : List UInt8).length : Int) = (((pre ++ D ++ [46] ++ Q) : List UInt8).length : Int) := by simp; omega
        rw [e3, e4]; exact sAt_mid
      rw [sx, bs]
      by_cases hx : x = 48
      · subst hx
        have z5 : ((((48 : UInt8).toNat : Int)) == 48) = true := rfl
        rw [z5, R1 (.inr (.inr (.inl (by simp))))]
        rfl
      · have hx' : x.toNat ≠ 48 := fun e => hx (UInt8.toNat_inj.1 e)
        have z5 : ((x.toNat : Int) == 48) = false := by simp; omega
        rw [z5]
        simp only [bs, Bool.false_eq_true, if_false]
        refine (key (Q ++ [x]) Y ((pre ++ D ++ [46]) ++ (Q ++ [x])) _ (by simp) hE (by omega) rfl (fun _ => .inr rfl)).trans ?_
        by_cases hY : Y = [37]
        · rw [if_pos hY, R2 (fun k => by
            rcases k with k | k | k | k
            · simp at k
            · exact hE4 k
            · apply hx; simpa using k
            · exact k hY)]
        · rw [if_neg hY, R1 (.inr (.inr (.inr hY)))]
    · have h46' : c.toNat ≠ 46 := fun e => h46 (UInt8.toNat_inj.1 e)
      have z : ((c.toNat : Int) == 46) = false := by simp; omega
      simp only [z, Bool.false_eq_true, if_false, bs]
      refine (key [] (c :: T) (pre ++ D) 0 (by simp) rfl (by simp) rfl (fun _ => .inl ⟨rfl, rfl, rfl⟩)).trans ?_
      congr 1
      by_cases h37 : c = 37
      · rw [if_pos h37]
        by_cases hT : T = []
        · subst hT; subst h37; rfl
        · rw [if_neg hT, if_neg (by intro k; cases k; exact hT rfl)]
      · rw [if_neg h37, if_neg h46, if_neg (by intro k; cases k; exact h37 rfl)]

theorem ref_Parse_eq (s : List UInt8) (h : s.length ≤ 3000) : ref02_Parse s = some (parseS s) := by
  unfold ref02_Parse parseS
  dsimp only
  simp only [gPi, gSS, gPb, gPm, gPs, gM, gM2, gAnd, gOr, gAndI, gOrI, gAA, gAO, gOA, gOO, gAAf, gAOf, gOAf, gOOf, gAMf, gOMf, gId]
  simp only [gIn1, gIn2, gIn3, gIn4, gIn5, gIn6, gIn7, gIn8, gId, gIdF, gMb, gMm, gBm, gBb, bs, ms]
  cases s with
  | nil => rfl
  | cons b t =>
    have e0 : ((b :: t) == ([] : List UInt8)) = false := rfl
    rw [if_neg (by simp)]
    have sa : sAt (b :: t) 0 = some (b.toNat : Int) := sAt_mid (pre := [])
    simp only [e0, Bool.false_eq_true, if_false, sa, bs]
    by_cases hb : b = 45
    · subst hb
      have z : ((((45 : UInt8).toNat : Int)) == 45) = true := rfl
      simp only [z, if_true, bs]
      exact ref_body (pre := [45]) (r := t) (by simp) (by simp at h; omega)
    · have hb' : b.toNat ≠ 45 := fun e => hb (UInt8.toNat_inj.1 e)
      have z : ((b.toNat : Int) == 45) = false := by simp; omega
      simp only [z, Bool.false_eq_true, if_false, bs]
      rw [if_neg (show ¬ (b :: t).head? = some 45 by simpa using hb)]
      exact ref_body (pre := []) (r := b :: t) (by simp) h
end WB
namespace WB
open Go Go.RowKit

def dg8 (n : Nat) : UInt8 := UInt8.ofNat (48 + n)
theorem dg8_nat {n : Nat} (h : n < 10) : (dg8 n).toNat = 48 + n := by
  unfold dg8
  show (48 + n) % 256 = 48 + n
  omega
theorem dec_small {n : Nat} (h : n < 10) : Lib.decDigits n = [dg8 n] := Lib.decDigits_one h
theorem dec_big {n : Nat} (h : ¬ n < 10) : Lib.decDigits n = Lib.decDigits (n / 10) ++ [dg8 (n % 10)] := by rw [Lib.decDigits, dif_neg h]; rfl
theorem dec_dig : ∀ (n : Nat), (Lib.decDigits n).all dig = true := by
  intro n
  induction n using Nat.strongRecOn with
  | _ n ih =>
    by_cases h : n < 10
    · rw [dec_small h]
      simp [dig, dg8_nat h]
      omega
    · rw [dec_big h, List.all_append, ih _ (by omega)]
      have h2 : n % 10 < 10 := Nat.mod_lt _ (by omega)
      simp [dig, dg8_nat h2]
      omega
theorem dec_ne (n : Nat) : Lib.decDigits n ≠ [] := by
  by_cases h : n < 10
  · rw [dec_small h]; simp
  · rw [dec_big h]; simp
theorem dec_num : ∀ (n : Nat), numS (Lib.decDigits n) = n := by
  intro n
  induction n using Nat.strongRecOn with
  | _ n ih =>
    by_cases h : n < 10
    · rw [dec_small h]
      show 10 * 0 + ((dg8 n).toNat - 48) = n
      rw [dg8_nat h]; omega
    · rw [dec_big h]
      unfold numS
      rw [numF_append]
      have e := ih (n / 10) (by omega)
      unfold numS at e
      rw [e]
      show 10 * (n / 10) + ((dg8 (n % 10)).toNat - 48) = n
      rw [dg8_nat (Nat.mod_lt _ (by omega))]; omega
theorem head_app {α : Type} {l m : List α} (h : l ≠ []) : (l ++ m).head? = l.head? := by
  cases l with
  | nil => exact absurd rfl h
  | cons _ _ => rfl
/-- No nought ahead. -/
theorem dec_head {n : Nat} (h : 0 < n) : (Lib.decDigits n).head? ≠ some 48 := by
  induction n using Nat.strongRecOn with
  | _ n ih =>
    by_cases h9 : n < 10
    · rw [dec_small h9]
      intro e
      have : (dg8 n).toNat = 48 := by simp at e; rw [e]; rfl
      rw [dg8_nat h9] at this
      omega
    · rw [dec_big h9, head_app (dec_ne _)]
      exact ih _ (by omega) (by omega)
theorem byte_dig {b : UInt8} (h : dig b = true) : dg8 (b.toNat - 48) = b := by
  have h3 := dig_ge h
  apply UInt8.toNat_inj.1
  rw [dg8_nat (by omega)]
  omega
/-- The digits of the number that digits are. -/
theorem dec_of {D : List UInt8} : D.all dig = true → D ≠ [] → (D.length = 1 ∨ D.head? ≠ some 48) → Lib.decDigits (numS D) = D := by
  induction hn : D.length using Nat.strongRecOn generalizing D with
  | _ n ih =>
    intro hd h0 h1
    rcases List.eq_nil_or_concat D with rfl | ⟨Q, x, rfl⟩
    · exact absurd rfl h0
    · simp only [List.concat_eq_append] at *
      rw [List.all_append, Bool.and_eq_true] at hd
      replace hd : Q.all dig = true ∧ dig x = true := ⟨hd.1, by simpa using hd.2⟩
      have hx := dig_ge hd.2
      have e : numS (Q ++ [x]) = 10 * numS Q + (x.toNat - 48) := by unfold numS; rw [numF_append]; rfl
      rw [e]
      by_cases hQ : Q = []
      · subst hQ
        have : 10 * numS [] + (x.toNat - 48) = x.toNat - 48 := by show 10 * 0 + _ = _; omega
        rw [this, dec_small (by omega), byte_dig hd.2]
        rfl
      · have hh : Q.head? ≠ some 48 := by
          rcases h1 with h1 | h1
          · exfalso
            cases Q with
            | nil => exact hQ rfl
            | cons q Q => simp at hn; omega
          · rw [head_app hQ] at h1; exact h1
        have hp : 0 < numS Q := num_pos hd.1 hQ (fun k => hh k.2) (fun k => by subst k; exact hh rfl)
        have i := ih Q.length (by rw [← hn]; simp) rfl hd.1 hQ (.inr hh)
        rw [dec_big (by omega), show (10 * numS Q + (x.toNat - 48)) / 10 = numS Q by omega, show (10 * numS Q + (x.toNat - 48)) % 10 = x.toNat - 48 by omega, i, byte_dig hd.2]

/-- The four digits of a number below 10000. -/
theorem four {e : Nat} (h : e < 10000) : ∃ F : List UInt8, Lib.decDigits (10000 + e) = 49 :: F ∧ F.length = 4 ∧ F.all dig = true ∧ numS F = e := by
  have hn := dec_num (10000 + e)
  have hd := dec_dig (10000 + e)
  have d1 : Lib.decDigits (10000 + e) = [dg8 1, dg8 (e / 1000 % 10), dg8 (e / 100 % 10), dg8 (e / 10 % 10), dg8 (e % 10)] := by
    rw [dec_big (by omega), dec_big (by omega), dec_big (by omega), dec_big (by omega), dec_small (by omega)]
    have a1 : (10000 + e) / 10 / 10 / 10 / 10 = 1 := by omega
    have a2 : (10000 + e) / 10 / 10 / 10 % 10 = e / 1000 % 10 := by omega
    have a3 : (10000 + e) / 10 / 10 % 10 = e / 100 % 10 := by omega
    have a4 : (10000 + e) / 10 % 10 = e / 10 % 10 := by omega
    have a5 : (10000 + e) % 10 = e % 10 := by omega
    rw [a1, a2, a3, a4, a5]
    rfl
  refine ⟨[dg8 (e / 1000 % 10), dg8 (e / 100 % 10), dg8 (e / 10 % 10), dg8 (e % 10)], d1, rfl, ?_, ?_⟩
  · rw [d1] at hd
    simp only [List.all_cons, Bool.and_eq_true] at hd
    simp only [List.all_cons, Bool.and_eq_true]
    exact hd.2
  · have m1 : e / 1000 % 10 < 10 := Nat.mod_lt _ (by omega)
    have m2 : e / 100 % 10 < 10 := Nat.mod_lt _ (by omega)
    have m3 : e / 10 % 10 < 10 := Nat.mod_lt _ (by omega)
    have m4 : e % 10 < 10 := Nat.mod_lt _ (by omega)
    simp only [numS, numF, List.foldl_cons, List.foldl_nil, dg8_nat m1, dg8_nat m2, dg8_nat m3, dg8_nat m4]
    omega

/-! ### Noughts at the end -/

theorem trim_snoc (l : List UInt8) (b : UInt8) : Lib.trimRightB (l ++ [b]) 48 = if b = 48 then Lib.trimRightB l 48 else l ++ [b] := by
  unfold Lib.trimRightB
  rw [List.reverse_append, List.reverse_singleton, List.singleton_append, List.dropWhile_cons]
  by_cases h : b = 48
  · subst h; simp
  · simp [h]
theorem trim_spec : ∀ (l : List UInt8), ∃ k, l = Lib.trimRightB l 48 ++ List.replicate k 48 ∧ (Lib.trimRightB l 48).getLast? ≠ some 48 := by
  intro l
  induction hn : l.length using Nat.strongRecOn generalizing l with
  | _ n ih =>
    rcases List.eq_nil_or_concat l with rfl | ⟨q, x, rfl⟩
    · exact ⟨0, rfl, by simp [Lib.trimRightB]⟩
    · simp only [List.concat_eq_append] at *
      rw [trim_snoc]
      by_cases hx : x = 48
      · subst hx
        rw [if_pos rfl]
        obtain ⟨k, h1, h2⟩ := ih q.length (by rw [← hn]; simp) q rfl
        refine ⟨k + 1, ?_, h2⟩
        rw [List.replicate_succ', ← List.append_assoc, ← h1]
      · rw [if_neg hx]
        exact ⟨0, by simp, by simpa using hx⟩
theorem trim_of {l : List UInt8} (h : l.getLast? ≠ some 48) (k : Nat) : Lib.trimRightB (l ++ List.replicate k 48) 48 = l := by
  induction k with
  | zero =>
    rw [List.replicate_zero, List.append_nil]
    rcases List.eq_nil_or_concat l with rfl | ⟨q, x, rfl⟩
    · rfl
    · simp only [List.concat_eq_append] at *
      rw [trim_snoc, if_neg (by simpa using h)]
  | succ k ih => rw [List.replicate_succ', ← List.append_assoc, trim_snoc, if_pos rfl, ih]
theorem pad_eq {E : List UInt8} (h : E.length ≤ 4) : padS E = E ++ List.replicate (4 - E.length) 48 := by
  unfold padS
  rw [List.take_append, List.take_of_length_le h]
  congr 1
  match E.length, h with
  | 0, _ => rfl
  | 1, _ => rfl
  | 2, _ => rfl
  | 3, _ => rfl
  | 4, _ => rfl
/-- Four digits without the noughts at their end, and these again. -/
theorem trim_pad {F : List UInt8} (h : F.length = 4) : padS (Lib.trimRightB F 48) = F ∧ (Lib.trimRightB F 48).length ≤ 4 := by
  obtain ⟨k, h1, _⟩ := trim_spec F
  have hl : (Lib.trimRightB F 48).length + k = 4 := by
    have := congrArg List.length h1
    simp at this; omega
  refine ⟨?_, by omega⟩
  rw [pad_eq (by omega), show 4 - (Lib.trimRightB F 48).length = k by omega]
  exact h1.symm
theorem trim_dig {F : List UInt8} (h : F.all dig = true) : (Lib.trimRightB F 48).all dig = true := by
  obtain ⟨k, h1, _⟩ := trim_spec F
  rw [h1, List.all_append, Bool.and_eq_true] at h
  exact h.1
theorem trim_ne {F : List UInt8} (h : 0 < numS F) (hl : F.length = 4) : Lib.trimRightB F 48 ≠ [] := by
  intro e
  have := (trim_pad hl).1
  rw [e] at this
  rw [← this] at h
  exact absurd h (by decide)

/-! ### The text -/

def textS (r : Int) : List UInt8 :=
  if -1000000000 ≤ r ∧ r ≤ 1000000000 then
    (if r < 0 then [45] else []) ++ Lib.decDigits (r.natAbs / 10000) ++ (if 0 < r.natAbs % 10000 then 46 :: Lib.trimRightB (Lib.decDigits (10000 + r.natAbs % 10000)).tail 48 else []) ++ [37]
  else []

theorem dec_len : ∀ {n k : Nat}, 0 < k → n < 10 ^ k → (Lib.decDigits n).length ≤ k := by
  intro n
  induction n using Nat.strongRecOn with
  | _ n ih =>
    intro k hk h
    by_cases h9 : n < 10
    · rw [dec_small h9]; exact hk
    · rw [dec_big h9, List.length_append]
      match k, hk, h with
      | 1, _, h => simp at h; omega
      | k + 2, _, h =>
        have := ih (n / 10) (by omega) (k := k + 1) (by omega) (by rw [Nat.pow_succ] at h; omega)
        simp; omega
theorem ss {x y : List UInt8} (hx : x.length ≤ 1000) (hy : y.length ≤ 1000) {β : Type} (K : List UInt8 → Option β) : (if x.length + y.length ≤ 4611686018427387904 then K (x ++ y) else none) = K (x ++ y) := if_pos (by omega)

theorem sub1 {b : UInt8} {l : List UInt8} : lSub (b :: l) 1 (((b :: l) : List UInt8).length : Int) = some l := by
  have := lSub_nat (xs := b :: l) (i := 1) (j := (b :: l).length) (by simp) (by omega)
  rw [List.take_length] at this
  exact this
theorem natAbs_eq {r : Int} (h1 : -1000000000 ≤ r) (h2 : r ≤ 1000000000) : (if decide (r < 0) = true then some (IntKind.i64.wrap (0 - r), ([45] : List UInt8), ()) else some (r, [], ())) = some ((r.natAbs : Int), (if r < 0 then [45] else []), ()) := by
  by_cases h : r < 0
  · rw [if_pos (decide_eq_true h), if_pos h, w64' (by omega) (by omega)]
    have : 0 - r = (r.natAbs : Int) := by omega
    rw [this]
  · rw [if_neg (by simpa using h), if_neg h]
    have : r = (r.natAbs : Int) := by omega
    rw [← this]

theorem rate_Text_eq (r : Int) : rate_Text r = some (textS r) := by
  unfold rate_Text textS
  dsimp only
  simp only [gPi, gSS, gPb, gPm, gPs, gM, gM2, gAnd, gOr, gAndI, gOrI, gAA, gAO, gOA, gOO, gAAf, gAOf, gOAf, gOOf, gAMf, gOMf, gId]
  simp only [gIn1, gIn2, gIn3, gIn4, gIn5, gIn6, gIn7, gIn8, gId, gIdF, gMb, gMm, gBm, gBb, bs, ms]
  rw [right_eq, bs]
  by_cases hr : -1000000000 ≤ r ∧ r ≤ 1000000000
  · rw [if_pos hr, decide_eq_true hr, if_neg (by decide), natAbs_eq hr.1 hr.2, bs]
    dsimp only
    generalize hS : (if r < 0 then ([45] : List UInt8) else []) = S
    have hSl : S.length ≤ 1 := by rw [← hS]; split <;> simp
    have hu : r.natAbs ≤ 1000000000 := by omega
    generalize r.natAbs = u at *
    have q1 : (if (10000 : Int) = 0 then none else some (IntKind.i64.wrap ((u : Int).tdiv 10000))) = some ((u / 10000 : Nat) : Int) := by
      rw [if_neg (by omega), Int.tdiv_eq_ediv_of_nonneg (by omega)]
      have : (u : Int) / 10000 = ((u / 10000 : Nat) : Int) := by omega
      rw [this, w64' (by omega) (by omega)]
    have q2 : (if (10000 : Int) = 0 then none else some ((u : Int).tmod 10000)) = some ((u % 10000 : Nat) : Int) := by
      rw [if_neg (by omega), Int.tmod_eq_emod_of_nonneg (by omega)]
      have : (u : Int) % 10000 = ((u % 10000 : Nat) : Int) := by omega
      rw [this]
    have l1 : (Lib.decDigits (u / 10000)).length ≤ 6 := dec_len (by omega) (by omega)
    rw [q1, bs, fi_nat _ (by omega), bs, ss (by omega) (by omega) (fun _ => _), q2, bs]
    by_cases h0 : 0 < u % 10000
    · rw [if_pos h0, if_pos (decide_eq_true (by omega))]
      have w : IntKind.i64.wrap (10000 + ((u % 10000 : Nat) : Int)) = ((10000 + u % 10000 : Nat) : Int) := by rw [w64' (by omega) (by omega)]; rfl
      obtain ⟨F, f1, f2, f3, f4⟩ := four (e := u % 10000) (by omega)
      have t1 : strings_TrimRight (F, [48]) = some (Lib.trimRightB F 48) := by
        simp only [strings_TrimRight]
        exact if_pos ⟨by decide, by rw [f2]; omega⟩
      have tl := (trim_pad f2).2
      rw [w, fi_nat _ (by omega), bs, f1, sub1, bs, t1, bs, ss (by simp) (by omega) (fun _ => _), ss (by simp; omega) (by simp; omega) (fun _ => _), bs]
      dsimp only
      rw [ss (by simp; omega) (by simp) (fun y => some y)]
      rfl
    · rw [if_neg h0, if_neg (by simp; omega), bs]
      dsimp only
      rw [ss (by simp; omega) (by simp) (fun y => some y), List.append_nil]
  · rw [if_neg hr, decide_eq_false hr, if_pos (show (!false) = true from rfl)]

/-! ### The document's text -/

theorem byte_of {n : Nat} (h : n < 10) : ([IntKind.u8.wrap (IntKind.u64.wrap (48 + (n : Int)))].map fun n => UInt8.ofNat n.toNat) = [dg8 n] := by
  have w1 : IntKind.u64.wrap (48 + (n : Int)) = 48 + (n : Int) := u64w (by omega) (by omega)
  have w2 : IntKind.u8.wrap (48 + (n : Int)) = 48 + (n : Int) := by unfold IntKind.wrap; simp [IntKind.bits, IntKind.signed]; omega
  rw [w1, w2]
  show [UInt8.ofNat (48 + (n : Int)).toNat] = [UInt8.ofNat (48 + n)]
  have : (48 + (n : Int)).toNat = 48 + n := by omega
  rw [this]
theorem tens_loop : ∀ (n : Nat) (s : List UInt8), n ≤ 10000000000 → s.length + n ≤ 1000000000000 → ∃ (m : Nat) (t : List UInt8), iter ref02_tens_loop1 ((n : Int), s, ()) = some ((m : Int), t, ()) ∧ m < 10 ∧ t.length ≤ 1000000000000 ∧ [dg8 m] ++ t = Lib.decDigits n ++ s := by
  intro n
  induction n using Nat.strongRecOn with
  | _ n ih =>
    intro s hn hs
    by_cases h : n < 10
    · refine ⟨n, s, iter_inr ?_, h, by omega, by rw [dec_small h]⟩
      unfold ref02_tens_loop1
      dsimp only
      have c : decide ((n : Int) > 9) = false := decide_eq_false (by omega)
      simp only [c, Bool.false_eq_true, if_false]
    · obtain ⟨m, t, h1, h2, h3, h4⟩ := ih (n / 10) (by omega) ([dg8 (n % 10)] ++ s) (by omega) (by simp; omega)
      refine ⟨m, t, (iter_inl (s' := (((n / 10 : Nat) : Int), [dg8 (n % 10)] ++ s, ())) ?_).trans h1, h2, h3, by rw [h4, dec_big h, List.append_assoc]⟩
      unfold ref02_tens_loop1
      dsimp only
      have c : decide ((n : Int) > 9) = true := decide_eq_true (by omega)
      have q1 : (if (10 : Int) = 0 then none else some ((n : Int).tmod 10)) = some ((n % 10 : Nat) : Int) := by
        rw [if_neg (by omega), Int.tmod_eq_emod_of_nonneg (by omega)]
        have : (n : Int) % 10 = ((n % 10 : Nat) : Int) := by omega
        rw [this]
      have q2 : (if (10 : Int) = 0 then none else some (IntKind.u64.wrap ((n : Int).tdiv 10))) = some ((n / 10 : Nat) : Int) := by
        rw [if_neg (by omega), Int.tdiv_eq_ediv_of_nonneg (by omega)]
        have : (n : Int) / 10 = ((n / 10 : Nat) : Int) := by omega
        rw [this, u64w (by omega) (by omega)]
      have b1 := byte_of (n := n % 10) (Nat.mod_lt _ (by omega))
      simp only [c, if_true, q1, q2, bs, b1]
      rw [if_pos (by simp; omega), bs]
theorem tens_eq {n : Nat} (h : n ≤ 10000000000) : ref02_tens (n : Int) = some (Lib.decDigits n) := by
  unfold ref02_tens
  dsimp only
  obtain ⟨m, t, h1, h2, h3, h4⟩ := tens_loop n [] h (by simp; omega)
  rw [h1, bs]
  dsimp only
  rw [byte_of h2, if_pos (by simp; omega), h4, List.append_nil, bs]
theorem text_loop (s : List UInt8) : ∀ (d : List UInt8), Lib.trimRightB d 48 ≠ [] → d.length ≤ 1000 → iter ref02_Text_loop1 (s, d, ()) = some (s, Lib.trimRightB d 48, ()) := by
  intro d
  induction hn : d.length using Nat.strongRecOn generalizing d with
  | _ n ih =>
    intro h0 hl
    rcases List.eq_nil_or_concat d with rfl | ⟨q, x, rfl⟩
    · exact absurd rfl h0
    · simp only [List.concat_eq_append] at *
      have hlen : (q ++ [x]).length = q.length + 1 := by simp
      have w : IntKind.i64.wrap ((((q ++ [x]) : List UInt8).length : Int) - 1) = (q.length : Int) := by rw [w64' (by omega) (by omega)]; omega
      rw [trim_snoc] at h0 ⊢
      by_cases hx : x = 48
      · subst hx
        rw [if_pos rfl] at h0 ⊢
        refine (iter_inl (s' := (s, q, ())) ?_).trans (ih q.length (by omega) q rfl h0 (by omega))
        unfold ref02_Text_loop1
        dsimp only
        have z : ((((48 : UInt8).toNat : Int)) == 48) = true := rfl
        have l : lSub (q ++ [48]) 0 (q.length : Int) = some q := by
          have := lSub_nat (xs := q ++ [48]) (i := 0) (j := q.length) (by omega) (by omega)
          simpa using this
        simp only [w, sAt_mid, bs, z, if_true, l]
      · rw [if_neg hx]
        refine iter_inr ?_
        unfold ref02_Text_loop1
        dsimp only
        have hx' : x.toNat ≠ 48 := fun e => hx (UInt8.toNat_inj.1 e)
        have z : ((x.toNat : Int) == 48) = false := by simp; omega
        simp only [w, sAt_mid, bs, z, Bool.false_eq_true, if_false]
theorem abs_eq {r : Int} (h1 : -1000000000 ≤ r) (h2 : r ≤ 1000000000) : ref02_Abs r = some (r.natAbs : Int) := by
  unfold ref02_Abs
  dsimp only
  by_cases h : r < 0
  · rw [if_pos (decide_eq_true h)]
    have : IntKind.u64.wrap (0 - IntKind.u64.wrap r) = (r.natAbs : Int) := by
      unfold IntKind.wrap
      simp [IntKind.bits, IntKind.signed]
      omega
    rw [this]
  · rw [if_neg (by simpa using h), u64w (by omega) (by omega)]
    have : r = (r.natAbs : Int) := by omega
    rw [← this]

theorem ref_Text_eq (r : Int) : ref02_Text r = some (textS r) := by
  unfold ref02_Text textS
  dsimp only
  simp only [gPi, gSS, gPb, gPm, gPs, gM, gM2, gAnd, gOr, gAndI, gOrI, gAA, gAO, gOA, gOO, gAAf, gAOf, gOAf, gOOf, gAMf, gOMf, gId]
  simp only [gIn1, gIn2, gIn3, gIn4, gIn5, gIn6, gIn7, gIn8, gId, gIdF, gMb, gMm, gBm, gBb, bs, ms]
  rw [Right_eq, bs]
  by_cases hr : -1000000000 ≤ r ∧ r ≤ 1000000000
  · rw [if_pos hr, decide_eq_true hr, if_neg (by decide), abs_eq hr.1 hr.2, bs]
    have hu : r.natAbs ≤ 1000000000 := by omega
    have hneg : decide (r < 0) = decide (r < 0) := rfl
    generalize r.natAbs = u at *
    have q1 : (if (10000 : Int) = 0 then none else some (IntKind.u64.wrap ((u : Int).tdiv 10000))) = some ((u / 10000 : Nat) : Int) := by
      rw [if_neg (by omega), Int.tdiv_eq_ediv_of_nonneg (by omega)]
      have : (u : Int) / 10000 = ((u / 10000 : Nat) : Int) := by omega
      rw [this, u64w (by omega) (by omega)]
    have q2 : (if (10000 : Int) = 0 then none else some ((u : Int).tmod 10000)) = some ((u % 10000 : Nat) : Int) := by
      rw [if_neg (by omega), Int.tmod_eq_emod_of_nonneg (by omega)]
      have : (u : Int) % 10000 = ((u % 10000 : Nat) : Int) := by omega
      rw [this]
    have l1 : (Lib.decDigits (u / 10000)).length ≤ 6 := dec_len (by omega) (by omega)
    rw [q1, bs, tens_eq (by omega), bs]
    have e1 : (if decide (r < 0) = true then if ([45] : List UInt8).length + (Lib.decDigits (u / 10000)).length ≤ 4611686018427387904 then some ((u : Int), [45] ++ Lib.decDigits (u / 10000), ()) else none else some ((u : Int), Lib.decDigits (u / 10000), ())) = some ((u : Int), (if r < 0 then [45] else []) ++ Lib.decDigits (u / 10000), ()) := by
      by_cases h : r < 0
      · rw [if_pos (decide_eq_true h), if_pos h, ss (by simp) (by omega) (fun y => some ((u : Int), y, ()))]
      · rw [if_neg (by simpa using h), if_neg h, List.nil_append]
    rw [e1, bs]
    dsimp only
    generalize hS : (if r < 0 then ([45] : List UInt8) else []) = S
    have hSl : S.length ≤ 1 := by rw [← hS]; split <;> simp
    rw [q2, bs]
    by_cases h0 : 0 < u % 10000
    · rw [if_pos h0, if_pos (decide_eq_true (by omega))]
      have w : IntKind.u64.wrap (10000 + ((u % 10000 : Nat) : Int)) = ((10000 + u % 10000 : Nat) : Int) := by rw [u64w (by omega) (by omega)]; rfl
      obtain ⟨F, f1, f2, f3, f4⟩ := four (e := u % 10000) (by omega)
      have tl := (trim_pad f2).2
      have tn := trim_ne (F := F) (by omega) f2
      rw [w, tens_eq (by omega), bs, f1, sub1, bs, text_loop _ F tn (by omega), bs]
      dsimp only
      rw [ss (by simp; omega) (by simp) (fun y => if y.length + (Lib.trimRightB F 48).length ≤ 4611686018427387904 then some (y ++ Lib.trimRightB F 48, ()) else none)]
      rw [ss (by simp; omega) (by omega) (fun y => some (y, ())), bs]
      dsimp only
      rw [ss (by simp; omega) (by simp) (fun y => some y)]
      simp
    · rw [if_neg h0, if_neg (by simp; omega), bs]
      dsimp only
      rw [ss (by simp; omega) (by simp) (fun y => some y), List.append_nil]
  · rw [if_neg hr, decide_eq_false hr, if_pos (show (!false) = true from rfl)]

/-! ### What is told is parsed, what is parsed was told -/

theorem fin_text {r : Int} (h1 : -1000000000 ≤ r) (h2 : r ≤ 1000000000) : parseS (textS r) = (r, 0) := by
  unfold textS
  rw [if_pos ⟨h1, h2⟩]
  have hu : r.natAbs ≤ 1000000000 := by omega
  have hW := dec_dig (r.natAbs / 10000)
  have hW0 := dec_ne (r.natAbs / 10000)
  have hWn := dec_num (r.natAbs / 10000)
  have key : ∀ (neg : Bool), (neg = true ↔ r < 0) → bodyS neg (Lib.decDigits (r.natAbs / 10000) ++ (if 0 < r.natAbs % 10000 then 46 :: Lib.trimRightB (Lib.decDigits (10000 + r.natAbs % 10000)).tail 48 else []) ++ [37]) = (r, 0) := by
    intro neg hneg
    have hz : ¬ (1 < (Lib.decDigits (r.natAbs / 10000)).length ∧ (Lib.decDigits (r.natAbs / 10000)).head? = some 48) := by
      intro k
      by_cases h0 : r.natAbs / 10000 = 0
      · rw [h0, dec_small (by omega)] at k
        simp at k
      · exact dec_head (by omega) k.2
    have hfin : ∀ E : List UInt8, numS (padS E) = r.natAbs % 10000 → finS neg (Lib.decDigits (r.natAbs / 10000)) E = (r, 0) := by
      intro E hE
      unfold finS
      dsimp only
      rw [hWn, hE]
      have e : r.natAbs / 10000 * 10000 + r.natAbs % 10000 = r.natAbs := by omega
      rw [e, if_neg (by intro k; have := hneg.1 k.2; omega), if_neg (by omega)]
      by_cases hn : neg = true
      · rw [if_pos hn]
        have := hneg.1 hn
        congr 1
        omega
      · rw [if_neg hn]
        have : ¬ r < 0 := fun k => hn (hneg.2 k)
        congr 1
        omega
    unfold bodyS
    dsimp only
    by_cases h0 : 0 < r.natAbs % 10000
    · rw [if_pos h0]
      obtain ⟨F, f1, f2, f3, f4⟩ := four (e := r.natAbs % 10000) (by omega)
      rw [f1, List.tail_cons]
      obtain ⟨tp, tl⟩ := trim_pad f2
      have tn := trim_ne (F := F) (by omega) f2
      have td := trim_dig f3
      obtain ⟨k, t1, t2⟩ := trim_spec F
      rw [List.append_assoc, List.cons_append]
      obtain ⟨e1, e2⟩ := tw_app hW (46 :: (Lib.trimRightB F 48 ++ [37]))
      have e3 : (46 :: (Lib.trimRightB F 48 ++ [37])).takeWhile dig = [] := rfl
      have e4 : (46 :: (Lib.trimRightB F 48 ++ [37])).dropWhile dig = 46 :: (Lib.trimRightB F 48 ++ [37]) := rfl
      obtain ⟨e5, e6⟩ := tw_app td [37]
      have e7 : ([37] : List UInt8).takeWhile dig = [] := rfl
      have e8 : ([37] : List UInt8).dropWhile dig = [37] := rfl
      rw [e1, e2, e3, e4, List.append_nil]
      rw [if_neg (show ¬ (Lib.decDigits (r.natAbs / 10000) = [] ∨ (1 < (Lib.decDigits (r.natAbs / 10000)).length ∧ (Lib.decDigits (r.natAbs / 10000)).head? = some 48)) from fun k => by rcases k with k | k; exact hW0 k; exact hz k)]
      dsimp only
      rw [if_neg (show ¬ (46 : UInt8) = 37 by decide), if_pos rfl, e5, e6, e7, e8, List.append_nil]
      rw [if_neg (fun k => by
        rcases k with k | k | k | k
        · exact tn k
        · omega
        · exact t2 k
        · exact k rfl)]
      exact hfin _ (by rw [tp, f4])
    · rw [if_neg h0, List.append_nil]
      obtain ⟨e1, e2⟩ := tw_app hW [37]
      have e7 : ([37] : List UInt8).takeWhile dig = [] := rfl
      have e8 : ([37] : List UInt8).dropWhile dig = [37] := rfl
      rw [e1, e2, e7, e8, List.append_nil]
      rw [if_neg (show ¬ (Lib.decDigits (r.natAbs / 10000) = [] ∨ (1 < (Lib.decDigits (r.natAbs / 10000)).length ∧ (Lib.decDigits (r.natAbs / 10000)).head? = some 48)) from fun k => by rcases k with k | k; exact hW0 k; exact hz k)]
      dsimp only
      rw [if_pos rfl, if_pos rfl]
      exact hfin [] (by
        have : numS (padS []) = 0 := by decide
        omega)
  unfold parseS
  by_cases hn : r < 0
  · rw [if_pos hn]
    simp only [List.cons_append, List.nil_append, List.head?_cons, List.tail_cons, if_true]
    rw [if_neg (by simp)]
    simp only [List.append_assoc] at key ⊢
    exact key true (by simp [hn])
  · rw [if_neg hn, List.nil_append]
    have hh : (Lib.decDigits (r.natAbs / 10000) ++ (if 0 < r.natAbs % 10000 then 46 :: Lib.trimRightB (Lib.decDigits (10000 + r.natAbs % 10000)).tail 48 else []) ++ [37]).head? ≠ some 45 := by
      rw [List.append_assoc, head_app hW0]
      cases hD : Lib.decDigits (r.natAbs / 10000) with
      | nil => exact absurd hD hW0
      | cons b t =>
        rw [hD] at hW
        simp only [List.all_cons, Bool.and_eq_true] at hW
        intro e
        have : b = 45 := by simpa using e
        subst this
        exact absurd hW.1 (by decide)
    rw [if_neg (by simp), if_neg hh]
    exact key false (by simp; omega)

theorem text_parse {s : List UInt8} {x : Int} (h : parseS s = (x, 0)) : (-1000000000 ≤ x ∧ x ≤ 1000000000) ∧ textS x = s := by
  have hbody : ∀ (neg : Bool) (r : List UInt8), bodyS neg r = (x, 0) → (-1000000000 ≤ x ∧ x ≤ 1000000000) ∧ (neg = true ↔ x < 0) ∧ Lib.decDigits (x.natAbs / 10000) ++ (if 0 < x.natAbs % 10000 then 46 :: Lib.trimRightB (Lib.decDigits (10000 + x.natAbs % 10000)).tail 48 else []) ++ [37] = r := by
    intro neg r h
    unfold bodyS at h
    dsimp only at h
    split at h
    · cases h
    · rename_i hc
      have hD := tw_all r
      have hDR := tw_dw r
      have hfin : ∀ E : List UInt8, E.all dig = true → E.length ≤ 4 → finS neg (r.takeWhile dig) E = (x, 0) → (-1000000000 ≤ x ∧ x ≤ 1000000000) ∧ (neg = true ↔ x < 0) ∧ x.natAbs / 10000 = numS (r.takeWhile dig) ∧ x.natAbs % 10000 = numS (padS E) := by
        intro E hE hE4 h
        unfold finS at h
        dsimp only at h
        have hp := pad_lt hE
        generalize numS (padS E) = f at *
        generalize numS (r.takeWhile dig) = m at *
        split at h
        · cases h
        · rename_i hz
          split at h
          · cases h
          · cases neg with
            | true =>
              have hx : -((m * 10000 + f : Nat) : Int) = x := by simpa using h
              refine ⟨by omega, ⟨fun _ => ?_, fun _ => rfl⟩, by omega, by omega⟩
              have : ¬ m * 10000 + f = 0 := fun k => hz ⟨k, rfl⟩
              omega
            | false =>
              have hx : ((m * 10000 + f : Nat) : Int) = x := by simpa using h
              refine ⟨by omega, ⟨(fun k => by cases k), fun k => by omega⟩, by omega, by omega⟩
      have hdec : Lib.decDigits (numS (r.takeWhile dig)) = r.takeWhile dig := dec_of hD (fun k => hc (.inl k)) (by
        by_cases hl : 1 < (r.takeWhile dig).length
        · exact .inr fun k => hc (.inr ⟨hl, k⟩)
        · left
          have : (r.takeWhile dig).length ≠ 0 := fun k => hc (.inl (List.eq_nil_of_length_eq_zero k))
          omega)
      split at h
      · cases h
      · rename_i c T hR
        split at h
        · rename_i h37
          split at h
          · rename_i hT
            subst h37; subst hT
            obtain ⟨g1, g2, g3, g4⟩ := hfin [] rfl (by simp) h
            refine ⟨g1, g2, ?_⟩
            have z : numS (padS []) = 0 := by decide
            rw [g3, hdec, g4, z, if_neg (by omega), List.append_nil, ← hR, hDR]
          · cases h
        · split at h
          · rename_i h46
            split at h
            · cases h
            · rename_i hq
              have hT := tw_dw T
              have hE := tw_all T
              have h37 : T.dropWhile dig = [37] := Classical.byContradiction fun k => hq (.inr (.inr (.inr k)))
              have hE4 : (T.takeWhile dig).length ≤ 4 := Nat.le_of_not_lt fun k => hq (.inr (.inl k))
              have hEl : (T.takeWhile dig).getLast? ≠ some 48 := fun k => hq (.inr (.inr (.inl k)))
              have hE0 : T.takeWhile dig ≠ [] := fun k => hq (.inl k)
              obtain ⟨g1, g2, g3, g4⟩ := hfin _ hE hE4 h
              refine ⟨g1, g2, ?_⟩
              have hpos := pad_pos hE hE0 hE4 hEl
              have hpd := pad_dig hE
              have e49 : numS (49 :: padS (T.takeWhile dig)) = 10000 + numS (padS (T.takeWhile dig)) := by
                have hl := pad_len (T.takeWhile dig)
                match hF : padS (T.takeWhile dig), hl with
                | [a, b, c, d], _ => simp [numS, numF]; omega
              have d49 : Lib.decDigits (10000 + numS (padS (T.takeWhile dig))) = 49 :: padS (T.takeWhile dig) := by
                rw [← e49]
                exact dec_of (by simp only [List.all_cons, hpd, Bool.and_true]; rfl) (by simp) (.inr (by simp))
              rw [g3, hdec, g4, if_pos hpos, d49, List.tail_cons, pad_eq hE4, trim_of hEl, List.append_assoc, List.cons_append, ← h37, hT, ← h46, ← hR, hDR]
          · cases h
  unfold parseS at h
  split at h
  · cases h
  · rename_i h0
    split at h
    · rename_i h45
      obtain ⟨g1, g2, g3⟩ := hbody _ _ h
      refine ⟨g1, ?_⟩
      unfold textS
      rw [if_pos g1, if_pos (g2.1 rfl)]
      cases s with
      | nil => exact absurd rfl h0
      | cons b t =>
        have hb : b = 45 := by simpa using h45
        subst hb
        rw [List.tail_cons] at g3
        simp only [List.append_assoc] at g3 ⊢
        rw [g3]; rfl
    · obtain ⟨g1, g2, g3⟩ := hbody _ _ h
      refine ⟨g1, ?_⟩
      unfold textS
      have hx : ¬ x < 0 := fun k => by have := g2.2 k; cases this
      rw [if_pos g1, if_neg hx, List.nil_append, g3]
theorem text_len (r : Int) : (textS r).length ≤ 100 := by
  unfold textS
  split
  · rename_i h
    have l1 : (Lib.decDigits (r.natAbs / 10000)).length ≤ 6 := dec_len (by omega) (by omega)
    have l2 : (if 0 < r.natAbs % 10000 then 46 :: Lib.trimRightB (Lib.decDigits (10000 + r.natAbs % 10000)).tail 48 else []).length ≤ 5 := by
      split
      · obtain ⟨F, f1, f2, f3, f4⟩ := four (e := r.natAbs % 10000) (by omega)
        rw [f1, List.tail_cons]
        have := (trim_pad f2).2
        simp; omega
      · simp
    have l3 : (if r < 0 then ([45] : List UInt8) else []).length ≤ 1 := by split <;> simp
    simp only [List.length_append, List.length_cons, List.length_nil]
    omega
  · simp

theorem law_RateText (ha : law02_awake () = some true) (r : Int) (s : List UInt8) : law02_RateText (r, s) = some true := by
  unfold law02_RateText
  dsimp only
  simp only [gPi, gSS, gPb, gPm, gPs, gM, gM2, gAnd, gOr, gAndI, gOrI, gAA, gAO, gOA, gOO, gAAf, gAOf, gOAf, gOOf, gAMf, gOMf, gId]
  simp only [gIn1, gIn2, gIn3, gIn4, gIn5, gIn6, gIn7, gIn8, gId, gIdF, gMb, gMm, gBm, gBb, bs, ms]
  rw [ha, bs, if_neg (by decide)]
  by_cases hs : (s.length : Int) > 3000
  · rw [if_pos (decide_eq_true hs)]
  · rw [if_neg (by simpa using hs), rate_Text_eq, bs, rate_Parse_eq s (by omega), bs, ref_Parse_eq s (by omega), bs, ref_Text_eq, bs]
    have z1 : (!(textS r == textS r)) = false := by simp
    have z2 : ((parseS s).1 != (parseS s).1) = false := by simp
    have z3 : ((parseS s).2 != (parseS s).2) = false := by simp
    simp only [z1, z2, z3, Bool.false_eq_true, if_false, bs]
    have z4 : ((if True then some (some ((parseS s).2 == 0)) else some none).bind fun x46 => (if x46 = some true then (rate_Text (parseS s).1).bind fun v => some (some (!(v == s))) else some none).bind fun x50 => x46.bind fun z89 => if z89 = true then x50 else some false) = some false := by
      rw [if_pos trivial, bs]
      by_cases h0 : (parseS s).2 = 0
      · have e : parseS s = ((parseS s).1, 0) := by rw [← h0]
        have t := (text_parse e).2
        have z : ((parseS s).2 == 0) = true := by simpa using h0
        rw [z, if_pos rfl, rate_Text_eq, bs, t, bs, bs, if_pos rfl]
        simp
      · have z : ((parseS s).2 == 0) = false := by simpa using h0
        rw [z, if_neg (by simp), bs, bs, if_neg (by simp)]
    have z5 : ∀ {β : Type} (K : Bool → Option β), ((if True then some (some ((parseS s).2 == 0)) else some none).bind fun x46 => (if x46 = some true then (rate_Text (parseS s).1).bind fun v => some (some (!(v == s))) else some none).bind fun x50 => (x46.bind fun z89 => if z89 = true then x50 else some false).bind K) = K false := by
      intro β K
      have e := congrArg (fun o => Option.bind o K) z4
      simp only [bs] at e
      rw [← e]
      simp only [gBb]
    rw [z5]
    rw [if_neg (show ¬ false = true by decide)]
    rw [rate_Parse_eq _ (by have := text_len r; omega), bs, Right_eq, bs]
    by_cases hr : -1000000000 ≤ r ∧ r ≤ 1000000000
    · rw [decide_eq_true hr, if_neg (by decide), fin_text hr.1 hr.2]
      simp
    · rw [decide_eq_false hr, if_pos (show (!false) = true from rfl)]
      have e : textS r = [] := if_neg hr
      rw [e]
      rfl
end WB
namespace Go.Proofs
open Go.Shelf
def Tryd.laysM173_ren : Go.Shelf.Ren := ⟨fun | 173 => 31 | 246 => 45 | 283 => 55 | 284 => 56 | 285 => 57 | 286 => 58 | 129 => 65 | 317 => 66 | 318 => 67 | 319 => 68 | 320 => 69 | 337 => 77 | 338 => 78 | n => n, fun | 2 => 2 | 3 => 3 | 9 => 9 | 4 => 4 | 171 => 90 | 0 => 0 | 53 => 55 | 37 => 83 | 5 => 5 | 173 => 92 | 212 => 102 | 51 => 103 | 20 => 20 | 213 => 104 | 46 => 84 | 232 => 113 | 233 => 114 | n => n, fun | 17 => 2 | 18 => 4 | 19 => 5 | n => n⟩
theorem Tryd.laysM173 : Go.Proofs.LaysM.n173 Tryd.prog Tryd.laysM173_ren := {
  mixed := by kernel_rfl
  f129 := Tryd.func65.trans (congrArg some (by kernel_rfl))
  f173 := Tryd.func31.trans (congrArg some (by kernel_rfl))
  f246 := Tryd.func45.trans (congrArg some (by kernel_rfl))
  f283 := Tryd.func55.trans (congrArg some (by kernel_rfl))
  f284 := Tryd.func56.trans (congrArg some (by kernel_rfl))
  f285 := Tryd.func57.trans (congrArg some (by kernel_rfl))
  f286 := Tryd.func58.trans (congrArg some (by kernel_rfl))
  f317 := Tryd.func66.trans (congrArg some (by kernel_rfl))
  f318 := Tryd.func67.trans (congrArg some (by kernel_rfl))
  f319 := Tryd.func68.trans (congrArg some (by kernel_rfl))
  f320 := Tryd.func69.trans (congrArg some (by kernel_rfl))
  f337 := Tryd.func77.trans (congrArg some (by kernel_rfl))
  f338 := Tryd.func78.trans (congrArg some (by kernel_rfl))
  t0 := Tryd.underlying0
  a0 := Tryd.isAgg0
  z0 := Tryd.sizeOf0
  v0 := Tryd.zeroValue0
  t2 := Tryd.underlying2
  a2 := Tryd.isAgg2
  z2 := Tryd.sizeOf2
  v2 := Tryd.zeroValue2
  t3 := Tryd.underlying3
  a3 := Tryd.isAgg3
  z3 := Tryd.sizeOf3
  v3 := Tryd.zeroValue3
  t4 := Tryd.underlying4
  a4 := Tryd.isAgg4
  z4 := Tryd.sizeOf4
  v4 := Tryd.zeroValue4
  t5 := Tryd.underlying5
  a5 := Tryd.isAgg5
  z5 := Tryd.sizeOf5
  v5 := Tryd.zeroValue5
  t9 := Tryd.underlying9
  a9 := Tryd.isAgg9
  z9 := Tryd.sizeOf9
  v9 := Tryd.zeroValue9
  t20 := Tryd.underlying20
  a20 := Tryd.isAgg20
  z20 := Tryd.sizeOf20
  v20 := Tryd.zeroValue20
  t37 := Tryd.underlying83
  a37 := Tryd.isAgg83
  z37 := Tryd.sizeOf83
  v37 := Tryd.zeroValue83
  t46 := Tryd.underlying84
  a46 := Tryd.isAgg84
  z46 := Tryd.sizeOf84
  v46 := Tryd.zeroValue84
  t51 := Tryd.underlying103
  a51 := Tryd.isAgg103
  z51 := Tryd.sizeOf103
  v51 := Tryd.zeroValue103
  t53 := Tryd.underlying55
  a53 := Tryd.isAgg55
  z53 := Tryd.sizeOf55
  v53 := Tryd.zeroValue55
  t171 := Tryd.underlying90
  a171 := Tryd.isAgg90
  z171 := Tryd.sizeOf90
  v171 := Tryd.zeroValue90
  t173 := Tryd.underlying92
  a173 := Tryd.isAgg92
  z173 := Tryd.sizeOf92
  v173 := Tryd.zeroValue92
  t212 := Tryd.underlying102
  a212 := Tryd.isAgg102
  z212 := Tryd.sizeOf102
  v212 := Tryd.zeroValue102
  t213 := Tryd.underlying104
  a213 := Tryd.isAgg104
  z213 := Tryd.sizeOf104
  t232 := Tryd.underlying113
  a232 := Tryd.isAgg113
  z232 := Tryd.sizeOf113
  v232 := Tryd.zeroValue113
  t233 := Tryd.underlying114
  a233 := Tryd.isAgg114
  z233 := Tryd.sizeOf114
  v233 := Tryd.zeroValue114
  g17 := by kernel_rfl
  g18 := by kernel_rfl
  g19 := by kernel_rfl
  i0 := by kernel_rfl
  i2 := by kernel_rfl
  i3 := by kernel_rfl
  i4 := by kernel_rfl
  i5 := by kernel_rfl
  i9 := by kernel_rfl
  i20 := by kernel_rfl
  i37 := by kernel_rfl
  i46 := by kernel_rfl
  i51 := by kernel_rfl
  i53 := by kernel_rfl
  i171 := by kernel_rfl
  i173 := by kernel_rfl
  i212 := by kernel_rfl
  i232 := by kernel_rfl
  i233 := by kernel_rfl
  m17 := by kernel_rfl
  m18 := by kernel_rfl
  m19 := by kernel_rfl }
open Go.RowKit Go.Sort Go.Lib in
/-- strconv.FormatInt: "FormatInt returns the string representation of i in the given base": AT BASE 10: i's decimal numeral, for every int64. (LAID: no walk: one application.) -/
theorem Tryd.strconv_FormatInt_10 (n : Int) (h0 : -9223372036854775808 ≤ n) (h1 : n ≤ 9223372036854775807) (w : World) (htab : Lib.TabIs Tryd.prog w "internal/strconv.uint64pow10" .u64 Lib.pow10Tab) :
    Calls Tryd.prog 31 #[.int .i64 n, .int .i64 10] w fun e w' => e = .returned (.string ⟨(Lib.itoa n).toArray⟩) ∧ ∃ k os, w' = grow (w.drewN k) os := Any.strconv_FormatInt_10 Tryd.laysM173 n h0 h1 w htab
def Tryd.lays162_ren : Go.Shelf.Ren := ⟨fun | 162 => 32 | 232 => 46 | 227 => 47 | 234 => 48 | 236 => 49 | 228 => 59 | 271 => 60 | 151 => 61 | 120 => 70 | 197 => 71 | 152 => 72 | 260 => 79 | 137 => 80 | 119 => 81 | 224 => 75 | 225 => 74 | 217 => 73 | 266 => 82 | n => n, fun | 9 => 9 | 4 => 4 | 3 => 3 | 5 => 5 | 117 => 79 | 116 => 78 | 0 => 0 | 124 => 82 | 21 => 21 | 105 => 95 | 46 => 84 | 119 => 115 | 139 => 118 | 138 => 117 | n => n, fun | 3 => 6 | 4 => 7 | n => n⟩
theorem Tryd.lays162 : Go.Proofs.Lays.n162 Tryd.prog Tryd.lays162_ren := {
  mixed := by kernel_rfl
  f119 := Tryd.func81.trans (congrArg some (by kernel_rfl))
  f120 := Tryd.func70.trans (congrArg some (by kernel_rfl))
  f137 := Tryd.func80.trans (congrArg some (by kernel_rfl))
  f151 := Tryd.func61.trans (congrArg some (by kernel_rfl))
  f152 := Tryd.func72.trans (congrArg some (by kernel_rfl))
  f162 := Tryd.func32.trans (congrArg some (by kernel_rfl))
  f197 := Tryd.func71.trans (congrArg some (by kernel_rfl))
  f217 := Tryd.func73.trans (congrArg some (by kernel_rfl))
  f224 := Tryd.func75.trans (congrArg some (by kernel_rfl))
  f225 := Tryd.func74.trans (congrArg some (by kernel_rfl))
  f227 := Tryd.func47.trans (congrArg some (by kernel_rfl))
  f228 := Tryd.func59.trans (congrArg some (by kernel_rfl))
  f232 := Tryd.func46.trans (congrArg some (by kernel_rfl))
  f234 := Tryd.func48.trans (congrArg some (by kernel_rfl))
  f236 := Tryd.func49.trans (congrArg some (by kernel_rfl))
  f260 := Tryd.func79.trans (congrArg some (by kernel_rfl))
  f266 := Tryd.func82.trans (congrArg some (by kernel_rfl))
  f271 := Tryd.func60.trans (congrArg some (by kernel_rfl))
  t0 := Tryd.underlying0
  a0 := Tryd.isAgg0
  z0 := Tryd.sizeOf0
  v0 := Tryd.zeroValue0
  t3 := Tryd.underlying3
  a3 := Tryd.isAgg3
  z3 := Tryd.sizeOf3
  v3 := Tryd.zeroValue3
  t4 := Tryd.underlying4
  a4 := Tryd.isAgg4
  z4 := Tryd.sizeOf4
  v4 := Tryd.zeroValue4
  t5 := Tryd.underlying5
  a5 := Tryd.isAgg5
  z5 := Tryd.sizeOf5
  v5 := Tryd.zeroValue5
  t9 := Tryd.underlying9
  a9 := Tryd.isAgg9
  z9 := Tryd.sizeOf9
  v9 := Tryd.zeroValue9
  t21 := Tryd.underlying21
  a21 := Tryd.isAgg21
  z21 := Tryd.sizeOf21
  v21 := Tryd.zeroValue21
  t46 := Tryd.underlying84
  a46 := Tryd.isAgg84
  z46 := Tryd.sizeOf84
  v46 := Tryd.zeroValue84
  t105 := Tryd.underlying95
  a105 := Tryd.isAgg95
  z105 := Tryd.sizeOf95
  v105 := Tryd.zeroValue95
  t116 := Tryd.underlying78
  a116 := Tryd.isAgg78
  z116 := Tryd.sizeOf78
  t117 := Tryd.underlying79
  a117 := Tryd.isAgg79
  z117 := Tryd.sizeOf79
  v117 := Tryd.zeroValue79
  t119 := Tryd.underlying115
  a119 := Tryd.isAgg115
  z119 := Tryd.sizeOf115
  t124 := Tryd.underlying82
  a124 := Tryd.isAgg82
  z124 := Tryd.sizeOf82
  v124 := Tryd.zeroValue82
  t138 := Tryd.underlying117
  a138 := Tryd.isAgg117
  z138 := Tryd.sizeOf117
  v138 := Tryd.zeroValue117
  t139 := Tryd.underlying118
  a139 := Tryd.isAgg118
  z139 := Tryd.sizeOf118
  v139 := Tryd.zeroValue118
  g3 := by kernel_rfl
  g4 := by kernel_rfl }
open Go.RowKit in
/-- strings.TrimRight: "TrimRight returns a slice of the string s, with all trailing Unicode code points contained in cutset removed.": AT A cutset OF ONE ASCII BYTE. The world is as it was. (LAID: no walk: one application.) -/
theorem Tryd.strings_TrimRight_one (s : ByteArray) (c : UInt8) (hc : c.toNat < 128) (w : World) (hs : s.size ≤ 9223372036854775807) :
    Calls Tryd.prog 32 #[.string s, .string ⟨#[c]⟩] w fun e w' => e = .returned (.string ⟨(Lib.trimRightB s.data.toList c).toArray⟩) ∧ w' = w := Any.strings_TrimRight_one Tryd.lays162 s c hc w hs
def Tryd.lays219_ren : Go.Shelf.Ren := ⟨fun | 219 => 64 | 217 => 73 | 225 => 74 | 224 => 75 | 267 => 76 | 266 => 82 | 314 => 83 | n => n, fun | 9 => 9 | 3 => 3 | 4 => 4 | 5 => 5 | 46 => 84 | 146 => 111 | 51 => 103 | n => n, fun | 1 => 3 | n => n⟩
theorem Tryd.lays219 : Go.Proofs.Lays.n219 Tryd.prog Tryd.lays219_ren := {
  mixed := by kernel_rfl
  f217 := Tryd.func73.trans (congrArg some (by kernel_rfl))
  f219 := Tryd.func64.trans (congrArg some (by kernel_rfl))
  f224 := Tryd.func75.trans (congrArg some (by kernel_rfl))
  f225 := Tryd.func74.trans (congrArg some (by kernel_rfl))
  f266 := Tryd.func82.trans (congrArg some (by kernel_rfl))
  f267 := Tryd.func76.trans (congrArg some (by kernel_rfl))
  f314 := Tryd.func83.trans (congrArg some (by kernel_rfl))
  t3 := Tryd.underlying3
  a3 := Tryd.isAgg3
  z3 := Tryd.sizeOf3
  v3 := Tryd.zeroValue3
  t4 := Tryd.underlying4
  a4 := Tryd.isAgg4
  z4 := Tryd.sizeOf4
  v4 := Tryd.zeroValue4
  t5 := Tryd.underlying5
  a5 := Tryd.isAgg5
  z5 := Tryd.sizeOf5
  v5 := Tryd.zeroValue5
  t9 := Tryd.underlying9
  a9 := Tryd.isAgg9
  z9 := Tryd.sizeOf9
  v9 := Tryd.zeroValue9
  t46 := Tryd.underlying84
  a46 := Tryd.isAgg84
  z46 := Tryd.sizeOf84
  v46 := Tryd.zeroValue84
  t51 := Tryd.underlying103
  a51 := Tryd.isAgg103
  z51 := Tryd.sizeOf103
  v51 := Tryd.zeroValue103
  t146 := Tryd.underlying111
  a146 := Tryd.isAgg111
  z146 := Tryd.sizeOf111
  v146 := Tryd.zeroValue111
  g1 := by kernel_rfl }
open Go.RowKit Go.Lib in
/-- internal/stringslite.Index (what strings.Index calls) AT A substr OF ONE BYTE c: IT RETURNS 'Lib.indexByte s c'; the world is as it was. (LAID: no walk: one application.) -/
theorem Tryd.stringslite_Index_one (s : ByteArray) (c : UInt8) (w : World) :
    Calls Tryd.prog 64 #[.string s, .string ⟨#[c]⟩] w fun e w' => e = .returned (.int .i64 (Lib.indexByte s.data.toList c)) ∧ w' = w := Any.stringslite_Index_one Tryd.lays219 s c w
open Go.RowKit Go.Lib in
def Tryd.lays217_ren : Go.Shelf.Ren := ⟨fun | 217 => 73 | 266 => 82 | n => n, fun | 9 => 9 | 5 => 5 | 3 => 3 | n => n, fun | n => n⟩
theorem Tryd.lays217 : Go.Proofs.Lays.n217 Tryd.prog Tryd.lays217_ren := {
  mixed := by kernel_rfl
  f217 := Tryd.func73.trans (congrArg some (by kernel_rfl))
  f266 := Tryd.func82.trans (congrArg some (by kernel_rfl))
  t3 := Tryd.underlying3
  a3 := Tryd.isAgg3
  z3 := Tryd.sizeOf3
  v3 := Tryd.zeroValue3
  t5 := Tryd.underlying5
  a5 := Tryd.isAgg5
  z5 := Tryd.sizeOf5
  v5 := Tryd.zeroValue5
  t9 := Tryd.underlying9
  a9 := Tryd.isAgg9
  z9 := Tryd.sizeOf9
  v9 := Tryd.zeroValue9 }
open Go.RowKit Go.Lib in
/-- internal/stringslite.IndexByte (what strings.IndexByte calls): IT RETURNS 'Lib.indexByte s c'; the world is as it was. (LAID: no walk: one application.) -/
theorem Tryd.stringslite_IndexByte (s : ByteArray) (c : Int) (w : World) :
    Calls Tryd.prog 73 #[.string s, .int .u8 c] w fun e w' => e = .returned (.int .i64 (Lib.indexByte s.data.toList c.toNat.toUInt8)) ∧ w' = w := Any.stringslite_IndexByte Tryd.lays217 s c w

end Go.Proofs
