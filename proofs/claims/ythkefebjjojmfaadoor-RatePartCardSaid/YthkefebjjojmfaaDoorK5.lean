/-
  OWN TEXTS, MERGED (wip/merge.py): PrE, PrF, PrH, PrI, PrJ, PrK, PrL, PrM, RShelf. No condition of their own.
-/
import Derived.Test.YthkefebjjojmfaaDoorK4
import Derived.Shelf.Strings.Trim
import Derived.Shelf.Small.Utf8
import Derived.Shelf.Small.Strs
import Derived.Shelf.Small.Wraps
import Derived.Shelf.Strconv.Itoa0
import Derived.Shelf.Strconv.Itoa1
import Derived.Shelf.LaysM
import Derived.Shelf.Strconv.Itoa2
import Derived.Shelf.Strconv.Itoa3
import Derived.Shelf.Strconv.Itoa4
import Derived.Shelf.Strings.Search1
import Derived.Shelf.Strings.Search2
import Derived.Shelf.Strings.Cut
import Derived.Shelf.Strings.Shaped
import Derived.Shelf.Strings.Prefix
import Derived.Shelf.Strings.Runes
import Derived.Shelf.Strings.AsciiSet
import Derived.Shelf.Bits.Mul64
import Derived.Shelf.Unicode.DecodeSlow
import Derived.Test.YthkefebjjojmfaaDoorProg
set_option linter.unusedVariables false
set_option linter.unusedSimpArgs false
namespace WB
open Go Go.RowKit

/-- What a list of binary digits is worth. -/
def valL : List Int → Int
  | [] => 0
  | a :: l => a + 2 * valL l
def isBits (l : List Int) : Prop := ∀ a ∈ l, a = 0 ∨ a = 1
theorem valL_set : ∀ {l : List Int} {k : Nat} {a : Int} (_ : l[k]? = some a) (v : Int), valL (l.set k v) = valL l + (v - a) * 2 ^ k
  | [], k, a, h, v => by simp at h
  | b :: l, 0, a, h, v => by
    simp only [List.getElem?_cons_zero, Option.some.injEq] at h
    subst h
    simp only [List.set_cons_zero, valL]
    omega
  | b :: l, k + 1, a, h, v => by
    simp only [List.getElem?_cons_succ] at h
    simp only [List.set_cons_succ, valL, valL_set h v, Int.pow_succ]
    have : 2 * ((v - a) * 2 ^ k) = (v - a) * (2 ^ k * 2) := by rw [Int.mul_left_comm, Int.mul_comm 2]
    omega
theorem valL_nonneg : ∀ {l : List Int}, isBits l → 0 ≤ valL l
  | [], _ => by simp [valL]
  | b :: l, h => by
    have h1 := h b (by simp)
    have h2 := valL_nonneg (l := l) fun a ha => h a (by simp [ha])
    simp only [valL]; omega
theorem valL_lt : ∀ {l : List Int}, isBits l → valL l < 2 ^ l.length
  | [], _ => by simp [valL]
  | b :: l, h => by
    have h1 := h b (by simp)
    have h2 := valL_lt (l := l) fun a ha => h a (by simp [ha])
    simp only [valL, List.length_cons, Int.pow_succ]; omega
theorem valL_get : ∀ {l : List Int} (_ : isBits l) {k : Nat} {a : Int} (_ : l[k]? = some a), a = valL l / 2 ^ k % 2
  | [], _, k, a, h => by simp at h
  | b :: l, hb, 0, a, h => by
    simp only [List.getElem?_cons_zero, Option.some.injEq] at h
    subst h
    have h1 := hb b (by simp)
    simp only [valL]; omega
  | b :: l, hb, k + 1, a, h => by
    simp only [List.getElem?_cons_succ] at h
    have h1 := hb b (by simp)
    have h2 := valL_get (l := l) (fun a ha => hb a (by simp [ha])) h
    have : valL (b :: l) / 2 = valL l := by simp only [valL]; omega
    rw [h2, Int.pow_succ, Int.mul_comm, ← Int.ediv_ediv_of_nonneg (by decide), this]
theorem isBits_set {l : List Int} (h : isBits l) {k : Nat} {v : Int} (hv : v = 0 ∨ v = 1) : isBits (l.set k v) := by
  intro a ha
  rcases List.mem_or_eq_of_mem_set ha with h1 | h1
  · exact h a h1
  · rw [h1]; exact hv
theorem valL_rep : ∀ n, valL (List.replicate n 0) = 0
  | 0 => rfl
  | n + 1 => by simp [List.replicate_succ, valL, valL_rep n]
theorem isBits_rep (n : Nat) : isBits (List.replicate n 0) := fun _ ha => .inl (List.eq_of_mem_replicate ha)
theorem valL_app : ∀ (l m : List Int), valL (l ++ m) = valL l + valL m * 2 ^ l.length
  | [], m => by simp [valL]
  | a :: l, m => by
    simp only [List.cons_append, valL, valL_app l m, List.length_cons, Int.pow_succ]
    rw [← Int.mul_assoc]; omega

theorem bit_eq {x : Nat} (hx : x < 18446744073709551616) {j : Nat} (hj : j ≤ 100) : ref02_bit ((x : Int), (j : Int)) = some ((x / 2 ^ j % 2 : Nat) : Int) := by
  unfold ref02_bit
  dsimp only
  rw [iter_inv (t := (((x / 2 ^ j : Nat) : Int), ())) (fun m st => ∃ k : Nat, k ≤ j ∧ st = (((x / 2 ^ k : Nat) : Int), (j : Int), (k : Int), ()) ∧ m = j - k) ?_ j _ ⟨0, by omega, by simp, by omega⟩]
  · rw [bs]
    dsimp only
    rw [show (if (2 : Int) = 0 then none else some (((x / 2 ^ j : Nat) : Int).tmod 2)) = some ((x / 2 ^ j % 2 : Nat) : Int) from remN (b := 2) (by decide)]
    rfl
  · rintro m st ⟨k, hk, rfl, hm⟩
    unfold ref02_bit_loop1
    dsimp only
    by_cases h : k < j
    · have g : decide ((k : Int) < (j : Int)) = true := decide_eq_true (by omega)
      have hl : x / 2 ^ k < 18446744073709551616 := Nat.lt_of_le_of_lt (Nat.div_le_self _ _) hx
      rw [g, if_pos rfl, show (if (2 : Int) = 0 then none else some (IntKind.u64.wrap (((x / 2 ^ k : Nat) : Int).tdiv 2))) = some ((x / 2 ^ k / 2 : Nat) : Int) from quoN (b := 2) (by decide) hl, bs]
      refine .inl ⟨_, rfl, j - (k + 1), by omega, k + 1, by omega, ?_, rfl⟩
      rw [w64' (by omega) (by omega), Nat.div_div_eq_div_mul, ← Nat.pow_succ]
      rfl
    · have : k = j := by omega
      subst this
      have g : decide ((k : Int) < (k : Int)) = false := decide_eq_false (by omega)
      rw [g, if_neg (by decide)]
      exact .inr rfl
theorem idxI {k n : Nat} (h : k < n) : (if 0 ≤ (k : Int) ∧ (k : Int) < (n : Int) then some (k : Int).toNat else none) = some k := by
  rw [if_pos ⟨by omega, by omega⟩]; rfl

/-- One digit: the sum's last bit stays, the others go on. -/
theorem digit_step {l : List Int} (hl : isBits l) {k : Nat} {a b c : Int} (ha : l[k]? = some a) (hb : b = 0 ∨ b = 1) (hc : c = 0 ∨ c = 1) :
    isBits (l.set k ((a + b + c) % 2)) ∧ ((a + b + c) / 2 = 0 ∨ (a + b + c) / 2 = 1) ∧ valL (l.set k ((a + b + c) % 2)) + (a + b + c) / 2 * 2 ^ (k + 1) = valL l + (b + c) * 2 ^ k := by
  have h1 := hl a (List.mem_of_getElem? ha)
  refine ⟨isBits_set hl (by omega), by omega, ?_⟩
  rw [valL_set ha, Int.pow_succ]
  have e : (a + b + c) % 2 = a + b + c - 2 * ((a + b + c) / 2) := by omega
  rw [e]
  generalize (a + b + c) / 2 = q
  generalize (2 : Int) ^ k = p
  rw [← Int.mul_assoc, Int.mul_comm (q * p) 2, ← Int.mul_assoc]
  have : (a + b + c - 2 * q - a) * p = (b + c) * p - 2 * q * p := by rw [← Int.sub_mul]; congr 1; omega
  omega
theorem carry_eq (x0 x1 x6 : Int) {V : Int} (hV : V < 340282366920938463463374607431768211456) {l0 : List Int} (hl0 : isBits l0) (h129 : l0.length = 129) {c0 : Int} (hc0 : c0 = 0 ∨ c0 = 1) {k0 : Nat} (hk0 : k0 ≤ 129) (hv0 : valL l0 + c0 * 2 ^ k0 = V) :
    ∃ l, iter ref02_product_loop1 (x0, x1, x6, c0, (k0 : Int), l0, (), ()) = some (x0, x1, x6, l, (), ()) ∧ isBits l ∧ l.length = 129 ∧ valL l = V := by
  suffices H : ∀ (n k : Nat) (c : Int) (l : List Int), n + k = 129 → isBits l → l.length = 129 → (c = 0 ∨ c = 1) → valL l + c * 2 ^ k = V → ∃ l', iter ref02_product_loop1 (x0, x1, x6, c, (k : Int), l, (), ()) = some (x0, x1, x6, l', (), ()) ∧ isBits l' ∧ l'.length = 129 ∧ valL l' = V from H (129 - k0) k0 c0 l0 (by omega) hl0 h129 hc0 hv0
  intro n
  induction n with
  | zero =>
    intro k c l hk hl h1 hc hv
    have : c = 0 := by
      rcases hc with h | h
      · exact h
      · have e : k = 129 := by omega
        subst e
        subst h
        have := valL_nonneg hl
        have e2 : (2 : Int) ^ 129 = 680564733841876926926749214863536422912 := by decide
        omega
    subst this
    refine ⟨l, ?_, hl, h1, by omega⟩
    rw [iter_eq]
    rfl
  | succ n ih =>
    intro k c l hk hl h1 hc hv
    rcases hc with h | h
    · subst h
      refine ⟨l, ?_, hl, h1, by omega⟩
      rw [iter_eq]
      rfl
    · subst h
      have hkl : k < l.length := by omega
      obtain ⟨a, ha⟩ : ∃ a, l[k]? = some a := ⟨_, List.getElem?_eq_getElem hkl⟩
      have hab := hl a (List.mem_of_getElem? ha)
      obtain ⟨d1, d2, d3⟩ := digit_step hl ha (b := 0) (c := 1) (.inl rfl) (.inr rfl)
      rw [Int.add_zero] at d1 d2 d3
      obtain ⟨l', e, r1, r2, r3⟩ := ih (k + 1) ((a + 1) / 2) (l.set k ((a + 1) % 2)) (by omega) d1 (by simpa using h1) d2 (by omega)
      refine ⟨l', ?_, r1, r2, r3⟩
      rw [iter_eq]
      have b : ref02_product_loop1 (x0, x1, x6, 1, (k : Int), l, (), ()) = some (.inl (x0, x1, x6, (a + 1) / 2, ((k + 1 : Nat) : Int), l.set k ((a + 1) % 2), (), ())) := by
        unfold ref02_product_loop1
        dsimp only
        rw [if_pos (by decide), idxI hkl, bs, ha, ms, bs]
        have w : IntKind.u64.wrap (a + 1) = a + 1 := wu64' (by omega) (by omega)
        have w1 : (if (2 : Int) = 0 then none else some ((a + 1).tmod 2)) = some ((a + 1) % 2) := by
          rw [if_neg (by decide), Int.tmod_eq_emod_of_nonneg (by omega)]
        have w2 : (if (2 : Int) = 0 then none else some (IntKind.u64.wrap ((a + 1).tdiv 2))) = some ((a + 1) / 2) := by
          rw [if_neg (by decide), Int.tdiv_eq_ediv_of_nonneg (by omega), wu64' (by omega) (by omega)]
        rw [w, w1, bs, bs, ha, ms, bs, w2, bs, w64' (by omega) (by omega)]
        rfl
      rw [b]
      exact e
theorem row_eq (x0 : Int) {y : Nat} (hy : y < 18446744073709551616) {i : Nat} (hi : i < 64) {l0 : List Int} (hl0 : isBits l0) (h129 : l0.length = 129) :
    ∃ l c, iter ref02_product_loop2 (x0, (y : Int), (i : Int), 0, 0, l0, (), ()) = some (x0, (y : Int), (i : Int), c, l, (), ()) ∧ isBits l ∧ l.length = 129 ∧ (c = 0 ∨ c = 1) ∧ valL l + c * 2 ^ (i + 64) = valL l0 + (y : Int) * 2 ^ i := by
  suffices H : ∀ (n j : Nat) (c : Int) (l : List Int), n + j = 64 → isBits l → l.length = 129 → (c = 0 ∨ c = 1) → valL l + c * 2 ^ (i + j) = valL l0 + ((y % 2 ^ j : Nat) : Int) * 2 ^ i → ∃ l' c', iter ref02_product_loop2 (x0, (y : Int), (i : Int), c, (j : Int), l, (), ()) = some (x0, (y : Int), (i : Int), c', l', (), ()) ∧ isBits l' ∧ l'.length = 129 ∧ (c' = 0 ∨ c' = 1) ∧ valL l' + c' * 2 ^ (i + 64) = valL l0 + (y : Int) * 2 ^ i from
    H 64 0 0 l0 rfl hl0 h129 (.inl rfl) (by simp [Nat.mod_one])
  intro n
  induction n with
  | zero =>
    intro j c l hj hl h1 hc hv
    have e : j = 64 := by omega
    subst e
    refine ⟨l, c, ?_, hl, h1, hc, ?_⟩
    · rw [iter_eq]; rfl
    · rw [hv, Nat.mod_eq_of_lt (show y < 2 ^ 64 from hy)]
  | succ n ih =>
    intro j c l hj hl h1 hc hv
    have hkl : i + j < l.length := by omega
    obtain ⟨a, ha⟩ : ∃ a, l[i + j]? = some a := ⟨_, List.getElem?_eq_getElem hkl⟩
    have hab := hl a (List.mem_of_getElem? ha)
    have hb : ((y / 2 ^ j % 2 : Nat) : Int) = 0 ∨ ((y / 2 ^ j % 2 : Nat) : Int) = 1 := by omega
    obtain ⟨d1, d2, d3⟩ := digit_step hl ha hb hc
    have hm : ((y % 2 ^ (j + 1) : Nat) : Int) * 2 ^ i = ((y % 2 ^ j : Nat) : Int) * 2 ^ i + ((y / 2 ^ j % 2 : Nat) : Int) * 2 ^ (i + j) := by
      have h1 : y % 2 ^ (j + 1) = y % 2 ^ j + 2 ^ j * (y / 2 ^ j % 2) := by rw [Nat.pow_succ, Nat.mod_mul]
      have h2 : ((2 ^ j : Nat) : Int) = (2 : Int) ^ j := by rw [Int.natCast_pow]; rfl
      rw [h1, Int.natCast_add, Int.natCast_mul, h2, Int.add_mul, Int.pow_add]
      congr 1
      rw [Int.mul_right_comm, Int.mul_comm ((2 : Int) ^ j * 2 ^ i), Int.mul_comm ((2 : Int) ^ j)]
    generalize hB : ((y / 2 ^ j % 2 : Nat) : Int) = B at *
    obtain ⟨l', c', e, r1, r2, r3, r4⟩ := ih (j + 1) ((a + B + c) / 2) (l.set (i + j) ((a + B + c) % 2)) (by omega) d1 (by simpa using h1) d2 (by
      rw [show i + (j + 1) = i + j + 1 by omega, d3, hm, Int.add_mul]; omega)
    refine ⟨l', c', ?_, r1, r2, r3, r4⟩
    rw [iter_eq]
    have b : ref02_product_loop2 (x0, (y : Int), (i : Int), c, (j : Int), l, (), ()) = some (.inl (x0, (y : Int), (i : Int), (a + B + c) / 2, ((j + 1 : Nat) : Int), l.set (i + j) ((a + B + c) % 2), (), ())) := by
      unfold ref02_product_loop2
      dsimp only
      have w0 : IntKind.i64.wrap ((i : Int) + (j : Int)) = ((i + j : Nat) : Int) := by rw [w64' (by omega) (by omega)]; omega
      have w : IntKind.u64.wrap (IntKind.u64.wrap (a + B) + c) = a + B + c := by rw [wu64' (n := a + B) (by omega) (by omega), wu64' (by omega) (by omega)]
      have w1 : (if (2 : Int) = 0 then none else some ((a + B + c).tmod 2)) = some ((a + B + c) % 2) := by
        rw [if_neg (by decide), Int.tmod_eq_emod_of_nonneg (by omega)]
      have w2 : (if (2 : Int) = 0 then none else some (IntKind.u64.wrap ((a + B + c).tdiv 2))) = some ((a + B + c) / 2) := by
        rw [if_neg (by decide), Int.tdiv_eq_ediv_of_nonneg (by omega), wu64' (by omega) (by omega)]
      rw [if_pos (decide_eq_true (by omega)), w0, idxI hkl, bs, ha, ms, bs, bit_eq hy (by omega), bs, hB, w, w1, bs, bs, ha, ms, bs, w2, bs, w64' (by omega) (by omega)]
      rfl
    rw [b]
    exact e
end WB
namespace WB
open Go Go.RowKit

theorem product_eq {x y : Nat} (hx : x < 18446744073709551616) (hy : y < 18446744073709551616) : ∃ l, ref02_product ((x : Int), (y : Int)) = some l ∧ isBits l ∧ l.length = 128 ∧ valL l = ((x * y : Nat) : Int) := by
  have hxy : x * y < 340282366920938463463374607431768211456 := Nat.mul_lt_mul'' hx hy
  have tot : ∃ l, iter ref02_product_loop3 ((x : Int), (y : Int), (0 : Int), List.replicate 129 0, (), ()) = some (l, (), ()) ∧ isBits l ∧ l.length = 129 ∧ valL l = ((x * y : Nat) : Int) := by
    suffices H : ∀ (n i : Nat) (l : List Int), n + i = 64 → isBits l → l.length = 129 → valL l = ((x % 2 ^ i * y : Nat) : Int) → ∃ l', iter ref02_product_loop3 ((x : Int), (y : Int), (i : Int), l, (), ()) = some (l', (), ()) ∧ isBits l' ∧ l'.length = 129 ∧ valL l' = ((x * y : Nat) : Int) from
      H 64 0 _ rfl (isBits_rep 129) List.length_replicate (by rw [valL_rep, Nat.pow_zero, Nat.mod_one, Nat.zero_mul]; rfl)
    intro n
    induction n with
    | zero =>
      intro i l hi hl h1 hv
      have e : i = 64 := by omega
      subst e
      refine ⟨l, ?_, hl, h1, ?_⟩
      · rw [iter_eq]; rfl
      · rw [hv, Nat.mod_eq_of_lt (show x < 2 ^ 64 from hx)]
    | succ n ih =>
      intro i l hi hl h1 hv
      have hm : x % 2 ^ (i + 1) = x % 2 ^ i + 2 ^ i * (x / 2 ^ i % 2) := by rw [Nat.pow_succ, Nat.mod_mul]
      have hle : x % 2 ^ (i + 1) * y ≤ x * y := Nat.mul_le_mul_right y (Nat.mod_le _ _)
      have g1 : decide ((i : Int) < 64) = true := decide_eq_true (by omega)
      have g2 : IntKind.i64.wrap ((i : Int) + 1) = ((i + 1 : Nat) : Int) := by rw [w64' (by omega) (by omega)]; omega
      have g3 : IntKind.i64.wrap ((i : Int) + 64) = ((i + 64 : Nat) : Int) := by rw [w64' (by omega) (by omega)]; omega
      rcases Nat.mod_two_eq_zero_or_one (x / 2 ^ i) with hb | hb
      · obtain ⟨l', e, r⟩ := ih (i + 1) l (by omega) hl h1 (by rw [hm, hb, Nat.mul_zero, Nat.add_zero]; exact hv)
        refine ⟨l', ?_, r⟩
        rw [iter_eq]
        have b : ref02_product_loop3 ((x : Int), (y : Int), (i : Int), l, (), ()) = some (.inl ((x : Int), (y : Int), ((i + 1 : Nat) : Int), l, (), ())) := by
          unfold ref02_product_loop3
          dsimp only
          rw [g1, if_pos rfl, bit_eq hx (by omega), hb, bs, if_pos (by decide), bs]
          dsimp only
          rw [g2]
        rw [b]
        exact e
      · obtain ⟨l1, c, e1, a1, a2, a3, a4⟩ := row_eq (x : Int) hy (show i < 64 by omega) hl h1
        have hV : valL l + (y : Int) * 2 ^ i = ((x % 2 ^ (i + 1) * y : Nat) : Int) := by
          have h2 : ((2 ^ i : Nat) : Int) = (2 : Int) ^ i := by rw [Int.natCast_pow]; rfl
          rw [hv, hm, hb, Nat.mul_one, Nat.add_mul, Int.natCast_add, Int.natCast_mul (2 ^ i) y, h2, Int.mul_comm (y : Int)]
        obtain ⟨l2, e2, b1, b2, b3⟩ := carry_eq (x : Int) (y : Int) (i : Int) (V := ((x % 2 ^ (i + 1) * y : Nat) : Int)) (by omega) a1 a2 a3 (show i + 64 ≤ 129 by omega) (by rw [a4, hV])
        obtain ⟨l', e, r⟩ := ih (i + 1) l2 (by omega) b1 b2 b3
        refine ⟨l', ?_, r⟩
        rw [iter_eq]
        have b : ref02_product_loop3 ((x : Int), (y : Int), (i : Int), l, (), ()) = some (.inl ((x : Int), (y : Int), ((i + 1 : Nat) : Int), l2, (), ())) := by
          unfold ref02_product_loop3
          dsimp only
          rw [g1, if_pos rfl, bit_eq hx (by omega), hb, bs, if_neg (by decide), e1, bs]
          dsimp only
          rw [g3, e2, bs]
          dsimp only
          rw [bs]
          dsimp only
          rw [g2]
        rw [b]
        exact e
  obtain ⟨l, e, h1, h2, h3⟩ := tot
  refine ⟨l.take 128, ?_, fun a ha => h1 a (List.mem_of_mem_take ha), by simp [h2], ?_⟩
  · unfold ref02_product
    dsimp only
    rw [if_pos (by decide), bs, show (129 : Int).toNat = 129 from rfl, e, bs]
    dsimp only
    rw [show ((0 : Int)) = ((0 : Nat) : Int) from rfl, show ((128 : Int)) = ((128 : Nat) : Int) from rfl, lSub_nat (by omega) (by omega), bs, List.drop_zero]
  · have h4 : valL l = valL (l.take 128) + valL (l.drop 128) * 2 ^ 128 := by
      conv => lhs; rw [← List.take_append_drop 128 l]
      rw [valL_app, List.length_take, h2]; rfl
    have h5 := valL_nonneg (l := l.drop 128) fun a ha => h1 a (List.mem_of_mem_drop ha)
    have h6 := valL_nonneg (l := l.take 128) fun a ha => h1 a (List.mem_of_mem_take ha)
    have h7 : (2 : Int) ^ 128 = 340282366920938463463374607431768211456 := by decide
    rw [h7] at h4
    omega

theorem Divided_eq {x y d : Nat} (hx : x < 18446744073709551616) (hy : y < 18446744073709551616) (hd0 : 0 < d) (hd : d < 9223372036854775808) :
    ∃ (q : Int) (ok : Bool), ref02_Divided ((x : Int), (y : Int), (d : Int)) = some (q, ((x * y % d : Nat) : Int), ok) ∧ (ok = true → q = ((x * y / d : Nat) : Int) ∧ x * y / d < 4611686018427387904) ∧ (ok = false → 2305843009213693952 ≤ x * y / d) := by
  obtain ⟨l, e, hl, h128, hv⟩ := product_eq hx hy
  have hxy : x * y < 340282366920938463463374607431768211456 := Nat.mul_lt_mul'' hx hy
  generalize x * y = N at *
  have tot : ∃ (q : Int) (ok : Bool), iter ref02_Divided_loop1 ((d : Int), l, 0, 0, true, 127, ()) = some (q, ((N % d : Nat) : Int), ok, ()) ∧ (ok = true → q = ((N / d : Nat) : Int) ∧ N / d < 4611686018427387904) ∧ (ok = false → 2305843009213693952 ≤ N / d) := by
    suffices H : ∀ (i : Nat) (q : Int) (ok : Bool), i ≤ 128 → (ok = true → q = ((N / 2 ^ i / d : Nat) : Int) ∧ N / 2 ^ i / d < 4611686018427387904) → (ok = false → 2305843009213693952 ≤ N / 2 ^ i / d) → ∃ (q' : Int) (ok' : Bool), iter ref02_Divided_loop1 ((d : Int), l, q, ((N / 2 ^ i % d : Nat) : Int), ok, (i : Int) - 1, ()) = some (q', ((N % d : Nat) : Int), ok', ()) ∧ (ok' = true → q' = ((N / d : Nat) : Int) ∧ N / d < 4611686018427387904) ∧ (ok' = false → 2305843009213693952 ≤ N / d) by
      have z : N / 2 ^ 128 = 0 := Nat.div_eq_of_lt hxy
      have := H 128 0 true (by omega) (fun _ => by rw [z]; simp) (by intro h; cases h)
      rw [z] at this
      simpa using this
    intro i
    induction i with
    | zero =>
      intro q ok _ h1 h2
      refine ⟨q, ok, ?_, by simpa using h1, by simpa using h2⟩
      rw [iter_eq]
      have b : ref02_Divided_loop1 ((d : Int), l, q, ((N / 2 ^ 0 % d : Nat) : Int), ok, ((0 : Nat) : Int) - 1, ()) = some (.inr (q, ((N % d : Nat) : Int), ok, ())) := by
        unfold ref02_Divided_loop1
        dsimp only
        rw [if_neg (by decide), Nat.pow_zero, Nat.div_one]
      rw [b]
      rfl
    | succ i ih =>
      intro q ok hi h1 h2
      have hP : N / 2 ^ i = 2 * (N / 2 ^ (i + 1)) + N / 2 ^ i % 2 := by
        rw [Nat.pow_succ, ← Nat.div_div_eq_div_mul]; omega
      obtain ⟨a, ha⟩ : ∃ a, l[i]? = some a := ⟨_, List.getElem?_eq_getElem (by omega)⟩
      have hav : a = ((N / 2 ^ i % 2 : Nat) : Int) := by
        rw [valL_get hl ha, hv, Int.natCast_emod, Int.natCast_ediv, Int.natCast_pow]; rfl
      have hr : N / 2 ^ (i + 1) % d < d := Nat.mod_lt _ hd0
      have hdm := Nat.div_add_mod (N / 2 ^ (i + 1)) d
      generalize hM : N / 2 ^ (i + 1) = M at *
      generalize hb : N / 2 ^ i % 2 = b at *
      have hb1 : b ≤ 1 := by omega
      -- the next rest and quotient
      have key : (N / 2 ^ i % d, N / 2 ^ i / d) = if d ≤ 2 * (M % d) + b then (2 * (M % d) + b - d, 2 * (M / d) + 1) else (2 * (M % d) + b, 2 * (M / d)) := by
        have e1 : N / 2 ^ i = d * (2 * (M / d)) + (2 * (M % d) + b) := by
          rw [hP, Nat.mul_left_comm]; omega
        by_cases h : d ≤ 2 * (M % d) + b
        · rw [if_pos h]
          have e2 : N / 2 ^ i = d * (2 * (M / d) + 1) + (2 * (M % d) + b - d) := by rw [e1, Nat.mul_add]; omega
          rw [e2, Nat.mul_add_mod, Nat.mul_add_div hd0, Nat.mod_eq_of_lt (show 2 * (M % d) + b - d < d by omega), Nat.div_eq_of_lt (show 2 * (M % d) + b - d < d by omega), Nat.add_zero]
        · rw [if_neg h, e1, Nat.mul_add_mod, Nat.mul_add_div hd0, Nat.mod_eq_of_lt (show 2 * (M % d) + b < d by omega), Nat.div_eq_of_lt (show 2 * (M % d) + b < d by omega), Nat.add_zero]
      generalize M % d = r at *
      generalize M / d = Q at *
      have w1 : IntKind.u64.wrap (IntKind.u64.wrap (2 * (r : Int)) + a) = ((2 * r + b : Nat) : Int) := by
        rw [wu64' (n := 2 * (r : Int)) (by omega) (by omega), wu64' (by omega) (by omega)]; omega
      have w2 : IntKind.i64.wrap ((i : Int) - 1) = (i : Int) - 1 := by rw [w64' (by omega) (by omega)]
      have g1 : decide (((i + 1 : Nat) : Int) - 1 ≥ 0) = true := decide_eq_true (by omega)
      have g2 : (((i + 1 : Nat) : Int) - 1) = (i : Int) := by omega
      have fk : ∀ {β : Type} (F : Bool → Option β), (Option.bind (if ok = true then (((if ok = true then some q else none).bind (fun z37 => some (z37, (2305843009213693952 : Int)))).map (fun z39 => (decide (z39.1 < z39.2)))).map some else some none) fun x31 => Option.bind (if ok then x31 else some false) F) = F (ok && decide (q < 2305843009213693952)) := by
        intro β F
        cases ok
        · simp only [Bool.false_eq_true, if_false, bs, Bool.false_and]
        · simp only [if_true, bs, ms, Bool.true_and]
      have bd : ref02_Divided_loop1 ((d : Int), l, q, (r : Int), ok, ((i + 1 : Nat) : Int) - 1, ()) = some (.inl ((d : Int), l, if d ≤ 2 * r + b then IntKind.u64.wrap (IntKind.u64.wrap (2 * q) + 1) else IntKind.u64.wrap (2 * q), ((N / 2 ^ i % d : Nat) : Int), ok && decide (q < 2305843009213693952), (i : Int) - 1, ())) := by
        unfold ref02_Divided_loop1
        dsimp only
        rw [g1, if_pos rfl, g2, lAt_nat ha, ms, bs, fk, w1]
        by_cases h : d ≤ 2 * r + b
        · rw [if_pos h] at key ⊢
          have k1 := congrArg Prod.fst key
          dsimp only at k1
          have g3 : decide (((2 * r + b : Nat) : Int) ≥ (d : Int)) = true := decide_eq_true (by omega)
          have w3 : IntKind.u64.wrap (((2 * r + b : Nat) : Int) - (d : Int)) = ((2 * r + b - d : Nat) : Int) := by rw [wu64' (by omega) (by omega)]; omega
          rw [g3, if_pos rfl, w3, bs]
          dsimp only
          rw [w2, k1]
        · rw [if_neg h] at key ⊢
          have k1 := congrArg Prod.fst key
          dsimp only at k1
          have g3 : decide (((2 * r + b : Nat) : Int) ≥ (d : Int)) = false := decide_eq_false (by omega)
          rw [g3, if_neg (by decide), bs]
          dsimp only
          rw [w2, k1]
      have k2 := congrArg Prod.snd key
      dsimp only at k2
      have k3 : N / 2 ^ i / d = if d ≤ 2 * r + b then 2 * Q + 1 else 2 * Q := by rw [k2]; split <;> rfl
      rw [iter_eq, bd]
      refine ih _ _ (by omega) ?_ ?_
      · intro ho
        simp only [Bool.and_eq_true, decide_eq_true_eq] at ho
        obtain ⟨q1, q2⟩ := h1 ho.1
        subst q1
        have w4 : IntKind.u64.wrap (2 * (Q : Int)) = ((2 * Q : Nat) : Int) := by rw [wu64' (by omega) (by omega)]; omega
        have w5 : IntKind.u64.wrap (((2 * Q : Nat) : Int) + 1) = ((2 * Q + 1 : Nat) : Int) := by rw [wu64' (by omega) (by omega)]; omega
        rw [k3, w4, w5]
        constructor
        · split <;> rfl
        · split <;> omega
      · intro ho
        have : 2305843009213693952 ≤ Q := by
          cases ok
          · exact h2 rfl
          · obtain ⟨q1, q2⟩ := h1 rfl
            simp only [Bool.true_and, decide_eq_false_iff_not] at ho
            omega
        rw [k3]
        split <;> omega
  obtain ⟨q, ok, e2, r⟩ := tot
  refine ⟨q, ok, ?_, r⟩
  unfold ref02_Divided
  dsimp only
  rw [e, bs, e2, bs]
end WB
namespace WB
open Go Go.RowKit

theorem Rounded_eq {neg : Bool} {q : Int} {r d : Nat} {mode : Int} (hd : d < 18446744073709551616) (hr : r < d) :
    ∃ u : Bool, ref02_Rounded (q, (r : Int), (d : Int), neg, mode) = some (if u then IntKind.u64.wrap (q + 1) else q) ∧ ∀ Q : Nat, q = (Q : Int) → u = upS neg Q r d mode := by
  have w : IntKind.u64.wrap ((d : Int) - (r : Int)) = ((d - r : Nat) : Int) := by rw [wu64' (by omega) (by omega)]; omega
  have c1 : decide ((r : Int) > 0) = decide (0 < r) := by apply decide_eq_decide.2; omega
  have c2 : decide ((r : Int) ≥ ((d - r : Nat) : Int)) = decide (d - r ≤ r) := by apply decide_eq_decide.2; omega
  have c3 : ((r : Int) == ((d - r : Nat) : Int)) = decide (r = d - r) := by
    rw [Bool.eq_iff_iff]; simp only [beq_iff_eq, decide_eq_true_eq]; omega
  have c6 : decide ((r : Int) > ((d - r : Nat) : Int)) = decide (d - r < r) := by apply decide_eq_decide.2; omega
  have fin : ∀ u : Bool, (if u = true then some (IntKind.u64.wrap (q + 1)) else some q) = some (if u then IntKind.u64.wrap (q + 1) else q) := by intro u; cases u <;> rfl
  unfold ref02_Rounded upS
  dsimp only
  by_cases m1 : mode = 1
  · subst m1
    refine ⟨decide (d - r ≤ r), ?_, fun Q hQ => by simp⟩
    simp only [beq_self_eq_true, if_true, bs, w, c2]
    exact fin _
  have m1' : (mode == 1) = false := by simpa using m1
  by_cases m2 : mode = 2
  · subst m2
    by_cases e : d - r < r
    · refine ⟨true, ?_, fun Q hQ => ?_⟩
      · simp only [m1', beq_self_eq_true, if_true, Bool.false_eq_true, if_false, bs, w, c6, decide_eq_true e, Bool.true_eq_false, reduceCtorEq]
      · have h1 : ¬(r = d - r) := by omega
        simp [h1]; omega
    · by_cases e2 : r = d - r
      · have c3' : ((r : Int) == ((d - r : Nat) : Int)) = true := by rw [c3]; exact decide_eq_true e2
        refine ⟨q.tmod 2 == 1, ?_, fun Q hQ => ?_⟩
        · simp only [m1', beq_self_eq_true, if_true, Bool.false_eq_true, if_false, bs, ms, w, c6, decide_eq_false e, c3', show ¬((2 : Int) = 0) by decide]
          exact fin _
        · subst hQ
          have c5 : ((Q : Int).tmod 2 == 1) = (Q % 2 == 1) := by
            rw [Bool.eq_iff_iff]; simp only [beq_iff_eq]; rw [Int.tmod_eq_emod_of_nonneg (by omega)]; omega
          rw [c5, if_neg (by decide), if_neg (by decide), if_pos rfl, if_pos e2]
      · have c3' : ((r : Int) == ((d - r : Nat) : Int)) = false := by rw [c3]; exact decide_eq_false e2
        refine ⟨false, ?_, fun Q hQ => ?_⟩
        · simp only [m1', beq_self_eq_true, if_true, Bool.false_eq_true, if_false, bs, ms, w, c6, decide_eq_false e, c3', Option.some.injEq]
        · rw [if_neg (by decide), if_neg (by decide), if_pos rfl, if_neg e2]
          exact (decide_eq_false (by omega)).symm
  have m2' : (mode == 2) = false := by simpa using m2
  by_cases m3 : mode = 3
  · subst m3
    refine ⟨decide (0 < r), ?_, fun Q hQ => by simp⟩
    simp only [m1', m2', beq_self_eq_true, if_true, Bool.false_eq_true, if_false, bs, c1]
    exact fin _
  have m3' : (mode == 3) = false := by simpa using m3
  by_cases m4 : mode = 4
  · subst m4
    refine ⟨decide (0 < r) && neg, ?_, fun Q hQ => by simp [Bool.and_comm]⟩
    simp only [m1', m2', m3', beq_self_eq_true, if_true, Bool.false_eq_true, if_false, c1]
    by_cases h : 0 < r
    · simp only [decide_eq_true h, if_true, bs, Bool.true_and]
      exact fin _
    · simp only [decide_eq_false h, Bool.false_eq_true, if_false, bs, Bool.false_and]
  have m4' : (mode == 4) = false := by simpa using m4
  refine ⟨false, ?_, fun Q hQ => by simp [m1, m2, m3, m4]⟩
  simp only [m1', m2', m3', m4', Bool.false_eq_true, if_false, bs]
theorem Fits_eq (c : Int) : ref02_Fits c = some (decide (-1125899906842624 ≤ c ∧ c ≤ 1125899906842624)) := amount_eq c
theorem Abs_eq {c : Int} (h1 : -9223372036854775808 ≤ c) (h2 : c ≤ 9223372036854775807) : ref02_Abs c = some (c.natAbs : Int) := rsize_eq h1 h2
theorem modeK (mode : Int) {β : Type} (F : Bool → Option β) : (Option.bind (if decide (mode < 0) = false then (((if decide (mode < 0) = false then some mode else none).bind (fun z17 => some (z17, (4 : Int)))).map (fun z19 => (decide (z19.1 > z19.2)))).map some else some none) fun x27 => (Option.bind (if decide (mode < 0) then some true else x27.map (fun z20 => z20)) F)) = F (decide (mode < 0 ∨ 4 < mode)) := by
  by_cases h4 : mode < 0
  · simp only [decide_eq_true h4, if_true, Bool.true_eq_false, if_false, bs]
    simp [h4]
  · simp only [decide_eq_false h4, if_true, Bool.false_eq_true, if_false, bs, ms]
    simp [h4]
theorem dPart_eq {c num den mode : Int} (c1 : -9223372036854775808 ≤ c) (c2 : c ≤ 9223372036854775807) (n1 : -9223372036854775808 ≤ num) (n2 : num ≤ 9223372036854775807) (hd : den ≤ 9223372036854775807) : ref02_Part (c, num, den, mode) = some (partS c num den mode) := by
  unfold ref02_Part partS
  dsimp only
  rw [Fits_eq, bs]
  by_cases h1 : -1125899906842624 ≤ c ∧ c ≤ 1125899906842624
  · rw [decide_eq_true h1, if_neg (show ¬((!true) = true) by decide), if_neg (show ¬¬(-1125899906842624 ≤ c ∧ c ≤ 1125899906842624) from fun k => k h1)]
    by_cases h2 : den = 0
    · subst h2; rfl
    have g : (den == 0) = false := by simpa using h2
    rw [g, if_neg (by decide), if_neg h2]
    by_cases h3 : den < 0
    · rw [decide_eq_true h3, if_pos rfl, if_pos h3]
    rw [decide_eq_false h3, if_neg (by decide), if_neg h3, modeK]
    by_cases h5 : mode < 0 ∨ 4 < mode
    · rw [decide_eq_true h5, if_pos rfl, if_pos h5]
    rw [decide_eq_false h5, if_neg (by decide), if_neg h5, Abs_eq c1 c2, Abs_eq n1 n2, show (!(decide (c < 0) == decide (num < 0))) = negS c num from rfl]
    simp only [bs]
    generalize negS c num = neg
    obtain ⟨d, rfl⟩ := Int.eq_ofNat_of_zero_le (show 0 ≤ den by omega)
    rw [wu64 (show d < 18446744073709551616 by omega), Int.toNat_natCast]
    obtain ⟨q, ok, e, k1, k2⟩ := Divided_eq (x := c.natAbs) (y := num.natAbs) (d := d) (by omega) (by omega) (by omega) (by omega)
    generalize c.natAbs * num.natAbs = N at *
    rw [e]
    simp only [bs]
    have hr : N % d < d := Nat.mod_lt _ (by omega)
    obtain ⟨u, e2, k3⟩ := Rounded_eq (neg := neg) (q := q) (mode := mode) (show d < 18446744073709551616 by omega) hr
    rw [e2]
    simp only [bs]
    cases ok with
    | false =>
      have := k2 rfl
      have hs : 1125899906842624 < sizeS neg N d mode := by unfold sizeS; omega
      rw [if_pos hs]
      rfl
    | true =>
      obtain ⟨k4, k5⟩ := k1 rfl
      have k6 := k3 _ k4
      have hq0 : (0 : Int) ≤ ((N / d : Nat) : Int) := Int.natCast_nonneg _
      have hv : (if u = true then IntKind.u64.wrap (q + 1) else q) = (sizeS neg N d mode : Int) := by
        unfold sizeS
        rw [← k6, k4]
        cases u
        · simp
        · rw [if_pos rfl, if_pos rfl, wu64' (by omega) (by omega)]; omega
      have hb : sizeS neg N d mode ≤ N / d + 1 := by unfold sizeS; split <;> omega
      rw [hv]
      generalize sizeS neg N d mode = S at *
      by_cases h9 : 1125899906842624 < S
      · have g : decide ((S : Int) > 1125899906842624) = true := decide_eq_true (by omega)
        simp only [g, if_pos h9, Bool.not_true, if_true, bs, ms, Bool.false_eq_true, if_false]
      · have g : decide ((S : Int) > 1125899906842624) = false := decide_eq_false (by omega)
        have w1 : IntKind.i64.wrap (S : Int) = (S : Int) := w64' (by omega) (by omega)
        have w2 : IntKind.i64.wrap (0 - (S : Int)) = -(S : Int) := by rw [w64' (by omega) (by omega)]; omega
        simp only [g, if_neg h9, Bool.not_true, if_true, bs, ms, Bool.false_eq_true, if_false, w1, w2]
        cases neg <;> rfl
  · rw [decide_eq_false h1, if_pos (by decide), if_pos h1]
end WB
namespace WB
open Go Go.RowKit

/-- A product, divided and rounded. -/
def rnd (mode : Int) (d : Nat) (P : Int) : Int := if P < 0 then -(sizeS true P.natAbs d mode : Int) else (sizeS false P.natAbs d mode : Int)
theorem up0 (neg : Bool) (q d : Nat) (mode : Int) (hd : 0 < d) : upS neg q 0 d mode = false := by
  unfold upS
  have h1 : ¬(0 = d) := by omega
  have h2 : ¬(d = 0) := by omega
  simp [h1, h2]
theorem sizeS0 (neg : Bool) (d : Nat) (mode : Int) (hd : 0 < d) : sizeS neg 0 d mode = 0 := by
  unfold sizeS
  rw [Nat.zero_mod, up0 _ _ _ _ hd]
  simp
theorem partS_ok {c num mode : Int} {d : Nat} (hc : -1125899906842624 ≤ c ∧ c ≤ 1125899906842624) (hd : 0 < d) (hm : 0 ≤ mode ∧ mode ≤ 4) :
    partS c num (d : Int) mode = if 1125899906842624 < (rnd mode d (c * num)).natAbs then (0, 9) else (rnd mode d (c * num), 0) := by
  unfold partS
  rw [if_neg (show ¬¬(-1125899906842624 ≤ c ∧ c ≤ 1125899906842624) from fun k => k hc), if_neg (by omega), if_neg (by omega), if_neg (by omega), Int.toNat_natCast, ← Int.natAbs_mul]
  have key : (if negS c num = true then -(sizeS (negS c num) (c * num).natAbs d mode : Int) else (sizeS (negS c num) (c * num).natAbs d mode : Int)) = rnd mode d (c * num) ∧ sizeS (negS c num) (c * num).natAbs d mode = (rnd mode d (c * num)).natAbs := by
    by_cases h0 : c * num = 0
    · unfold rnd
      rw [h0]
      simp [sizeS0 _ d mode hd]
    · have hn : negS c num = decide (c * num < 0) := by
        unfold negS
        have hc0 : c ≠ 0 := fun h => h0 (by rw [h, Int.zero_mul])
        have hn0 : num ≠ 0 := fun h => h0 (by rw [h, Int.mul_zero])
        by_cases h1 : c < 0
        · by_cases h2 : num < 0
          · have := Int.mul_pos_of_neg_of_neg h1 h2
            simp [h1, h2]; omega
          · have := Int.mul_neg_of_neg_of_pos h1 (show 0 < num by omega)
            simp [h1, h2]; omega
        · by_cases h2 : num < 0
          · have := Int.mul_neg_of_pos_of_neg (show 0 < c by omega) h2
            simp [h1, h2]; omega
          · have := Int.mul_pos (show 0 < c by omega) (show 0 < num by omega)
            simp [h1, h2]; omega
      rw [hn]
      unfold rnd
      by_cases h : c * num < 0
      · simp [h]
      · simp [h]
  rw [key.1, key.2]
theorem sizeS_mono (neg : Bool) {n n' d : Nat} (hd : 0 < d) (mode : Int) (h : n ≤ n') : sizeS neg n d mode ≤ sizeS neg n' d mode := by
  have h1 : n / d ≤ n' / d := Nat.div_le_div_right h
  unfold sizeS
  by_cases e : n / d = n' / d
  · have e1 := Nat.div_add_mod n d
    have e2 := Nat.div_add_mod n' d
    rw [e] at e1 ⊢
    have hr : n % d ≤ n' % d := by omega
    have hr' := Nat.mod_lt n' hd
    generalize n' / d = q at *
    generalize n % d = r at *
    generalize n' % d = r' at *
    have : upS neg q r d mode = true → upS neg q r' d mode = true := by
      unfold upS
      split
      · simp only [Bool.and_eq_true, decide_eq_true_eq]; rintro ⟨a, b⟩; exact ⟨a, by omega⟩
      · split
        · simp only [decide_eq_true_eq]; omega
        · split
          · by_cases x : r = d - r
            · rw [if_pos x]
              intro hq
              by_cases y : r' = d - r'
              · rw [if_pos y]; exact hq
              · rw [if_neg y]; simp only [decide_eq_true_eq]; omega
            · rw [if_neg x]
              simp only [decide_eq_true_eq]
              intro hq
              rw [if_neg (by omega)]
              simp only [decide_eq_true_eq]; omega
          · split
            · simp only [decide_eq_true_eq]; omega
            · exact id
    by_cases hu : upS neg q r d mode = true
    · rw [if_pos hu, if_pos (this hu)]; exact Nat.le_refl _
    · rw [if_neg hu]; omega
  · split <;> split <;> omega
theorem rnd_mono {mode : Int} {d : Nat} (hd : 0 < d) {P Q : Int} (h : P ≤ Q) : rnd mode d P ≤ rnd mode d Q := by
  unfold rnd
  by_cases h1 : P < 0
  · rw [if_pos h1]
    by_cases h2 : Q < 0
    · rw [if_pos h2]
      have := sizeS_mono true hd mode (show Q.natAbs ≤ P.natAbs by omega)
      omega
    · rw [if_neg h2]; omega
  · rw [if_neg h1, if_neg (by omega)]
    have := sizeS_mono false hd mode (show P.natAbs ≤ Q.natAbs by omega)
    omega
theorem rnd_exact {mode : Int} {d : Nat} (hd : 0 < d) (c : Int) : rnd mode d (c * (d : Int)) = c := by
  have e : (c * (d : Int)).natAbs = c.natAbs * d := by rw [Int.natAbs_mul, Int.natAbs_natCast]
  have s : ∀ neg, sizeS neg (c.natAbs * d) d mode = c.natAbs := by
    intro neg
    unfold sizeS
    rw [Nat.mul_mod_left, Nat.mul_div_cancel _ hd, up0 _ _ _ _ hd]
    rfl
  unfold rnd
  rw [e, s, s]
  by_cases h : c < 0
  · have := Int.mul_neg_of_neg_of_pos h (show (0 : Int) < d by omega)
    rw [if_pos this]; omega
  · have := Int.mul_nonneg (show 0 ≤ c by omega) (show (0 : Int) ≤ d by omega)
    rw [if_neg (by omega)]; omega
theorem rnd_many {mode : Int} {d k : Nat} (hk : 0 < k) (P : Int) : rnd mode (d * k) (P * (k : Int)) = rnd mode d P := by
  have e : (P * (k : Int)).natAbs = P.natAbs * k := by rw [Int.natAbs_mul, Int.natAbs_natCast]
  have s : ∀ neg n, sizeS neg (n * k) (d * k) mode = sizeS neg n d mode := by
    intro neg n
    unfold sizeS
    rw [Nat.mul_mod_mul_right, Nat.mul_div_mul_right _ _ hk]
    have u : upS neg (n / d) (n % d * k) (d * k) mode = upS neg (n / d) (n % d) d mode := by
      generalize n % d = r
      have h1 : (0 < r * k) ↔ 0 < r := ⟨fun h => Nat.pos_of_mul_pos_right h, fun h => Nat.mul_pos h hk⟩
      have h2 : r * k = d * k - r * k ↔ r = d - r := by
        rw [← Nat.sub_mul]
        exact ⟨fun h => Nat.eq_of_mul_eq_mul_right hk h, fun h => congrArg (· * k) h⟩
      have h3 : d * k - r * k ≤ r * k ↔ d - r ≤ r := by
        rw [← Nat.sub_mul]
        exact ⟨fun h => Nat.le_of_mul_le_mul_right h hk, fun h => Nat.mul_le_mul_right k h⟩
      unfold upS
      simp only [h1, h2, h3]
    rw [u]
  unfold rnd
  rw [e, s, s]
  have : P * (k : Int) < 0 ↔ P < 0 := by
    constructor
    · intro h
      apply Int.not_le.1
      intro h2
      have := Int.mul_nonneg h2 (show (0 : Int) ≤ k by omega)
      omega
    · intro h
      exact Int.mul_neg_of_neg_of_pos h (by omega)
  simp only [this]
/-- Rounded as Half does: not farther than half. -/
theorem rnd_half {d : Nat} (hd : 0 < d) (P : Int) : -(d : Int) ≤ 2 * (d * rnd 1 d P) - 2 * P ∧ 2 * (d * rnd 1 d P) - 2 * P ≤ d := by
  have s : ∀ neg n, 2 * n ≤ 2 * (d * sizeS neg n d 1) + d ∧ 2 * (d * sizeS neg n d 1) ≤ 2 * n + d := by
    intro neg n
    have e := Nat.div_add_mod n d
    have hr := Nat.mod_lt n hd
    unfold sizeS upS
    generalize n / d = q at *
    generalize n % d = r at *
    simp only [show ¬((1 : Int) = 4) by decide, show ¬((1 : Int) = 3) by decide, show ¬((1 : Int) = 2) by decide, if_false, if_true, decide_eq_true_eq]
    rw [Nat.mul_add]
    split
    · rw [Nat.mul_one]; omega
    · rw [Nat.mul_zero]; omega
  unfold rnd
  by_cases h : P < 0
  · obtain ⟨a, b⟩ := s true P.natAbs
    rw [if_pos h, Int.mul_neg, ← Int.natCast_mul]
    omega
  · obtain ⟨a, b⟩ := s false P.natAbs
    rw [if_neg h, ← Int.natCast_mul]
    omega
/-- Rounded as Floor does: the greatest below. -/
theorem rnd_floor {d : Nat} (hd : 0 < d) (P : Int) : d * rnd 4 d P ≤ P ∧ P < d * rnd 4 d P + d := by
  unfold rnd sizeS upS
  have e := Nat.div_add_mod P.natAbs d
  have hr := Nat.mod_lt P.natAbs hd
  generalize P.natAbs / d = q at *
  generalize P.natAbs % d = r at *
  simp only [if_true, Bool.true_and, Bool.false_and, Bool.false_eq_true, if_false, decide_eq_true_eq]
  have e2 : ((d * q : Nat) : Int) = d * q := Int.natCast_mul d q
  by_cases h : P < 0
  · rw [if_pos h]
    split
    · have : (d : Int) * -((q + 1 : Nat) : Int) = -((d : Int) * q) - d := by rw [Int.natCast_add, Int.mul_neg, Int.mul_add]; omega
      rw [this]; omega
    · have : (d : Int) * -((q + 0 : Nat) : Int) = -((d : Int) * q) := by rw [Nat.add_zero, Int.mul_neg]
      rw [this]; omega
  · rw [if_neg h, Nat.add_zero]; omega
end WB
namespace WB
open Go Go.RowKit

theorem law_RatePart (ha : law02_awake () = some true) {c num den mode : Int} (c1 : -9223372036854775808 ≤ c) (c2 : c ≤ 9223372036854775807) (n1 : -9223372036854775808 ≤ num) (n2 : num ≤ 9223372036854775807) (hd : den ≤ 9223372036854775807) : law02_RatePart (c, num, den, mode) = some true := by
  unfold law02_RatePart
  dsimp only
  rw [ha, bs, if_neg (by decide), rPart_eq c1 c2 n1 n2 hd, bs, dPart_eq c1 c2 n1 n2 hd, bs]
  simp only [beq_self_eq_true, if_true, bs, ms]

theorem right_eq (c : Int) : rate_right c = some (decide (-1000000000 ≤ c ∧ c ≤ 1000000000)) := by
  unfold rate_right
  by_cases h1 : -1000000000 ≤ c
  · have g : decide (c ≥ -1000000000) = true := by simpa using h1
    simp only [g, if_true, bs, ms]
    simp [h1]
  · have g : decide (c ≥ -1000000000) = false := by simpa using h1
    simp only [g, Bool.false_eq_true, if_false, bs]
    simp [h1]
theorem Right_eq (c : Int) : ref02_Right c = some (decide (-1000000000 ≤ c ∧ c ≤ 1000000000)) := right_eq c
/-- Two are asked, one behind the other. -/
theorem orK {β : Type} (a b : Bool) (x : Int) (G : Int → Option Bool) (hG : a = true → G x = some b) (F : Bool → Option β) :
    (Option.bind (if (!a) = false then (((if (!a) = false then some x else none).map (fun z17 => z17)).bind (fun z18 => G z18)).map some else some none) fun x13 => Option.bind (if (!a) = false then (x13.map (fun z19 => (!z19))).map some else some none) fun x14 => Option.bind (if (!a) then some true else x14.map (fun z20 => z20)) F) = F (!(a && b)) := by
  cases a
  · rfl
  · simp only [Bool.not_true, if_true, bs, ms, hG rfl, Bool.false_eq_true, if_false, Bool.true_and]
def ofS (c r mode : Int) : Int × Int := if (-1125899906842624 ≤ c ∧ c ≤ 1125899906842624) ∧ (-1000000000 ≤ r ∧ r ≤ 1000000000) then partS c r 1000000 mode else (0, 2)
theorem rOf_eq {c r mode : Int} (c1 : -9223372036854775808 ≤ c) (c2 : c ≤ 9223372036854775807) : rate_Of (c, r, mode) = some (ofS c r mode) := by
  unfold rate_Of ofS
  dsimp only
  rw [amount_eq, bs, orK _ _ _ _ (fun _ => right_eq r)]
  by_cases h : (-1125899906842624 ≤ c ∧ c ≤ 1125899906842624) ∧ (-1000000000 ≤ r ∧ r ≤ 1000000000)
  · rw [if_pos h, decide_eq_true h.1, decide_eq_true h.2, if_neg (by decide), rPart_eq c1 c2 (by omega) (by omega) (by omega)]
    rfl
  · rw [if_neg h, if_pos]
    rw [← Bool.decide_and, decide_eq_false h]
    rfl
theorem dOf_eq {c r mode : Int} (c1 : -9223372036854775808 ≤ c) (c2 : c ≤ 9223372036854775807) : ref02_Of (c, r, mode) = some (ofS c r mode) := by
  unfold ref02_Of ofS
  dsimp only
  rw [Fits_eq, bs, orK _ _ _ _ (fun _ => Right_eq r)]
  by_cases h : (-1125899906842624 ≤ c ∧ c ≤ 1125899906842624) ∧ (-1000000000 ≤ r ∧ r ≤ 1000000000)
  · rw [if_pos h, decide_eq_true h.1, decide_eq_true h.2, if_neg (by decide), dPart_eq c1 c2 (by omega) (by omega) (by omega)]
    rfl
  · rw [if_neg h, if_pos]
    rw [← Bool.decide_and, decide_eq_false h]
    rfl
def timesS (x y : Int) : Int × Int := if (-1000000000 ≤ x ∧ x ≤ 1000000000) ∧ (-1000000000 ≤ y ∧ y ≤ 1000000000) then (if 1000000000 < (rnd 1 1000000 (x * y)).natAbs then (0, 9) else (rnd 1 1000000 (x * y), 0)) else (0, 2)
theorem val_rnd {c num mode : Int} {d : Nat} (hd : 0 < d) : (if negS c num = true then -(sizeS (negS c num) (c.natAbs * num.natAbs) d mode : Int) else (sizeS (negS c num) (c.natAbs * num.natAbs) d mode : Int)) = rnd mode d (c * num) ∧ sizeS (negS c num) (c.natAbs * num.natAbs) d mode = (rnd mode d (c * num)).natAbs := by
  rw [← Int.natAbs_mul]
  by_cases h0 : c * num = 0
  · unfold rnd
    rw [h0]
    simp [sizeS0 _ d mode hd]
  · have hn : negS c num = decide (c * num < 0) := by
      unfold negS
      have hc0 : c ≠ 0 := fun h => h0 (by rw [h, Int.zero_mul])
      have hn0 : num ≠ 0 := fun h => h0 (by rw [h, Int.mul_zero])
      by_cases h1 : c < 0
      · by_cases h2 : num < 0
        · have := Int.mul_pos_of_neg_of_neg h1 h2
          simp [h1, h2]; omega
        · have := Int.mul_neg_of_neg_of_pos h1 (show 0 < num by omega)
          simp [h1, h2]; omega
      · by_cases h2 : num < 0
        · have := Int.mul_neg_of_pos_of_neg (show 0 < c by omega) h2
          simp [h1, h2]; omega
        · have := Int.mul_pos (show 0 < c by omega) (show 0 < num by omega)
          simp [h1, h2]; omega
    rw [hn]
    unfold rnd
    by_cases h : c * num < 0
    · simp [h]
    · simp [h]
theorem rTimes_eq (x y : Int) : rate_Times (x, y) = some (timesS x y) := by
  unfold rate_Times timesS
  dsimp only
  rw [right_eq, bs, orK _ _ _ _ (fun _ => right_eq y)]
  by_cases h : (-1000000000 ≤ x ∧ x ≤ 1000000000) ∧ (-1000000000 ≤ y ∧ y ≤ 1000000000)
  · rw [if_pos h, decide_eq_true h.1, decide_eq_true h.2, if_neg (by decide), show (1000000 : Int) = ((1000000 : Nat) : Int) from rfl, show (1000000000 : Int) = ((1000000000 : Nat) : Int) from rfl,
      quotient_eq (by omega) (by omega) (by omega) (by omega) (by omega) (by omega) (by omega), bs, (val_rnd (by omega)).1, (val_rnd (by omega)).2]
    by_cases h9 : 1000000000 < (rnd 1 1000000 (x * y)).natAbs
    · rw [if_pos h9, if_pos h9]; rfl
    · rw [if_neg h9, if_neg h9]; rfl
  · rw [if_neg h, if_pos]
    rw [← Bool.decide_and, decide_eq_false h]
    rfl
theorem times_small {x y : Int} (hx : -1000000000 ≤ x ∧ x ≤ 1000000000) (hy : -1000000000 ≤ y ∧ y ≤ 1000000000) : (rnd 1 1000000 (x * y)).natAbs ≤ 1000000000001 := by
  obtain ⟨a, b⟩ := rnd_half (d := 1000000) (by decide) (x * y)
  have h1 : (x * y).natAbs ≤ 1000000000 * 1000000000 := by rw [Int.natAbs_mul]; exact Nat.mul_le_mul (by omega) (by omega)
  omega
theorem dTimes_eq (x y : Int) : ref02_Times (x, y) = some (timesS x y) := by
  unfold ref02_Times timesS
  dsimp only
  rw [Right_eq, bs, orK _ _ _ _ (fun _ => Right_eq y)]
  by_cases h : (-1000000000 ≤ x ∧ x ≤ 1000000000) ∧ (-1000000000 ≤ y ∧ y ≤ 1000000000)
  · have hs := times_small h.1 h.2
    rw [if_pos h, decide_eq_true h.1, decide_eq_true h.2, if_neg (by decide), dPart_eq (by omega) (by omega) (by omega) (by omega) (by omega), bs, show (1000000 : Int) = ((1000000 : Nat) : Int) from rfl,
      partS_ok ⟨by omega, by omega⟩ (by omega) ⟨by omega, by omega⟩, if_neg (by omega), Right_eq, bs]
    by_cases h9 : 1000000000 < (rnd 1 1000000 (x * y)).natAbs
    · rw [if_pos h9, decide_eq_false (by dsimp only; omega)]; rfl
    · rw [if_neg h9, decide_eq_true (by dsimp only; omega)]; rfl
  · rw [if_neg h, if_pos]
    rw [← Bool.decide_and, decide_eq_false h]
    rfl
theorem law_RateOf (ha : law02_awake () = some true) {c r s mode : Int} (c1 : -9223372036854775808 ≤ c) (c2 : c ≤ 9223372036854775807) : law02_RateOf (c, r, s, mode) = some true := by
  unfold law02_RateOf
  dsimp only
  rw [ha, bs, if_neg (by decide), rOf_eq c1 c2, bs, dOf_eq c1 c2, bs, rTimes_eq, bs, dTimes_eq, bs]
  simp only [beq_self_eq_true, if_true, bs, ms]
end WB
namespace WB
open Go Go.RowKit

/-- Two bits, the second one asked only behind the first. -/
theorem andK {β : Type} (a b : Bool) (F : Bool → Option β) : (Option.bind (if a then some b else some false) F) = F (a && b) := by cases a <;> rfl

theorem rnd_neg (mode : Int) (d : Nat) (P : Int) (h : mode = 1) (hd : 0 < d) : rnd mode d (-P) = -rnd mode d P := by
  subst h
  have s : ∀ n, sizeS true n d 1 = sizeS false n d 1 := fun n => rfl
  unfold rnd
  rw [Int.natAbs_neg, s]
  by_cases h : P < 0
  · rw [if_pos h, if_neg (by omega)]; omega
  · by_cases h0 : P = 0
    · subst h0
      simp [sizeS0 _ d 1 hd]
    · rw [if_neg h, if_pos (by omega)]
theorem law_RateTimes (ha : law02_awake () = some true) (x y : Int) (x1 : -9223372036854775808 ≤ x) (x2 : x ≤ 9223372036854775807) : law02_RateTimes (x, y) = some true := by
  unfold law02_RateTimes
  dsimp only
  rw [ha, bs, if_neg (by decide), Right_eq, bs, orK _ _ _ _ (fun _ => Right_eq y)]
  by_cases h : (-1000000000 ≤ x ∧ x ≤ 1000000000) ∧ (-1000000000 ≤ y ∧ y ≤ 1000000000)
  · rw [decide_eq_true h.1, decide_eq_true h.2, if_neg (by decide), rTimes_eq, bs, rTimes_eq, bs, rTimes_eq, bs, w64' (show -9223372036854775808 ≤ 0 - x by omega) (by omega), rTimes_eq, bs]
    have e1 : timesS y x = timesS x y := by
      unfold timesS
      rw [if_pos ⟨h.2, h.1⟩, if_pos h, Int.mul_comm y x]
    have e2 : timesS x 1000000 = (x, 0) := by
      unfold timesS
      rw [if_pos ⟨h.1, by omega⟩, show (1000000 : Int) = ((1000000 : Nat) : Int) from rfl, rnd_exact (by decide), if_neg (by omega)]
    have e3 : timesS (0 - x) y = (-(timesS x y).1, (timesS x y).2) := by
      unfold timesS
      rw [if_pos ⟨⟨by omega, by omega⟩, h.2⟩, if_pos h, Int.zero_sub, Int.neg_mul, rnd_neg 1 _ _ rfl (by decide), Int.natAbs_neg]
      split <;> rfl
    have e4 : IntKind.i64.wrap (0 - (timesS x y).1) = -(timesS x y).1 := by
      have hs := times_small h.1 h.2
      have : -1000000000001 ≤ (timesS x y).1 ∧ (timesS x y).1 ≤ 1000000000001 := by
        unfold timesS
        rw [if_pos h]
        split <;> constructor <;> dsimp only <;> omega
      rw [w64' (by omega) (by omega)]; omega
    rw [e1, e2, e3]
    simp only [beq_self_eq_true, if_true, bs, ms, e4]
  · have e : timesS x y = (0, 2) := by unfold timesS; rw [if_neg h]
    rw [if_pos (by rw [← Bool.decide_and, decide_eq_false h]; rfl), rTimes_eq, bs, e]
    rfl
/-- What a part is, or that there is none. -/
theorem part_cases {c num den mode : Int} (c1 : -9223372036854775808 ≤ c) (c2 : c ≤ 9223372036854775807) (n1 : -9223372036854775808 ≤ num) (n2 : num ≤ 9223372036854775807) (hd : den ≤ 9223372036854775807) :
    (∃ e, e ≠ 0 ∧ rate_Part (c, num, den, mode) = some (0, e)) ∨ ∃ d : Nat, den = d ∧ 0 < d ∧ (-1125899906842624 ≤ c ∧ c ≤ 1125899906842624) ∧ (0 ≤ mode ∧ mode ≤ 4) ∧ (rnd mode d (c * num)).natAbs ≤ 1125899906842624 ∧ rate_Part (c, num, den, mode) = some (rnd mode d (c * num), 0) := by
  rw [rPart_eq c1 c2 n1 n2 hd]
  by_cases h1 : -1125899906842624 ≤ c ∧ c ≤ 1125899906842624
  · by_cases h2 : den = 0
    · exact .inl ⟨22, by decide, by unfold partS; rw [if_neg (fun k => k h1), if_pos h2]⟩
    by_cases h3 : den < 0
    · exact .inl ⟨2, by decide, by unfold partS; rw [if_neg (fun k => k h1), if_neg h2, if_pos h3]⟩
    by_cases h4 : mode < 0 ∨ 4 < mode
    · exact .inl ⟨11, by decide, by unfold partS; rw [if_neg (fun k => k h1), if_neg h2, if_neg h3, if_pos h4]⟩
    obtain ⟨d, rfl⟩ := Int.eq_ofNat_of_zero_le (show 0 ≤ den by omega)
    rw [partS_ok h1 (by omega) (by omega)]
    by_cases h9 : 1125899906842624 < (rnd mode d (c * num)).natAbs
    · exact .inl ⟨9, by decide, by rw [if_pos h9]⟩
    · exact .inr ⟨d, rfl, by omega, h1, by omega, by omega, by rw [if_neg h9]⟩
  · exact .inl ⟨2, by decide, by unfold partS; rw [if_pos h1]⟩
theorem law_RateRises (ha : law02_awake () = some true) {x0 x1 x2 x3 x4 x5 : Int} (a1 : -9223372036854775808 ≤ x0) (a2 : x0 ≤ 9223372036854775807) (b1 : -9223372036854775808 ≤ x1) (b2 : x1 ≤ 9223372036854775807) (n1 : -9223372036854775808 ≤ x2) (n2 : x2 ≤ 9223372036854775807) (m1 : -9223372036854775808 ≤ x3) (m2 : x3 ≤ 9223372036854775807) (hd : x4 ≤ 9223372036854775807) (h5 : 0 ≤ x5) (h6 : x5 ≤ 255) : law02_RateRises (x0, x1, x2, x3, x4, x5) = some true := by
  unfold law02_RateRises
  dsimp only
  rw [ha, bs, if_neg (by decide)]
  by_cases g1 : x2 < 0
  · simp only [decide_eq_true g1, if_true, bs, Bool.true_eq_false, if_false]
  by_cases g2 : x3 < x2
  · simp only [decide_eq_false g1, decide_eq_true g2, if_true, bs, ms, Bool.true_eq_false, Bool.false_eq_true, if_false]
  by_cases g3 : x1 < x0
  · simp only [decide_eq_false g1, decide_eq_false g2, decide_eq_true g3, if_true, bs, ms, Bool.false_eq_true, if_false]
  have w : (if (5 : Int) = 0 then none else some ((IntKind.i64.wrap x5).tmod 5)) = some (x5 % 5) := by
    rw [if_neg (by decide), w64' (by omega) (by omega), Int.tmod_eq_emod_of_nonneg h5]
  simp only [decide_eq_false g1, decide_eq_false g2, decide_eq_false g3, if_true, bs, ms, Bool.false_eq_true, if_false, w]
  generalize x5 % 5 = m
  rcases part_cases (c := x0) (num := x2) (den := x4) (mode := m) a1 a2 n1 n2 hd with ⟨e, he, p1⟩ | ⟨d, hd1, hd0, hc, hm, hr, p1⟩
  · have : (e != 0) = true := by simpa using he
    simp only [p1, bs, this, if_true]
    rcases part_cases (c := x1) (num := x2) (den := x4) (mode := m) b1 b2 n1 n2 hd with ⟨e2, he2, p2⟩ | ⟨d2, _, _, _, _, _, p2⟩ <;>
    rcases part_cases (c := x0) (num := x3) (den := x4) (mode := m) a1 a2 m1 m2 hd with ⟨e3, he3, p3⟩ | ⟨d3, _, _, _, _, _, p3⟩ <;>
    · rw [p2, bs, p3, bs]; rfl
  · have z : ((0 : Int) != 0) = false := rfl
    have k1 : x0 * x2 ≤ x1 * x2 := Int.mul_le_mul_of_nonneg_right (by omega) (by omega)
    have k2 : ¬ x0 < 0 → x0 * x2 ≤ x0 * x3 := fun h => Int.mul_le_mul_of_nonneg_left (by omega) (by omega)
    subst hd1
    rw [p1, bs]
    -- the second part
    have q2 : ∃ y : Int × Int, rate_Part (x1, x2, (d : Int), m) = some y ∧ (y.2 = 0 → rnd m d (x0 * x2) ≤ y.1) := by
      rcases part_cases (c := x1) (num := x2) (den := (d : Int)) (mode := m) b1 b2 n1 n2 hd with ⟨e2, he2, p2⟩ | ⟨d2, hdd, _, _, _, _, p2⟩
      · exact ⟨_, p2, fun h => absurd h he2⟩
      · have : d2 = d := by omega
        subst this
        exact ⟨_, p2, fun _ => rnd_mono hd0 k1⟩
    have q3 : ∃ y : Int × Int, rate_Part (x0, x3, (d : Int), m) = some y ∧ (y.2 = 0 → ¬ x0 < 0 → rnd m d (x0 * x2) ≤ y.1) := by
      rcases part_cases (c := x0) (num := x3) (den := (d : Int)) (mode := m) a1 a2 m1 m2 hd with ⟨e2, he2, p2⟩ | ⟨d2, hdd, _, _, _, _, p2⟩
      · exact ⟨_, p2, fun h => absurd h he2⟩
      · have : d2 = d := by omega
        subst this
        exact ⟨_, p2, fun _ h => rnd_mono hd0 (k2 h)⟩
    obtain ⟨⟨v2, e2⟩, r2, l2⟩ := q2
    obtain ⟨⟨v3, e3⟩, r3, l3⟩ := q3
    rw [r2, bs, r3, bs]
    dsimp only at l2 l3 ⊢
    generalize rnd m d (x0 * x2) = V at *
    rw [z]
    simp only [Bool.false_eq_true, if_false]
    have s2 : (if (e2 != 0) = false then (((if (e2 != 0) = false then some v2 else none).bind (fun z75 => (if (e2 != 0) = false then some V else none).map (fun z76 => (z75, z76)))).map (fun z77 => (decide (z77.1 ≥ z77.2)))).map some else some none) = some (if (e2 != 0) = false then some true else none) := by
      by_cases h : e2 = 0
      · have : (e2 != 0) = false := by simpa using h
        simp only [this, if_true, bs, ms, decide_eq_true (show v2 ≥ V from l2 h)]
      · have : (e2 != 0) = true := by simpa using h
        simp only [this, Bool.true_eq_false, if_false]
    have s3 : (if e2 != 0 then some true else (if (e2 != 0) = false then some true else none).map (fun z78 => (z78 : Bool))) = some true := by
      cases (e2 != 0) <;> rfl
    rw [s2, bs, s3]
    simp only [bs, ms, if_true]
    by_cases h : e3 = 0
    · have t1 : (e3 != 0) = false := by simpa using h
      by_cases hx : x0 < 0
      · simp only [t1, decide_eq_true hx, if_true, bs, ms, Option.some.injEq, Bool.true_eq_false, if_false, Bool.false_eq_true]
      · simp only [t1, decide_eq_false hx, if_true, bs, ms, Bool.false_eq_true, if_false, decide_eq_true (show v3 ≥ V from l3 h hx)]
    · have t1 : (e3 != 0) = true := by simpa using h
      simp only [t1, if_true, bs, ms, Option.some.injEq, Bool.true_eq_false, if_false]
end WB
namespace WB
open Go Go.RowKit
set_option linter.unusedSimpArgs false

theorem div_bd {d k : Nat} (hd : 0 < d) {v : Int} (h1 : -((k : Int) * d) < d * v) (h2 : d * v < (k : Int) * d) : -(k : Int) < v ∧ v < k := by
  constructor
  · apply Int.lt_of_mul_lt_mul_left (a := (d : Int)) _ (by omega)
    rw [Int.mul_neg, Int.mul_comm (d : Int) k]
    exact h1
  · apply Int.lt_of_mul_lt_mul_left (a := (d : Int)) _ (by omega)
    rw [Int.mul_comm (d : Int) k]
    exact h2
theorem iter_inl {S T : Type} {b : S → Option (S ⊕ T)} {s s' : S} (h : b s = some (.inl s')) : iter b s = iter b s' := by rw [iter_eq, h]; rfl
theorem iter_inr {S T : Type} {b : S → Option (S ⊕ T)} {s : S} {t : T} (h : b s = some (.inr t)) : iter b s = some t := by rw [iter_eq, h]; rfl
theorem law_RateSums (ha : law02_awake () = some true) {c e num den : Int} (c1 : -9223372036854775808 ≤ c) (c2 : c ≤ 9223372036854775807) (e1 : -9223372036854775808 ≤ e) (e2 : e ≤ 9223372036854775807) (n1 : -9223372036854775808 ≤ num) (n2 : num ≤ 9223372036854775807) (hd : den ≤ 9223372036854775807) : law02_RateSums (c, e, num, den) = some true := by
  unfold law02_RateSums
  dsimp only
  rw [ha, bs, if_neg (by decide)]
  -- one mode
  have step : ∀ (k : Nat) (md : Int), ([1, 4] : List Int)[k]? = some md → law02_RateSums_loop1 (c, e, num, den, 2, (k : Int), [1, 4], (), ()) = some (.inl (c, e, num, den, 2, (k : Int) + 1, [1, 4], (), ())) ∨ law02_RateSums_loop1 (c, e, num, den, 2, (k : Int), [1, 4], (), ()) = some (.inr (.inr true)) := by
    intro k md hmd
    have hk : k < 2 := (List.getElem?_eq_some_iff.1 hmd).1
    have hm : md = 1 ∨ md = 4 := by
      have := List.mem_of_getElem? hmd
      simpa using this
    unfold law02_RateSums_loop1
    dsimp only
    rw [if_pos (decide_eq_true (by omega)), show ((([1, 4] : List Int).length : Nat) : Int) = ((2 : Nat) : Int) from rfl, idxI (show k < 2 from hk), bs, hmd, ms, bs, Fits_eq, bs, orK _ _ _ _ (fun _ => Fits_eq e)]
    have w0 : IntKind.i64.wrap ((k : Int) + 1) = (k : Int) + 1 := w64' (by omega) (by omega)
    by_cases h : (-1125899906842624 ≤ c ∧ c ≤ 1125899906842624) ∧ (-1125899906842624 ≤ e ∧ e ≤ 1125899906842624)
    · rw [decide_eq_true h.1, decide_eq_true h.2, if_neg (by decide), w64' (n := c + e) (by omega) (by omega)]
      left
      have ok : ∀ (y : Int × Int × Int × Int × Int × Int × List Int × Unit × Unit), (show Option ((Int × Int × Int × Int × Int × Int × List Int × Unit × Unit) ⊕ Bool) from some (Sum.inl y)) = some (Sum.inl y) := fun _ => rfl
      rcases part_cases (c := c) (num := num) (den := den) (mode := md) c1 c2 n1 n2 hd with ⟨f, hf, p1⟩ | ⟨d, hd1, hd0, _, _, hr1, p1⟩
      · have t1 : (f != 0) = true := by simpa using hf
        rcases part_cases (c := e) (num := num) (den := den) (mode := md) e1 e2 n1 n2 hd with ⟨f2, hf2, p2⟩ | ⟨d2, _, _, _, _, _, p2⟩ <;>
        rcases part_cases (c := c + e) (num := num) (den := den) (mode := md) (by omega) (by omega) n1 n2 hd with ⟨f3, hf3, p3⟩ | ⟨d3, _, _, _, _, _, p3⟩ <;>
        · rw [p1, bs, p2, bs, p3, bs]
          simp only [w0, t1, if_true, Bool.true_eq_false, if_false, bs]
      subst hd1
      rw [p1, bs]
      have z : ((0 : Int) != 0) = false := rfl
      rcases part_cases (c := e) (num := num) (den := (d : Int)) (mode := md) e1 e2 n1 n2 hd with ⟨f, hf, p2⟩ | ⟨d2, hdd, _, _, _, hr2, p2⟩
      · have t1 : (f != 0) = true := by simpa using hf
        rcases part_cases (c := c + e) (num := num) (den := (d : Int)) (mode := md) (by omega) (by omega) n1 n2 hd with ⟨f3, hf3, p3⟩ | ⟨d3, _, _, _, _, _, p3⟩ <;>
        · rw [p2, bs, p3, bs]
          simp only [w0, z, t1, if_true, Bool.true_eq_false, Bool.false_eq_true, if_false, bs, ms]
      have hdd' : d2 = d := by omega
      subst hdd'
      rw [p2, bs]
      rcases part_cases (c := c + e) (num := num) (den := (d2 : Int)) (mode := md) (by omega) (by omega) n1 n2 hd with ⟨f, hf, p3⟩ | ⟨d3, hdd, _, _, _, hr3, p3⟩
      · have t1 : (f != 0) = true := by simpa using hf
        rw [p3, bs]
        simp only [w0, z, t1, if_true, Bool.true_eq_false, Bool.false_eq_true, if_false, bs, ms]
      have hdd' : d3 = d2 := by omega
      subst hdd'
      rw [p3, bs]
      dsimp only
      have key : -1 ≤ rnd md d3 ((c + e) * num) - rnd md d3 (c * num) - rnd md d3 (e * num) ∧ rnd md d3 ((c + e) * num) - rnd md d3 (c * num) - rnd md d3 (e * num) ≤ 1 ∧ (md = 4 → 0 ≤ rnd md d3 ((c + e) * num) - rnd md d3 (c * num) - rnd md d3 (e * num)) := by
        have ex : (d3 : Int) * (rnd md d3 ((c + e) * num) - rnd md d3 (c * num) - rnd md d3 (e * num)) = d3 * rnd md d3 ((c + e) * num) - d3 * rnd md d3 (c * num) - d3 * rnd md d3 (e * num) := by rw [Int.mul_sub, Int.mul_sub]
        have es : (c + e) * num = c * num + e * num := Int.add_mul _ _ _
        rcases hm with rfl | rfl
        · have a1 := rnd_half hd0 (c * num)
          have a2 := rnd_half hd0 (e * num)
          have a3 := rnd_half hd0 ((c + e) * num)
          rw [es] at a3
          rw [es] at ex ⊢
          generalize rnd 1 d3 (c * num + e * num) - rnd 1 d3 (c * num) - rnd 1 d3 (e * num) = v at *
          generalize (d3 : Int) * rnd 1 d3 (c * num + e * num) = y3 at *
          generalize (d3 : Int) * rnd 1 d3 (c * num) = y1 at *
          generalize (d3 : Int) * rnd 1 d3 (e * num) = y2 at *
          have := div_bd (k := 2) hd0 (v := v) (by omega) (by omega)
          refine ⟨by omega, by omega, fun h => absurd h (by decide)⟩
        · have a1 := rnd_floor hd0 (c * num)
          have a2 := rnd_floor hd0 (e * num)
          have a3 := rnd_floor hd0 ((c + e) * num)
          rw [es] at a3
          rw [es] at ex ⊢
          generalize rnd 4 d3 (c * num + e * num) - rnd 4 d3 (c * num) - rnd 4 d3 (e * num) = v at *
          generalize (d3 : Int) * rnd 4 d3 (c * num + e * num) = y3 at *
          generalize (d3 : Int) * rnd 4 d3 (c * num) = y1 at *
          generalize (d3 : Int) * rnd 4 d3 (e * num) = y2 at *
          have b1 := div_bd (k := 2) hd0 (v := v) (by omega) (by omega)
          have b2 : 0 ≤ v := by
            apply Int.not_lt.1
            intro h
            have : v = -1 := by omega
            subst this
            rw [Int.mul_neg, Int.mul_one] at ex
            omega
          exact ⟨by omega, by omega, fun _ => b2⟩
      generalize rnd md d3 ((c + e) * num) = v3 at *
      generalize rnd md d3 (c * num) = v1 at *
      generalize rnd md d3 (e * num) = v2 at *
      have w1 : IntKind.i64.wrap (v3 - v1) = v3 - v1 := w64' (by omega) (by omega)
      have w2 : IntKind.i64.wrap (v3 - v1 - v2) = v3 - v1 - v2 := w64' (by omega) (by omega)
      have t1 : decide (v3 - v1 - v2 > 1) = false := decide_eq_false (by omega)
      have t2 : decide (v3 - v1 - v2 < -1) = false := decide_eq_false (by omega)
      simp only [z, w1, w2, t1, t2, if_true, Bool.true_eq_false, Bool.false_eq_true, if_false, bs, ms]
      by_cases h4 : md = 4
      · have t3 : (md == 4) = true := by simpa using h4
        have t4 : decide (v3 - v1 - v2 < 0) = false := decide_eq_false (by have := key.2.2 h4; omega)
        simp only [w0, t3, t4, if_true, Bool.false_eq_true, if_false, bs, ms]
      · have t3 : (md == 4) = false := by simpa using h4
        simp only [w0, t3, Option.some.injEq, Bool.false_eq_true, if_false, bs, ms]
    · rw [if_pos (by rw [← Bool.decide_and, decide_eq_false h]; rfl)]
      exact .inr rfl
  have fin : iter law02_RateSums_loop1 (c, e, num, den, 2, 0, [1, 4], (), ()) = some (.inl ()) ∨ iter law02_RateSums_loop1 (c, e, num, den, 2, 0, [1, 4], (), ()) = some (.inr true) := by
    rcases step 0 1 rfl with h | h
    · rw [show ((0 : Nat) : Int) = 0 from rfl] at h
      rw [iter_inl h]
      rcases step 1 4 rfl with h | h
      · rw [show ((1 : Nat) : Int) = 0 + 1 from rfl] at h
        rw [iter_inl h, iter_eq]
        exact .inl rfl
      · rw [show ((1 : Nat) : Int) = 0 + 1 from rfl] at h
        exact .inr (iter_inr h)
    · rw [show ((0 : Nat) : Int) = 0 from rfl] at h
      exact .inr (iter_inr h)
  rw [show ((([1, 4] : List Int).length : Nat) : Int) = 2 from rfl]
  rcases fin with h | h
  · rw [h]; rfl
  · rw [h]; rfl
/-- The chain of what is asked ahead: each but the first one only if none was true. -/
theorem orT {β : Type} (a b : Bool) (F : Bool → Option β) : (Option.bind (if a then some true else (if a = false then some b else none).map (fun z => z)) F) = F (a || b) := by cases a <;> rfl
theorem law_RateExact (ha : law02_awake () = some true) {c num den many mode : Int} (c1 : -9223372036854775808 ≤ c) (c2 : c ≤ 9223372036854775807) (n1 : -2147483648 ≤ num) (n2 : num ≤ 2147483647) (hd1 : -2147483648 ≤ den) (hd2 : den ≤ 2147483647) (k1 : 0 ≤ many) (k2 : many ≤ 65535) (m1 : 0 ≤ mode) (m2 : mode ≤ 255) : law02_RateExact (c, num, den, many, mode) = some true := by
  unfold law02_RateExact
  dsimp only
  rw [ha, bs, if_neg (by decide)]
  have w : (if (5 : Int) = 0 then none else some ((IntKind.i64.wrap mode).tmod 5)) = some (mode % 5) := by
    rw [if_neg (by decide), w64' (by omega) (by omega), Int.tmod_eq_emod_of_nonneg m1]
  rw [w, bs]
  by_cases g1 : den ≤ 0
  · simp only [decide_eq_true g1, if_true, bs, Bool.true_eq_false, if_false]
  by_cases g2 : -1125899906842624 ≤ c ∧ c ≤ 1125899906842624
  · have wd : IntKind.i64.wrap den = den := w64' (by omega) (by omega)
    have wn : IntKind.i64.wrap num = num := w64' (by omega) (by omega)
    have wk : IntKind.i64.wrap (IntKind.i64.wrap many + 1) = many + 1 := by rw [w64' (n := many) (by omega) (by omega), w64' (by omega) (by omega)]
    simp only [decide_eq_false g1, if_true, bs, ms, Bool.false_eq_true, if_false, Fits_eq, decide_eq_true g2, Bool.not_true, wd, wn, wk]
    have hm : 0 ≤ mode % 5 ∧ mode % 5 ≤ 4 := by omega
    generalize mode % 5 = m at *
    obtain ⟨d, rfl⟩ := Int.eq_ofNat_of_zero_le (show 0 ≤ den by omega)
    obtain ⟨k, hk⟩ : ∃ k : Nat, many + 1 = (k : Int) := ⟨(many + 1).toNat, by omega⟩
    rw [hk]
    have hk0 : 0 < k := by omega
    have hk1 : k ≤ 65536 := by omega
    have hd0 : 0 < d := by omega
    have b1 : -(2147483648 * 65536) ≤ num * (k : Int) ∧ num * (k : Int) ≤ 2147483648 * 65536 := by
      have : (num * (k : Int)).natAbs ≤ 2147483648 * 65536 := by rw [Int.natAbs_mul]; exact Nat.mul_le_mul (by omega) (by omega)
      omega
    have b2 : d * k ≤ 2147483648 * 65536 := Nat.mul_le_mul (by omega) (by omega)
    have wnk : IntKind.i64.wrap (num * (k : Int)) = num * (k : Int) := w64' (by omega) (by omega)
    have wdk : IntKind.i64.wrap ((d : Int) * (k : Int)) = ((d * k : Nat) : Int) := by rw [← Int.natCast_mul]; exact w64' (by omega) (by omega)
    have wkd : IntKind.i64.wrap ((k : Int) * (d : Int)) = ((d * k : Nat) : Int) := by rw [Int.mul_comm]; exact wdk
    have p1 : rate_Part (c, (d : Int), (d : Int), m) = some (c, 0) := by
      rw [rPart_eq (by omega) (by omega) (by omega) (by omega) (by omega), partS_ok g2 hd0 hm, rnd_exact hd0, if_neg (by omega)]
    have p2 : rate_Part (c, 0, (d : Int), m) = some (0, 0) := by
      rw [rPart_eq (by omega) (by omega) (by omega) (by omega) (by omega), partS_ok g2 hd0 hm, Int.mul_zero]
      have := rnd_exact (mode := m) hd0 0
      rw [Int.zero_mul] at this
      rw [this]; rfl
    have p3 : rate_Part (c, num, (d : Int), m) = rate_Part (c, num * (k : Int), ((d * k : Nat) : Int), m) := by
      rw [rPart_eq (by omega) (by omega) (by omega) (by omega) (by omega), rPart_eq (by omega) (by omega) (by omega) (by omega) (by omega), partS_ok g2 hd0 hm, partS_ok g2 (Nat.mul_pos hd0 hk0) hm, ← Int.mul_assoc, rnd_many hk0]
    have p4 : rate_Part (num, ((d * k : Nat) : Int), (d : Int), m) = some (num * (k : Int), 0) := by
      rw [rPart_eq (by omega) (by omega) (by omega) (by omega) (by omega), partS_ok ⟨by omega, by omega⟩ hd0 hm]
      have : num * ((d * k : Nat) : Int) = num * (k : Int) * (d : Int) := by rw [Int.natCast_mul, Int.mul_comm (d : Int), Int.mul_assoc]
      rw [this, rnd_exact hd0, if_neg (by omega)]
    obtain ⟨y, hy⟩ : ∃ y, rate_Part (c, num * (k : Int), ((d * k : Nat) : Int), m) = some y := ⟨_, rPart_eq (by omega) (by omega) (by omega) (by omega) (by omega)⟩
    have z : ((0 : Int) != 0) = false := rfl
    have zc : ∀ a : Int, (a != a) = false := fun a => by simp
    simp only [p1, p2, p3, wn, wnk, wdk, wkd, hy, p4, z, zc, bs, ms, if_true, Bool.false_eq_true, if_false, beq_self_eq_true]
  · simp only [decide_eq_false g1, if_true, bs, ms, Bool.false_eq_true, if_false, Fits_eq, decide_eq_false g2, Bool.not_false]
theorem near_key {n d q r : Nat} {V W c : Int} (hn0 : 0 < n) (a1 : -(d : Int) ≤ 2 * (d * V) - 2 * (c * n) ∧ 2 * (d * V) - 2 * (c * n) ≤ d) (a2 : -(n : Int) ≤ 2 * (n * W) - 2 * (V * d) ∧ 2 * (n * W) - 2 * (V * d) ≤ n) (e : n * q + r = d) (hr : r < n) : -((q : Int) + 2) ≤ W - c ∧ W - c ≤ (q : Int) + 2 := by
  have x1 : (n : Int) * (2 * (W - c)) = 2 * (n * W) - 2 * (c * n) := by rw [Int.mul_left_comm, Int.mul_sub, Int.mul_comm c, Int.mul_sub]
  have x2 : (d : Int) * V = V * d := Int.mul_comm _ _
  have x3 : ((q + 3 : Nat) : Int) * (n : Int) = ((n * q : Nat) : Int) + 3 * n := by rw [← Int.natCast_mul, Nat.add_mul, Nat.mul_comm q n]; omega
  rw [x2] at a1
  generalize (n : Int) * W = A at *
  generalize V * (d : Int) = B at *
  generalize c * (n : Int) = C at *
  generalize n * q = E at *
  have := div_bd (k := q + 3) hn0 (v := 2 * (W - c)) (by rw [x1, x3]; omega) (by rw [x1, x3]; omega)
  omega
theorem law_RateNear (ha : law02_awake () = some true) {c num den : Int} (n1 : -2147483648 ≤ num) (n2 : num ≤ 2147483647) (hd1 : -2147483648 ≤ den) (hd2 : den ≤ 2147483647) : law02_RateNear (c, num, den) = some true := by
  unfold law02_RateNear
  dsimp only
  rw [ha, bs, if_neg (by decide)]
  by_cases g1 : num ≤ 0
  · simp only [decide_eq_true g1, if_true, bs, ms, Bool.true_eq_false, if_false]
  by_cases g2 : den ≤ 0
  · simp only [decide_eq_false g1, decide_eq_true g2, if_true, bs, ms, Bool.true_eq_false, Bool.false_eq_true, if_false]
  by_cases g3 : num > 1073741824
  · simp only [decide_eq_false g1, decide_eq_false g2, decide_eq_true g3, if_true, bs, ms, Bool.true_eq_false, Bool.false_eq_true, if_false]
  by_cases g4 : den > 1073741824
  · simp only [decide_eq_false g1, decide_eq_false g2, decide_eq_false g3, decide_eq_true g4, if_true, bs, ms, Bool.true_eq_false, Bool.false_eq_true, if_false]
  by_cases g5 : c > 1073741824
  · simp only [decide_eq_false g1, decide_eq_false g2, decide_eq_false g3, decide_eq_false g4, decide_eq_true g5, if_true, bs, ms, Bool.true_eq_false, Bool.false_eq_true, if_false]
  by_cases g6 : c < -1073741824
  · simp only [decide_eq_false g1, decide_eq_false g2, decide_eq_false g3, decide_eq_false g4, decide_eq_false g5, decide_eq_true g6, if_true, bs, ms, Bool.true_eq_false, Bool.false_eq_true, if_false]
  have wd : IntKind.i64.wrap den = den := w64' (by omega) (by omega)
  have wn : IntKind.i64.wrap num = num := w64' (by omega) (by omega)
  simp only [decide_eq_false g1, decide_eq_false g2, decide_eq_false g3, decide_eq_false g4, decide_eq_false g5, decide_eq_false g6, if_true, bs, ms, Bool.false_eq_true, if_false, wd, wn]
  rcases part_cases (c := c) (num := num) (den := den) (mode := 1) (by omega) (by omega) (by omega) (by omega) (by omega) with ⟨f, hf, p1⟩ | ⟨d, hd, hd0, _, _, hr1, p1⟩
  · have t1 : (f != 0) = true := by simpa using hf
    simp only [p1, bs, t1, if_true]
  subst hd
  have z : ((0 : Int) != 0) = false := rfl
  simp only [p1, bs, z, Bool.false_eq_true, if_false]
  have a1 := rnd_half hd0 (c * num)
  generalize rnd 1 d (c * num) = V at *
  rcases part_cases (c := V) (num := (d : Int)) (den := num) (mode := 1) (by omega) (by omega) (by omega) (by omega) (by omega) with ⟨f, hf, p2⟩ | ⟨n, hn, hn0, _, _, hr2, p2⟩
  · have t1 : (f != 0) = true := by simpa using hf
    simp only [p2, bs, t1, if_true]
  subst hn
  have a2 := rnd_half hn0 (V * d)
  simp only [p2, bs, z, Bool.false_eq_true, if_false]
  generalize rnd 1 n (V * d) = W at *
  have hq : (if (n : Int) = 0 then none else some (IntKind.i64.wrap ((d : Int).tdiv (n : Int)))) = some ((d / n : Nat) : Int) := by
    rw [if_neg (by omega), Int.tdiv_eq_ediv_of_nonneg (by omega), ← Int.natCast_ediv]
    have : d / n ≤ d := Nat.div_le_self _ _
    generalize d / n = q at *
    rw [w64' (by omega) (by omega)]
  have e := Nat.div_add_mod d n
  have hr := Nat.mod_lt d hn0
  have ql : d / n ≤ d := Nat.div_le_self _ _
  generalize d / n = q at *
  generalize d % n = r at *
  have w1 : IntKind.i64.wrap (W - c) = W - c := w64' (by omega) (by omega)
  have w2 : IntKind.i64.wrap ((q : Int) + 2) = (q : Int) + 2 := w64' (by omega) (by omega)
  have w3 : IntKind.i64.wrap (0 - ((q : Int) + 2)) = -((q : Int) + 2) := by rw [w64' (by omega) (by omega)]; omega
  have key : -((q : Int) + 2) ≤ W - c ∧ W - c ≤ (q : Int) + 2 := near_key hn0 a1 a2 e hr
  simp only [hq, bs, w1, w2, w3, decide_eq_true key.2, if_true, ms, decide_eq_true (show W - c ≥ -((q : Int) + 2) from key.1)]
end WB
namespace WB
open Go Go.RowKit

theorem aw_digits2 : rate_digits [49, 50] = some true := by
  unfold rate_digits
  dsimp only
  rw [show iter rate_digits_loop1 (([49, 50] : List UInt8), (([49, 50] : List UInt8).length : Int), 0, ()) = some (Sum.inl ([49, 50], ())) from iter_some.2 ⟨6, rfl⟩]
  rfl
theorem aw_digits1 : rate_digits [53] = some true := by
  unfold rate_digits
  dsimp only
  rw [show iter rate_digits_loop1 (([53] : List UInt8), (([53] : List UInt8).length : Int), 0, ()) = some (Sum.inl ([53], ())) from iter_some.2 ⟨6, rfl⟩]
  rfl
theorem aw_value2 : rate_value ([49, 50], 100000) = some 12 := by
  unfold rate_value
  dsimp only
  rw [show iter rate_value_loop1 (([49, 50] : List UInt8), 100000, 0, (([49, 50] : List UInt8).length : Int), 0, ()) = some ((12, ())) from iter_some.2 ⟨6, rfl⟩]
  rfl
theorem aw_value4 : rate_value ([53, 48, 48, 48], 10000) = some 5000 := by
  unfold rate_value
  dsimp only
  rw [show iter rate_value_loop1 (([53, 48, 48, 48] : List UInt8), 10000, 0, (([53, 48, 48, 48] : List UInt8).length : Int), 0, ()) = some ((5000, ())) from iter_some.2 ⟨6, rfl⟩]
  rfl
theorem aw_Parse : rate_Parse [49, 50, 46, 53, 37] = some (125000, 0) := by
  unfold rate_Parse
  have h1 : strings_CutPrefix ([49, 50, 46, 53, 37], [45]) = some ([49, 50, 46, 53, 37], false) := rfl
  have h2 : strings_CutSuffix ([49, 50, 46, 53, 37], [37]) = some ([49, 50, 46, 53], true) := rfl
  have h3 : strings_Cut ([49, 50, 46, 53], [46]) = some ([49, 50], [53], true) := rfl
  dsimp only
  simp only [gPb, gPm, gPs, gM, gM2, gAnd, gOr, gAndI, gOrI, gAA, gAO, gOA, gOO, gAAf, gAOf, gOAf, gOOf, gAMf, gOMf, gId]
  rw [if_neg (by decide), h1, bs, h2, bs, h3, bs]
  dsimp only
  simp only [aw_digits2, aw_digits1, bs, ms, Bool.not_true, Bool.false_eq_true, if_false]
  have e1 : decide ((([49, 50] : List UInt8).length : Int) > 1) = true := rfl
  have e2 : sAt [49, 50] 0 = some 49 := rfl
  have e3 : decide ((([53] : List UInt8).length : Int) > 4) = false := rfl
  have e4 : sAt [53] (IntKind.i64.wrap ((([53] : List UInt8).length : Int) - 1)) = some 53 := rfl
  have e5 : lSub ([53] ++ [48, 48, 48, 48] : List UInt8) 0 4 = some [53, 48, 48, 48] := rfl
  simp only [e1, e2, e3, e4, if_true, Bool.false_eq_true, if_false, bs, ms]
  simp only [if_true, Bool.false_eq_true, if_false, bs, ms, aw_value2, aw_value4, e5, beq_iff_eq]
  rw [if_neg (by decide), if_neg (by decide), if_pos (by simp only [List.length_cons, List.length_nil]; omega)]
  rfl
theorem aw_d0 : Lib.decDigits 0 = [48] := by rw [Lib.decDigits]; rfl
theorem aw_d1 : Lib.decDigits 10001 = [49, 48, 48, 48, 49] := by
  rw [Lib.decDigits, Lib.decDigits, Lib.decDigits, Lib.decDigits, Lib.decDigits]; rfl
theorem fi_eq (n : Int) (h0 : -9223372036854775808 ≤ n) (h1 : n ≤ 9223372036854775807) : strconv_FormatInt (n, 10) = some (Lib.itoa n) := if_pos ⟨rfl, h0, h1⟩
theorem fi_nat (u : Nat) (h1 : u ≤ 9223372036854775807) : strconv_FormatInt ((u : Int), 10) = some (Lib.decDigits u) := by rw [fi_eq _ (by omega) (by omega), Lib.itoa_nonneg]
theorem aw_f0 : strconv_FormatInt (0, 10) = some [48] := (fi_nat 0 (by omega)).trans (congrArg some aw_d0)
theorem aw_f1 : strconv_FormatInt (10001, 10) = some [49, 48, 48, 48, 49] := (fi_nat 10001 (by omega)).trans (congrArg some aw_d1)
theorem aw_t : strings_TrimRight ([48, 48, 48, 49], [48]) = some [48, 48, 48, 49] := by
  simp only [strings_TrimRight]; rw [if_pos (by simp)]; rfl
theorem aw_z (x y : List UInt8) (hx : x.length ≤ 10) (hy : y.length ≤ 10) : (if x.length + y.length ≤ 4611686018427387904 then some (x ++ y) else none) = some (x ++ y) := if_pos (by omega)
theorem aw_Text : rate_Text (-1) = some [45, 48, 46, 48, 48, 48, 49, 37] := by
  unfold rate_Text
  have e0 : rate_right (-1) = some true := rfl
  have e1 : (if (10000 : Int) = 0 then none else some (IntKind.i64.wrap ((IntKind.i64.wrap (0 - (-1 : Int))).tdiv 10000))) = some 0 := rfl
  have e2 : (if (10000 : Int) = 0 then none else some ((IntKind.i64.wrap (0 - (-1 : Int))).tmod 10000)) = some 1 := rfl
  have e3 : IntKind.i64.wrap (10000 + 1) = 10001 := rfl
  have e4 : lSub ([49, 48, 48, 48, 49] : List UInt8) 1 (([49, 48, 48, 48, 49] : List UInt8).length : Int) = some [48, 48, 48, 49] := rfl
  dsimp only
  rw [e0, bs, if_neg (by decide), if_pos (by decide), bs]
  dsimp only
  simp only [e1, e2, e3, bs, aw_f0, aw_f1, e4, aw_t]
  rw [aw_z _ _ (by decide) (by decide), bs, if_pos (by decide), aw_z _ _ (by decide) (by decide), bs, aw_z _ _ (by decide) (by decide), bs, bs, aw_z _ _ (by decide) (by decide), bs]
  rfl
theorem aw_Of : rate_Of (1001, 125000, 1) = some (125, 0) := by
  rw [rOf_eq (by decide) (by decide)]
  rfl
theorem aw_Part : rate_Part (-5, 1, 2, 2) = some (-2, 0) := by
  rw [rPart_eq (by decide) (by decide) (by decide) (by decide) (by decide)]
  rfl
theorem awake_eq : law02_awake () = some true := by
  unfold law02_awake
  dsimp only
  simp only [gPb, gPm, gPs, gM, gM2, gAnd, gOr, gAndI, gOrI, gAA, gAO, gOA, gOO, gAAf, gAOf, gOAf, gOOf, gAMf, gOMf, gId]
  rw [aw_Of, bs, aw_Part, bs, aw_Parse, bs, aw_Text]
  rfl
end WB
namespace Go.Proofs
open Go.Shelf
def Tryd.laysM173_ren : Go.Shelf.Ren := ⟨fun | 173 => 31 | 246 => 45 | 283 => 55 | 284 => 56 | 285 => 57 | 286 => 58 | 129 => 65 | 317 => 66 | 318 => 67 | 319 => 68 | 320 => 69 | 337 => 77 | 338 => 78 | n => n, fun | 2 => 2 | 3 => 3 | 9 => 9 | 4 => 4 | 171 => 90 | 0 => 0 | 53 => 55 | 37 => 83 | 5 => 5 | 173 => 92 | 212 => 102 | 51 => 103 | 20 => 20 | 213 => 104 | 46 => 84 | 232 => 113 | 233 => 114 | n => n, fun | 17 => 2 | 18 => 4 | 19 => 5 | n => n⟩
theorem Tryd.laysM173 : Go.Proofs.LaysM.n173 Tryd.prog Tryd.laysM173_ren := {
  mixed := by kernel_rfl
  f129 := Tryd.func65.trans (congrArg some (by kernel_rfl))
  f173 := Tryd.func31.trans (congrArg some (by kernel_rfl))
  f246 := Tryd.func45.trans (congrArg some (by kernel_rfl))
  f283 := Tryd.func55.trans (congrArg some (by kernel_rfl))
  f284 := Tryd.func56.trans (congrArg some (by kernel_rfl))
  f285 := Tryd.func57.trans (congrArg some (by kernel_rfl))
  f286 := Tryd.func58.trans (congrArg some (by kernel_rfl))
  f317 := Tryd.func66.trans (congrArg some (by kernel_rfl))
  f318 := Tryd.func67.trans (congrArg some (by kernel_rfl))
  f319 := Tryd.func68.trans (congrArg some (by kernel_rfl))
  f320 := Tryd.func69.trans (congrArg some (by kernel_rfl))
  f337 := Tryd.func77.trans (congrArg some (by kernel_rfl))
  f338 := Tryd.func78.trans (congrArg some (by kernel_rfl))
  t0 := Tryd.underlying0
  a0 := Tryd.isAgg0
  z0 := Tryd.sizeOf0
  v0 := Tryd.zeroValue0
  t2 := Tryd.underlying2
  a2 := Tryd.isAgg2
  z2 := Tryd.sizeOf2
  v2 := Tryd.zeroValue2
  t3 := Tryd.underlying3
  a3 := Tryd.isAgg3
  z3 := Tryd.sizeOf3
  v3 := Tryd.zeroValue3
  t4 := Tryd.underlying4
  a4 := Tryd.isAgg4
  z4 := Tryd.sizeOf4
  v4 := Tryd.zeroValue4
  t5 := Tryd.underlying5
  a5 := Tryd.isAgg5
  z5 := Tryd.sizeOf5
  v5 := Tryd.zeroValue5
  t9 := Tryd.underlying9
  a9 := Tryd.isAgg9
  z9 := Tryd.sizeOf9
  v9 := Tryd.zeroValue9
  t20 := Tryd.underlying20
  a20 := Tryd.isAgg20
  z20 := Tryd.sizeOf20
  v20 := Tryd.zeroValue20
  t37 := Tryd.underlying83
  a37 := Tryd.isAgg83
  z37 := Tryd.sizeOf83
  v37 := Tryd.zeroValue83
  t46 := Tryd.underlying84
  a46 := Tryd.isAgg84
  z46 := Tryd.sizeOf84
  v46 := Tryd.zeroValue84
  t51 := Tryd.underlying103
  a51 := Tryd.isAgg103
  z51 := Tryd.sizeOf103
  v51 := Tryd.zeroValue103
  t53 := Tryd.underlying55
  a53 := Tryd.isAgg55
  z53 := Tryd.sizeOf55
  v53 := Tryd.zeroValue55
  t171 := Tryd.underlying90
  a171 := Tryd.isAgg90
  z171 := Tryd.sizeOf90
  v171 := Tryd.zeroValue90
  t173 := Tryd.underlying92
  a173 := Tryd.isAgg92
  z173 := Tryd.sizeOf92
  v173 := Tryd.zeroValue92
  t212 := Tryd.underlying102
  a212 := Tryd.isAgg102
  z212 := Tryd.sizeOf102
  v212 := Tryd.zeroValue102
  t213 := Tryd.underlying104
  a213 := Tryd.isAgg104
  z213 := Tryd.sizeOf104
  t232 := Tryd.underlying113
  a232 := Tryd.isAgg113
  z232 := Tryd.sizeOf113
  v232 := Tryd.zeroValue113
  t233 := Tryd.underlying114
  a233 := Tryd.isAgg114
  z233 := Tryd.sizeOf114
  v233 := Tryd.zeroValue114
  g17 := by kernel_rfl
  g18 := by kernel_rfl
  g19 := by kernel_rfl
  i0 := by kernel_rfl
  i2 := by kernel_rfl
  i3 := by kernel_rfl
  i4 := by kernel_rfl
  i5 := by kernel_rfl
  i9 := by kernel_rfl
  i20 := by kernel_rfl
  i37 := by kernel_rfl
  i46 := by kernel_rfl
  i51 := by kernel_rfl
  i53 := by kernel_rfl
  i171 := by kernel_rfl
  i173 := by kernel_rfl
  i212 := by kernel_rfl
  i232 := by kernel_rfl
  i233 := by kernel_rfl
  m17 := by kernel_rfl
  m18 := by kernel_rfl
  m19 := by kernel_rfl }
open Go.RowKit Go.Sort Go.Lib in
/-- strconv.FormatInt: "FormatInt returns the string representation of i in the given base": AT BASE 10: i's decimal numeral, for every int64. (LAID: no walk: one application.) -/
theorem Tryd.strconv_FormatInt_10 (n : Int) (h0 : -9223372036854775808 ≤ n) (h1 : n ≤ 9223372036854775807) (w : World) (htab : Lib.TabIs Tryd.prog w "internal/strconv.uint64pow10" .u64 Lib.pow10Tab) :
    Calls Tryd.prog 31 #[.int .i64 n, .int .i64 10] w fun e w' => e = .returned (.string ⟨(Lib.itoa n).toArray⟩) ∧ ∃ k os, w' = grow (w.drewN k) os := Any.strconv_FormatInt_10 Tryd.laysM173 n h0 h1 w htab
def Tryd.lays162_ren : Go.Shelf.Ren := ⟨fun | 162 => 32 | 232 => 46 | 227 => 47 | 234 => 48 | 236 => 49 | 228 => 59 | 271 => 60 | 151 => 61 | 120 => 70 | 197 => 71 | 152 => 72 | 260 => 79 | 137 => 80 | 119 => 81 | 224 => 75 | 225 => 74 | 217 => 73 | 266 => 82 | n => n, fun | 9 => 9 | 4 => 4 | 3 => 3 | 5 => 5 | 117 => 79 | 116 => 78 | 0 => 0 | 124 => 82 | 21 => 21 | 105 => 95 | 46 => 84 | 119 => 115 | 139 => 118 | 138 => 117 | n => n, fun | 3 => 6 | 4 => 7 | n => n⟩
theorem Tryd.lays162 : Go.Proofs.Lays.n162 Tryd.prog Tryd.lays162_ren := {
  mixed := by kernel_rfl
  f119 := Tryd.func81.trans (congrArg some (by kernel_rfl))
  f120 := Tryd.func70.trans (congrArg some (by kernel_rfl))
  f137 := Tryd.func80.trans (congrArg some (by kernel_rfl))
  f151 := Tryd.func61.trans (congrArg some (by kernel_rfl))
  f152 := Tryd.func72.trans (congrArg some (by kernel_rfl))
  f162 := Tryd.func32.trans (congrArg some (by kernel_rfl))
  f197 := Tryd.func71.trans (congrArg some (by kernel_rfl))
  f217 := Tryd.func73.trans (congrArg some (by kernel_rfl))
  f224 := Tryd.func75.trans (congrArg some (by kernel_rfl))
  f225 := Tryd.func74.trans (congrArg some (by kernel_rfl))
  f227 := Tryd.func47.trans (congrArg some (by kernel_rfl))
  f228 := Tryd.func59.trans (congrArg some (by kernel_rfl))
  f232 := Tryd.func46.trans (congrArg some (by kernel_rfl))
  f234 := Tryd.func48.trans (congrArg some (by kernel_rfl))
  f236 := Tryd.func49.trans (congrArg some (by kernel_rfl))
  f260 := Tryd.func79.trans (congrArg some (by kernel_rfl))
  f266 := Tryd.func82.trans (congrArg some (by kernel_rfl))
  f271 := Tryd.func60.trans (congrArg some (by kernel_rfl))
  t0 := Tryd.underlying0
  a0 := Tryd.isAgg0
  z0 := Tryd.sizeOf0
  v0 := Tryd.zeroValue0
  t3 := Tryd.underlying3
  a3 := Tryd.isAgg3
  z3 := Tryd.sizeOf3
  v3 := Tryd.zeroValue3
  t4 := Tryd.underlying4
  a4 := Tryd.isAgg4
  z4 := Tryd.sizeOf4
  v4 := Tryd.zeroValue4
  t5 := Tryd.underlying5
  a5 := Tryd.isAgg5
  z5 := Tryd.sizeOf5
  v5 := Tryd.zeroValue5
  t9 := Tryd.underlying9
  a9 := Tryd.isAgg9
  z9 := Tryd.sizeOf9
  v9 := Tryd.zeroValue9
  t21 := Tryd.underlying21
  a21 := Tryd.isAgg21
  z21 := Tryd.sizeOf21
  v21 := Tryd.zeroValue21
  t46 := Tryd.underlying84
  a46 := Tryd.isAgg84
  z46 := Tryd.sizeOf84
  v46 := Tryd.zeroValue84
  t105 := Tryd.underlying95
  a105 := Tryd.isAgg95
  z105 := Tryd.sizeOf95
  v105 := Tryd.zeroValue95
  t116 := Tryd.underlying78
  a116 := Tryd.isAgg78
  z116 := Tryd.sizeOf78
  t117 := Tryd.underlying79
  a117 := Tryd.isAgg79
  z117 := Tryd.sizeOf79
  v117 := Tryd.zeroValue79
  t119 := Tryd.underlying115
  a119 := Tryd.isAgg115
  z119 := Tryd.sizeOf115
  t124 := Tryd.underlying82
  a124 := Tryd.isAgg82
  z124 := Tryd.sizeOf82
  v124 := Tryd.zeroValue82
  t138 := Tryd.underlying117
  a138 := Tryd.isAgg117
  z138 := Tryd.sizeOf117
  v138 := Tryd.zeroValue117
  t139 := Tryd.underlying118
  a139 := Tryd.isAgg118
  z139 := Tryd.sizeOf118
  v139 := Tryd.zeroValue118
  g3 := by kernel_rfl
  g4 := by kernel_rfl }
open Go.RowKit in
/-- strings.TrimRight: "TrimRight returns a slice of the string s, with all trailing Unicode code points contained in cutset removed.": AT A cutset OF ONE ASCII BYTE. The world is as it was. (LAID: no walk: one application.) -/
theorem Tryd.strings_TrimRight_one (s : ByteArray) (c : UInt8) (hc : c.toNat < 128) (w : World) (hs : s.size ≤ 9223372036854775807) :
    Calls Tryd.prog 32 #[.string s, .string ⟨#[c]⟩] w fun e w' => e = .returned (.string ⟨(Lib.trimRightB s.data.toList c).toArray⟩) ∧ w' = w := Any.strings_TrimRight_one Tryd.lays162 s c hc w hs
def Tryd.lays219_ren : Go.Shelf.Ren := ⟨fun | 219 => 64 | 217 => 73 | 225 => 74 | 224 => 75 | 267 => 76 | 266 => 82 | 314 => 83 | n => n, fun | 9 => 9 | 3 => 3 | 4 => 4 | 5 => 5 | 46 => 84 | 146 => 111 | 51 => 103 | n => n, fun | 1 => 3 | n => n⟩
theorem Tryd.lays219 : Go.Proofs.Lays.n219 Tryd.prog Tryd.lays219_ren := {
  mixed := by kernel_rfl
  f217 := Tryd.func73.trans (congrArg some (by kernel_rfl))
  f219 := Tryd.func64.trans (congrArg some (by kernel_rfl))
  f224 := Tryd.func75.trans (congrArg some (by kernel_rfl))
  f225 := Tryd.func74.trans (congrArg some (by kernel_rfl))
  f266 := Tryd.func82.trans (congrArg some (by kernel_rfl))
  f267 := Tryd.func76.trans (congrArg some (by kernel_rfl))
  f314 := Tryd.func83.trans (congrArg some (by kernel_rfl))
  t3 := Tryd.underlying3
  a3 := Tryd.isAgg3
  z3 := Tryd.sizeOf3
  v3 := Tryd.zeroValue3
  t4 := Tryd.underlying4
  a4 := Tryd.isAgg4
  z4 := Tryd.sizeOf4
  v4 := Tryd.zeroValue4
  t5 := Tryd.underlying5
  a5 := Tryd.isAgg5
  z5 := Tryd.sizeOf5
  v5 := Tryd.zeroValue5
  t9 := Tryd.underlying9
  a9 := Tryd.isAgg9
  z9 := Tryd.sizeOf9
  v9 := Tryd.zeroValue9
  t46 := Tryd.underlying84
  a46 := Tryd.isAgg84
  z46 := Tryd.sizeOf84
  v46 := Tryd.zeroValue84
  t51 := Tryd.underlying103
  a51 := Tryd.isAgg103
  z51 := Tryd.sizeOf103
  v51 := Tryd.zeroValue103
  t146 := Tryd.underlying111
  a146 := Tryd.isAgg111
  z146 := Tryd.sizeOf111
  v146 := Tryd.zeroValue111
  g1 := by kernel_rfl }
open Go.RowKit Go.Lib in
/-- internal/stringslite.Index (what strings.Index calls) AT A substr OF ONE BYTE c: IT RETURNS 'Lib.indexByte s c'; the world is as it was. (LAID: no walk: one application.) -/
theorem Tryd.stringslite_Index_one (s : ByteArray) (c : UInt8) (w : World) :
    Calls Tryd.prog 64 #[.string s, .string ⟨#[c]⟩] w fun e w' => e = .returned (.int .i64 (Lib.indexByte s.data.toList c)) ∧ w' = w := Any.stringslite_Index_one Tryd.lays219 s c w
open Go.RowKit Go.Lib in
def Tryd.lays217_ren : Go.Shelf.Ren := ⟨fun | 217 => 73 | 266 => 82 | n => n, fun | 9 => 9 | 5 => 5 | 3 => 3 | n => n, fun | n => n⟩
theorem Tryd.lays217 : Go.Proofs.Lays.n217 Tryd.prog Tryd.lays217_ren := {
  mixed := by kernel_rfl
  f217 := Tryd.func73.trans (congrArg some (by kernel_rfl))
  f266 := Tryd.func82.trans (congrArg some (by kernel_rfl))
  t3 := Tryd.underlying3
  a3 := Tryd.isAgg3
  z3 := Tryd.sizeOf3
  v3 := Tryd.zeroValue3
  t5 := Tryd.underlying5
  a5 := Tryd.isAgg5
  z5 := Tryd.sizeOf5
  v5 := Tryd.zeroValue5
  t9 := Tryd.underlying9
  a9 := Tryd.isAgg9
  z9 := Tryd.sizeOf9
  v9 := Tryd.zeroValue9 }
open Go.RowKit Go.Lib in
/-- internal/stringslite.IndexByte (what strings.IndexByte calls): IT RETURNS 'Lib.indexByte s c'; the world is as it was. (LAID: no walk: one application.) -/
theorem Tryd.stringslite_IndexByte (s : ByteArray) (c : Int) (w : World) :
    Calls Tryd.prog 73 #[.string s, .int .u8 c] w fun e w' => e = .returned (.int .i64 (Lib.indexByte s.data.toList c.toNat.toUInt8)) ∧ w' = w := Any.stringslite_IndexByte Tryd.lays217 s c w

end Go.Proofs
