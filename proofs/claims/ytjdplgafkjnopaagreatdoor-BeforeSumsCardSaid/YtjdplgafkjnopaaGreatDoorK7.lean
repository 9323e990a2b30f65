/-
  OWN TEXTS, MERGED (wip/merge.py): PrA, PrB, PrC, PrD, Pof, Pnm, Pfc, Pba, Pbs, Pbw, RShelf. No condition of their own.
-/
import Derived.Test.YtjdplgafkjnopaaGreatDoorK6
import Derived.Test.YtjdplgafkjnopaaGreatDoorK5
import Derived.Lib.BitFns
import Derived.Shelf.SlMaps.Copy
import Derived.Shelf.Strings.Search1
import Derived.Shelf.Strings.Search2
import Derived.Test.YtjdplgafkjnopaaGreatDoorProg
set_option linter.unusedVariables false
set_option linter.unusedSimpArgs false
namespace WB
open Go Go.RowKit

theorem Mul64_eq {n m : Nat} (hn : n < 18446744073709551616) (hm : m < 18446744073709551616) :
    math_bits_Mul64 ((n : Int), (m : Int)) = some (((n * m / 18446744073709551616 : Nat) : Int), ((n * m % 18446744073709551616 : Nat) : Int)) := by
  unfold math_bits_Mul64
  obtain ⟨h1, h2, h3, h4⟩ := Go.Lib.mul64_hi n m hn hm
  have l : ∀ {a : Nat}, a < 18446744073709551616 → IntKind.u64.wrap (a : Int) = (a : Int) := fun h => wu64 h
  have h6 : n * m / 18446744073709551616 < 18446744073709551616 := by
    rw [Nat.div_lt_iff_lt_mul (by decide)]
    exact Nat.mul_lt_mul'' hn hm
  have e1 := Int.natCast_mul (n % 4294967296) (m % 4294967296)
  have e2 := Int.natCast_mul (n / 4294967296) (m % 4294967296)
  have e3 := Int.natCast_mul (n % 4294967296) (m / 4294967296)
  have e4 := Int.natCast_mul (n / 4294967296) (m / 4294967296)
  have e5 := Int.natCast_mul n m
  dsimp only
  rw [shr32, bs, shr32, bs, mask32 hn, mask32 hm, ← e1, ← e2, ← e3, ← e4, ← e5]
  generalize n % 4294967296 * (m % 4294967296) = A at *
  generalize n / 4294967296 * (m % 4294967296) = B at *
  generalize n % 4294967296 * (m / 4294967296) = C at *
  generalize n / 4294967296 * (m / 4294967296) = E at *
  generalize n * m = F at *
  rw [wu64 h1, shr32, bs, wu64 (show B < 18446744073709551616 by omega), ← Int.natCast_add, wu64 h2, shr32, bs, mask32 h2, wu64 (show C < 18446744073709551616 by omega), ← Int.natCast_add, wu64 h3, shr32, bs, wu64 (show E < 18446744073709551616 by omega), ← Int.natCast_add, wu64 (show E + (B + A / 4294967296) / 4294967296 < 18446744073709551616 by omega), ← Int.natCast_add, h4, wu64 h6, wu64m]

theorem shrK (n k : Nat) (hk : k ≤ 64) : (if (k : Int) < 0 then none else some ((n : Int).fdiv (2 ^ (min (k : Int).toNat 64)))) = some ((n / 2 ^ k : Nat) : Int) := by
  rw [if_neg (by omega), Int.toNat_natCast, Nat.min_eq_left hk, Int.fdiv_eq_ediv_of_nonneg _ (Int.pow_nonneg (by decide))]
  congr 1
theorem shr16 (n : Nat) : (if (16 : Int) < 0 then none else some ((n : Int).fdiv (2 ^ (min (16 : Int).toNat 64)))) = some ((n / 65536 : Nat) : Int) := shrK n 16 (by decide)
theorem shr8 (n : Nat) : (if (8 : Int) < 0 then none else some ((n : Int).fdiv (2 ^ (min (8 : Int).toNat 64)))) = some ((n / 256 : Nat) : Int) := shrK n 8 (by decide)

theorem len8L : ∀ n : Fin 256, ([0, 1, 2, 2, 3, 3, 3, 3, 4, 4, 4, 4, 4, 4, 4, 4, 5, 5, 5, 5, 5, 5, 5, 5, 5, 5, 5, 5, 5, 5, 5, 5, 6, 6, 6, 6, 6, 6, 6, 6, 6, 6, 6, 6, 6, 6, 6, 6, 6, 6, 6, 6, 6, 6, 6, 6, 6, 6, 6, 6, 6, 6, 6, 6, 7, 7, 7, 7, 7, 7, 7, 7, 7, 7, 7, 7, 7, 7, 7, 7, 7, 7, 7, 7, 7, 7, 7, 7, 7, 7, 7, 7, 7, 7, 7, 7, 7, 7, 7, 7, 7, 7, 7, 7, 7, 7, 7, 7, 7, 7, 7, 7, 7, 7, 7, 7, 7, 7, 7, 7, 7, 7, 7, 7, 7, 7, 7, 7, 8, 8, 8, 8, 8, 8, 8, 8, 8, 8, 8, 8, 8, 8, 8, 8, 8, 8, 8, 8, 8, 8, 8, 8, 8, 8, 8, 8, 8, 8, 8, 8, 8, 8, 8, 8, 8, 8, 8, 8, 8, 8, 8, 8, 8, 8, 8, 8, 8, 8, 8, 8, 8, 8, 8, 8, 8, 8, 8, 8, 8, 8, 8, 8, 8, 8, 8, 8, 8, 8, 8, 8, 8, 8, 8, 8, 8, 8, 8, 8, 8, 8, 8, 8, 8, 8, 8, 8, 8, 8, 8, 8, 8, 8, 8, 8, 8, 8, 8, 8, 8, 8, 8, 8, 8, 8, 8, 8, 8, 8, 8, 8, 8, 8, 8, 8, 8, 8, 8, 8, 8, 8, 8, 8, 8, 8, 8, 8] : List UInt8)[n.val]? = some (UInt8.ofNat (Go.Lib.bitLen n.val)) := by decide +kernel

theorem Len64_eq {n : Nat} (hn : n < 18446744073709551616) : math_bits_Len64 (n : Int) = some (Go.Lib.bitLen n : Int) := by
  unfold math_bits_Len64
  have a1 : ∃ n1 k1 : Nat, n1 < 4294967296 ∧ k1 ≤ 32 ∧ Go.Lib.bitLen n = k1 + Go.Lib.bitLen n1 ∧ (if decide ((n : Int) ≥ (4294967296 : Int)) = true then
      Option.bind (if (32 : Int) < 0 then none else some ((n : Int).fdiv (2 ^ (min (32 : Int).toNat 64)))) fun x6 => some (x6, (32 : Int), ()) else some ((n : Int), (0 : Int), ())) = some ((n1 : Int), (k1 : Int), ()) := by
    by_cases h : 4294967296 ≤ n
    · refine ⟨n / 4294967296, 32, by omega, by omega, Go.Lib.bitLen_shift32 n h hn, ?_⟩
      rw [if_pos (by simpa using by omega), shr32]; rfl
    · refine ⟨n, 0, by omega, by omega, by omega, ?_⟩
      rw [if_neg (by simpa using by omega)]; rfl
  obtain ⟨n1, k1, hn1, hk1, hl1, he1⟩ := a1
  have a2 : ∃ n2 k2 : Nat, n2 < 65536 ∧ k2 ≤ 48 ∧ Go.Lib.bitLen n = k2 + Go.Lib.bitLen n2 ∧ (if decide ((n1 : Int) ≥ (65536 : Int)) = true then
      Option.bind (if (16 : Int) < 0 then none else some ((n1 : Int).fdiv (2 ^ (min (16 : Int).toNat 64)))) fun x6 => some (x6, IntKind.i64.wrap ((k1 : Int) + (16 : Int)), ()) else some ((n1 : Int), (k1 : Int), ())) = some ((n2 : Int), (k2 : Int), ()) := by
    by_cases h : 65536 ≤ n1
    · refine ⟨n1 / 65536, k1 + 16, by omega, by omega, by rw [hl1, Go.Lib.bitLen_shift16 n1 h (by omega)]; omega, ?_⟩
      rw [if_pos (by simpa using by omega), shr16, w64' (by omega) (by omega)]; rfl
    · refine ⟨n1, k1, by omega, by omega, by omega, ?_⟩
      rw [if_neg (by simpa using by omega)]
  obtain ⟨n2, k2, hn2, hk2, hl2, he2⟩ := a2
  have a3 : ∃ n3 k3 : Nat, n3 < 256 ∧ k3 ≤ 56 ∧ Go.Lib.bitLen n = k3 + Go.Lib.bitLen n3 ∧ (if decide ((n2 : Int) ≥ (256 : Int)) = true then
      Option.bind (if (8 : Int) < 0 then none else some ((n2 : Int).fdiv (2 ^ (min (8 : Int).toNat 64)))) fun x6 => some (x6, IntKind.i64.wrap ((k2 : Int) + (8 : Int)), ()) else some ((n2 : Int), (k2 : Int), ())) = some ((n3 : Int), (k3 : Int), ()) := by
    by_cases h : 256 ≤ n2
    · refine ⟨n2 / 256, k2 + 8, by omega, by omega, by rw [hl2, Go.Lib.bitLen_shift8 n2 h (by omega)]; omega, ?_⟩
      rw [if_pos (by simpa using by omega), shr8, w64' (by omega) (by omega)]; rfl
    · refine ⟨n2, k2, by omega, by omega, by omega, ?_⟩
      rw [if_neg (by simpa using by omega)]
  obtain ⟨n3, k3, hn3, hk3, hl3, he3⟩ := a3
  have h8 : Go.Lib.bitLen n3 ≤ 8 := Go.Lib.bitLen_le8 ⟨n3, hn3⟩
  dsimp only
  rw [he1, bs]
  dsimp only
  rw [he2, bs]
  dsimp only
  rw [he3, bs]
  dsimp only
  have hw : IntKind.u8.wrap (n3 : Int) = (n3 : Int) := by rw [IntKind.wrap_u8]; omega
  rw [hw, sAt_nat (len8L ⟨n3, hn3⟩), bs]
  have hb : ((UInt8.ofNat (Go.Lib.bitLen n3)).toNat) = Go.Lib.bitLen n3 := by rw [UInt8.toNat_ofNat']; omega
  rw [hb, w64' (n := (Go.Lib.bitLen n3 : Int)) (by omega) (by omega), w64' (by omega) (by omega), hl3]
  rfl
theorem LeadingZeros64_eq {n : Nat} (hn : n < 18446744073709551616) : math_bits_LeadingZeros64 (n : Int) = some (64 - (Go.Lib.bitLen n : Int)) := by
  unfold math_bits_LeadingZeros64
  have : Go.Lib.bitLen n ≤ 64 := Go.Lib.bitLen_le n 64 (by omega) hn
  dsimp only
  rw [Len64_eq hn, bs, w64' (by omega) (by omega)]
end WB
namespace WB
open Go Go.RowKit

theorem bitLen_bd : ∀ (n : Nat), n < 18446744073709551616 → n ≠ 0 → 2 ^ Go.Lib.bitLen n ≤ 2 * n ∧ n < 2 ^ Go.Lib.bitLen n := by
  intro n
  induction n using Nat.strongRecOn with
  | _ n ih =>
    intro h h0
    rw [Go.Lib.bitLen_half n h0 h]
    by_cases h1 : n / 2 = 0
    · have : n = 1 := by omega
      subst this
      decide
    · obtain ⟨a, b⟩ := ih (n / 2) (by omega) (by omega) h1
      rw [Nat.add_comm 1, Nat.pow_succ]
      omega

section
variable {p z u n : Nat}
/-- One turn of guessing: the guess is too great just if the test says so; what is left says whether to go on. -/
theorem kn_turn (hz : z < 4294967296) (hn : n < 4294967296) (hu : u < p * 4294967296 + z) {q r : Nat} (h : q * p + r = u) (hQ : (u * 4294967296 + n) / (p * 4294967296 + z) ≤ q) (hq : q ≤ 4294967297) (hr : r < 4294967296) :
    q * z < 18446744073709551616 ∧ 4294967296 * r + n < 18446744073709551616 ∧
    ((q < 4294967296 ∧ q * z ≤ 4294967296 * r + n → q = (u * 4294967296 + n) / (p * 4294967296 + z))
    ∧ (4294967296 ≤ q ∨ 4294967296 * r + n < q * z → 1 ≤ q ∧ (q - 1) * p + (r + p) = u ∧ (u * 4294967296 + n) / (p * 4294967296 + z) ≤ q - 1 ∧ (4294967296 ≤ r + p → q - 1 = (u * 4294967296 + n) / (p * 4294967296 + z)))) := by
  have hd : 0 < p * 4294967296 + z := by omega
  have h1 : q * z ≤ 4294967297 * 4294967295 := Nat.mul_le_mul hq (by omega)
  refine ⟨by omega, by omega, fun ⟨a, b⟩ => ?_, fun a => ?_⟩
  · refine Nat.le_antisymm ?_ hQ
    rw [Nat.le_div_iff_mul_le hd]
    have := (kn_test (b := 4294967296) (z := z) (n := n) h)
    omega
  · have hlt : (u * 4294967296 + n) / (p * 4294967296 + z) < q := by
      rcases a with a | a
      · exact Nat.lt_of_lt_of_le (kn_digit hn hu) a
      · exact (kn_lt hd).1 ((kn_test h).1 a)
    have h1 : 1 ≤ q := Nat.lt_of_le_of_lt (Nat.zero_le _) hlt
    have e : (q - 1) * p + (r + p) = u := by
      obtain ⟨k, rfl⟩ : ∃ k, q = k + 1 := ⟨q - 1, by omega⟩
      rw [Nat.add_mul] at h
      simp only [Nat.add_sub_cancel]
      omega
    refine ⟨h1, e, Nat.le_sub_one_of_lt hlt, fun hb => ?_⟩
    refine Nat.le_antisymm ?_ (Nat.le_sub_one_of_lt hlt)
    rw [Nat.le_div_iff_mul_le hd]
    exact kn_break hb (by omega) hz e

theorem Div64_loop1_eq (hp : 2147483648 ≤ p) (hp2 : p < 4294967296) (hz : z < 4294967296) (hn : n < 4294967296) (hu : u < p * 4294967296 + z) (y s n0 : Int) :
    iter math_bits_Div64_loop1 (y, s, (p : Int), (z : Int), (u : Int), (n : Int), n0, ((u / p : Nat) : Int), ((u % p : Nat) : Int), ()) = some (y, s, (p : Int), (z : Int), (u : Int), (n : Int), n0, (((u * 4294967296 + n) / (p * 4294967296 + z) : Nat) : Int), ()) := by
  obtain ⟨f1, f2⟩ := kn_first (b := 4294967296) (p := p) (by omega) (by omega) hz hn hu
  refine iter_inv (fun m st => ∃ q r : Nat, st = (y, s, (p : Int), (z : Int), (u : Int), (n : Int), n0, (q : Int), (r : Int), ()) ∧ q * p + r = u ∧ (u * 4294967296 + n) / (p * 4294967296 + z) ≤ q ∧ q ≤ 4294967297 ∧ r < 4294967296 ∧ m = q) ?_ (u / p) _ ⟨u / p, u % p, rfl, Nat.div_add_mod' u p, f1, by omega, Nat.lt_of_lt_of_le (Nat.mod_lt _ (by omega)) (by omega), rfl⟩
  rintro m st ⟨q, r, rfl, h1, h2, h3, h4, hm⟩
  obtain ⟨b1, b2, c1, c2⟩ := kn_turn hz hn hu h1 h2 h3 h4
  have w1 : IntKind.u64.wrap ((q : Int) * (z : Int)) = ((q * z : Nat) : Int) := by rw [← Int.natCast_mul]; exact wu64 b1
  have w2 : IntKind.u64.wrap ((4294967296 : Int) * (r : Int)) = ((4294967296 * r : Nat) : Int) := by rw [wu64' (by omega) (by omega)]; omega
  have w3 : IntKind.u64.wrap (((4294967296 * r : Nat) : Int) + (n : Int)) = ((4294967296 * r + n : Nat) : Int) := by rw [wu64' (by omega) (by omega)]; omega
  have w5 : IntKind.u64.wrap ((r : Int) + (p : Int)) = ((r + p : Nat) : Int) := by rw [wu64' (by omega) (by omega)]; omega
  have hT : ∃ t : Bool, (t = true ↔ (4294967296 ≤ q ∨ 4294967296 * r + n < q * z)) ∧ math_bits_Div64_loop1 (y, s, (p : Int), (z : Int), (u : Int), (n : Int), n0, (q : Int), (r : Int), ()) = (if t then (if 4294967296 ≤ r + p then some (Sum.inr (y, s, (p : Int), (z : Int), (u : Int), (n : Int), n0, IntKind.u64.wrap ((q : Int) - 1), ())) else some (Sum.inl (y, s, (p : Int), (z : Int), (u : Int), (n : Int), n0, IntKind.u64.wrap ((q : Int) - 1), ((r + p : Nat) : Int), ()))) else some (Sum.inr (y, s, (p : Int), (z : Int), (u : Int), (n : Int), n0, (q : Int), ()))) := by
    unfold math_bits_Div64_loop1
    dsimp only
    rw [w5]
    have g2 : decide (((r + p : Nat) : Int) ≥ 4294967296) = decide (4294967296 ≤ r + p) := by apply decide_eq_decide.2; omega
    rw [g2]
    by_cases hb : 4294967296 ≤ q
    · have g1 : decide ((q : Int) ≥ 4294967296) = true := by simpa using by omega
      refine ⟨true, by simp [hb], ?_⟩
      simp only [g1, Bool.true_eq_false, if_false, if_true, bs, decide_eq_true_eq]
    · have g1 : decide ((q : Int) ≥ 4294967296) = false := by simpa using by omega
      refine ⟨decide (4294967296 * r + n < q * z), by simp [hb], ?_⟩
      have g3 : decide (((q * z : Nat) : Int) > ((4294967296 * r + n : Nat) : Int)) = decide (4294967296 * r + n < q * z) := by apply decide_eq_decide.2; omega
      simp only [g1, if_true, bs, ms, w1, w2, w3, g3, Bool.false_eq_true, if_false, decide_eq_true_eq]
  obtain ⟨t, ht, e⟩ := hT
  rw [e]
  cases t with
  | false =>
    refine .inr ?_
    have := c1 (by have := mt ht.2 (by decide); omega)
    rw [if_neg (by decide), ← this]
  | true =>
    obtain ⟨d1, d2, d3, d4⟩ := c2 (ht.1 rfl)
    have w6 : IntKind.u64.wrap ((q : Int) - 1) = ((q - 1 : Nat) : Int) := by rw [wu64' (by omega) (by omega)]; omega
    rw [if_pos rfl, w6]
    by_cases hb : 4294967296 ≤ r + p
    · rw [if_pos hb, d4 hb]
      exact .inr rfl
    · rw [if_neg hb]
      exact .inl ⟨_, rfl, q - 1, by omega, q - 1, r + p, rfl, d2, d3, by omega, by omega, rfl⟩
theorem Div64_loop2_eq (hp : 2147483648 ≤ p) (hp2 : p < 4294967296) (hz : z < 4294967296) (hn : n < 4294967296) (hu : u < p * 4294967296 + z) (y s x15 x17 : Int) :
    iter math_bits_Div64_loop2 (y, s, (p : Int), (z : Int), (n : Int), x15, ((u % p : Nat) : Int), x17, ((u / p : Nat) : Int), ()) = some (y, s, (n : Int), x15, x17, (((u * 4294967296 + n) / (p * 4294967296 + z) : Nat) : Int), ()) := by
  obtain ⟨f1, f2⟩ := kn_first (b := 4294967296) (p := p) (by omega) (by omega) hz hn hu
  refine iter_inv (fun m st => ∃ q r : Nat, st = (y, s, (p : Int), (z : Int), (n : Int), x15, (r : Int), x17, (q : Int), ()) ∧ q * p + r = u ∧ (u * 4294967296 + n) / (p * 4294967296 + z) ≤ q ∧ q ≤ 4294967297 ∧ r < 4294967296 ∧ m = q) ?_ (u / p) _ ⟨u / p, u % p, rfl, Nat.div_add_mod' u p, f1, by omega, Nat.lt_of_lt_of_le (Nat.mod_lt _ (by omega)) (by omega), rfl⟩
  rintro m st ⟨q, r, rfl, h1, h2, h3, h4, hm⟩
  obtain ⟨b1, b2, c1, c2⟩ := kn_turn hz hn hu h1 h2 h3 h4
  have w1 : IntKind.u64.wrap ((q : Int) * (z : Int)) = ((q * z : Nat) : Int) := by rw [← Int.natCast_mul]; exact wu64 b1
  have w2 : IntKind.u64.wrap ((4294967296 : Int) * (r : Int)) = ((4294967296 * r : Nat) : Int) := by rw [wu64' (by omega) (by omega)]; omega
  have w3 : IntKind.u64.wrap (((4294967296 * r : Nat) : Int) + (n : Int)) = ((4294967296 * r + n : Nat) : Int) := by rw [wu64' (by omega) (by omega)]; omega
  have w5 : IntKind.u64.wrap ((r : Int) + (p : Int)) = ((r + p : Nat) : Int) := by rw [wu64' (by omega) (by omega)]; omega
  have hT : ∃ t : Bool, (t = true ↔ (4294967296 ≤ q ∨ 4294967296 * r + n < q * z)) ∧ math_bits_Div64_loop2 (y, s, (p : Int), (z : Int), (n : Int), x15, (r : Int), x17, (q : Int), ()) = (if t then (if 4294967296 ≤ r + p then some (Sum.inr (y, s, (n : Int), x15, x17, IntKind.u64.wrap ((q : Int) - 1), ())) else some (Sum.inl (y, s, (p : Int), (z : Int), (n : Int), x15, ((r + p : Nat) : Int), x17, IntKind.u64.wrap ((q : Int) - 1), ()))) else some (Sum.inr (y, s, (n : Int), x15, x17, (q : Int), ()))) := by
    unfold math_bits_Div64_loop2
    dsimp only
    rw [w5]
    have g2 : decide (((r + p : Nat) : Int) ≥ 4294967296) = decide (4294967296 ≤ r + p) := by apply decide_eq_decide.2; omega
    rw [g2]
    by_cases hb : 4294967296 ≤ q
    · have g1 : decide ((q : Int) ≥ 4294967296) = true := by simpa using by omega
      refine ⟨true, by simp [hb], ?_⟩
      simp only [g1, Bool.true_eq_false, if_false, if_true, bs, decide_eq_true_eq]
    · have g1 : decide ((q : Int) ≥ 4294967296) = false := by simpa using by omega
      refine ⟨decide (4294967296 * r + n < q * z), by simp [hb], ?_⟩
      have g3 : decide (((q * z : Nat) : Int) > ((4294967296 * r + n : Nat) : Int)) = decide (4294967296 * r + n < q * z) := by apply decide_eq_decide.2; omega
      simp only [g1, if_true, bs, ms, w1, w2, w3, g3, Bool.false_eq_true, if_false, decide_eq_true_eq]
  obtain ⟨t, ht, e⟩ := hT
  rw [e]
  cases t with
  | false =>
    refine .inr ?_
    have := c1 (by have := mt ht.2 (by decide); omega)
    rw [if_neg (by decide), ← this]
  | true =>
    obtain ⟨d1, d2, d3, d4⟩ := c2 (ht.1 rfl)
    have w6 : IntKind.u64.wrap ((q : Int) - 1) = ((q - 1 : Nat) : Int) := by rw [wu64' (by omega) (by omega)]; omega
    rw [if_pos rfl, w6]
    by_cases hb : 4294967296 ≤ r + p
    · rw [if_pos hb, d4 hb]
      exact .inr rfl
    · rw [if_neg hb]
      exact .inl ⟨_, rfl, q - 1, by omega, q - 1, r + p, rfl, d2, d3, by omega, by omega, rfl⟩
end
end WB
namespace WB
open Go Go.RowKit

theorem shlK (n k : Nat) (hk : k ≤ 64) : (if (k : Int) < 0 then none else some (IntKind.u64.wrap ((n : Int) * 2 ^ (min (k : Int).toNat 64)))) = some ((n * 2 ^ k % 18446744073709551616 : Nat) : Int) := by
  rw [if_neg (by omega), Int.toNat_natCast, Nat.min_eq_left hk]
  refine congrArg some ?_
  rw [show (n : Int) * 2 ^ k = ((n * 2 ^ k : Nat) : Int) by rw [Int.natCast_mul, Int.natCast_pow]; rfl]
  exact wu64m _
theorem orJ {x y k : Nat} (hx : x % 2 ^ k = 0) (hx1 : x < 18446744073709551616) (hy : y < 2 ^ k) (hy1 : y < 18446744073709551616) : bitZ .or .u64 (x : Int) (y : Int) = ((x + y : Nat) : Int) := by
  rw [bitZ_bits _ _ _ _ (.inr rfl)]
  have h := bits_join .u64 64 (by decide) (fun n h1 h2 => wu64' h1 (by simpa using h2)) k (x : Int) (y : Int) (by omega) (by
      have : ((x % 2 ^ k : Nat) : Int) = 0 := by rw [hx]; rfl
      rw [Int.natCast_emod, Int.natCast_pow] at this
      exact this) (by have : ((2 : Int) ^ 64) = 18446744073709551616 := by decide
                      omega) (by omega) (by
      have : (y : Int) < ((2 ^ k : Nat) : Int) := by omega
      rw [Int.natCast_pow] at this
      exact this) (by have : ((2 : Int) ^ 64) = 18446744073709551616 := by decide
                      omega)
  rw [h]; omega

theorem quoN {a b : Nat} (hb : b ≠ 0) (ha : a < 18446744073709551616) : (if (b : Int) = 0 then none else some (IntKind.u64.wrap ((a : Int).tdiv (b : Int)))) = some ((a / b : Nat) : Int) := by
  rw [if_neg (by omega)]
  congr 1
  rw [Int.tdiv_eq_ediv_of_nonneg (by omega), ← Int.natCast_ediv]
  exact wu64 (Nat.lt_of_le_of_lt (Nat.div_le_self _ _) ha)
theorem remN {a b : Nat} (hb : b ≠ 0) : (if (b : Int) = 0 then none else some ((a : Int).tmod (b : Int))) = some ((a % b : Nat) : Int) := by
  rw [if_neg (by omega)]
  congr 1
/-- What is left, with words that wrap. -/
theorem left64 {a b m q : Nat} (hd : 0 < m) (hm : m < 18446744073709551616) (h : q = (a * 4294967296 + b) / m) :
    IntKind.u64.wrap (IntKind.u64.wrap (IntKind.u64.wrap ((a : Int) * 4294967296) + (b : Int)) - IntKind.u64.wrap ((q : Int) * (m : Int))) = (((a * 4294967296 + b) % m : Nat) : Int) := by
  have h1 := Nat.div_add_mod (a * 4294967296 + b) m
  rw [← h] at h1
  have h2 := Nat.mod_lt (a * 4294967296 + b) hd
  generalize (a * 4294967296 + b) % m = r at *
  rw [← Int.natCast_mul, Nat.mul_comm q m]
  generalize m * q = t at *
  simp only [IntKind.wrap_u64]
  omega

theorem tot64 {u vh vl w A1 A0 r v : Nat} (h1 : A1 + w = u * 4294967296 + vh) (h2 : A0 + r = w * 4294967296 + vl) (h3 : vh * 4294967296 + vl = v) : u * 18446744073709551616 + v = A1 * 4294967296 + A0 + r := by
  have e : u * 18446744073709551616 = u * 4294967296 * 4294967296 := by rw [Nat.mul_assoc]
  rw [e, ← h3, ← Nat.add_assoc, ← Nat.add_mul, ← h1, Nat.add_mul, Nat.add_assoc, ← h2, Nat.add_assoc]
theorem Div64_eq {hi lo y : Nat} (hy : y < 18446744073709551616) (hlo : lo < 18446744073709551616) (hh : hi < y) :
    math_bits_Div64 ((hi : Int), (lo : Int), (y : Int)) = some ((((hi * 18446744073709551616 + lo) / y : Nat) : Int), (((hi * 18446744073709551616 + lo) % y : Nat) : Int)) := by
  have hy0 : y ≠ 0 := by omega
  have g1 : ((y : Int) == 0) = false := by simpa using by omega
  have g2 : decide ((y : Int) ≤ (hi : Int)) = false := by simpa using by omega
  by_cases h0 : hi = 0
  · subst h0
    unfold math_bits_Div64
    dsimp only
    rw [g1, g2, quoN hy0 hlo, remN hy0]
    simp
  obtain ⟨k1, k2⟩ := bitLen_bd y hy hy0
  have k3 : Go.Lib.bitLen y ≤ 64 := Go.Lib.bitLen_le y 64 (by omega) hy
  have k4 : 1 ≤ Go.Lib.bitLen y := by
    rcases Nat.eq_zero_or_pos (Go.Lib.bitLen y) with h | h
    · rw [h] at k2; omega
    · exact h
  -- the shift
  obtain ⟨s, hs⟩ : ∃ s, s = 64 - Go.Lib.bitLen y := ⟨_, rfl⟩
  have e64 : 2 ^ Go.Lib.bitLen y * 2 ^ s = 18446744073709551616 := by
    rw [← Nat.pow_add, show Go.Lib.bitLen y + s = 64 by omega]
  have ps : 0 < 2 ^ s := Nat.pow_pos (by decide)
  have n1 : 9223372036854775808 ≤ y * 2 ^ s := by
    have := Nat.mul_le_mul_right (2 ^ s) k1
    rw [Nat.mul_assoc] at this
    omega
  have n2 : y * 2 ^ s < 18446744073709551616 := by rw [← e64]; exact Nat.mul_lt_mul_of_pos_right k2 ps
  have n3 : hi * 2 ^ s + 2 ^ s ≤ y * 2 ^ s := by
    have := Nat.mul_le_mul_right (2 ^ s) (show hi + 1 ≤ y from hh)
    rwa [Nat.add_mul, Nat.one_mul] at this
  have n4 : lo / 2 ^ Go.Lib.bitLen y < 2 ^ s := by rw [Nat.div_lt_iff_lt_mul (Nat.pow_pos (by decide)), Nat.mul_comm, e64]; exact hlo
  have n5 : lo * 2 ^ s / 18446744073709551616 = lo / 2 ^ Go.Lib.bitLen y := by rw [← e64, Nat.mul_div_mul_right _ _ ps]
  have n6 := Nat.div_add_mod (lo * 2 ^ s) 18446744073709551616
  rw [n5] at n6
  have n7 : lo * 2 ^ s % 18446744073709551616 < 18446744073709551616 := Nat.mod_lt _ (by decide)
  have n8 : (hi * 18446744073709551616 + lo) * 2 ^ s = (hi * 2 ^ s + lo / 2 ^ Go.Lib.bitLen y) * 18446744073709551616 + lo * 2 ^ s % 18446744073709551616 := by
    rw [Nat.add_mul, Nat.add_mul, Nat.mul_right_comm]
    omega
  have o1 := orJ (x := hi * 2 ^ s) (y := lo / 2 ^ Go.Lib.bitLen y) (k := s) (Nat.mul_mod_left _ _) (by omega) n4 (by omega)
  unfold math_bits_Div64
  dsimp only
  have g3 : ((hi : Int) == 0) = false := by simpa using by omega
  have a0 : IntKind.u64.wrap (64 - (Go.Lib.bitLen y : Int)) = (s : Int) := by rw [wu64' (by omega) (by omega)]; omega
  have a1 : IntKind.u64.wrap (64 - (s : Int)) = (Go.Lib.bitLen y : Int) := by rw [wu64' (by omega) (by omega)]; omega
  rw [g1, g2, g3, LeadingZeros64_eq hy]
  simp only [Bool.false_eq_true, if_false]
  rw [bs, a0, a1, shlK y s (by omega), bs, shlK hi s (by omega), shlK lo s (by omega), Nat.mod_eq_of_lt n2, Nat.mod_eq_of_lt (show hi * 2 ^ s < 18446744073709551616 by omega), shrK lo _ k3]
  simp only [bs]
  rw [o1, mask32 n2, shr32, shr32, mask32 n7]
  simp only [bs]
  generalize hP : y * 2 ^ s = Y at *
  generalize hU : hi * 2 ^ s + lo / 2 ^ Go.Lib.bitLen y = u at *
  generalize hV : lo * 2 ^ s % 18446744073709551616 = v at *
  have eY : Y / 4294967296 * 4294967296 + Y % 4294967296 = Y := Nat.div_add_mod' Y 4294967296
  have eV : v / 4294967296 * 4294967296 + v % 4294967296 = v := Nat.div_add_mod' v 4294967296
  have hu : u < Y := by omega
  have hp0 : Y / 4294967296 ≠ 0 := by omega
  have qr (a : Nat) (ha : a < 18446744073709551616) : IntKind.u64.wrap ((a : Int) - IntKind.u64.wrap (((a / (Y / 4294967296) : Nat) : Int) * ((Y / 4294967296 : Nat) : Int))) = ((a % (Y / 4294967296) : Nat) : Int) := by
    have h1 := Nat.div_add_mod' a (Y / 4294967296)
    rw [← Int.natCast_mul]
    generalize a / (Y / 4294967296) * (Y / 4294967296) = t at *
    generalize a % (Y / 4294967296) = r at *
    rw [wu64 (show t < 18446744073709551616 by omega), wu64' (by omega) (by omega)]
    omega
  rw [quoN hp0 (show u < 18446744073709551616 by omega), bs, qr u (by omega)]
  rw [Div64_loop1_eq (by omega) (by omega) (by omega) (by omega) (by rw [eY]; exact hu), eY]
  simp only [bs]
  obtain ⟨q1, hq1⟩ : ∃ x, (u * 4294967296 + v / 4294967296) / Y = x := ⟨_, rfl⟩
  rw [hq1]
  have l1 := left64 (show 0 < Y by omega) n2 hq1.symm
  rw [l1]
  obtain ⟨w, hw⟩ : ∃ x, (u * 4294967296 + v / 4294967296) % Y = x := ⟨_, rfl⟩
  rw [hw]
  have hw1 : w < Y := by rw [← hw]; exact Nat.mod_lt _ (by omega)
  rw [quoN hp0 (show w < 18446744073709551616 by omega), bs, qr w (by omega)]
  rw [Div64_loop2_eq (by omega) (by omega) (by omega) (by omega) (by rw [eY]; exact hw1), eY]
  simp only [bs]
  obtain ⟨q0, hq0⟩ : ∃ x, (w * 4294967296 + v % 4294967296) / Y = x := ⟨_, rfl⟩
  rw [hq0]
  have l2 := left64 (show 0 < Y by omega) n2 hq0.symm
  rw [l2, shrK _ s (by omega), bs]
  have e1 := Nat.div_add_mod (u * 4294967296 + v / 4294967296) Y
  have e2 := Nat.div_add_mod (w * 4294967296 + v % 4294967296) Y
  have r1 : (w * 4294967296 + v % 4294967296) % Y < Y := Nat.mod_lt _ (by omega)
  rw [hq1, hw] at e1
  rw [hq0] at e2
  obtain ⟨r, hr0⟩ : ∃ x, (w * 4294967296 + v % 4294967296) % Y = x := ⟨_, rfl⟩
  rw [hr0] at e2 r1
  rw [hr0]
  -- put together
  have d0 : q0 < 4294967296 := by rw [← hq0, ← eY]; exact kn_digit (by omega) (by rw [eY]; exact hw1)
  have d1 : q1 < 4294967296 := by rw [← hq1]; conv => lhs; rw [← eY]
                                  exact kn_digit (by omega) (by rw [eY]; exact hu)
  have tot : (hi * 18446744073709551616 + lo) * 2 ^ s = y * (q1 * 4294967296 + q0) * 2 ^ s + r := by
    have h3 : Y * (q1 * 4294967296 + q0) = Y * q1 * 4294967296 + Y * q0 := by rw [Nat.mul_add, ← Nat.mul_assoc]
    rw [Nat.mul_right_comm y, hP, n8, h3]
    exact tot64 e1 e2 eV
  have rm : 2 ^ s ∣ r := by
    have h1 : 2 ^ s ∣ (hi * 18446744073709551616 + lo) * 2 ^ s := Nat.dvd_mul_left _ _
    rw [tot] at h1
    exact (Nat.dvd_add_right (Nat.dvd_mul_left _ _)).1 h1
  obtain ⟨c, hc⟩ := rm
  have hr : r / 2 ^ s = c := by rw [hc, Nat.mul_div_cancel_left _ ps]
  have tot2 : hi * 18446744073709551616 + lo = y * (q1 * 4294967296 + q0) + c := by
    rw [hc, Nat.mul_comm (2 ^ s) c, ← Nat.add_mul] at tot
    exact Nat.eq_of_mul_eq_mul_right ps tot
  have hcy : c < y := by
    rw [hc, ← hP, Nat.mul_comm] at r1
    exact Nat.lt_of_mul_lt_mul_right r1
  rw [tot2, Nat.mul_add_div (by omega), Nat.mul_add_mod, Nat.div_eq_of_lt hcy, Nat.mod_eq_of_lt hcy, hr, Nat.add_zero]
  have f1 : IntKind.u64.wrap (IntKind.u64.wrap ((q1 : Int) * 4294967296) + (q0 : Int)) = ((q1 * 4294967296 + q0 : Nat) : Int) := by
    simp only [IntKind.wrap_u64]; omega
  rw [f1]
end WB
namespace WB
open Go Go.RowKit

/-- Whether a quotient goes up. -/
def upS (neg : Bool) (q r d : Nat) (mode : Int) : Bool :=
  if mode = 4 then neg && decide (0 < r)
  else if mode = 3 then decide (0 < r)
  else if mode = 2 then (if r = d - r then q % 2 == 1 else decide (d - r ≤ r))
  else if mode = 1 then decide (d - r ≤ r)
  else false
/-- A part's size. -/
def sizeS (neg : Bool) (n d : Nat) (mode : Int) : Nat := n / d + (if upS neg (n / d) (n % d) d mode then 1 else 0)
def negS (c num : Int) : Bool := !(decide (c < 0) == decide (num < 0))
/-- A part of an amount, and the error's number. -/
def partS (c num den mode : Int) : Int × Int :=
  if ¬ (-1125899906842624 ≤ c ∧ c ≤ 1125899906842624) then (0, 2)
  else if den = 0 then (0, 22)
  else if den < 0 then (0, 2)
  else if mode < 0 ∨ 4 < mode then (0, 11)
  else if 1125899906842624 < sizeS (negS c num) (c.natAbs * num.natAbs) den.toNat mode then (0, 9)
  else (if negS c num then -(sizeS (negS c num) (c.natAbs * num.natAbs) den.toNat mode : Int) else (sizeS (negS c num) (c.natAbs * num.natAbs) den.toNat mode : Int), 0)

theorem amount_eq (c : Int) : rate_amount c = some (decide (-1125899906842624 ≤ c ∧ c ≤ 1125899906842624)) := by
  unfold rate_amount
  by_cases h1 : -1125899906842624 ≤ c
  · have g : decide (c ≥ -1125899906842624) = true := by simpa using h1
    simp only [g, if_true, bs, ms]
    simp [h1]
  · have g : decide (c ≥ -1125899906842624) = false := by simpa using h1
    simp only [g, Bool.false_eq_true, if_false, bs]
    simp [h1]
theorem rsize_eq {c : Int} (h1 : -9223372036854775808 ≤ c) (h2 : c ≤ 9223372036854775807) : rate_size c = some (c.natAbs : Int) := by
  unfold rate_size
  by_cases h : c < 0
  · have g : decide (c < 0) = true := by simpa using h
    simp only [g, if_true, IntKind.wrap_u64]
    refine congrArg some ?_
    omega
  · have g : decide (c < 0) = false := by simpa using h
    simp only [g, Bool.false_eq_true, if_false, IntKind.wrap_u64]
    refine congrArg some ?_
    omega
theorem up_eq {neg : Bool} {q r d : Nat} {mode : Int} (hd : d < 18446744073709551616) (hr : r < d) : rate_up (neg, (q : Int), (r : Int), (d : Int), mode) = some (upS neg q r d mode) := by
  have w : IntKind.u64.wrap ((d : Int) - (r : Int)) = ((d - r : Nat) : Int) := by rw [wu64' (by omega) (by omega)]; omega
  have c1 : decide ((r : Int) > 0) = decide (0 < r) := by apply decide_eq_decide.2; omega
  have c2 : decide ((r : Int) ≥ ((d - r : Nat) : Int)) = decide (d - r ≤ r) := by apply decide_eq_decide.2; omega
  have c3 : ((r : Int) == ((d - r : Nat) : Int)) = decide (r = d - r) := by
    rw [Bool.eq_iff_iff]; simp only [beq_iff_eq, decide_eq_true_eq]; omega
  have c4 : (if (2 : Int) = 0 then none else some ((q : Int).tmod 2)) = some ((q % 2 : Nat) : Int) := remN (b := 2) (by decide)
  have c5 : (((q % 2 : Nat) : Int) == 1) = (q % 2 == 1) := by
    rw [Bool.eq_iff_iff]; simp only [beq_iff_eq]; omega
  unfold rate_up upS
  dsimp only
  by_cases m4 : mode = 4
  · subst m4
    cases neg
    · rfl
    · simp only [beq_self_eq_true, if_true, Bool.not_true, Bool.false_eq_true, if_false, bs, Bool.true_and, c1]
  have m4' : (mode == 4) = false := by simpa using m4
  rw [m4', if_neg m4]
  by_cases m3 : mode = 3
  · subst m3
    simp only [beq_self_eq_true, if_true, Bool.false_eq_true, if_false, bs, c1]
  have m3' : (mode == 3) = false := by simpa using m3
  rw [m3', if_neg m3]
  by_cases m2 : mode = 2
  · subst m2
    by_cases e : r = d - r
    · have c3' : ((r : Int) == ((d - r : Nat) : Int)) = true := by rw [c3]; exact decide_eq_true e
      simp only [beq_self_eq_true, if_true, Bool.false_eq_true, if_false, bs, w, c3', c4, c5, if_pos e]
    · have c3' : ((r : Int) == ((d - r : Nat) : Int)) = false := by rw [c3]; exact decide_eq_false e
      simp only [beq_self_eq_true, if_true, Bool.false_eq_true, if_false, bs, w, c3', c2, if_neg e]
  have m2' : (mode == 2) = false := by simpa using m2
  rw [m2', if_neg m2]
  by_cases m1 : mode = 1
  · subst m1
    simp only [beq_self_eq_true, if_true, Bool.false_eq_true, if_false, bs, w, c2]
  have m1' : (mode == 1) = false := by simpa using m1
  rw [m1', if_neg m1]
  rfl
theorem quotient_eq {c num : Int} {d : Nat} {mode : Int} (c1 : -9223372036854775808 ≤ c) (c2 : c ≤ 9223372036854775807) (n1 : -9223372036854775808 ≤ num) (n2 : num ≤ 9223372036854775807) (hd : d < 18446744073709551616) (hd0 : 0 < d) {mx : Nat} (hmx : mx ≤ 1125899906842624) :
    rate_quotient (c, num, (d : Int), (mx : Int), mode) = some (if mx < sizeS (negS c num) (c.natAbs * num.natAbs) d mode then (0, false) else (if negS c num then -(sizeS (negS c num) (c.natAbs * num.natAbs) d mode : Int) else (sizeS (negS c num) (c.natAbs * num.natAbs) d mode : Int), true)) := by
  unfold rate_quotient
  dsimp only
  rw [rsize_eq c1 c2, rsize_eq n1 n2, show (!(decide (c < 0) == decide (num < 0))) = negS c num from rfl]
  simp only [bs]
  have a1 : c.natAbs < 18446744073709551616 := by omega
  have a2 : num.natAbs < 18446744073709551616 := by omega
  rw [Mul64_eq a1 a2]
  simp only [bs]
  generalize negS c num = neg
  generalize c.natAbs * num.natAbs = N
  have e : N / 18446744073709551616 * 18446744073709551616 + N % 18446744073709551616 = N := Nat.div_add_mod' N _
  by_cases h : d ≤ N / 18446744073709551616
  · have g : decide (((N / 18446744073709551616 : Nat) : Int) ≥ (d : Int)) = true := decide_eq_true (by omega)
    rw [g, if_pos rfl, if_pos]
    have : 18446744073709551616 ≤ N / d := by
      rw [Nat.le_div_iff_mul_le hd0, Nat.mul_comm, ← Nat.le_div_iff_mul_le (by decide)]
      exact h
    unfold sizeS
    omega
  · have g : decide (((N / 18446744073709551616 : Nat) : Int) ≥ (d : Int)) = false := decide_eq_false (by omega)
    rw [g, if_neg (by decide), Div64_eq hd (Nat.mod_lt _ (by decide)) (by omega), e]
    simp only [bs]
    have hr : N % d < d := Nat.mod_lt _ hd0
    have hq0 : (0 : Int) ≤ ((N / d : Nat) : Int) := Int.natCast_nonneg _
    by_cases hq : mx < N / d
    · have g : decide (((N / d : Nat) : Int) > (mx : Int)) = true := decide_eq_true (by omega)
      rw [g, if_pos rfl, if_pos (by unfold sizeS; omega)]
    · have g : decide (((N / d : Nat) : Int) > (mx : Int)) = false := decide_eq_false (by omega)
      rw [g, if_neg (by decide), up_eq hd hr]
      simp only [bs]
      have w : IntKind.u64.wrap (((N / d : Nat) : Int) + 1) = ((N / d + 1 : Nat) : Int) := by rw [wu64' (by omega) (by omega)]; omega
      rw [w]
      have s : ∀ k : Nat, k = sizeS neg N d mode → (Option.bind (some ((mx : Int), neg, (k : Int), ())) fun (o : Int × Bool × Int × Unit) => if decide (o.2.2.1 > o.1) then some ((0 : Int), false) else if o.2.1 then some (IntKind.i64.wrap (0 - IntKind.i64.wrap o.2.2.1), true) else some (IntKind.i64.wrap o.2.2.1, true)) = some (if mx < sizeS neg N d mode then (0, false) else (if neg then -(sizeS neg N d mode : Int) else (sizeS neg N d mode : Int), true)) := by
        intro k hk
        rw [← hk, bs]
        dsimp only
        by_cases h9 : mx < k
        · have g : decide ((k : Int) > (mx : Int)) = true := decide_eq_true (by omega)
          rw [g, if_pos rfl, if_pos h9]
        · have g : decide ((k : Int) > (mx : Int)) = false := decide_eq_false (by omega)
          rw [g, if_neg (by decide), if_neg h9, w64' (n := (k : Int)) (by omega) (by omega), w64' (by omega) (by omega)]
          cases neg
          · rfl
          · simp
      by_cases hu : upS neg (N / d) (N % d) d mode = true
      · rw [hu, if_pos rfl]
        exact s _ (by unfold sizeS; rw [if_pos hu])
      · rw [Bool.eq_false_iff.2 hu, if_neg (by decide)]
        exact s _ (by unfold sizeS; rw [if_neg hu]; rfl)
theorem rPart_eq {c num den mode : Int} (c1 : -9223372036854775808 ≤ c) (c2 : c ≤ 9223372036854775807) (n1 : -9223372036854775808 ≤ num) (n2 : num ≤ 9223372036854775807) (hd : den ≤ 9223372036854775807) : rate_Part (c, num, den, mode) = some (partS c num den mode) := by
  unfold rate_Part partS
  dsimp only
  rw [amount_eq, bs]
  by_cases h1 : -1125899906842624 ≤ c ∧ c ≤ 1125899906842624
  · rw [decide_eq_true h1, if_neg (show ¬((!true) = true) by decide), if_neg (show ¬¬(-1125899906842624 ≤ c ∧ c ≤ 1125899906842624) from fun k => k h1)]
    by_cases h2 : den = 0
    · subst h2; rfl
    have g : (den == 0) = false := by simpa using h2
    rw [g, if_neg (by decide), if_neg h2]
    by_cases h3 : den < 0
    · rw [decide_eq_true h3, if_pos rfl, if_pos h3]
    rw [decide_eq_false h3, if_neg (by decide), if_neg h3]
    have m : (Option.bind (if decide (mode < 0) = false then (((if decide (mode < 0) = false then some mode else none).bind (fun z17 => some (z17, (4 : Int)))).map (fun z19 => (decide (z19.1 > z19.2)))).map some else some none) fun x27 => (Option.bind (if decide (mode < 0) then some true else x27.map (fun z20 => z20)) some)) = some (decide (mode < 0 ∨ 4 < mode)) := by
      by_cases h4 : mode < 0
      · simp only [decide_eq_true h4, if_true, Bool.true_eq_false, if_false, bs]
        simp [h4]
      · simp only [decide_eq_false h4, if_true, Bool.false_eq_true, if_false, bs, ms]
        simp [h4]
    have k : ∀ {β : Type} (F : Bool → Option β), (Option.bind (if decide (mode < 0) = false then (((if decide (mode < 0) = false then some mode else none).bind (fun z17 => some (z17, (4 : Int)))).map (fun z19 => (decide (z19.1 > z19.2)))).map some else some none) fun x27 => (Option.bind (if decide (mode < 0) then some true else x27.map (fun z20 => z20)) F)) = F (decide (mode < 0 ∨ 4 < mode)) := by
      intro β F
      have := congrArg (fun o => Option.bind o F) m
      simp only [bs] at this
      rw [← this, Option.bind_assoc]
      congr 1
      funext x
      rw [Option.bind_assoc]
      rfl
    rw [k]
    by_cases h5 : mode < 0 ∨ 4 < mode
    · rw [decide_eq_true h5, if_pos rfl, if_pos h5]
    rw [decide_eq_false h5, if_neg (by decide), if_neg h5]
    obtain ⟨d, rfl⟩ := Int.eq_ofNat_of_zero_le (show 0 ≤ den by omega)
    rw [wu64 (show d < 18446744073709551616 by omega), show (1125899906842624 : Int) = ((1125899906842624 : Nat) : Int) from rfl, quotient_eq c1 c2 n1 n2 (by omega) (by omega) (Nat.le_refl _), bs, Int.toNat_natCast]
    by_cases h9 : 1125899906842624 < sizeS (negS c num) (c.natAbs * num.natAbs) d mode
    · rw [if_pos h9, if_pos h9]; rfl
    · rw [if_neg h9, if_neg h9]; rfl
  · rw [decide_eq_false h1, if_pos (by decide), if_pos h1]
end WB
namespace WB
open Go Go.RowKit

theorem right_eq (c : Int) : rate_right c = some (decide (-1000000000 ≤ c ∧ c ≤ 1000000000)) := by
  unfold rate_right
  by_cases h1 : -1000000000 ≤ c
  · have g : decide (c ≥ -1000000000) = true := by simpa using h1
    simp only [g, if_true, bs, ms]
    simp [h1]
  · have g : decide (c ≥ -1000000000) = false := by simpa using h1
    simp only [g, Bool.false_eq_true, if_false, bs]
    simp [h1]
/-- Two are asked, one behind the other. -/
theorem orK {β : Type} (a b : Bool) (x : Int) (G : Int → Option Bool) (hG : a = true → G x = some b) (F : Bool → Option β) :
    (Option.bind (if (!a) = false then (((if (!a) = false then some x else none).map (fun z17 => z17)).bind (fun z18 => G z18)).map some else some none) fun x13 => Option.bind (if (!a) = false then (x13.map (fun z19 => (!z19))).map some else some none) fun x14 => Option.bind (if (!a) then some true else x14.map (fun z20 => z20)) F) = F (!(a && b)) := by
  cases a
  · rfl
  · simp only [Bool.not_true, if_true, bs, ms, hG rfl, Bool.false_eq_true, if_false, Bool.true_and]
def ofS (c r mode : Int) : Int × Int := if (-1125899906842624 ≤ c ∧ c ≤ 1125899906842624) ∧ (-1000000000 ≤ r ∧ r ≤ 1000000000) then partS c r 1000000 mode else (0, 2)
theorem rOf_eq {c r mode : Int} (c1 : -9223372036854775808 ≤ c) (c2 : c ≤ 9223372036854775807) : rate_Of (c, r, mode) = some (ofS c r mode) := by
  unfold rate_Of ofS
  dsimp only
  rw [amount_eq, bs, orK _ _ _ _ (fun _ => right_eq r)]
  by_cases h : (-1125899906842624 ≤ c ∧ c ≤ 1125899906842624) ∧ (-1000000000 ≤ r ∧ r ≤ 1000000000)
  · rw [if_pos h, decide_eq_true h.1, decide_eq_true h.2, if_neg (by decide), rPart_eq c1 c2 (by omega) (by omega) (by omega)]
    rfl
  · rw [if_neg h, if_pos]
    rw [← Bool.decide_and, decide_eq_false h]
    rfl
end WB
namespace WB
open Go Go.RowKit

theorem itL {S T : Type} {b : S → Option (S ⊕ T)} {s s' : S} (h : b s = some (.inl s')) : iter b s = iter b s' := by rw [iter_eq, h]; rfl
theorem itR {S T : Type} {b : S → Option (S ⊕ T)} {s : S} {t : T} (h : b s = some (.inr t)) : iter b s = some t := by rw [iter_eq, h]; rfl
theorem sAt_mid' {pre t : List UInt8} {b : UInt8} : sAt (pre ++ b :: t) (pre.length : Int) = some (b.toNat : Int) := sAt_nat (by simp)
/-- A byte of a name. -/
def okb (b : UInt8) : Bool := !((decide ((b.toNat : Int) < 97) || decide ((b.toNat : Int) > 122)) && (decide ((b.toNat : Int) < 48) || decide ((b.toNat : Int) > 57)) && ((b.toNat : Int) != 46) && ((b.toNat : Int) != 95) && ((b.toNat : Int) != 45))
/-- Is a text a name. -/
def nameB (s : List UInt8) : Bool := s.all okb && !(s == []) && !(s == [45]) && decide ((s.length : Int) ≤ 32)

theorem isName_step {pre t : List UInt8} {b : UInt8} {n : Int} (c : decide ((pre.length : Int) < n) = true) :
    fact_isName_loop1 (pre ++ b :: t, n, (pre.length : Int), ()) = some (if okb b = true then .inl (pre ++ b :: t, n, IntKind.i64.wrap ((pre.length : Int) + 1), ()) else .inr (.inr false)) := by
  unfold fact_isName_loop1
  dsimp only
  simp only [gPi, gSS, gPb, gPm, gPs, gM, gM2, gAnd, gOr, gAndI, gOrI, gAA, gAO, gOA, gOO, gAAf, gAOf, gOAf, gOOf, gAMf, gOMf, gId]
  simp only [gIn1, gIn2, gIn3, gIn4, gIn5, gIn6, gIn7, gIn8, gId, gIdF, gMb, gMm, gBm, gBb, bs, ms]
  simp only [c, if_true, sAt_mid', bs]
  unfold okb
  generalize decide ((b.toNat : Int) < 97) = q1
  generalize decide ((b.toNat : Int) > 122) = q2
  generalize decide ((b.toNat : Int) < 48) = q3
  generalize decide ((b.toNat : Int) > 57) = q4
  generalize ((b.toNat : Int) != 46) = q5
  generalize ((b.toNat : Int) != 95) = q6
  generalize ((b.toNat : Int) != 45) = q7
  cases q1 <;> cases q2 <;> cases q3 <;> cases q4 <;> cases q5 <;> cases q6 <;> cases q7 <;> rfl
theorem isName_loop : ∀ (t pre : List UInt8), pre.length + t.length ≤ 4611686018427387904 → iter fact_isName_loop1 (pre ++ t, ((pre ++ t).length : Int), (pre.length : Int), ()) = some (if t.all okb then .inl (pre ++ t, ()) else .inr false)
  | [], pre, h2 => by
    refine itR ?_
    unfold fact_isName_loop1
    dsimp only
    have c : decide ((pre.length : Int) < (((pre ++ []) : List UInt8).length : Int)) = false := decide_eq_false (by simp)
    simp only [c, Bool.false_eq_true, if_false, List.all_nil, if_true]
  | b :: t, pre, h2 => by
    simp only [List.length_cons] at h2
    have w1 : IntKind.i64.wrap ((pre.length : Int) + 1) = ((pre ++ [b]).length : Int) := by rw [w64' (by omega) (by omega)]; simp
    have c : decide ((pre.length : Int) < (((pre ++ b :: t) : List UInt8).length : Int)) = true := decide_eq_true (by simp; omega)
    by_cases hd : okb b = true
    · have e := isName_loop t (pre ++ [b]) (by simp; omega)
      rw [List.append_assoc, List.singleton_append] at e
      refine (itL (s' := (pre ++ b :: t, ((pre ++ b :: t).length : Int), ((pre ++ [b]).length : Int), ())) ?_).trans (e.trans ?_)
      · rw [isName_step c, if_pos hd, w1]
      · simp [hd]
    · refine (itR (t := Sum.inr false) ?_).trans ?_
      · rw [isName_step c, if_neg hd]
      · simp [hd]
theorem isName_eq {s : List UInt8} (h : s.length ≤ 4611686018427387904) : fact_isName s = some (nameB s) := by
  unfold fact_isName
  dsimp only
  simp only [gPi, gSS, gPb, gPm, gPs, gM, gM2, gAnd, gOr, gAndI, gOrI, gAA, gAO, gOA, gOO, gAAf, gAOf, gOAf, gOOf, gAMf, gOMf, gId]
  simp only [gIn1, gIn2, gIn3, gIn4, gIn5, gIn6, gIn7, gIn8, gId, gIdF, gMb, gMm, gBm, gBb, bs, ms]
  have := isName_loop s [] (by simpa using h)
  simp only [List.nil_append, List.length_nil] at this
  rw [show ((0 : Nat) : Int) = 0 from rfl] at this
  rw [this]
  unfold nameB
  cases hh : s.all okb with
  | true =>
    simp only [if_true, bs]
    cases s == [] <;> cases s == [45] <;> rfl
  | false => rfl

theorem refName_step {pre t : List UInt8} {b : UInt8} (c : decide ((pre.length : Int) < ((pre ++ b :: t : List UInt8).length : Int)) = true) :
    ref25_Name_loop1 (pre ++ b :: t, (pre.length : Int), ()) = some (if okb b = true then .inl (pre ++ b :: t, IntKind.i64.wrap ((pre.length : Int) + 1), ()) else .inr (.inr false)) := by
  unfold ref25_Name_loop1
  dsimp only
  simp only [gPi, gSS, gPb, gPm, gPs, gM, gM2, gAnd, gOr, gAndI, gOrI, gAA, gAO, gOA, gOO, gAAf, gAOf, gOAf, gOOf, gAMf, gOMf, gId]
  simp only [gIn1, gIn2, gIn3, gIn4, gIn5, gIn6, gIn7, gIn8, gId, gIdF, gMb, gMm, gBm, gBb, bs, ms]
  simp only [c, if_true, sAt_mid', bs]
  unfold okb
  have e1 : decide ((b.toNat : Int) ≥ 97) = !decide ((b.toNat : Int) < 97) := by by_cases h : (b.toNat : Int) < 97 <;> simp [h] <;> omega
  have e2 : decide ((b.toNat : Int) ≤ 122) = !decide ((b.toNat : Int) > 122) := by by_cases h : (b.toNat : Int) ≤ 122 <;> simp [h] <;> omega
  have e3 : decide ((b.toNat : Int) ≥ 48) = !decide ((b.toNat : Int) < 48) := by by_cases h : (b.toNat : Int) < 48 <;> simp [h] <;> omega
  have e4 : decide ((b.toNat : Int) ≤ 57) = !decide ((b.toNat : Int) > 57) := by by_cases h : (b.toNat : Int) ≤ 57 <;> simp [h] <;> omega
  have e5 : ((b.toNat : Int) == 46) = !((b.toNat : Int) != 46) := by simp [bne]
  have e6 : ((b.toNat : Int) == 95) = !((b.toNat : Int) != 95) := by simp [bne]
  have e7 : ((b.toNat : Int) == 45) = !((b.toNat : Int) != 45) := by simp [bne]
  rw [e1, e2, e3, e4, e5, e6, e7]
  generalize decide ((b.toNat : Int) < 97) = q1
  generalize decide ((b.toNat : Int) > 122) = q2
  generalize decide ((b.toNat : Int) < 48) = q3
  generalize decide ((b.toNat : Int) > 57) = q4
  generalize ((b.toNat : Int) != 46) = q5
  generalize ((b.toNat : Int) != 95) = q6
  generalize ((b.toNat : Int) != 45) = q7
  cases q1 <;> cases q2 <;> cases q3 <;> cases q4 <;> cases q5 <;> cases q6 <;> cases q7 <;> rfl
theorem refName_loop : ∀ (t pre : List UInt8), pre.length + t.length ≤ 4611686018427387904 → iter ref25_Name_loop1 (pre ++ t, (pre.length : Int), ()) = some (if t.all okb then .inl () else .inr false)
  | [], pre, h2 => by
    refine itR ?_
    unfold ref25_Name_loop1
    dsimp only
    have c : decide ((pre.length : Int) < (((pre ++ []) : List UInt8).length : Int)) = false := decide_eq_false (by simp)
    simp only [c, Bool.false_eq_true, if_false, List.all_nil, if_true]
  | b :: t, pre, h2 => by
    simp only [List.length_cons] at h2
    have w1 : IntKind.i64.wrap ((pre.length : Int) + 1) = ((pre ++ [b]).length : Int) := by rw [w64' (by omega) (by omega)]; simp
    have c : decide ((pre.length : Int) < (((pre ++ b :: t) : List UInt8).length : Int)) = true := decide_eq_true (by simp; omega)
    by_cases hd : okb b = true
    · have e := refName_loop t (pre ++ [b]) (by simp; omega)
      rw [List.append_assoc, List.singleton_append] at e
      refine (itL (s' := (pre ++ b :: t, ((pre ++ [b]).length : Int), ())) ?_).trans (e.trans ?_)
      · rw [refName_step c, if_pos hd, w1]
      · simp [hd]
    · refine (itR (t := Sum.inr false) ?_).trans ?_
      · rw [refName_step c, if_neg hd]
      · simp [hd]
theorem refName_eq (s : List UInt8) : ref25_Name s = some (nameB s) := by
  unfold ref25_Name
  dsimp only
  simp only [gPi, gSS, gPb, gPm, gPs, gM, gM2, gAnd, gOr, gAndI, gOrI, gAA, gAO, gOA, gOO, gAAf, gAOf, gOAf, gOOf, gAMf, gOMf, gId]
  simp only [gIn1, gIn2, gIn3, gIn4, gIn5, gIn6, gIn7, gIn8, gId, gIdF, gMb, gMm, gBm, gBb, bs, ms]
  unfold nameB
  by_cases h : (s.length : Int) ≤ 32
  · have h1 : decide ((s.length : Int) > 32) = false := decide_eq_false (by omega)
    have h2 : decide ((s.length : Int) ≤ 32) = true := decide_eq_true h
    have := refName_loop s [] (by simp; omega)
    simp only [List.nil_append, List.length_nil] at this
    rw [show ((0 : Nat) : Int) = 0 from rfl] at this
    rw [this, h1, h2]
    cases s.all okb <;> cases s == [] <;> cases s == [45] <;> rfl
  · have h1 : decide ((s.length : Int) > 32) = true := decide_eq_true (by omega)
    have h2 : decide ((s.length : Int) ≤ 32) = false := decide_eq_false h
    rw [h1, h2]
    cases s.all okb <;> cases s == [] <;> cases s == [45] <;> rfl
end WB
namespace WB
open Go Go.RowKit

theorem name_eq {s : List UInt8} : before_name s = some (nameB s) := by
  unfold before_name
  dsimp only
  have key : fact_Fact_Check (0, 1, 13, 0, 0, [], 0, s) = some (if nameB s = true then 0 else if decide ((s.length : Int) > 4096) = true then 4 else 3) := by
    unfold fact_Fact_Check
    dsimp only
    rw [show fact_known 13 = some true from rfl]
    rw [show fact_rules () = some _ from rfl]
    simp only [gPi, gSS, gPb, gPm, gPs, gM, gM2, gAnd, gOr, gAndI, gOrI, gAA, gAO, gOA, gOO, gAAf, gAOf, gOAf, gOOf, gAMf, gOMf, gId]
    simp only [gIn1, gIn2, gIn3, gIn4, gIn5, gIn6, gIn7, gIn8, gId, gIdF, gMb, gMm, gBm, gBb, bs, ms]
    rw [if_neg (by decide)]
    rw [show lAt _ (13 : Int) = some _ from lAt_nat (i := 13) rfl, bs]
    dsimp only
    rw [if_neg (by decide)]
    rw [show fact_Fact_days ((0, 1, 13, 0, 0, [], 0, s), [98, 97, 110, 107], false, true, Sum.inl (), 0, 0, Sum.inr (Sum.inr (Sum.inr (Sum.inr (Sum.inl ()))))) = some 0 from rfl, bs]
    rw [if_neg (by decide)]
    rw [show fact_empty [] = some true from rfl, bs]
    rw [if_neg (by decide)]
    rw [show (if decide ((0 : Int) < 0) = true then some true else some (decide ((0 : Int) > 0))) = some false from rfl, bs]
    rw [if_neg (by decide)]
    by_cases h : (s.length : Int) > 4096
    · have d : decide ((s.length : Int) > 4096) = true := decide_eq_true h
      have e : nameB s = false := by
        have : decide ((s.length : Int) ≤ 32) = false := decide_eq_false (by omega)
        simp [nameB, this]
      rw [d, if_pos rfl, e, if_neg (by decide), if_pos rfl]
    · have d : decide ((s.length : Int) > 4096) = false := decide_eq_false h
      rw [d, if_neg (by decide)]
      unfold fact_rules_2
      dsimp only
      rw [isName_eq (by omega), bs, bs]
      cases nameB s <;> rfl
  rw [key, bs]
  by_cases h : nameB s = true
  · rw [if_pos h, h]; rfl
  · rw [if_neg h]
    have : nameB s = false := by simpa using h
    rw [this]
    split <;> rfl
end WB
namespace WB
open Go Go.RowKit

abbrev It := List UInt8 × Int
def afterL : Int → List It → List It × Int
  | left, [] => ([], left)
  | left, x :: l => if min x.2 left > 0 then ((x.1, min x.2 left) :: (afterL (left - min x.2 left) l).1, (afterL (left - min x.2 left) l).2) else afterL left l
def sumI (l : List It) : Int := (l.map (·.2)).sum

theorem afterL_none {left : Int} (h : left ≤ 0) : ∀ l : List It, afterL left l = ([], left)
  | [] => rfl
  | x :: l => by
    unfold afterL
    rw [if_neg (by omega), afterL_none h l]
theorem afterL_sum : ∀ (l : List It) (left : Int), (afterL left l).2 + sumI (afterL left l).1 = left ∧ (∀ x ∈ (afterL left l).1, 0 < x.2) ∧ (0 ≤ left → 0 ≤ (afterL left l).2) ∧ (afterL left l).1.length ≤ l.length
  | [], left => by simp [afterL, sumI]
  | x :: l, left => by
    unfold afterL
    by_cases hc : min x.2 left > 0
    · rw [if_pos hc]
      obtain ⟨h1, h2, h3, h4⟩ := afterL_sum l (left - min x.2 left)
      refine ⟨?_, ?_, fun h => h3 (by omega), by simp; omega⟩
      · simp only [sumI, List.map_cons, List.sum_cons] at h1 ⊢; omega
      · intro y hy
        rcases List.mem_cons.1 hy with rfl | hy
        · exact hc
        · exact h2 y hy
    · rw [if_neg hc]
      obtain ⟨h1, h2, h3, h4⟩ := afterL_sum l left
      exact ⟨h1, h2, h3, by simp; omega⟩

theorem lAt_mid {α : Type} {pre t : List α} {b : α} : lAt (pre ++ b :: t) (pre.length : Int) = some b := lAt_nat (by simp)
theorem appOk {α : Type} {xs : List α} {y : α} {k : Int} (hx : xs.length ≤ 1000000) (hk : 0 ≤ k ∧ k ≤ 1000) {β : Type} {f : Option β} :
    (if ((xs.length : Int) + (([y] : List α).length : Int)) * k ≤ 140737488355328 ∧ (xs.length : Int) + (([y] : List α).length : Int) ≤ 4611686018427387904 then f else none) = f := by
  rw [if_pos]
  have h1 : ((xs.length : Int) + (([y] : List α).length : Int)) * k ≤ 2000000 * 1000 := Int.mul_le_mul (by simp; omega) hk.2 hk.1 (by omega)
  refine ⟨by omega, by simp; omega⟩

def i64R (n : Int) : Prop := -9223372036854775808 ≤ n ∧ n ≤ 9223372036854775807

theorem After_loop : ∀ (l pre : List It) (left : Int) (acc : List It), i64R left → (∀ x ∈ l, i64R x.2) → acc.length ≤ pre.length → pre.length + l.length ≤ 100000 →
    iter before_After_loop1 (left, pre ++ l, ((pre ++ l).length : Int), (pre.length : Int), acc, (), ()) = some ((afterL left l).2, acc ++ (afterL left l).1, (), ())
  | [], pre, left, acc, hl, hx, ha, hn => by
    refine itR ?_
    unfold before_After_loop1
    dsimp only
    have c : decide ((pre.length : Int) < (((pre ++ []) : List It).length : Int)) = false := decide_eq_false (by simp)
    rw [c, if_neg (by decide)]
    simp [afterL]
  | x :: l, pre, left, acc, hl, hx, ha, hn => by
    simp only [List.length_cons] at hn
    have hx0 := hx x (by simp)
    have hx1 : ∀ y ∈ l, i64R y.2 := fun y hy => hx y (by simp [hy])
    have w1 : IntKind.i64.wrap ((pre.length : Int) + 1) = ((pre ++ [x]).length : Int) := by rw [w64' (by omega) (by omega)]; simp
    have c : decide ((pre.length : Int) < (((pre ++ x :: l) : List It).length : Int)) = true := decide_eq_true (by simp; omega)
    unfold i64R at *
    by_cases hc : min x.2 left > 0
    · have e := After_loop l (pre ++ [x]) (left - min x.2 left) (acc ++ [(x.1, min x.2 left)]) ⟨by omega, by omega⟩ hx1 (by simp; omega) (by simp; omega)
      rw [List.append_assoc, List.singleton_append] at e
      refine (itL (s' := (left - min x.2 left, pre ++ x :: l, ((pre ++ x :: l).length : Int), ((pre ++ [x]).length : Int), acc ++ [(x.1, min x.2 left)], (), ())) ?_).trans (e.trans ?_)
      · unfold before_After_loop1
        dsimp only
        simp only [gPi, gSS, gPb, gPm, gPs, gM, gM2, gAnd, gOr, gAndI, gOrI, gAA, gAO, gOA, gOO, gAAf, gAOf, gOAf, gOOf, gAMf, gOMf, gId]
        simp only [gIn1, gIn2, gIn3, gIn4, gIn5, gIn6, gIn7, gIn8, gId, gIdF, gMb, gMm, gBm, gBb, bs, ms]
        unfold cents_Least
        dsimp only
        have d : decide (min x.2 left > 0) = true := decide_eq_true hc
        have w2 : IntKind.i64.wrap (left - min x.2 left) = left - min x.2 left := w64' (by omega) (by omega)
        simp only [c, if_true, lAt_mid, bs, d]
        rw [appOk (by omega) (by decide), bs, w1, w2]
      · simp [afterL, hc]
    · have e := After_loop l (pre ++ [x]) left acc hl hx1 (by simp; omega) (by simp; omega)
      rw [List.append_assoc, List.singleton_append] at e
      refine (itL (s' := (left, pre ++ x :: l, ((pre ++ x :: l).length : Int), ((pre ++ [x]).length : Int), acc, (), ())) ?_).trans (e.trans ?_)
      · unfold before_After_loop1
        dsimp only
        simp only [gPi, gSS, gPb, gPm, gPs, gM, gM2, gAnd, gOr, gAndI, gOrI, gAA, gAO, gOA, gOO, gAAf, gAOf, gOAf, gOOf, gAMf, gOMf, gId]
        simp only [gIn1, gIn2, gIn3, gIn4, gIn5, gIn6, gIn7, gIn8, gId, gIdF, gMb, gMm, gBm, gBb, bs, ms]
        unfold cents_Least
        dsimp only
        have d : decide (min x.2 left > 0) = false := decide_eq_false hc
        simp only [c, if_true, lAt_mid, bs, d, Bool.false_eq_true, if_false, w1]
      · simp [afterL, hc]
theorem After_eq {left : Int} {l : List It} (hl : i64R left) (hx : ∀ x ∈ l, i64R x.2) (hn : l.length ≤ 100000) : before_After (left, l) = some ((afterL left l).1, (afterL left l).2) := by
  unfold before_After
  dsimp only
  have := After_loop l [] left [] hl hx (by simp) (by simpa using hn)
  simp only [List.nil_append, List.length_nil] at this
  rw [show ((0 : Nat) : Int) = 0 from rfl] at this
  rw [this]
  rfl
theorem rAfter_loop : ∀ (l pre : List It) (left : Int) (acc : List It), i64R left → (∀ x ∈ l, i64R x.2) → acc.length ≤ pre.length → pre.length + l.length ≤ 100000 →
    iter ref25_After_loop1 (left, pre ++ l, (pre.length : Int), acc, (), ()) = some ((afterL left l).2, acc ++ (afterL left l).1, (), ())
  | [], pre, left, acc, hl, hx, ha, hn => by
    refine itR ?_
    unfold ref25_After_loop1
    dsimp only
    have c : decide ((pre.length : Int) < (((pre ++ []) : List It).length : Int)) = false := decide_eq_false (by simp)
    rw [c, if_neg (by decide)]
    simp [afterL]
  | x :: l, pre, left, acc, hl, hx, ha, hn => by
    simp only [List.length_cons] at hn
    have hx0 := hx x (by simp)
    have hx1 : ∀ y ∈ l, i64R y.2 := fun y hy => hx y (by simp [hy])
    have w1 : IntKind.i64.wrap ((pre.length : Int) + 1) = ((pre ++ [x]).length : Int) := by rw [w64' (by omega) (by omega)]; simp
    have c : decide ((pre.length : Int) < (((pre ++ x :: l) : List It).length : Int)) = true := decide_eq_true (by simp; omega)
    unfold i64R at *
    by_cases hc : min x.2 left > 0
    · have e := rAfter_loop l (pre ++ [x]) (left - min x.2 left) (acc ++ [(x.1, min x.2 left)]) ⟨by omega, by omega⟩ hx1 (by simp; omega) (by simp; omega)
      rw [List.append_assoc, List.singleton_append] at e
      refine (itL (s' := (left - min x.2 left, pre ++ x :: l, ((pre ++ [x]).length : Int), acc ++ [(x.1, min x.2 left)], (), ())) ?_).trans (e.trans ?_)
      · unfold ref25_After_loop1
        dsimp only
        simp only [gPi, gSS, gPb, gPm, gPs, gM, gM2, gAnd, gOr, gAndI, gOrI, gAA, gAO, gOA, gOO, gAAf, gAOf, gOAf, gOOf, gAMf, gOMf, gId]
        simp only [gIn1, gIn2, gIn3, gIn4, gIn5, gIn6, gIn7, gIn8, gId, gIdF, gMb, gMm, gBm, gBb, bs, ms]
        have d : decide (min x.2 left > 0) = true := decide_eq_true hc
        have w2 : IntKind.i64.wrap (left - min x.2 left) = left - min x.2 left := w64' (by omega) (by omega)
        simp only [c, if_true, lAt_mid, bs, d]
        rw [appOk (by omega) (by decide), bs, w1, w2]
      · simp [afterL, hc]
    · have e := rAfter_loop l (pre ++ [x]) left acc hl hx1 (by simp; omega) (by simp; omega)
      rw [List.append_assoc, List.singleton_append] at e
      refine (itL (s' := (left, pre ++ x :: l, ((pre ++ [x]).length : Int), acc, (), ())) ?_).trans (e.trans ?_)
      · unfold ref25_After_loop1
        dsimp only
        simp only [gPi, gSS, gPb, gPm, gPs, gM, gM2, gAnd, gOr, gAndI, gOrI, gAA, gAO, gOA, gOO, gAAf, gAOf, gOAf, gOOf, gAMf, gOMf, gId]
        simp only [gIn1, gIn2, gIn3, gIn4, gIn5, gIn6, gIn7, gIn8, gId, gIdF, gMb, gMm, gBm, gBb, bs, ms]
        have d : decide (min x.2 left > 0) = false := decide_eq_false hc
        simp only [c, if_true, lAt_mid, bs, d, Bool.false_eq_true, if_false, w1]
      · simp [afterL, hc]
theorem rAfter_eq {left : Int} {l : List It} (hl : i64R left) (hx : ∀ x ∈ l, i64R x.2) (hn : l.length ≤ 100000) : ref25_After (left, l) = some ((afterL left l).1, (afterL left l).2) := by
  unfold ref25_After
  dsimp only
  have := rAfter_loop l [] left [] hl hx (by simp) (by simpa using hn)
  simp only [List.nil_append, List.length_nil] at this
  rw [show ((0 : Nat) : Int) = 0 from rfl] at this
  rw [this]
  rfl
/-- The same list is the same. -/
theorem Same_loop : ∀ (l pre : List It), pre.length + l.length ≤ 100000 → iter ref25_Same_loop1 (pre ++ l, pre ++ l, (pre.length : Int), ()) = some (.inl ())
  | [], pre, hn => by
    refine itR ?_
    unfold ref25_Same_loop1
    dsimp only
    have c : decide ((pre.length : Int) < (((pre ++ []) : List It).length : Int)) = false := decide_eq_false (by simp)
    rw [c, if_neg (by decide)]
  | x :: l, pre, hn => by
    simp only [List.length_cons] at hn
    have w1 : IntKind.i64.wrap ((pre.length : Int) + 1) = ((pre ++ [x]).length : Int) := by rw [w64' (by omega) (by omega)]; simp
    have c : decide ((pre.length : Int) < (((pre ++ x :: l) : List It).length : Int)) = true := decide_eq_true (by simp; omega)
    have e := Same_loop l (pre ++ [x]) (by simp; omega)
    rw [List.append_assoc, List.singleton_append] at e
    refine (itL (s' := (pre ++ x :: l, pre ++ x :: l, ((pre ++ [x]).length : Int), ())) ?_).trans e
    unfold ref25_Same_loop1
    dsimp only
    simp only [c, if_true, lAt_mid, bs, ms, beq_self_eq_true, Bool.and_self, Bool.not_true, Bool.false_eq_true, if_false, w1]
theorem Same_eq {l : List It} (hn : l.length ≤ 100000) : ref25_Same (l, l) = some true := by
  unfold ref25_Same
  dsimp only
  have := Same_loop l [] (by simpa using hn)
  simp only [List.nil_append, List.length_nil] at this
  rw [show ((0 : Nat) : Int) = 0 from rfl] at this
  rw [if_neg (by simp), this]
  rfl
theorem afterSum_loop {a : Int} {b q : Int} {d : List It} : ∀ (l pre : List It) (s : Int), i64R s → i64R (s + sumI l) → (∀ x ∈ l, 0 < x.2) → pre.length + l.length ≤ 100000 →
    iter law25_BeforeAfter_loop1 (pre ++ l, a, b, q, d, s, (pre.length : Int), ()) = some (pre ++ l, a, b, q, d, s + sumI l, ())
  | [], pre, s, h1, h2, hp, hn => by
    refine itR ?_
    unfold law25_BeforeAfter_loop1
    dsimp only
    have c : decide ((pre.length : Int) < (((pre ++ []) : List It).length : Int)) = false := decide_eq_false (by simp)
    rw [c, if_neg (by decide)]
    simp [sumI]
  | x :: l, pre, s, h1, h2, hp, hn => by
    simp only [List.length_cons] at hn
    have w1 : IntKind.i64.wrap ((pre.length : Int) + 1) = ((pre ++ [x]).length : Int) := by rw [w64' (by omega) (by omega)]; simp
    have c : decide ((pre.length : Int) < (((pre ++ x :: l) : List It).length : Int)) = true := decide_eq_true (by simp; omega)
    have hx := hp x (by simp)
    have hs : ∀ m : List It, (∀ y ∈ m, 0 < y.2) → 0 ≤ sumI m := by
      intro m
      induction m with
      | nil => intro _; simp [sumI]
      | cons y m ih =>
        intro h
        have h1 := h y (by simp)
        have h2 := ih fun z hz => h z (by simp [hz])
        simp only [sumI, List.map_cons, List.sum_cons] at h2 ⊢
        omega
    have hs0 := hs l fun y hy => hp y (by simp [hy])
    have e0 : sumI (x :: l) = x.2 + sumI l := by simp [sumI]
    rw [e0] at h2
    unfold i64R at *
    have e := afterSum_loop (a := a) (b := b) (q := q) (d := d) l (pre ++ [x]) (s + x.2) ⟨by omega, by omega⟩ ⟨by omega, by omega⟩ (fun y hy => hp y (by simp [hy])) (by simp; omega)
    rw [List.append_assoc, List.singleton_append] at e
    refine (itL (s' := (pre ++ x :: l, a, b, q, d, s + x.2, ((pre ++ [x]).length : Int), ())) ?_).trans (e.trans ?_)
    · unfold law25_BeforeAfter_loop1
      dsimp only
      have w2 : IntKind.i64.wrap (s + x.2) = s + x.2 := w64' (by omega) (by omega)
      simp only [c, if_true, lAt_mid, bs, ms, w1, w2]
    · rw [e0, Int.add_assoc]
theorem law_BeforeAfter (ha : law25_awake () = some true) {left : Int} {l : List It} (hl : i64R left) (hx : ∀ x ∈ l, i64R x.2) : law25_BeforeAfter (left, l) = some true := by
  unfold law25_BeforeAfter
  dsimp only
  simp only [gPi, gSS, gPb, gPm, gPs, gM, gM2, gAnd, gOr, gAndI, gOrI, gAA, gAO, gOA, gOO, gAAf, gAOf, gOAf, gOOf, gAMf, gOMf, gId]
  simp only [gIn1, gIn2, gIn3, gIn4, gIn5, gIn6, gIn7, gIn8, gId, gIdF, gMb, gMm, gBm, gBb, bs, ms]
  by_cases hn : (l.length : Int) > 80
  · rw [decide_eq_true hn, if_pos rfl]
    first | exact ha | (unfold law25_great; simp)
  · rw [decide_eq_false hn, if_neg (by decide), After_eq hl hx (by omega), bs]
    obtain ⟨h1, h2, h3, h4⟩ := afterL_sum l left
    have tail : ∀ (items : List It) (thn : Int), items = (afterL left l).1 → thn = (afterL left l).2 →
        ((iter law25_BeforeAfter_loop1 ((afterL left l).1, (afterL left l).2, left, thn, items, (afterL left l).2, 0, ())).bind fun o =>
            (ref25_Same (o.fst, o.snd.snd.snd.snd.fst)).bind fun x48 =>
              (if x48 = true then some (o.snd.fst == o.snd.snd.snd.fst) else some false).bind fun x53 =>
                (if x53 = true then some (o.snd.snd.snd.snd.snd.fst == o.snd.snd.fst) else some false).bind fun x58 =>
                  if x58 = true then law25_awake () else some false) = some true := by
      rintro _ _ rfl rfl
      have e := afterSum_loop (a := (afterL left l).2) (b := left) (q := (afterL left l).2) (d := (afterL left l).1) (afterL left l).1 [] (afterL left l).2 (by
        unfold i64R at *
        by_cases h0 : 0 ≤ left
        · have := h3 h0
          have hs : 0 ≤ sumI (afterL left l).1 := by
            have hs : ∀ m : List It, (∀ y ∈ m, 0 < y.2) → 0 ≤ sumI m := by
              intro m
              induction m with
              | nil => intro _; simp [sumI]
              | cons y m ih =>
                intro h
                have h1 := h y (by simp)
                have h2 := ih fun z hz => h z (by simp [hz])
                simp only [sumI, List.map_cons, List.sum_cons] at h2 ⊢
                omega
            exact hs _ h2
          exact ⟨by omega, by omega⟩
        · rw [afterL_none (by omega)]; exact hl) (by rw [h1]; exact hl) h2 (by simp; omega)
      simp only [List.nil_append, List.length_nil] at e
      rw [show ((0 : Nat) : Int) = 0 from rfl] at e
      rw [e, bs]
      dsimp only
      rw [Same_eq (by omega), bs, if_pos rfl, beq_self_eq_true, bs, if_pos rfl, h1, beq_self_eq_true, bs, if_pos rfl, ha]
    by_cases h0 : left > 0
    · rw [decide_eq_true h0, if_pos rfl, rAfter_eq hl hx (by omega), bs, bs]
      exact tail _ _ rfl rfl
    · rw [decide_eq_false h0, if_neg (by decide), bs]
      have := afterL_none (l := l) (left := left) (by omega)
      exact tail _ _ (by rw [this]) (by rw [this])
end WB
namespace WB
open Go Go.RowKit

def fitC (a : Int) : Bool := decide (-1125899906842624 ≤ a) && decide (a ≤ 1125899906842624)
def addS (a b : Int) : Int × Int := if (fitC a && fitC b) = true then (if fitC (a + b) = true then (a + b, 0) else (0, 9)) else (0, 2)
def sumS : Int → List Int → Int × Int
  | s, [] => (s, 0)
  | s, x :: l => if (addS s x).2 = 0 then sumS (addS s x).1 l else (0, (addS s x).2)

theorem Fits_eq (a : Int) : cents_Fits a = some (fitC a) := by
  unfold cents_Fits fitC
  dsimp only
  simp only [gPi, gSS, gPb, gPm, gPs, gM, gM2, gAnd, gOr, gAndI, gOrI, gAA, gAO, gOA, gOO, gAAf, gAOf, gOAf, gOOf, gAMf, gOMf, gId]
  simp only [gIn1, gIn2, gIn3, gIn4, gIn5, gIn6, gIn7, gIn8, gId, gIdF, gMb, gMm, gBm, gBb, bs, ms]
  by_cases h : a ≥ -1125899906842624
  · rw [decide_eq_true h, if_pos rfl]; rfl
  · rw [decide_eq_false h, if_neg (by decide)]; rfl
theorem Add_eq (a b : Int) : cents_Add (a, b) = some (addS a b) := by
  unfold cents_Add
  dsimp only
  have : cents_told (a, b, IntKind.i64.wrap (a + b)) = some (addS a b) := by
    unfold cents_told
    dsimp only
    simp only [gIn1, gIn2, gIn3, gIn4, gIn5, gIn6, gIn7, gIn8, gId, gIdF, gMb, gMm, gBm, gBb, bs, ms]
    rw [Fits_eq, bs]
    unfold addS
    cases ha : fitC a with
    | false => rfl
    | true =>
      simp only [Bool.not_true, Bool.false_eq_true, if_false, Bool.true_and]
      rw [Fits_eq, bs, bs]
      cases hb : fitC b with
      | false => rfl
      | true =>
        simp only [fitC, Bool.and_eq_true, decide_eq_true_eq] at ha hb
        have w : IntKind.i64.wrap (a + b) = a + b := w64' (by omega) (by omega)
        simp only [Bool.not_true, Bool.false_eq_true, if_false, if_true]
        rw [Fits_eq, bs, w]
        cases fitC (a + b) <;> rfl
  rw [this]
  rfl
theorem Sum_loop : ∀ (l pre : List Int) (s : Int), pre.length + l.length ≤ 100000 →
    iter cents_Sum_loop1 (s, pre ++ l, ((pre ++ l).length : Int), (pre.length : Int), ()) = some (if (sumS s l).2 = 0 then .inl ((sumS s l).1, ()) else .inr (0, (sumS s l).2))
  | [], pre, s, hn => by
    refine itR ?_
    unfold cents_Sum_loop1
    dsimp only
    have c : decide ((pre.length : Int) < (((pre ++ []) : List Int).length : Int)) = false := decide_eq_false (by simp)
    rw [c, if_neg (by decide)]
    simp [sumS]
  | x :: l, pre, s, hn => by
    simp only [List.length_cons] at hn
    have w1 : IntKind.i64.wrap ((pre.length : Int) + 1) = ((pre ++ [x]).length : Int) := by rw [w64' (by omega) (by omega)]; simp
    have c : decide ((pre.length : Int) < (((pre ++ x :: l) : List Int).length : Int)) = true := decide_eq_true (by simp; omega)
    have e := Sum_loop l (pre ++ [x]) (addS s x).1 (by simp; omega)
    rw [List.append_assoc, List.singleton_append] at e
    by_cases h0 : (addS s x).2 = 0
    · refine (itL (s' := ((addS s x).1, pre ++ x :: l, ((pre ++ x :: l).length : Int), ((pre ++ [x]).length : Int), ())) ?_).trans (e.trans ?_)
      · unfold cents_Sum_loop1
        dsimp only
        rw [c, if_pos rfl, lAt_mid]
        simp only [bs, ms, Add_eq]
        have d : ((addS s x).2 != 0) = false := by simp [h0]
        rw [d, if_neg (by decide), w1]
      · simp [sumS, h0]
    · refine (itR (t := Sum.inr (0, (addS s x).2)) ?_).trans ?_
      · unfold cents_Sum_loop1
        dsimp only
        rw [c, if_pos rfl, lAt_mid]
        simp only [bs, ms, Add_eq]
        have d : ((addS s x).2 != 0) = true := by simpa using h0
        rw [d, if_pos rfl]
      · simp [sumS, h0]
theorem sumS_err : ∀ (l : List Int) (s : Int), (sumS s l).2 ≠ 0 → (sumS s l).1 = 0
  | [], s, h => by simp [sumS] at h
  | x :: l, s, h => by
    unfold sumS at h ⊢
    by_cases h0 : (addS s x).2 = 0
    · rw [if_pos h0] at h ⊢; exact sumS_err l _ h
    · rw [if_neg h0]
theorem Sum_eq {l : List Int} (hn : l.length ≤ 100000) : cents_Sum l = some (sumS 0 l) := by
  unfold cents_Sum
  dsimp only
  have := Sum_loop l [] 0 (by simpa using hn)
  simp only [List.nil_append, List.length_nil] at this
  rw [show ((0 : Nat) : Int) = 0 from rfl] at this
  rw [this, bs]
  by_cases h : (sumS 0 l).2 = 0
  · rw [if_pos h]
    dsimp only
    exact congrArg some (Prod.ext rfl h.symm)
  · rw [if_neg h]
    dsimp only
    exact congrArg some (Prod.ext (sumS_err l 0 h).symm rfl)
theorem bSum_loop : ∀ (l pre : List It) (acc : List Int), acc.length ≤ pre.length → pre.length + l.length ≤ 100000 →
    iter before_Sum_loop1 (pre ++ l, ((pre ++ l).length : Int), (pre.length : Int), acc, (), ()) = some (acc ++ l.map (·.2), (), ())
  | [], pre, acc, ha, hn => by
    refine itR ?_
    unfold before_Sum_loop1
    dsimp only
    have c : decide ((pre.length : Int) < (((pre ++ []) : List It).length : Int)) = false := decide_eq_false (by simp)
    rw [c, if_neg (by decide)]
    simp
  | x :: l, pre, acc, ha, hn => by
    simp only [List.length_cons] at hn
    have w1 : IntKind.i64.wrap ((pre.length : Int) + 1) = ((pre ++ [x]).length : Int) := by rw [w64' (by omega) (by omega)]; simp
    have c : decide ((pre.length : Int) < (((pre ++ x :: l) : List It).length : Int)) = true := decide_eq_true (by simp; omega)
    have e := bSum_loop l (pre ++ [x]) (acc ++ [x.2]) (by simp; omega) (by simp; omega)
    rw [List.append_assoc, List.singleton_append] at e
    refine (itL (s' := (pre ++ x :: l, ((pre ++ x :: l).length : Int), ((pre ++ [x]).length : Int), acc ++ [x.2], (), ())) ?_).trans (e.trans ?_)
    · unfold before_Sum_loop1
      dsimp only
      simp only [c, if_true, lAt_mid, bs, ms]
      rw [appOk (by omega) (by decide), bs, w1]
    · simp
theorem bSum_eq {l : List It} (hn : l.length ≤ 100000) : before_Sum l = some (sumS 0 (l.map (·.2))) := by
  unfold before_Sum
  dsimp only
  have := bSum_loop l [] [] (by simp) (by simpa using hn)
  simp only [List.nil_append, List.length_nil] at this
  rw [show ((0 : Nat) : Int) = 0 from rfl] at this
  rw [this, bs]
  dsimp only
  rw [Sum_eq (by simpa using hn)]
  rfl
theorem lSum_loop : ∀ (l pre : List It) (acc : List Int), acc.length ≤ pre.length → pre.length + l.length ≤ 100000 →
    iter law25_BeforeSums_loop1 (pre ++ l, (pre.length : Int), acc, (), ()) = some (pre ++ l, acc ++ l.map (·.2), (), ())
  | [], pre, acc, ha, hn => by
    refine itR ?_
    unfold law25_BeforeSums_loop1
    dsimp only
    have c : decide ((pre.length : Int) < (((pre ++ []) : List It).length : Int)) = false := decide_eq_false (by simp)
    rw [c, if_neg (by decide)]
    simp
  | x :: l, pre, acc, ha, hn => by
    simp only [List.length_cons] at hn
    have w1 : IntKind.i64.wrap ((pre.length : Int) + 1) = ((pre ++ [x]).length : Int) := by rw [w64' (by omega) (by omega)]; simp
    have c : decide ((pre.length : Int) < (((pre ++ x :: l) : List It).length : Int)) = true := decide_eq_true (by simp; omega)
    have e := lSum_loop l (pre ++ [x]) (acc ++ [x.2]) (by simp; omega) (by simp; omega)
    rw [List.append_assoc, List.singleton_append] at e
    refine (itL (s' := (pre ++ x :: l, ((pre ++ [x]).length : Int), acc ++ [x.2], (), ())) ?_).trans (e.trans ?_)
    · unfold law25_BeforeSums_loop1
      dsimp only
      simp only [c, if_true, lAt_mid, bs, ms]
      rw [appOk (by omega) (by decide), bs, w1]
    · simp
theorem law_BeforeSums (ha : law25_awake () = some true) {l : List It} : law25_BeforeSums l = some true := by
  unfold law25_BeforeSums
  dsimp only
  simp only [gPi, gSS, gPb, gPm, gPs, gM, gM2, gAnd, gOr, gAndI, gOrI, gAA, gAO, gOA, gOO, gAAf, gAOf, gOAf, gOOf, gAMf, gOMf, gId]
  simp only [gIn1, gIn2, gIn3, gIn4, gIn5, gIn6, gIn7, gIn8, gId, gIdF, gMb, gMm, gBm, gBb, bs, ms]
  by_cases hn : (l.length : Int) > 200
  · rw [decide_eq_true hn, if_pos rfl]; exact ha
  · rw [decide_eq_false hn, if_neg (by decide)]
    have := lSum_loop l [] [] (by simp) (by simp; omega)
    simp only [List.nil_append, List.length_nil] at this
    rw [show ((0 : Nat) : Int) = 0 from rfl] at this
    rw [this, bs]
    dsimp only
    rw [bSum_eq (by omega), bs, Sum_eq (by simp; omega), bs]
    rw [beq_self_eq_true, if_pos rfl, beq_self_eq_true, bs, if_pos rfl, ha]
end WB
namespace WB
open Go Go.RowKit

def pensionS : List UInt8 := [112, 101, 110, 115, 105, 111, 110]
theorem bounds_aw : before_bounds [(pensionS, 100000, 0)] = some ([(pensionS, pensionS, 100000, 0)], 0) := by
  unfold before_bounds
  dsimp only
  rw [if_neg (by decide)]
  rw [itL (s' := ([(pensionS, 100000, 0)], 1, 1, [(pensionS, pensionS, 100000, 0)], (), ())), itR (t := Sum.inl ([(pensionS, pensionS, 100000, 0)], (), ()))]
  · rfl
  · rfl
  · unfold before_bounds_loop1
    dsimp only
    rw [if_pos (by decide), show lAt [(pensionS, (100000 : Int), (0 : Int))] 0 = some (pensionS, 100000, 0) from rfl]
    simp only [bs, ms, name_eq]
    rfl
theorem room_aw : before_room (100000, (pensionS, 100000, 0), 0, 0) = some 10000 := by
  unfold before_room
  dsimp only
  rw [rOf_eq (by decide) (by decide)]
  rfl
theorem Take_aw : before_Take (100000, [], [(pensionS, 30000)], [(pensionS, 100000, 0)]) = some ([(pensionS, 10000)], [(pensionS, 10000)], 0) := by
  unfold before_Take
  dsimp only
  rw [show cents_Fits 100000 = some true from rfl, bs, if_neg (by decide), bounds_aw, bs]
  dsimp only
  rw [if_neg (by decide), if_neg (by decide)]
  rw [show cents_Greatest (100000, 0) = some 100000 from rfl, bs, show mcopyP ([] : List (List UInt8 × Int)) [] = some [] from rfl, bs]
  rw [itL (s' := (100000, [], [(pensionS, pensionS, 100000, 0)], 90000, [(pensionS, 30000)], 1, 1, [(pensionS, 10000)], [(pensionS, 10000)], [(pensionS, 10000)], (), (), (), ())), itR (t := Sum.inl ([(pensionS, 10000)], [(pensionS, 10000)], (), (), ()))]
  · rfl
  · rfl
  · unfold before_Take_loop1
    dsimp only
    rw [if_pos (by decide), show lAt [(pensionS, (30000 : Int))] _ = some (pensionS, 30000) from rfl]
    simp only [bs, ms, name_eq]
    rw [if_neg (by decide)]
    rw [show before_right 30000 = some true from rfl, bs]
    rw [if_neg (by decide), show before_right (alGet (eqZ Ty.str) (zeroT (Ty.int IntKind.i64)) pensionS []).fst = some true from rfl, bs, bs]
    dsimp only
    rw [if_neg (by decide), show cents_Least (30000, 100000) = some 30000 from rfl, bs, if_pos (by rfl), show cents_Greatest (100000, 0) = some 100000 from rfl, bs]
    have hroom : ∀ y, y = (100000, (pensionS, 100000, 0), 0, 0) → before_room y = some 10000 := by rintro _ rfl; exact room_aw
    rw [hroom]
    · rfl
    · rfl
theorem awake_eq : law25_awake () = some true := by
  unfold law25_awake
  dsimp only
  rw [show before_Take (100000, [], [([112, 101, 110, 115, 105, 111, 110], 30000)], [([112, 101, 110, 115, 105, 111, 110], 100000, 0)]) = some ([(pensionS, 10000)], [(pensionS, 10000)], 0) from Take_aw, bs]
  rw [After_eq ⟨by decide, by decide⟩ (by
    intro x hx
    rcases List.mem_cons.1 hx with rfl | hx
    · exact ⟨by decide, by decide⟩
    · rw [List.mem_singleton.1 hx]; exact ⟨by decide, by decide⟩) (by decide), bs]
  rfl
end WB
namespace Go.Proofs
open Go.Shelf
def Tryz.laysX25_ren : Go.Shelf.Ren := ⟨fun | 5 => 25 | n => n, fun | 23 => 30 | 24 => 30 | 26 => 9 | 27 => 22 | 0 => 0 | 4 => 4 | n => n, fun | n => n⟩
theorem Tryz.copyK : Tryz.prog.underlying (Tryz.laysX25_ren.t 26) = some .string := by kernel_rfl
theorem Tryz.laysX25 : Go.Proofs.SlLaysX.n5 Tryz.prog Tryz.laysX25_ren := {
  mixed := by kernel_rfl
  f5 := ⟨Tryz.f25.name, by decide, Tryz.func25.trans (congrArg some (by kernel_rfl))⟩
  t0 := Tryz.underlying0
  a0 := Tryz.isAgg0
  z0 := Tryz.sizeOf0
  v0 := Tryz.zeroValue0
  t4 := Tryz.underlying4
  a4 := Tryz.isAgg4
  z4 := Tryz.sizeOf4
  v4 := Tryz.zeroValue4
  t23 := Tryz.underlying30
  a23 := Tryz.isAgg30
  z23 := Tryz.sizeOf30
  v23 := Tryz.zeroValue30
  t24 := Tryz.underlying30
  a24 := Tryz.isAgg30
  z24 := Tryz.sizeOf30
  v24 := Tryz.zeroValue30
  a26 := Tryz.isAgg9
  z26 := Tryz.sizeOf9
  a27 := Tryz.isAgg22
  z27 := Tryz.sizeOf22 }
theorem Tryz.copyC {H : Type} (R : Value → Option (DataW H × List MemPlace)) (bd nd : Nat) (ps : Option Nat) (Dd Ds : DataW H) (w : World) (hd : w.ownsMap Tryz.prog (Tryz.laysX25_ren.t 26) R bd nd Dd) (hs : SrcOf Tryz.prog (Tryz.laysX25_ren.t 26) R w ps Ds) (hne : ps ≠ some bd) (hroom : nd + Maps.size Ds ≤ maxLen) :
    Calls Tryz.prog 25 #[.map (some bd), .map ps] w fun e w' => e = .returned (.tuple #[]) ∧ w'.ownsMap Tryz.prog (Tryz.laysX25_ren.t 26) R bd (nd + Maps.size Ds) (Lib.mergeD Dd Ds) ∧ w.grownBy w' (some bd) := AnyX.maps_Copy_opt Tryz.laysX25 (Maps.string_keyed Tryz.copyK) R bd nd ps Dd Ds w hd hs hne hroom
def Tryz.lays219_ren : Go.Shelf.Ren := ⟨fun | 219 => 85 | 217 => 95 | 225 => 96 | 224 => 97 | 267 => 98 | 266 => 109 | 314 => 110 | n => n, fun | 9 => 9 | 3 => 3 | 4 => 4 | 5 => 5 | 46 => 122 | 146 => 139 | 51 => 41 | n => n, fun | 1 => 2 | n => n⟩
theorem Tryz.lays219 : Go.Proofs.Lays.n219 Tryz.prog Tryz.lays219_ren := {
  mixed := by kernel_rfl
  f217 := Tryz.func95.trans (congrArg some (by kernel_rfl))
  f219 := Tryz.func85.trans (congrArg some (by kernel_rfl))
  f224 := Tryz.func97.trans (congrArg some (by kernel_rfl))
  f225 := Tryz.func96.trans (congrArg some (by kernel_rfl))
  f266 := Tryz.func109.trans (congrArg some (by kernel_rfl))
  f267 := Tryz.func98.trans (congrArg some (by kernel_rfl))
  f314 := Tryz.func110.trans (congrArg some (by kernel_rfl))
  t3 := Tryz.underlying3
  a3 := Tryz.isAgg3
  z3 := Tryz.sizeOf3
  v3 := Tryz.zeroValue3
  t4 := Tryz.underlying4
  a4 := Tryz.isAgg4
  z4 := Tryz.sizeOf4
  v4 := Tryz.zeroValue4
  t5 := Tryz.underlying5
  a5 := Tryz.isAgg5
  z5 := Tryz.sizeOf5
  v5 := Tryz.zeroValue5
  t9 := Tryz.underlying9
  a9 := Tryz.isAgg9
  z9 := Tryz.sizeOf9
  v9 := Tryz.zeroValue9
  t46 := Tryz.underlying122
  a46 := Tryz.isAgg122
  z46 := Tryz.sizeOf122
  v46 := Tryz.zeroValue122
  t51 := Tryz.underlying41
  a51 := Tryz.isAgg41
  z51 := Tryz.sizeOf41
  v51 := Tryz.zeroValue41
  t146 := Tryz.underlying139
  a146 := Tryz.isAgg139
  z146 := Tryz.sizeOf139
  v146 := Tryz.zeroValue139
  g1 := by kernel_rfl }
open Go.RowKit Go.Lib in
/-- internal/stringslite.Index (what strings.Index calls) AT A substr OF ONE BYTE c: IT RETURNS 'Lib.indexByte s c'; the world is as it was. (LAID: no walk: one application.) -/
theorem Tryz.stringslite_Index_one (s : ByteArray) (c : UInt8) (w : World) :
    Calls Tryz.prog 85 #[.string s, .string ⟨#[c]⟩] w fun e w' => e = .returned (.int .i64 (Lib.indexByte s.data.toList c)) ∧ w' = w := Any.stringslite_Index_one Tryz.lays219 s c w

end Go.Proofs
