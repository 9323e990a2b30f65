/-
  OWN TEXTS, MERGED (wip/merge.py): Psp, Psl, Pse, Psf, Psg, Psh, PGp, Psq. No condition of their own.
-/
import Derived.Test.YtimkfmkhmfcjeaaGreatDoorK5
set_option linter.unusedVariables false
set_option linter.unusedSimpArgs false
namespace WB
open Go Go.RowKit

theorem part_eq {a w s : Nat} (ha : a ≤ 1125899906842624) (hw : w ≤ s) (hs : 0 < s) (hs2 : s ≤ 72057594037927936) : share_part ((a : Int), (w : Int), (s : Int)) = some (((a * w / s : Nat) : Int), ((a * w % s : Nat) : Int)) := by
  have h1 : a * w ≤ 1125899906842624 * s := Nat.mul_le_mul ha hw
  have hhi : a * w / 18446744073709551616 < s := by
    rw [Nat.div_lt_iff_lt_mul (by decide)]
    omega
  have e : a * w / 18446744073709551616 * 18446744073709551616 + a * w % 18446744073709551616 = a * w := by
    have := Nat.div_add_mod (a * w) 18446744073709551616
    omega
  unfold share_part
  dsimp only
  rw [Mul64_eq (by omega) (by omega), bs]
  dsimp only
  rw [Div64_eq (by omega) (Nat.mod_lt _ (by decide)) hhi, bs, e]
theorem sum_ok : ∀ (l : List Int), (∀ x ∈ l, 0 ≤ x ∧ x ≤ 1125899906842624) → 0 ≤ l.sum ∧ l.sum ≤ 1125899906842624 * l.length
  | [], _ => by simp
  | x :: l, h => by
    have h1 := h x (by simp)
    obtain ⟨h2, h3⟩ := sum_ok l fun y hy => h y (by simp [hy])
    simp only [List.sum_cons, List.length_cons]
    constructor <;> omega
theorem ssum_eq {l : List Int} (h0 : l ≠ []) (hl : l.length ≤ 64) (hx : ∀ x ∈ l, 1 ≤ x ∧ x ≤ 1000000) : share_sum l = some (l.sum, 0) ∧ 0 < l.sum ∧ l.sum ≤ 64000000 := by
  have hpos : 0 < l.length := List.length_pos_iff.2 h0
  have hb : ∀ (m : List Int), (∀ x ∈ m, 1 ≤ x ∧ x ≤ 1000000) → (m.length : Int) ≤ m.sum ∧ m.sum ≤ 1000000 * m.length := by
    intro m
    induction m with
    | nil => intro _; simp
    | cons x m ih =>
      intro h
      have h1 := h x (by simp)
      obtain ⟨h2, h3⟩ := ih fun y hy => h y (by simp [hy])
      simp only [List.sum_cons, List.length_cons]
      constructor <;> omega
  have hb0 := hb l hx
  have key := iter_fold0 (b := share_sum_loop1) (α := Int) (A := Int) (fun i s => (s, l, (l.length : Int), (i : Int), ())) (fun s x => .inl (s + x)) (fun s => .inl (s, ())) (fun i s => s = (l.take i).sum) l (a := 0) (by simp) (fun i x s hx' hs => by
    have hi := (List.getElem?_eq_some_iff.1 hx').1
    have hxx := hx x (List.mem_of_getElem? hx')
    have hbi := hb (l.take i) (fun y hy => hx y (List.mem_of_mem_take hy))
    rw [List.length_take] at hbi
    unfold share_sum_loop1
    dsimp only
    simp only [gPi, gSS, gPb, gPm, gPs, gM, gM2, gAnd, gOr, gAndI, gOrI, gAA, gAO, gOA, gOO, gAAf, gAOf, gOAf, gOOf, gAMf, gOMf, gId]
    try simp only [gIn1, gIn2, gIn3, gIn4, gIn5, gIn6, gIn7, gIn8, gId, gIdF, gMb, gMm, gBm, gBb, bs, ms]
    rw [lt_len hx', if_pos rfl, lAt_nat hx', bs, decide_eq_false (by omega), if_neg (by decide), decide_eq_false (by omega), bs, if_neg (by decide), w_succ (by omega), wu64' (n := x) (by omega) (by omega), wu64' (n := s + x) (by omega) (by omega)]
    rfl) (fun i x s s' hx' hs e => by cases e; rw [List.take_add_one, hx', hs]; simp) (fun s hs => by
    unfold share_sum_loop1
    dsimp only
    rw [nlt_len, if_neg (by decide)])
  have hf : ∀ (m : List Int) (s : Int), foldE (fun s x => (Sum.inl (s + x) : Int ⊕ ((Int × Unit) ⊕ (Int × Int)))) (fun s => Sum.inl (s, ())) s m = .inl (s + m.sum, ()) := by
    intro m
    induction m with
    | nil => intro s; simp [foldE]
    | cons x m ih => intro s; rw [foldE]; simp only; rw [ih, List.sum_cons, Int.add_assoc]
  rw [hf, Int.zero_add] at key
  rw [show ((0 : Nat) : Int) = 0 from rfl] at key
  refine ⟨?_, by omega, by omega⟩
  unfold share_sum
  dsimp only
  rw [if_neg (by simpa using h0), decide_eq_false (by omega), if_neg (by decide), key, bs]
  dsimp only
  rw [if_neg (by simp; omega)]
/-- A part, rounded down. -/
def qN (a s : Nat) (w : Int) : Int := ((a * w.toNat / s : Nat) : Int)
theorem qN_sum {a s : Nat} (hs : 0 < s) : ∀ (l : List Int), (∀ x ∈ l, 1 ≤ x ∧ x ≤ 1000000) → 0 ≤ (l.map (qN a s)).sum ∧ (l.map (qN a s)).sum * s ≤ a * l.sum
  | [], _ => by simp
  | x :: l, h => by
    have h1 := h x (by simp)
    obtain ⟨h2, h3⟩ := qN_sum (a := a) hs l fun y hy => h y (by simp [hy])
    simp only [List.map_cons, List.sum_cons]
    have h4 : a * x.toNat / s * s ≤ a * x.toNat := Nat.div_mul_le_self _ _
    have h5 : qN a s x * s ≤ a * x := by
      obtain ⟨k, rfl⟩ := Int.eq_ofNat_of_zero_le (show 0 ≤ x by omega)
      unfold qN
      simp only [Int.toNat_natCast]
      exact_mod_cast h4
    have h6 : 0 ≤ qN a s x := Int.natCast_nonneg _
    rw [Int.add_mul, Int.mul_add]
    constructor <;> omega
theorem qN_le {a s : Nat} {x : Int} (hx : 1 ≤ x) (hs : x ≤ s) : 0 ≤ qN a s x ∧ qN a s x ≤ a := by
  unfold qN
  have h : a * x.toNat ≤ a * s := Nat.mul_le_mul_left _ (by omega)
  have : a * x.toNat / s ≤ a := by
    rcases Nat.eq_zero_or_pos s with h0 | h0
    · subst h0; simp
    · exact Nat.div_le_of_le_mul (by rw [Nat.mul_comm s a]; exact h)
  exact ⟨Int.natCast_nonneg _, by exact_mod_cast this⟩
theorem idx_nat {i n : Nat} (h : i < n) : (if 0 ≤ (i : Int) ∧ (i : Int) < (n : Int) then some (i : Int).toNat else none) = some i := by
  rw [if_pos ⟨by omega, by omega⟩]; simp
def rN (a s : Nat) (w : Int) : Int := ((a * w.toNat % s : Nat) : Int)
theorem split3 {a s : Nat} (ha : a ≤ 1125899906842624) (hs : 0 < s) (hs2 : s ≤ 64000000) : ∀ (l pre : List Int), pre.length + l.length ≤ 64 → (∀ x ∈ pre ++ l, 1 ≤ x ∧ x ≤ 1000000) → (pre ++ l).sum = s →
    iter share_split_loop3 ((a : Int), (s : Int), (a : Int) - (pre.map (qN a s)).sum, pre ++ l, ((pre ++ l).length : Int), (pre.length : Int), pre.map (qN a s) ++ List.replicate l.length 0, pre.map (rN a s) ++ List.replicate l.length 0, (), (), ()) =
      some ((a : Int) - ((pre ++ l).map (qN a s)).sum, (pre ++ l).map (qN a s), (pre ++ l).map (rN a s), (), (), ())
  | [], pre, hn, hx, hsum => by
    refine itR ?_
    unfold share_split_loop3
    dsimp only
    have c : decide ((pre.length : Int) < (((pre ++ []) : List Int).length : Int)) = false := decide_eq_false (by simp)
    rw [c, if_neg (by decide)]
    simp
  | x :: l, pre, hn, hx, hsum => by
    simp only [List.length_cons] at hn
    have w1 : IntKind.i64.wrap ((pre.length : Int) + 1) = ((pre ++ [x]).length : Int) := by rw [w64' (by omega) (by omega)]; simp
    have c : decide ((pre.length : Int) < (((pre ++ x :: l) : List Int).length : Int)) = true := decide_eq_true (by simp; omega)
    have hx0 := hx x (by simp)
    have hl := sum_ok l (fun y hy => by have := hx y (by simp [hy]); omega)
    have hp := sum_ok pre (fun y hy => by have := hx y (by simp [hy]); omega)
    have hxs : x ≤ s := by rw [List.sum_append, List.sum_cons] at hsum; omega
    obtain ⟨k, rfl⟩ := Int.eq_ofNat_of_zero_le (show 0 ≤ x by omega)
    have hq := qN_le (a := a) hx0.1 hxs
    have hpart := part_eq (a := a) (w := k) (s := s) ha (by omega) hs (by omega)
    have hqk : ((a * k / s : Nat) : Int) = qN a s (k : Int) := by unfold qN; simp
    rw [hqk] at hpart
    -- what is left stays at least 0
    have hall := qN_sum (a := a) hs (pre ++ [(k : Int)]) (fun y hy => hx y (by
      rcases List.mem_append.1 hy with h | h
      · simp [h]
      · rw [List.mem_singleton.1 h]; simp))
    have hle : ((pre ++ [(k : Int)]).map (qN a s)).sum ≤ a := by
      have h1 : (pre ++ [(k : Int)]).sum ≤ s := by
        rw [List.sum_append, List.sum_cons] at hsum
        rw [List.sum_append, List.sum_cons, List.sum_nil]; omega
      have h2 : (a : Int) * (pre ++ [(k : Int)]).sum ≤ (a : Int) * s := Int.mul_le_mul_of_nonneg_left h1 (by omega)
      exact Int.le_of_mul_le_mul_right (Int.le_trans hall.2 h2) (by omega)
    have hpre := (qN_sum (a := a) hs pre (fun y hy => hx y (by simp [hy]))).1
    have hsumE : ((pre ++ [(k : Int)]).map (qN a s)).sum = (pre.map (qN a s)).sum + qN a s k := by simp
    have hout : (pre.map (qN a s) ++ List.replicate (l.length + 1) 0).set pre.length (qN a s k) = (pre ++ [(k : Int)]).map (qN a s) ++ List.replicate l.length 0 := by
      rw [List.replicate_succ, List.set_append_right _ _ (by simp)]
      simp
    have hres : (pre.map (rN a s) ++ List.replicate (l.length + 1) 0).set pre.length (rN a s k) = (pre ++ [(k : Int)]).map (rN a s) ++ List.replicate l.length 0 := by
      rw [List.replicate_succ, List.set_append_right _ _ (by simp)]
      simp
    have hrk : ((a * k % s : Nat) : Int) = rN a s (k : Int) := by unfold rN; simp
    rw [hrk] at hpart
    have e2 := split3 ha hs hs2 l (pre ++ [(k : Int)]) (by simp; omega) (by simpa using hx) (by simpa using hsum)
    rw [List.append_assoc, List.singleton_append] at e2
    refine (itL (s' := _) ?_).trans e2
    unfold share_split_loop3
    dsimp only
    rw [c, if_pos rfl, lAt_mid', ms, bs, wu64' (n := (k : Int)) (by omega) (by omega), hpart, bs]
    dsimp only
    rw [w64' (n := qN a s k) (by omega) (by omega)]
    rw [idx_nat (by simp), bs]
    rw [List.length_cons, show (pre.map (qN a s) ++ List.replicate (l.length + 1) 0)[pre.length]? = some 0 by simp [List.replicate_succ], ms, bs, hout]
    rw [idx_nat (by simp), bs]
    rw [show (pre.map (rN a s) ++ List.replicate (l.length + 1) 0)[pre.length]? = some 0 by simp [List.replicate_succ], ms, bs, hres, w1, wu64' (n := (a : Int) - (pre.map (qN a s)).sum - qN a s k) (by omega) (by omega), hsumE]
    rw [show (a : Int) - (pre.map (qN a s)).sum - qN a s k = (a : Int) - ((pre.map (qN a s)).sum + qN a s k) by omega]
theorem best_loop {x9 : Int} {out rests : List Int} : ∀ (m i best : Nat), i + m = rests.length → best < rests.length → rests.length ≤ 64 →
    ∃ best', best' < rests.length ∧ iter share_split_loop1 (x9, (best : Int), (rests.length : Int), (i : Int), out, rests, (), (), (), ()) = some (x9, (best' : Int), out, rests, (), (), ())
  | 0, i, best, h1, h2, h3 => by
    refine ⟨best, h2, itR ?_⟩
    unfold share_split_loop1
    dsimp only
    rw [decide_eq_false (by omega), if_neg (by decide)]
  | m + 1, i, best, h1, h2, h3 => by
    have hi : i < rests.length := by omega
    obtain ⟨u, hu⟩ : ∃ v, rests[i]? = some v := ⟨_, List.getElem?_eq_getElem hi⟩
    obtain ⟨v, hv⟩ : ∃ v, rests[best]? = some v := ⟨_, List.getElem?_eq_getElem h2⟩
    by_cases h : u > v
    · obtain ⟨b, e1, e2⟩ := best_loop (x9 := x9) (out := out) m (i + 1) i (by omega) hi h3
      refine ⟨b, e1, (itL (s' := (x9, (i : Int), (rests.length : Int), ((i + 1 : Nat) : Int), out, rests, (), (), (), ())) ?_).trans e2⟩
      unfold share_split_loop1
      dsimp only
      rw [decide_eq_true (show (i : Int) < (rests.length : Int) by omega), if_pos rfl, idx_nat hi, bs, hu, ms, bs, idx_nat h2, bs, hv, ms, bs, decide_eq_true h, if_pos rfl, bs]
      dsimp only
      rw [w_succ (by omega)]
    · obtain ⟨b, e1, e2⟩ := best_loop (x9 := x9) (out := out) m (i + 1) best (by omega) h2 h3
      refine ⟨b, e1, (itL (s' := (x9, (best : Int), (rests.length : Int), ((i + 1 : Nat) : Int), out, rests, (), (), (), ())) ?_).trans e2⟩
      unfold share_split_loop1
      dsimp only
      rw [decide_eq_true (show (i : Int) < (rests.length : Int) by omega), if_pos rfl, idx_nat hi, bs, hu, ms, bs, idx_nat h2, bs, hv, ms, bs, decide_eq_false h, if_neg (by decide), bs]
      dsimp only
      rw [w_succ (by omega)]
theorem sum_set : ∀ {l : List Int} {i : Nat} {v : Int}, l[i]? = some v → (l.set i (v + 1)).sum = l.sum + 1
  | [], i, v, h => by simp at h
  | x :: l, 0, v, h => by simp at h; subst h; simp only [List.set_cons_zero, List.sum_cons]; omega
  | x :: l, i + 1, v, h => by
    simp only [List.getElem?_cons_succ] at h
    simp only [List.set_cons_succ, List.sum_cons, sum_set h]; omega
theorem split2 : ∀ (left : Nat) (out rests : List Int), out.length = rests.length → 0 < out.length → out.length ≤ 64 → (∀ x ∈ out, 0 ≤ x ∧ x + left ≤ 4503599627370496) → left ≤ 1125899906842624 →
    ∃ out', out'.length = out.length ∧ out'.sum = out.sum + left ∧ (∀ x ∈ out', 0 ≤ x ∧ x ≤ 4503599627370496) ∧ iter share_split_loop2 ((left : Int), out, rests, (), (), ()) = some (out', (), ())
  | 0, out, rests, h1, h2, h3, hx, hl => by
    refine ⟨out, rfl, by simp, fun x hx' => by have := hx x hx'; omega, itR ?_⟩
    unfold share_split_loop2
    dsimp only
    rw [decide_eq_false (by omega), if_neg (by decide)]
  | left + 1, out, rests, h1, h2, h3, hx, hl => by
    obtain ⟨b, b1, b2⟩ := best_loop (x9 := ((left + 1 : Nat) : Int)) (out := out) (rests := rests) rests.length 0 0 (by omega) (by omega) (by omega)
    rw [show ((0 : Nat) : Int) = 0 from rfl] at b2
    obtain ⟨u, hu⟩ : ∃ v, out[b]? = some v := ⟨_, List.getElem?_eq_getElem (by omega)⟩
    obtain ⟨v, hv⟩ : ∃ v, rests[b]? = some v := ⟨_, List.getElem?_eq_getElem b1⟩
    have hu0 := hx u (List.mem_of_getElem? hu)
    obtain ⟨out', e1, e2, e3, e4⟩ := split2 left (out.set b (u + 1)) (rests.set b 0) (by simp [h1]) (by simpa using h2) (by simpa using h3) (fun x hx' => by
      rcases List.mem_or_eq_of_mem_set hx' with h | h
      · have := hx x h; omega
      · subst h; omega) (by omega)
    refine ⟨out', by simpa using e1, by rw [e2, sum_set hu]; omega, e3, (itL (s' := ((left : Int), out.set b (u + 1), rests.set b 0, (), (), ())) ?_).trans e4⟩
    unfold share_split_loop2
    dsimp only
    rw [decide_eq_true (show ((left + 1 : Nat) : Int) > 0 by omega), if_pos rfl, b2, bs]
    dsimp only
    rw [idx_nat (show b < out.length by omega), bs, hu, ms, bs, w64' (n := u + 1) (by omega) (by omega), bs]
    try rw [hu, ms, bs]
    rw [idx_nat b1, bs, hv, ms, bs, wu64' (n := ((left + 1 : Nat) : Int) - 1) (by omega) (by omega)]
    rw [show ((left + 1 : Nat) : Int) - 1 = (left : Int) by omega]
theorem splitN {a s : Nat} {ws : List Int} (ha : a ≤ 1125899906842624) (h0 : ws ≠ []) (hn : ws.length ≤ 64) (hx : ∀ x ∈ ws, 1 ≤ x ∧ x ≤ 1000000) (hs : ws.sum = s) :
    ∃ out, share_split ((a : Int), (s : Int), ws) = some out ∧ out.length = ws.length ∧ out.sum = a ∧ ∀ x ∈ out, 0 ≤ x ∧ x ≤ 4503599627370496 := by
  have hpos : 0 < ws.length := List.length_pos_iff.2 h0
  obtain ⟨g1, g2, g3⟩ := ssum_eq h0 hn hx
  have hs0 : 0 < s := by omega
  have r2 := split3 (a := a) ha hs0 (by omega) ws [] (by simpa using hn) (by simpa using hx) (by simpa using hs)
  simp only [List.nil_append, List.length_nil, List.map_nil, List.sum_nil] at r2
  rw [show ((0 : Nat) : Int) = 0 from rfl, Int.sub_zero] at r2
  have hq := qN_sum (a := a) hs0 ws hx
  have hle : (ws.map (qN a s)).sum ≤ a := by
    rw [hs] at hq
    exact Int.le_of_mul_le_mul_right hq.2 (by omega)
  obtain ⟨left, hleft⟩ := Int.eq_ofNat_of_zero_le (show 0 ≤ (a : Int) - (ws.map (qN a s)).sum by omega)
  obtain ⟨out, o1, o2, o3, o4⟩ := split2 left (ws.map (qN a s)) (ws.map (rN a s)) (by simp) (by simpa using hpos) (by simpa using hn) (fun x hxm => by
    obtain ⟨w, hw, rfl⟩ := List.mem_map.1 hxm
    have hws : w ≤ s := by
      have : ∀ (m : List Int), (∀ x ∈ m, 1 ≤ x ∧ x ≤ 1000000) → w ∈ m → w ≤ m.sum := by
        intro m
        induction m with
        | nil => intro _ h; cases h
        | cons y m ih =>
          intro h hm
          have h1 := h y (by simp)
          have h2 := (sum_ok m fun z hz => by have := h z (by simp [hz]); omega).1
          rw [List.sum_cons]
          rcases List.mem_cons.1 hm with rfl | hm
          · omega
          · have := ih (fun z hz => h z (by simp [hz])) hm; omega
      rw [← hs]; exact this ws hx hw
    have := qN_le (a := a) (hx w hw).1 hws
    omega) (by omega)
  refine ⟨out, ?_, by simpa using o1, by rw [o2]; omega, o3⟩
  have hk : ((ws.length : Int)) * 8 ≤ 140737488355328 := by omega
  unfold share_split
  dsimp only
  have hmk : (0 : Int) ≤ (ws.length : Int) ∧ (ws.length : Int) ≤ (ws.length : Int) ∧ (ws.length : Int) * 8 ≤ 140737488355328 ∧ (ws.length : Int) ≤ 4611686018427387904 := ⟨by omega, by omega, hk, by omega⟩
  simp only [if_pos hmk, bs, Int.toNat_natCast]
  rw [r2, bs]
  dsimp only
  rw [hleft, o4, bs]
theorem neg_loop : ∀ (l pre : List Int), (∀ x ∈ l, 0 ≤ x ∧ x ≤ 4503599627370496) → pre.length + l.length ≤ 64 →
    iter share_Split_loop1 (((pre ++ l).length : Int), (pre.length : Int), pre ++ l, (), ()) = some (pre ++ l.map (fun x => 0 - x), (), ())
  | [], pre, hx, hn => by
    refine itR ?_
    unfold share_Split_loop1
    dsimp only
    have c : decide ((pre.length : Int) < (((pre ++ []) : List Int).length : Int)) = false := decide_eq_false (by simp)
    rw [c, if_neg (by decide)]
    simp
  | x :: l, pre, hx, hn => by
    simp only [List.length_cons] at hn
    have w1 : IntKind.i64.wrap ((pre.length : Int) + 1) = ((pre ++ [0 - x]).length : Int) := by rw [w64' (by omega) (by omega)]; simp
    have c : decide ((pre.length : Int) < (((pre ++ x :: l) : List Int).length : Int)) = true := decide_eq_true (by simp; omega)
    have hx0 := hx x (by simp)
    have e := neg_loop l (pre ++ [0 - x]) (fun y hy => hx y (by simp [hy])) (by simp; omega)
    have hlen : ((pre ++ [0 - x] ++ l).length : Int) = ((pre ++ x :: l).length : Int) := by simp
    rw [hlen] at e
    refine (itL (s' := (((pre ++ x :: l).length : Int), ((pre ++ [0 - x]).length : Int), pre ++ [0 - x] ++ l, (), ())) ?_).trans (e.trans (by simp))
    unfold share_Split_loop1
    dsimp only
    rw [c, if_pos rfl, idx_nat (by simp), bs, show (pre ++ x :: l)[pre.length]? = some x by simp, ms, bs, w64' (n := 0 - x) (by omega) (by omega), bs, show (pre ++ x :: l)[pre.length]? = some x by simp, ms, bs, w1]
    rw [show (pre ++ x :: l).set pre.length (0 - x) = pre ++ [0 - x] ++ l by rw [List.set_append_right _ _ (by simp)]; simp]
/-- An amount from 0 on in parts. -/
noncomputable def splitF (ws : List Int) (a : Nat) : List Int := (share_split ((a : Int), ws.sum, ws)).getD []
/-- An amount in parts. -/
noncomputable def partsF (ws : List Int) (c : Int) : List Int := if 0 ≤ c then splitF ws c.toNat else (splitF ws (-c).toNat).map (fun x => 0 - x)
structure WsOk (ws : List Int) : Prop where
  ne : ws ≠ []
  len : ws.length ≤ 64
  r : ∀ x ∈ ws, 1 ≤ x ∧ x ≤ 1000000
theorem splitF_ok {ws : List Int} (h : WsOk ws) {a : Nat} (ha : a ≤ 1125899906842624) : share_split ((a : Int), ws.sum, ws) = some (splitF ws a) ∧ (splitF ws a).length = ws.length ∧ (splitF ws a).sum = a ∧ ∀ x ∈ splitF ws a, 0 ≤ x ∧ x ≤ 4503599627370496 := by
  obtain ⟨g1, g2, g3⟩ := ssum_eq h.ne h.len h.r
  obtain ⟨s, hs⟩ := Int.eq_ofNat_of_zero_le (show 0 ≤ ws.sum by omega)
  obtain ⟨out, o1, o2, o3, o4⟩ := splitN ha h.ne h.len h.r hs
  have e : share_split ((a : Int), ws.sum, ws) = some out := by rw [hs]; exact o1
  have e2 : splitF ws a = out := by unfold splitF; rw [e]; rfl
  rw [e2]
  exact ⟨e, o2, o3, o4⟩
theorem sum_neg : ∀ (l : List Int), (l.map fun x => 0 - x).sum = - l.sum
  | [] => by simp
  | x :: l => by rw [List.map_cons, List.sum_cons, List.sum_cons, sum_neg l]; omega
theorem partsF_ok {ws : List Int} (h : WsOk ws) {c : Int} (hc : -1125899906842624 ≤ c ∧ c ≤ 1125899906842624) : share_Split (c, ws) = some (partsF ws c, 0) ∧ (partsF ws c).length = ws.length ∧ (partsF ws c).sum = c ∧ ∀ x ∈ partsF ws c, -4503599627370496 ≤ x ∧ x ≤ 4503599627370496 := by
  obtain ⟨g1, g2, g3⟩ := ssum_eq h.ne h.len h.r
  have hf : share_fits c = some true := by
    unfold share_fits
    dsimp only
    simp only [gPi, gSS, gPb, gPm, gPs, gM, gM2, gAnd, gOr, gAndI, gOrI, gAA, gAO, gOA, gOO, gAAf, gAOf, gOAf, gOOf, gAMf, gOMf, gId]
    try simp only [gIn1, gIn2, gIn3, gIn4, gIn5, gIn6, gIn7, gIn8, gId, gIdF, gMb, gMm, gBm, gBb, bs, ms]
    rw [decide_eq_true (show c ≥ -1125899906842624 by omega), if_pos rfl, decide_eq_true (show c ≤ 1125899906842624 by omega)]
  unfold share_Split partsF
  dsimp only
  rw [hf, bs, if_neg (by decide), g1, bs]
  dsimp only
  rw [if_neg (by decide)]
  by_cases h0 : 0 ≤ c
  · obtain ⟨n, rfl⟩ := Int.eq_ofNat_of_zero_le h0
    obtain ⟨k1, k2, k3, k4⟩ := splitF_ok h (a := n) (by omega)
    rw [decide_eq_true h0, if_pos rfl, if_pos h0, wu64' (by omega) (by omega), k1, bs, Int.toNat_natCast]
    exact ⟨rfl, k2, k3, fun x hx => by have := k4 x hx; omega⟩
  · obtain ⟨n, hn⟩ := Int.eq_ofNat_of_zero_le (show 0 ≤ -c by omega)
    obtain ⟨k1, k2, k3, k4⟩ := splitF_ok h (a := n) (by omega)
    rw [decide_eq_false h0, if_neg (by decide), if_neg h0, w64' (n := 0 - c) (by omega) (by omega), show 0 - c = (n : Int) by omega, wu64' (by omega) (by omega), k1, bs]
    have e := neg_loop (splitF ws n) [] k4 (by simp; rw [k2]; exact h.len)
    simp only [List.nil_append, List.length_nil] at e
    rw [show ((0 : Nat) : Int) = 0 from rfl] at e
    rw [e, bs, hn, Int.toNat_natCast]
    refine ⟨rfl, by simp [k2], by rw [sum_neg, k3]; omega, fun x hx => ?_⟩
    obtain ⟨y, hy, rfl⟩ := List.mem_map.1 hx
    have := k4 y hy
    omega
theorem partsF_neg {ws : List Int} {c : Int} (h0 : c ≠ 0) : partsF ws (-c) = (partsF ws c).map (fun x => 0 - x) := by
  unfold partsF
  by_cases h : 0 ≤ c
  · rw [if_pos h, if_neg (by omega), Int.neg_neg]
  · rw [if_neg h, if_pos (by omega), List.map_map]
    have : ((fun x : Int => 0 - x) ∘ fun x => 0 - x) = id := by funext x; simp
    rw [this, List.map_id]
end WB
namespace WB
open Go Go.RowKit

abbrev Ln := Int × List UInt8 × Int
abbrev Wt := List UInt8 × Int
abbrev Lent := List UInt8 × List UInt8 × Int × List UInt8
def fitD (a : Int) : Bool := decide (-1125899906842624 ≤ a) && decide (a ≤ 1125899906842624)
theorem fitD_iff {a : Int} : fitD a = true ↔ -1125899906842624 ≤ a ∧ a ≤ 1125899906842624 := by simp [fitD]
theorem Fits_eq' (a : Int) : cents_Fits a = some (fitD a) := by
  unfold cents_Fits fitD
  dsimp only
  simp only [gPi, gSS, gPb, gPm, gPs, gM, gM2, gAnd, gOr, gAndI, gOrI, gAA, gAO, gOA, gOO, gAAf, gAOf, gOAf, gOOf, gAMf, gOMf, gId]
  try simp only [gIn1, gIn2, gIn3, gIn4, gIn5, gIn6, gIn7, gIn8, gId, gIdF, gMb, gMm, gBm, gBb, bs, ms]
  by_cases h : a ≥ -1125899906842624
  · rw [show decide (a ≥ -1125899906842624) = true from decide_eq_true h, if_pos rfl, Bool.true_and]
  · rw [show decide (a ≥ -1125899906842624) = false from decide_eq_false h, if_neg (by decide), Bool.false_and]
theorem scode_eq (s : List UInt8) : slip_code s = some (nameB s) := by
  unfold slip_code nameB
  dsimp only
  simp only [gPi, gSS, gPb, gPm, gPs, gM, gM2, gAnd, gOr, gAndI, gOrI, gAA, gAO, gOA, gOO, gAAf, gAOf, gOAf, gOOf, gAMf, gOMf, gId]
  try simp only [gIn1, gIn2, gIn3, gIn4, gIn5, gIn6, gIn7, gIn8, gId, gIdF, gMb, gMm, gBm, gBb, bs, ms]
  by_cases h1 : s = []
  · subst h1; rfl
  · have d1 : (s == []) = false := by simpa using h1
    rw [d1, if_neg (by decide), bs]
    by_cases h2 : s = [45]
    · subst h2; rfl
    · have d2 : (s == [45]) = false := by simpa using h2
      rw [d2, if_neg (by decide)]
      by_cases h3 : (s.length : Int) > 32
      · rw [decide_eq_true h3, bs, if_pos rfl, decide_eq_false (show ¬ ((s.length : Int) ≤ 32) by omega), Bool.and_false]
      · rw [decide_eq_false h3, bs, if_neg (by decide), decide_eq_true (show (s.length : Int) ≤ 32 by omega)]
        have key := iter_fold0 (b := slip_code_loop1) (α := Int) (A := Unit) (fun k _ => (s.map fun b => (b.toNat : Int), ((s.map fun b => (b.toNat : Int)).length : Int), (k : Int), ()))
          (fun _ x => if (!((decide (x < 97) || decide (x > 122)) && (decide (x < 48) || decide (x > 57)) && (x != 46) && (x != 95) && (x != 45))) = true then .inl () else .inr (.inr false)) (fun _ => .inl ()) (fun _ _ => True) (s.map fun b => (b.toNat : Int)) (a := ()) trivial (fun k x _ hx _ => by
          have hk := (List.getElem?_eq_some_iff.1 hx).1
          rw [List.length_map] at hk
          unfold slip_code_loop1
          dsimp only
          simp only [gPi, gSS, gPb, gPm, gPs, gM, gM2, gAnd, gOr, gAndI, gOrI, gAA, gAO, gOA, gOO, gAAf, gAOf, gOAf, gOOf, gAMf, gOMf, gId]
          try simp only [gIn1, gIn2, gIn3, gIn4, gIn5, gIn6, gIn7, gIn8, gId, gIdF, gMb, gMm, gBm, gBb, bs, ms]
          rw [lt_len hx, if_pos rfl, lAt_nat hx, bs]
          have hw := w_succ (i := k) (by omega)
          have e1 : decide (x < 97) = !decide (x ≥ 97) := by rw [Bool.eq_iff_iff]; simp
          have e2 : decide (x > 122) = !decide (x ≤ 122) := by rw [Bool.eq_iff_iff]; simp
          have e3 : decide (x < 48) = !decide (x ≥ 48) := by rw [Bool.eq_iff_iff]; simp
          have e4 : decide (x > 57) = !decide (x ≤ 57) := by rw [Bool.eq_iff_iff]; simp
          rw [e1, e2, e3, e4]
          simp only [bne]
          generalize decide (x ≥ 97) = a1
          generalize decide (x ≤ 122) = a2
          generalize decide (x ≥ 48) = a3
          generalize decide (x ≤ 57) = a4
          obtain ⟨a5, h5⟩ : ∃ b, (x == 46) = b := ⟨_, rfl⟩
          obtain ⟨a6, h6⟩ : ∃ b, (x == 95) = b := ⟨_, rfl⟩
          obtain ⟨a7, h7⟩ : ∃ b, (x == 45) = b := ⟨_, rfl⟩
          simp only [h5, h6, h7]
          cases a1 <;> cases a2 <;> cases a3 <;> cases a4 <;> cases a5 <;> cases a6 <;> cases a7 <;> first | rfl | exact congrArg (fun q => some (Sum.inl (_, _, q, ()))) hw) (fun _ _ _ _ _ _ _ => trivial) (fun _ _ => by
          unfold slip_code_loop1
          dsimp only
          rw [nlt_len, if_neg (by decide)])
        rw [if_pos (show s.length ≤ 70368744177664 by omega), show (0 : Int) = ((0 : Nat) : Int) from rfl, key, bs]
        have hf : ∀ m : List UInt8, foldE (fun (_ : Unit) (x : Int) => if (!((decide (x < 97) || decide (x > 122)) && (decide (x < 48) || decide (x > 57)) && (x != 46) && (x != 95) && (x != 45))) = true then Sum.inl () else Sum.inr (Sum.inr false : Unit ⊕ Bool)) (fun _ => Sum.inl ()) () (m.map fun b => (b.toNat : Int)) = if m.all okb = true then .inl () else .inr false := by
          intro m
          induction m with
          | nil => rfl
          | cons b m ih =>
            rw [List.map_cons, foldE, List.all_cons]
            cases hb : okb b with
            | true =>
              have : (!((decide ((b.toNat : Int) < 97) || decide ((b.toNat : Int) > 122)) && (decide ((b.toNat : Int) < 48) || decide ((b.toNat : Int) > 57)) && ((b.toNat : Int) != 46) && ((b.toNat : Int) != 95) && ((b.toNat : Int) != 45))) = true := hb
              rw [if_pos this]
              simp only [Bool.true_and]
              exact ih
            | false =>
              have : ¬ (!((decide ((b.toNat : Int) < 97) || decide ((b.toNat : Int) > 122)) && (decide ((b.toNat : Int) < 48) || decide ((b.toNat : Int) > 57)) && ((b.toNat : Int) != 46) && ((b.toNat : Int) != 95) && ((b.toNat : Int) != 45))) = true := by
                have h' : (!((decide ((b.toNat : Int) < 97) || decide ((b.toNat : Int) > 122)) && (decide ((b.toNat : Int) < 48) || decide ((b.toNat : Int) > 57)) && ((b.toNat : Int) != 46) && ((b.toNat : Int) != 95) && ((b.toNat : Int) != 45))) = false := hb
                rw [h']; decide
              rw [if_neg this]
              rfl
        rw [hf]
        cases s.all okb <;> rfl
def lineS (l : Ln) : Int := if l.1 < 0 ∨ l.1 ≥ 7 then 11 else if nameB l.2.1 = false then 12 else if l.2.2 = 0 then 22 else if fitD l.2.2 = false then 9 else 0
theorem line_eq (l : Ln) : slip_line l = some (lineS l) := by
  obtain ⟨p, c, x⟩ := l
  unfold slip_line lineS
  dsimp only
  simp only [gPi, gSS, gPb, gPm, gPs, gM, gM2, gAnd, gOr, gAndI, gOrI, gAA, gAO, gOA, gOO, gAAf, gAOf, gOAf, gOOf, gAMf, gOMf, gId]
  try simp only [gIn1, gIn2, gIn3, gIn4, gIn5, gIn6, gIn7, gIn8, gId, gIdF, gMb, gMm, gBm, gBb, bs, ms]
  by_cases h1 : p < 0
  · rw [decide_eq_true h1, if_pos rfl, bs, if_pos rfl, if_pos (.inl h1)]
  · rw [decide_eq_false h1, if_neg (by decide)]
    by_cases h2 : p ≥ 7
    · rw [decide_eq_true h2, bs, if_pos rfl, if_pos (.inr h2)]
    · rw [decide_eq_false h2, bs, if_neg (by decide), if_neg (show ¬ (p < 0 ∨ p ≥ 7) by omega), scode_eq, bs]
      cases hn : nameB c with
      | false => rfl
      | true =>
        rw [if_neg (show ¬ ((!true) = true) by decide), if_neg (show ¬ (true = false) by decide)]
        by_cases h3 : x = 0
        · have d : (x == 0) = true := by simpa using h3
          rw [d, if_pos rfl, if_pos h3]
        · have d : (x == 0) = false := by simpa using h3
          rw [d, if_neg (by decide), if_neg h3, Fits_eq', bs]
          cases fitD x <;> rfl
def lessS (p x : Ln) : Bool := decide (p.1 < x.1) || (p.1 == x.1 && sLess p.2.1 x.2.1)
theorem less_eq (p x : Ln) : slip_less (p, x) = some (lessS p x) := by
  obtain ⟨a, b, c⟩ := p
  obtain ⟨a', b', c'⟩ := x
  unfold slip_less lessS
  dsimp only
  simp only [gPi, gSS, gPb, gPm, gPs, gM, gM2, gAnd, gOr, gAndI, gOrI, gAA, gAO, gOA, gOO, gAAf, gAOf, gOAf, gOOf, gAMf, gOMf, gId]
  try simp only [gIn1, gIn2, gIn3, gIn4, gIn5, gIn6, gIn7, gIn8, gId, gIdF, gMb, gMm, gBm, gBb, bs, ms]
  by_cases h : a < a'
  · rw [decide_eq_true h, if_pos rfl]; rfl
  · rw [decide_eq_false h, if_neg (by decide)]
    cases h2 : (a == a') <;> simp
def chkStep' (pr : Option Ln) (x : Ln) : Option Ln ⊕ (Unit ⊕ Int) :=
  if lineS x ≠ 0 then .inr (.inr (lineS x)) else match pr with
    | none => .inl (some x)
    | some p => if (p.1 == x.1 && p.2.1 == x.2.1) = true then .inr (.inr 7) else if lessS p x = false then .inr (.inr 8) else .inl (some x)
def slipS (s : Int × Int × List Ln) : Int := if s.1 < 1900 ∨ s.1 > 2199 ∨ s.2.1 < 1 ∨ s.2.1 > 400 then 2 else if (s.2.2.length : Int) > 448 then 5 else match foldE chkStep' (fun _ => Sum.inl ()) none s.2.2 with
  | .inl _ => 0
  | .inr e => e
theorem slip_eq (s : Int × Int × List Ln) : slip_Check s = some (slipS s) := by
  obtain ⟨y, ix, L⟩ := s
  unfold slip_Check slipS
  dsimp only
  simp only [gPi, gSS, gPb, gPm, gPs, gM, gM2, gAnd, gOr, gAndI, gOrI, gAA, gAO, gOA, gOO, gAAf, gAOf, gOAf, gOOf, gAMf, gOMf, gId]
  try simp only [gIn1, gIn2, gIn3, gIn4, gIn5, gIn6, gIn7, gIn8, gId, gIdF, gMb, gMm, gBm, gBb, bs, ms]
  by_cases h0 : y < 1900 ∨ y > 2199 ∨ ix < 1 ∨ ix > 400
  · rw [if_pos h0]
    by_cases h1 : y < 1900
    · rw [decide_eq_true h1]; rfl
    · rw [decide_eq_false h1, if_neg (by decide), bs]
      by_cases h2 : y > 2199
      · rw [decide_eq_true h2]; rfl
      · rw [decide_eq_false h2, if_neg (by decide)]
        by_cases h3 : ix < 1
        · rw [decide_eq_true h3]; rfl
        · rw [decide_eq_false h3, if_neg (by decide), decide_eq_true (show ix > 400 by omega)]; rfl
  · rw [if_neg h0, decide_eq_false (show ¬ (y < 1900) by omega), if_neg (by decide), bs, decide_eq_false (show ¬ (y > 2199) by omega), if_neg (by decide), decide_eq_false (show ¬ (ix < 1) by omega), if_neg (by decide), bs, decide_eq_false (show ¬ (ix > 400) by omega), bs]
    dsimp only
    rw [if_neg (show ¬ (false = true) by decide)]
    by_cases hn : (L.length : Int) > 448
    · rw [decide_eq_true hn, if_pos rfl, if_pos hn]
    · rw [decide_eq_false hn, if_neg (by decide), if_neg hn]
      have key := iter_fold0 (b := slip_Check_loop1) (α := Ln) (A := Option Ln) (fun k _ => (L, (L.length : Int), (k : Int), y, ix, L, (), (), ())) chkStep' (fun _ => Sum.inl ())
        (fun i pr => pr = if i = 0 then none else L[i - 1]?) L (a := none) rfl (fun i x pr hx hpr => by
        have hi := (List.getElem?_eq_some_iff.1 hx).1
        unfold slip_Check_loop1 chkStep'
        dsimp only
        simp only [gPi, gSS, gPb, gPm, gPs, gM, gM2, gAnd, gOr, gAndI, gOrI, gAA, gAO, gOA, gOO, gAAf, gAOf, gOAf, gOOf, gAMf, gOMf, gId]
        try simp only [gIn1, gIn2, gIn3, gIn4, gIn5, gIn6, gIn7, gIn8, gId, gIdF, gMb, gMm, gBm, gBb, bs, ms]
        rw [lt_len hx, if_pos rfl, lAt_nat hx, bs, line_eq, bs]
        by_cases hz : lineS x = 0
        · have d : (lineS (x.1, x.2.1, x.2.2) != 0) = false := by simpa using hz
          rw [d, if_neg (show ¬ (false = true) by decide), if_neg (show ¬ (lineS x ≠ 0) by simpa using hz)]
          cases i with
          | zero =>
            rw [if_pos rfl] at hpr
            subst hpr
            rw [if_pos (show (((0 : Nat) : Int) == 0) = true from rfl), bs]
            dsimp only
            rw [w_succ (by omega)]
            rfl
          | succ i =>
            have hlt : i < L.length := by omega
            rw [if_neg (by omega), Nat.add_sub_cancel, List.getElem?_eq_getElem hlt] at hpr
            subst hpr
            rw [if_neg (show ¬ ((((i + 1 : Nat) : Int) == 0) = true) by simp; omega), show ((i + 1 : Nat) : Int) - 1 = (i : Int) by omega, w64' (n := (i : Int)) (by omega) (by omega), lAt_nat (List.getElem?_eq_getElem hlt), bs]
            have e1 : (if (L[i].1 == x.1) = true then some (L[i].2.1 == x.2.1) else some false) = some (L[i].1 == x.1 && L[i].2.1 == x.2.1) := by
              cases (L[i].1 == x.1) <;> rfl
            rw [e1, bs]
            dsimp only
            cases h7 : (L[i].1 == x.1 && L[i].2.1 == x.2.1) with
            | true => rfl
            | false =>
              rw [if_neg (show ¬ (false = true) by decide), if_neg (show ¬ (false = true) by decide), less_eq, bs]
              cases h8 : lessS L[i] x with
              | false =>
                rfl
              | true =>
                rw [if_neg (show ¬ ((!true) = true) by decide), bs, if_neg (show ¬ (true = false) by decide)]
                dsimp only
                rw [w_succ (by omega)]
                rfl
        · have d : (lineS (x.1, x.2.1, x.2.2) != 0) = true := by simpa using hz
          rw [d, if_pos rfl, if_pos (show lineS x ≠ 0 from hz)]
          rfl) (fun i x pr pr' hx hpr hst => by
        rw [if_neg (by omega), Nat.add_sub_cancel, hx]
        unfold chkStep' at hst
        split at hst
        · cases hst
        · split at hst
          · cases hst; rfl
          · split at hst
            · cases hst
            · split at hst
              · cases hst
              · cases hst; rfl) (fun _ _ => by
        unfold slip_Check_loop1
        dsimp only
        rw [nlt_len, if_neg (by decide)])
      rw [show (0 : Int) = ((0 : Nat) : Int) from rfl, key, bs]
      cases foldE chkStep' (fun _ => Sum.inl ()) none L <;> rfl
end WB
namespace WB
open Go Go.RowKit

/-! ### Costs -/

def wStep (seen : List (List UInt8)) (x : Wt) : List (List UInt8) ⊕ (Unit ⊕ Int) :=
  if nameB x.1 = false then .inr (.inr 12) else if x.2 < 1 ∨ x.2 > 1000000 then .inr (.inr 2) else if (seen.any fun y => y == x.1) = true then .inr (.inr 7) else .inl (seen ++ [x.1])
def costS (l : List Wt) : Int := if (l.length : Int) > 64 then 5 else match foldE wStep (fun _ => Sum.inl ()) [] l with
  | .inl _ => 0
  | .inr e => e
def seenM (seen : List (List UInt8)) : List (List UInt8 × Bool) := seen.map fun k => (k, true)
theorem eqS' (a b : List UInt8) : eqZ Ty.str a b = (a == b) := rfl
theorem seen_get (k : List UInt8) : ∀ seen, (alGet (eqZ Ty.str) (zeroT Ty.bool) k (seenM seen)).1 = seen.any fun y => y == k
  | [] => rfl
  | y :: seen => by
    show (if eqZ Ty.str k y = true then (true, true) else alGet (eqZ Ty.str) (zeroT Ty.bool) k (seenM seen)).1 = _
    rw [eqS', List.any_cons]
    by_cases h : k = y
    · subst h; simp
    · have h1 : (k == y) = false := by simpa using h
      have h2 : (y == k) = false := by simpa using fun e : y = k => h e.symm
      rw [h1, if_neg (by decide), h2, Bool.false_or]
      exact seen_get k seen
theorem seen_put (k : List UInt8) : ∀ seen, (seen.any fun y => y == k) = false → alPut (eqZ Ty.str) k true (seenM seen) = seenM (seen ++ [k])
  | [], _ => rfl
  | y :: seen, h => by
    rw [List.any_cons, Bool.or_eq_false_iff] at h
    have h1 : ¬ eqZ Ty.str k y = true := by
      rw [eqS']
      intro e
      have : k = y := by simpa using e
      subst this
      simp at h
    show (if eqZ Ty.str k y = true then _ else (y, true) :: alPut (eqZ Ty.str) k true (seenM seen)) = _
    rw [if_neg h1, seen_put k seen h.2]
    rfl
theorem pcheck_eq (l : List Wt) : post_check l = some (costS l) := by
  unfold post_check costS
  dsimp only
  by_cases hn : (l.length : Int) > 64
  · rw [decide_eq_true hn, if_pos rfl, if_pos hn]
  · rw [decide_eq_false hn, if_neg (by decide), if_neg hn]
    have key := iter_fold0 (b := post_check_loop1) (α := Wt) (A := List (List UInt8)) (fun k seen => (l, (l.length : Int), (k : Int), seenM seen, (), ())) wStep (fun _ => Sum.inl ()) (fun _ _ => True) l (a := []) trivial (fun i x seen hx _ => by
      have hi := (List.getElem?_eq_some_iff.1 hx).1
      unfold post_check_loop1 wStep
      dsimp only
      simp only [gPi, gSS, gPb, gPm, gPs, gM, gM2, gAnd, gOr, gAndI, gOrI, gAA, gAO, gOA, gOO, gAAf, gAOf, gOAf, gOOf, gAMf, gOMf, gId]
      try simp only [gIn1, gIn2, gIn3, gIn4, gIn5, gIn6, gIn7, gIn8, gId, gIdF, gMb, gMm, gBm, gBb, bs, ms]
      rw [lt_len hx, if_pos rfl, lAt_nat hx, bs, pname_eq, bs]
      cases hnm : nameB x.1 with
      | false => rfl
      | true =>
        rw [if_neg (show ¬ ((!true) = true) by decide), if_neg (show ¬ (true = false) by decide)]
        by_cases h1 : x.2 < 1
        · rw [decide_eq_true h1, if_pos rfl, bs, if_pos (show x.2 < 1 ∨ x.2 > 1000000 from .inl h1)]
          rfl
        · rw [decide_eq_false h1, if_neg (show ¬ (false = true) by decide), bs]
          dsimp only
          by_cases h2 : x.2 > 1000000
          · rw [decide_eq_true h2, if_pos rfl, if_pos (show x.2 < 1 ∨ x.2 > 1000000 from .inr h2)]
            rfl
          · rw [decide_eq_false h2, if_neg (show ¬ (false = true) by decide), if_neg (show ¬ (x.2 < 1 ∨ x.2 > 1000000) by omega), seen_get]
            cases h3 : (seen.any fun y => y == x.1) with
            | true => rfl
            | false => rw [if_neg (show ¬ (false = true) by decide), if_neg (show ¬ (false = true) by decide), seen_put _ _ h3, w_succ (by omega)]; rfl) (fun _ _ _ _ _ _ _ => trivial) (fun _ _ => by
      unfold post_check_loop1
      dsimp only
      rw [nlt_len, if_neg (by decide)])
    rw [show (0 : Int) = ((0 : Nat) : Int) from rfl]
    rw [show ([] : List (List UInt8 × Bool)) = seenM [] from rfl, key, bs]
    cases foldE wStep (fun _ => Sum.inl ()) [] l <;> rfl
theorem dup_loop {L : List Wt} {i : Nat} {xi : Wt} (hx : L[i]? = some xi) (hi : i < 1000) : iter law34_check_loop1 (L, (i : Int), 0, ()) = some (if (((L.take i).map (·.1)).any fun y => y == xi.1) = true then .inr 7 else .inl (L, (i : Int), ())) := by
  have hil := (List.getElem?_eq_some_iff.1 hx).1
  have key := iter_fold0 (b := law34_check_loop1) (α := Wt) (A := Unit) (fun k _ => (L, (i : Int), (k : Int), ())) (fun _ y => if (y.1 == xi.1) = true then .inr (.inr 7) else .inl ())
    (fun _ => .inl (L, (i : Int), ())) (fun _ _ => True) (L.take i) (a := ()) trivial (fun k y _ hy _ => by
      have hlt := (List.getElem?_eq_some_iff.1 hy).1
      have hk : k < i := by simp at hlt; omega
      have hy' : L[k]? = some y := by rw [List.getElem?_take_of_lt hk] at hy; exact hy
      unfold law34_check_loop1
      dsimp only
      rw [decide_eq_true (show (k : Int) < (i : Int) by omega), if_pos rfl, lAt_nat hy']
      simp only [ms, bs]
      rw [lAt_nat hx]
      simp only [ms, bs]
      cases h : (y.1 == xi.1) with
      | true => rfl
      | false => rw [if_neg (by decide), if_neg (by decide), w_succ (by omega)]; rfl) (fun _ _ _ _ _ _ _ => trivial) (fun _ _ => by
      unfold law34_check_loop1
      dsimp only
      rw [List.length_take, show min i L.length = i by omega, decide_eq_false (by omega), if_neg (by decide)])
  refine key.trans ?_
  congr 1
  generalize L.take i = M
  clear key
  induction M with
  | nil => rfl
  | cons y M ih =>
    rw [foldE, List.map_cons, List.any_cons]
    cases h : (y.1 == xi.1) with
    | true => simp [h]
    | false => rw [if_neg (by decide), Bool.false_or]; exact ih
theorem lcheck_eq (l : List Wt) : law34_check l = some (costS l) := by
  unfold law34_check costS
  dsimp only
  by_cases hn : (l.length : Int) > 64
  · rw [decide_eq_true hn, if_pos rfl, if_pos hn]
  · rw [decide_eq_false hn, if_neg (by decide), if_neg hn]
    have key := iter_fold0 (b := law34_check_loop2) (α := Wt) (A := List (List UInt8)) (fun k _ => (l, (k : Int), ())) wStep (fun _ => Sum.inl ()) (fun k seen => seen = (l.take k).map (·.1)) l (a := []) (by simp) (fun i x seen hx hs => by
      have hi := (List.getElem?_eq_some_iff.1 hx).1
      unfold law34_check_loop2 wStep
      dsimp only
      simp only [gPi, gSS, gPb, gPm, gPs, gM, gM2, gAnd, gOr, gAndI, gOrI, gAA, gAO, gOA, gOO, gAAf, gAOf, gOAf, gOOf, gAMf, gOMf, gId]
      try simp only [gIn1, gIn2, gIn3, gIn4, gIn5, gIn6, gIn7, gIn8, gId, gIdF, gMb, gMm, gBm, gBb, bs, ms]
      rw [lt_len hx, if_pos rfl]
      simp only [lAt_nat hx, bs]
      rw [refName_eq, bs]
      cases hnm : nameB x.1 with
      | false => rfl
      | true =>
        rw [if_neg (show ¬ ((!true) = true) by decide), if_neg (show ¬ (true = false) by decide)]
        by_cases h1 : x.2 < 1
        · rw [decide_eq_true h1, if_pos rfl, bs, if_pos (show x.2 < 1 ∨ x.2 > 1000000 from .inl h1)]
          rfl
        · rw [decide_eq_false h1, if_neg (show ¬ (false = true) by decide), bs]
          by_cases h2 : x.2 > 1000000
          · rw [decide_eq_true h2, if_pos rfl, if_pos (show x.2 < 1 ∨ x.2 > 1000000 from .inr h2)]
            rfl
          · rw [decide_eq_false h2, if_neg (show ¬ (false = true) by decide), if_neg (show ¬ (x.2 < 1 ∨ x.2 > 1000000) by omega), dup_loop hx (by omega), bs, ← hs]
            cases h3 : (seen.any fun y => y == x.1) with
            | true => rfl
            | false =>
              rw [if_neg (show ¬ (false = true) by decide), if_neg (show ¬ (false = true) by decide)]
              dsimp only
              rw [w_succ (by omega)]; rfl) (fun i x seen seen' hx hs hst => by
      have : seen' = seen ++ [x.1] := by
        unfold wStep at hst
        split at hst
        · cases hst
        · split at hst
          · cases hst
          · split at hst
            · cases hst
            · cases hst; rfl
      rw [this, hs, List.take_add_one, hx]; simp) (fun _ _ => by
      unfold law34_check_loop2
      dsimp only
      rw [nlt_len, if_neg (by decide)])
    rw [show (0 : Int) = ((0 : Nat) : Int) from rfl, key, bs]
    cases foldE wStep (fun _ => Sum.inl ()) [] l <;> rfl
/-- A right cost: its names and weights. -/
theorem cost_ok : ∀ (l : List Wt) (seen : List (List UInt8)), foldE wStep (fun _ => (Sum.inl () : Unit ⊕ Int)) seen l = .inl () → ∀ x ∈ l, nameB x.1 = true ∧ 1 ≤ x.2 ∧ x.2 ≤ 1000000
  | [], seen, _, x, hx => by cases hx
  | y :: l, seen, h, x, hx => by
    rw [foldE] at h
    unfold wStep at h
    by_cases h1 : nameB y.1 = false
    · rw [if_pos h1] at h; cases h
    · rw [if_neg h1] at h
      by_cases h2 : y.2 < 1 ∨ y.2 > 1000000
      · rw [if_pos h2] at h; cases h
      · rw [if_neg h2] at h
        by_cases h3 : (seen.any fun z => z == y.1) = true
        · rw [if_pos h3] at h; cases h
        · rw [if_neg h3] at h
          rcases List.mem_cons.1 hx with rfl | hx
          · exact ⟨by simpa using h1, by omega, by omega⟩
          · exact cost_ok l _ h x hx
theorem wStep_pos : ∀ (l : List Wt) (seen : List (List UInt8)), foldE wStep (fun _ => (Sum.inl () : Unit ⊕ Int)) seen l = .inl () ∨ ∃ e, e ≠ 0 ∧ foldE wStep (fun _ => (Sum.inl () : Unit ⊕ Int)) seen l = .inr e
  | [], seen => .inl rfl
  | y :: l, seen => by
    rw [foldE]
    unfold wStep
    by_cases h1 : nameB y.1 = false
    · rw [if_pos h1]; exact .inr ⟨12, by decide, rfl⟩
    · rw [if_neg h1]
      by_cases h2 : y.2 < 1 ∨ y.2 > 1000000
      · rw [if_pos h2]; exact .inr ⟨2, by decide, rfl⟩
      · rw [if_neg h2]
        by_cases h3 : (seen.any fun z => z == y.1) = true
        · rw [if_pos h3]; exact .inr ⟨7, by decide, rfl⟩
        · rw [if_neg h3]; exact wStep_pos l _
theorem costS_zero {l : List Wt} (h : costS l = 0) : l.length ≤ 64 ∧ ∀ x ∈ l, nameB x.1 = true ∧ 1 ≤ x.2 ∧ x.2 ≤ 1000000 := by
  unfold costS at h
  by_cases hn : (l.length : Int) > 64
  · rw [if_pos hn] at h; cases h
  · rw [if_neg hn] at h
    refine ⟨by omega, ?_⟩
    rcases wStep_pos l [] with h1 | ⟨e, h1, h2⟩
    · exact cost_ok l [] h1
    · rw [h2] at h; exact absurd h h1
theorem nameB_len {s : List UInt8} (h : nameB s = true) : s.length ≤ 32 := by
  simp only [nameB, Bool.and_eq_true, decide_eq_true_eq] at h
  omega

/-! ### Entries -/

def entS (d c : List UInt8) (x : Int) (n : List UInt8) : List (List UInt8 × List UInt8 × Int × List UInt8) := if x = 0 then [] else if x < 0 then [(c, d, -x, n)] else [(d, c, x, n)]
theorem entS_len (d c : List UInt8) (x : Int) (n : List UInt8) : (entS d c x n).length ≤ 1 := by
  unfold entS
  split
  · simp
  · split <;> simp
theorem pentry_eq {d c n : List UInt8} {x : Int} (hx : -4611686018427387904 ≤ x ∧ x ≤ 4611686018427387904) : post_entry (d, c, x, n) = some (entS d c x n) := by
  unfold post_entry entS
  dsimp only
  by_cases h0 : x = 0
  · have e : (x == 0) = true := by simpa using h0
    rw [e, if_pos rfl, if_pos h0]; rfl
  · have e : (x == 0) = false := by simpa using h0
    rw [e, if_neg (by decide), if_neg h0]
    by_cases h1 : x < 0
    · rw [decide_eq_true h1, if_pos rfl, if_pos h1, bs]
      dsimp only
      rw [w64' (n := 0 - x) (by omega) (by omega), Int.zero_sub]
    · rw [decide_eq_false h1, if_neg (by decide), if_neg h1]; rfl
theorem lentry_eq {d c n : List UInt8} {x : Int} (hx : -4611686018427387904 ≤ x ∧ x ≤ 4611686018427387904) (h0 : x ≠ 0) : ∃ e, law34_entry (d, c, x, n) = some e ∧ [e] = entS d c x n := by
  unfold law34_entry law34_entry_0 entS
  dsimp only
  try simp only [gPi, gSS, gPb, gPm, gPs, gM, gM2, gAnd, gOr, gAndI, gOrI, gAA, gAO, gOA, gOO, gAAf, gAOf, gOAf, gOOf, gAMf, gOMf, gId]
  try simp only [gIn1, gIn2, gIn3, gIn4, gIn5, gIn6, gIn7, gIn8, gId, gIdF, gMb, gMm, gBm, gBb, bs, ms]
  rw [if_neg h0]
  by_cases h1 : x < 0
  · rw [decide_eq_true h1, if_pos rfl, if_pos h1, w64' (n := 0 - x) (by omega) (by omega), decide_eq_false (show ¬ (0 - x < 0) by omega), if_neg (by decide), bs, Int.zero_sub]
    exact ⟨_, rfl, rfl⟩
  · rw [decide_eq_false h1, if_neg (by decide), if_neg h1]
    exact ⟨_, rfl, rfl⟩
abbrev Ents := List (List UInt8 × List UInt8 × Int × List UInt8)
/-- The entries of an amount's parts. -/
def splitE (word to : List UInt8) (note : List UInt8) (z : List (Int × Wt)) : Ents := z.flatMap fun p => entS (word ++ [47] ++ p.2.1) to p.1 note
def toS (k : Unit ⊕ Unit) (code : List UInt8) : List UInt8 := match k with
  | .inl _ => [110, 101, 116]
  | .inr _ => [111, 119, 101, 100, 47, 115, 111, 99, 105, 97, 108, 47] ++ code
theorem flat_len {α β : Type} (f : α → List β) (k : Nat) (h : ∀ x, (f x).length ≤ k) : ∀ l : List α, (l.flatMap f).length ≤ k * l.length
  | [] => by simp
  | x :: l => by
    have h1 := h x
    have h2 := flat_len f k h l
    simp only [List.flatMap_cons, List.length_append, List.length_cons]
    rw [Nat.mul_add]; omega
theorem zip_get {α β : Type} {l : List α} {m : List β} {i : Nat} {p : α × β} (h : (l.zip m)[i]? = some p) : l[i]? = some p.1 ∧ m[i]? = some p.2 := by
  rw [List.getElem?_zip_eq_some] at h
  exact h
theorem split1_eq {l : Ln} {cost : List Wt} {word : List UInt8} {k : Unit ⊕ Unit} (hw : word.length ≤ 16) (hc : WsOk (cost.map (·.2))) (hn : ∀ x ∈ cost, x.1.length ≤ 32) (hl : l.2.1.length ≤ 32) (hx : -1125899906842624 ≤ l.2.2 ∧ l.2.2 ≤ 1125899906842624) :
    post_split_1 (l, cost, word, k) = some (splitE word (toS k l.2.1) l.2.1 ((partsF (cost.map (·.2)) l.2.2).zip cost)) := by
  obtain ⟨p, code, c⟩ := l
  simp only at hl hx ⊢
  have hlen : cost.length ≤ 64 := by simpa using hc.len
  have k2 := iter_fold0 (b := post_split_1_loop2) (α := Wt) (A := List Int) (fun i acc => (cost, word, k, cost, (cost.length : Int), (i : Int), p, code, c, acc, (), (), (), ())) (fun acc x => .inl (acc ++ [x.2])) (fun acc => (cost, word, k, p, code, c, acc, (), (), (), ()))
    (fun i acc => acc.length ≤ i) cost (a := []) (by simp) (fun i x acc hx' ha => by
      have hi := (List.getElem?_eq_some_iff.1 hx').1
      unfold post_split_1_loop2
      dsimp only
      rw [lt_len hx', if_pos rfl, lAt_nat hx']
      simp only [ms, bs]
      rw [appOk' (by simp; omega) (by decide), bs, w_succ (by omega)]; rfl) (fun i x acc acc' hx' ha e => by cases e; simp; exact ha) (fun acc _ => by
      unfold post_split_1_loop2
      dsimp only
      rw [nlt_len, if_neg (by decide)])
  rw [foldE_app (fun x : Wt => [x.2]), show ((0 : Nat) : Int) = 0 from rfl] at k2
  have e2 : ∀ m : List Wt, (m.flatMap fun x : Wt => [x.2]) = m.map (·.2) := by
    intro m
    induction m with
    | nil => rfl
    | cons x l ih => simp [List.flatMap_cons, ih]
  rw [List.nil_append, e2] at k2
  obtain ⟨s1, s2, s3, s4⟩ := partsF_ok hc hx
  unfold post_split_1
  dsimp only
  rw [k2, bs]
  dsimp only
  rw [s1, bs]
  dsimp only
  generalize partsF (cost.map (·.2)) c = ps at *
  rw [List.length_map] at s2
  have hzl : (ps.zip cost).length = ps.length := by simp; omega
  have k1 := iter_fold0 (b := post_split_1_loop1) (α := Int × Wt) (A := Ents) (fun i acc => (cost, word, k, ps, (ps.length : Int), (i : Int), p, code, c, acc, (), (), (), ())) (fun acc z => .inl (acc ++ entS (word ++ [47] ++ z.2.1) (toS k code) z.1 code)) (fun acc => (acc, (), ()))
    (fun i acc => acc.length ≤ i) (ps.zip cost) (a := []) (by simp) (fun i z acc hz ha => by
      have hi := (List.getElem?_eq_some_iff.1 hz).1
      obtain ⟨z1, z2⟩ := zip_get hz
      have hz1 := s4 z.1 (List.mem_of_getElem? z1)
      have hz2 := hn z.2 (List.mem_of_getElem? z2)
      have hel := fun to => entS_len (word ++ [47] ++ z.2.1) to z.1 code
      unfold post_split_1_loop1
      dsimp only
      rw [lt_len z1, if_pos rfl, lAt_nat z1]
      simp only [ms, bs]
      rw [if_pos (by simp; omega), bs, lAt_nat z2]
      simp only [ms, bs]
      rw [if_pos (by simp; omega), bs]
      have h1 : post_ways_1 (p, code, c) = some [110, 101, 116] := rfl
      have h2 : post_ways_2 (p, code, c) = some ([111, 119, 101, 100, 47, 115, 111, 99, 105, 97, 108, 47] ++ code) := by
        unfold post_ways_2
        dsimp only
        rw [if_pos (by simp; omega)]; rfl
      clear k2
      cases k with
      | inl u =>
        dsimp only
        rw [h1, ms, bs]
        rw [pentry_eq ⟨by omega, by omega⟩, bs, appOk' (Nat.le_trans (Nat.add_le_add ha (hel _)) (by omega)) (by decide), bs, w_succ (by omega)]; rfl
      | inr u =>
        dsimp only
        rw [h2, ms, bs]
        rw [pentry_eq ⟨by omega, by omega⟩, bs, appOk' (Nat.le_trans (Nat.add_le_add ha (hel _)) (by omega)) (by decide), bs, w_succ (by omega)]; rfl) (fun i z acc acc' hz ha e => by
      cases e
      have hel := entS_len (word ++ [47] ++ z.2.1) (toS k code) z.1 code
      simp only [List.length_append]; omega) (fun acc _ => by
      unfold post_split_1_loop1
      dsimp only
      rw [hzl, nlt_len, if_neg (by decide)])
  rw [foldE_app (fun z : Int × Wt => entS (word ++ [47] ++ z.2.1) (toS k code) z.1 code), show ((0 : Nat) : Int) = 0 from rfl, List.nil_append] at k1
  rw [k1]
  rfl
end WB
namespace WB
open Go Go.RowKit

def wordsL : List (List UInt8) := [[], [98, 101, 102, 111, 114, 101], [119, 111, 114, 107, 101, 114], [116, 97, 120], [97, 102, 116, 101, 114], [111, 114, 100, 101, 114, 115], []]
def owedT (w code : List UInt8) : List UInt8 := [111, 119, 101, 100, 47] ++ w ++ [47] ++ code
noncomputable def lineE (cost : List Wt) (l : Ln) : Ents :=
  if l.1 = 0 then splitE [119, 97, 103, 101, 115] (toS (.inl ()) l.2.1) l.2.1 ((partsF (cost.map (·.2)) l.2.2).zip cost)
  else if l.1 = 6 then splitE [102, 105, 114, 109] (toS (.inr ()) l.2.1) l.2.1 ((partsF (cost.map (·.2)) l.2.2).zip cost)
  else entS [110, 101, 116] (owedT (wordsL.getD l.1.toNat []) l.2.1) l.2.2 l.2.1
structure CostOk (cost : List Wt) : Prop where
  ws : WsOk (cost.map (·.2))
  nm : ∀ x ∈ cost, nameB x.1 = true
structure LineOk (l : Ln) : Prop where
  p : 0 ≤ l.1 ∧ l.1 < 7
  nm : nameB l.2.1 = true
  ne : l.2.2 ≠ 0
  r : -1125899906842624 ≤ l.2.2 ∧ l.2.2 ≤ 1125899906842624
theorem lineS_ok {l : Ln} (h : lineS l = 0) : LineOk l := by
  unfold lineS at h
  by_cases h1 : l.1 < 0 ∨ l.1 ≥ 7
  · rw [if_pos h1] at h; cases h
  · rw [if_neg h1] at h
    by_cases h2 : nameB l.2.1 = false
    · rw [if_pos h2] at h; cases h
    · rw [if_neg h2] at h
      by_cases h3 : l.2.2 = 0
      · rw [if_pos h3] at h; cases h
      · rw [if_neg h3] at h
        by_cases h4 : fitD l.2.2 = false
        · rw [if_pos h4] at h; cases h
        · exact ⟨by omega, by simpa using h2, h3, fitD_iff.1 (by simpa using h4)⟩
theorem splitE_len {word to note : List UInt8} (z : List (Int × Wt)) : (splitE word to note z).length ≤ z.length := by
  have := flat_len (fun p : Int × Wt => entS (word ++ [47] ++ p.2.1) to p.1 note) 1 (fun p => entS_len _ _ _ _) z
  unfold splitE
  omega
theorem lineE_len {cost : List Wt} (h : cost.length ≤ 64) (h0 : 0 < cost.length) (l : Ln) : (lineE cost l).length ≤ 64 := by
  unfold lineE
  split
  · exact Nat.le_trans (splitE_len _) (by simp; omega)
  · split
    · exact Nat.le_trans (splitE_len _) (by simp; omega)
    · exact Nat.le_trans (entS_len _ _ _ _) (by omega)
theorem CostOk.len {cost : List Wt} (h : CostOk cost) : cost.length ≤ 64 ∧ 0 < cost.length := by
  have h1 := h.ws.len
  have h2 := List.length_pos_iff.2 h.ws.ne
  rw [List.length_map] at h1 h2
  exact ⟨h1, h2⟩
theorem owed1_eq {l : Ln} {w : List UInt8} (hl : LineOk l) (hw : w.length ≤ 16) : post_owed_1 (l, w) = some (entS [110, 101, 116] (owedT w l.2.1) l.2.2 l.2.1) := by
  have hn := nameB_len hl.nm
  have hr := hl.r
  unfold post_owed_1 owedT
  dsimp only
  rw [if_pos (by simp; omega), bs, if_pos (by simp; omega), bs, if_pos (by simp; omega), bs, pentry_eq ⟨by omega, by omega⟩, bs]
abbrev WayT := (List Wt × List UInt8 × (Unit ⊕ Unit)) ⊕ List UInt8
def waysL (cost : List Wt) : List WayT := [.inl (cost, [119, 97, 103, 101, 115], .inl ()), .inr [98, 101, 102, 111, 114, 101], .inr [119, 111, 114, 107, 101, 114], .inr [116, 97, 120], .inr [97, 102, 116, 101, 114], .inr [111, 114, 100, 101, 114, 115], .inl (cost, [102, 105, 114, 109], .inr ())]
noncomputable def wayE (w : WayT) (l : Ln) : Option Ents := match w with
  | .inl c => (post_split_1 (l, c.1, c.2.1, c.2.2)).map (fun v => v)
  | .inr c => (post_owed_1 (l, c)).map (fun v => v)
theorem way_eq {cost : List Wt} (hc : CostOk cost) {l : Ln} (hl : LineOk l) : ∃ w, (waysL cost)[l.1.toNat]? = some w ∧ wayE w l = some (lineE cost l) := by
  have hn := nameB_len hl.nm
  have hp := hl.p
  have hnm : ∀ x ∈ cost, x.1.length ≤ 32 := fun x hx => nameB_len (hc.nm x hx)
  unfold lineE
  have cases7 : l.1 = 0 ∨ l.1 = 1 ∨ l.1 = 2 ∨ l.1 = 3 ∨ l.1 = 4 ∨ l.1 = 5 ∨ l.1 = 6 := by omega
  rcases cases7 with h | h | h | h | h | h | h
  · rw [if_pos h, h]
    refine ⟨_, rfl, ?_⟩
    show (post_split_1 (l, cost, [119, 97, 103, 101, 115], .inl ())).map (fun v => v) = _
    rw [split1_eq (by decide) hc.ws hnm hn hl.r]; rfl
  · rw [if_neg (by omega), if_neg (by omega), h]
    refine ⟨_, rfl, ?_⟩
    show (post_owed_1 (l, [98, 101, 102, 111, 114, 101])).map (fun v => v) = _
    rw [owed1_eq hl (by decide)]; rfl
  · rw [if_neg (by omega), if_neg (by omega), h]
    refine ⟨_, rfl, ?_⟩
    show (post_owed_1 (l, [119, 111, 114, 107, 101, 114])).map (fun v => v) = _
    rw [owed1_eq hl (by decide)]; rfl
  · rw [if_neg (by omega), if_neg (by omega), h]
    refine ⟨_, rfl, ?_⟩
    show (post_owed_1 (l, [116, 97, 120])).map (fun v => v) = _
    rw [owed1_eq hl (by decide)]; rfl
  · rw [if_neg (by omega), if_neg (by omega), h]
    refine ⟨_, rfl, ?_⟩
    show (post_owed_1 (l, [97, 102, 116, 101, 114])).map (fun v => v) = _
    rw [owed1_eq hl (by decide)]; rfl
  · rw [if_neg (by omega), if_neg (by omega), h]
    refine ⟨_, rfl, ?_⟩
    show (post_owed_1 (l, [111, 114, 100, 101, 114, 115])).map (fun v => v) = _
    rw [owed1_eq hl (by decide)]; rfl
  · rw [if_neg (by omega), if_pos h, h]
    refine ⟨_, rfl, ?_⟩
    show (post_split_1 (l, cost, [102, 105, 114, 109], .inr ())).map (fun v => v) = _
    rw [split1_eq (by decide) hc.ws hnm hn hl.r]; rfl
theorem of_loop {cost : List Wt} (hc : CostOk cost) {L : List Ln} (hL : ∀ x ∈ L, LineOk x) (hn : L.length ≤ 1000) :
    iter post_Of_loop1 (L, (L.length : Int), 0, .inl (cost, [119, 97, 103, 101, 115], .inl ()), .inr [98, 101, 102, 111, 114, 101], .inr [119, 111, 114, 107, 101, 114], .inr [116, 97, 120], .inr [97, 102, 116, 101, 114], .inr [111, 114, 100, 101, 114, 115], .inl (cost, [102, 105, 114, 109], .inr ()), [], (), (), (), ()) = some (L.flatMap (lineE cost), (), ()) := by
  have key := iter_fold0 (b := post_Of_loop1) (α := Ln) (A := Ents) (fun i acc => (L, (L.length : Int), (i : Int), .inl (cost, [119, 97, 103, 101, 115], .inl ()), .inr [98, 101, 102, 111, 114, 101], .inr [119, 111, 114, 107, 101, 114], .inr [116, 97, 120], .inr [97, 102, 116, 101, 114], .inr [111, 114, 100, 101, 114, 115], .inl (cost, [102, 105, 114, 109], .inr ()), acc, (), (), (), ()))
    (fun acc x => .inl (acc ++ lineE cost x)) (fun acc => (acc, (), ())) (fun i acc => acc.length ≤ 64 * i) L (a := []) (by simp) (fun i x acc hx ha => by
      have hi := (List.getElem?_eq_some_iff.1 hx).1
      have hl := hL x (List.mem_of_getElem? hx)
      have hp := hl.p
      have hlen := lineE_len hc.len.1 hc.len.2 x
      obtain ⟨w, w1, w2⟩ := way_eq hc hl
      unfold post_Of_loop1
      dsimp only
      rw [lt_len hx, if_pos rfl, lAt_nat hx, ms, bs, if_pos ⟨hp.1, hp.2⟩, bs]
      change (Option.bind ((waysL cost)[x.1.toNat]?) _) = _
      rw [w1, bs]
      change (Option.bind (wayE w x) _) = _
      rw [w2, bs, appOk' (by omega) (by decide), bs, w_succ (by omega)]; rfl) (fun i x acc acc' hx ha e => by
      cases e
      have hlen := lineE_len hc.len.1 hc.len.2 x
      simp only [List.length_append]; omega) (fun acc _ => by
      unfold post_Of_loop1
      dsimp only
      rw [nlt_len, if_neg (by decide)])
  rw [foldE_app (lineE cost), List.nil_append] at key
  exact key
def costD (cost : List Wt) : List Wt := if cost = [] then [([102, 105, 114, 109], 1)] else cost
theorem costD_ok {cost : List Wt} (h : costS cost = 0) : CostOk (costD cost) := by
  obtain ⟨h1, h2⟩ := costS_zero h
  unfold costD
  split
  · refine ⟨⟨by simp, by simp, fun x hx => ?_⟩, fun x hx => ?_⟩
    · simp at hx; omega
    · rw [List.mem_singleton.1 hx]; decide
  · rename_i h0
    refine ⟨⟨by simpa using h0, by simpa using h1, fun x hx => ?_⟩, fun x hx => (h2 x hx).1⟩
    obtain ⟨y, hy, rfl⟩ := List.mem_map.1 hx
    exact (h2 y hy).2
theorem chk_lines : ∀ (L : List Ln) (pr : Option Ln), foldE chkStep' (fun _ => (Sum.inl () : Unit ⊕ Int)) pr L = .inl () ∨ ∃ e, e ≠ 0 ∧ foldE chkStep' (fun _ => (Sum.inl () : Unit ⊕ Int)) pr L = .inr e
  | [], _ => .inl rfl
  | x :: L, pr => by
    rw [foldE]
    unfold chkStep'
    by_cases h1 : lineS x ≠ 0
    · rw [if_pos h1]; exact .inr ⟨_, h1, rfl⟩
    · rw [if_neg h1]
      cases pr with
      | none => exact chk_lines L _
      | some p =>
        dsimp only
        by_cases h2 : (p.1 == x.1 && p.2.1 == x.2.1) = true
        · rw [if_pos h2]; exact .inr ⟨7, by decide, rfl⟩
        · rw [if_neg h2]
          by_cases h3 : lessS p x = false
          · rw [if_pos h3]; exact .inr ⟨8, by decide, rfl⟩
          · rw [if_neg h3]; exact chk_lines L _
theorem chk_all : ∀ (L : List Ln) (pr : Option Ln), foldE chkStep' (fun _ => (Sum.inl () : Unit ⊕ Int)) pr L = .inl () → ∀ x ∈ L, lineS x = 0
  | [], _, _, x, hx => by cases hx
  | y :: L, pr, h, x, hx => by
    rw [foldE] at h
    unfold chkStep' at h
    by_cases h1 : lineS y ≠ 0
    · rw [if_pos h1] at h; cases h
    · rw [if_neg h1] at h
      rcases List.mem_cons.1 hx with rfl | hx
      · simpa using h1
      · cases pr with
        | none => exact chk_all L _ h x hx
        | some p =>
          dsimp only at h
          by_cases h2 : (p.1 == y.1 && p.2.1 == y.2.1) = true
          · rw [if_pos h2] at h; cases h
          · rw [if_neg h2] at h
            by_cases h3 : lessS p y = false
            · rw [if_pos h3] at h; cases h
            · rw [if_neg h3] at h; exact chk_all L _ h x hx
theorem slipS_ok {s : Int × Int × List Ln} (h : slipS s = 0) : s.2.2.length ≤ 448 ∧ ∀ x ∈ s.2.2, LineOk x := by
  unfold slipS at h
  by_cases h0 : s.1 < 1900 ∨ s.1 > 2199 ∨ s.2.1 < 1 ∨ s.2.1 > 400
  · rw [if_pos h0] at h; cases h
  · rw [if_neg h0] at h
    by_cases h1 : (s.2.2.length : Int) > 448
    · rw [if_pos h1] at h; cases h
    · rw [if_neg h1] at h
      refine ⟨by omega, fun x hx => lineS_ok ?_⟩
      rcases chk_lines s.2.2 none with h2 | ⟨e, h2, h3⟩
      · exact chk_all _ _ h2 x hx
      · rw [h3] at h; exact absurd h h2
/-- What Of tells. -/
noncomputable def ofS' (s : Int × Int × List Ln) (cost : List Wt) : Ents × Int := if slipS s ≠ 0 then ([], slipS s) else if costS cost ≠ 0 then ([], costS cost) else (s.2.2.flatMap (lineE (costD cost)), 0)
theorem pOf_eq (s : Int × Int × List Ln) (cost : List Wt) : post_Of (s, cost) = some (ofS' s cost) := by
  obtain ⟨y, ix, L⟩ := s
  unfold post_Of ofS'
  dsimp only
  rw [slip_eq, bs]
  by_cases h0 : slipS (y, ix, L) = 0
  · have d : (slipS (y, ix, L) != 0) = false := by simpa using h0
    rw [d, if_neg (show ¬ (false = true) by decide), if_neg (show ¬ (slipS (y, ix, L) ≠ 0) by simpa using h0), pcheck_eq, bs]
    by_cases h1 : costS cost = 0
    · have d1 : (costS cost != 0) = false := by simpa using h1
      rw [d1, if_neg (show ¬ (false = true) by decide), if_neg (show ¬ (costS cost ≠ 0) by simpa using h1)]
      have hD : (if ((cost.length : Int) == 0) = true then some ([(([102, 105, 114, 109] : List UInt8), (1 : Int))], y, ix, L, (), (), ()) else some (cost, y, ix, L, (), (), ())) = some (costD cost, y, ix, L, (), (), ()) := by
        unfold costD
        cases cost with
        | nil => rfl
        | cons x l => rw [if_neg (by simp; omega), if_neg (by simp)]
      rw [hD, bs]
      obtain ⟨g1, g2⟩ := slipS_ok h0
      have g1' : L.length ≤ 448 := g1
      have e := of_loop (costD_ok h1) g2 (by show L.length ≤ 1000; omega)
      have hw : post_ways (costD cost) = some (.inl (costD cost, [119, 97, 103, 101, 115], .inl ()), .inr [98, 101, 102, 111, 114, 101], .inr [119, 111, 114, 107, 101, 114], .inr [116, 97, 120], .inr [97, 102, 116, 101, 114], .inr [111, 114, 100, 101, 114, 115], .inl (costD cost, [102, 105, 114, 109], .inr ())) := rfl
      dsimp only
      rw [hw, bs]
      dsimp only
      rw [e, bs]
    · have d1 : (costS cost != 0) = true := by simpa using h1
      rw [d1, if_pos rfl, if_pos h1]
  · have d : (slipS (y, ix, L) != 0) = true := by simpa using h0
    rw [d, if_pos rfl, if_pos h0]
end WB
namespace WB
open Go Go.RowKit

theorem wl_loop {cost : List Wt} (hn : cost.length ≤ 64) (a b : Int) (L : List Ln) : iter law34_entries_loop3 (cost, 0, a, b, L, [], (), (), (), ()) = some (cost, a, b, L, cost.map (·.2), (), (), (), ()) := by
  have k2 := iter_fold0 (b := law34_entries_loop3) (α := Wt) (A := List Int) (fun i acc => (cost, (i : Int), a, b, L, acc, (), (), (), ())) (fun acc x => .inl (acc ++ [x.2])) (fun acc => (cost, a, b, L, acc, (), (), (), ()))
    (fun i acc => acc.length ≤ i) cost (a := []) (by simp) (fun i x acc hx' ha => by
      have hi := (List.getElem?_eq_some_iff.1 hx').1
      unfold law34_entries_loop3
      dsimp only
      rw [lt_len hx', if_pos rfl, lAt_nat hx']
      simp only [ms, bs]
      rw [appOk' (by simp; omega) (by decide), bs, w_succ (by omega)]; rfl) (fun i x acc acc' hx' ha e => by cases e; simp; exact ha) (fun acc _ => by
      unfold law34_entries_loop3
      dsimp only
      rw [nlt_len, if_neg (by decide)])
  rw [foldE_app (fun x : Wt => [x.2]), show ((0 : Nat) : Int) = 0 from rfl] at k2
  have e2 : ∀ m : List Wt, (m.flatMap fun x : Wt => [x.2]) = m.map (·.2) := by
    intro m
    induction m with
    | nil => rfl
    | cons x l ih => simp [List.flatMap_cons, ih]
  rw [List.nil_append, e2] at k2
  exact k2
theorem parts_loop {cost : List Wt} {ws : List Int} {word to code : List UInt8} {p c j y ix : Int} {ps : List Int} {L : List Ln} {words : List (List UInt8)} (h1 : ps.length = cost.length) (h2 : cost.length ≤ 64) (hw : word.length ≤ 16) (hn : ∀ x ∈ cost, x.1.length ≤ 32) (hp : ∀ x ∈ ps, -4503599627370496 ≤ x ∧ x ≤ 4503599627370496) (acc : Ents) (ha0 : acc.length ≤ 100000) :
    iter law34_entries_loop1 (cost, ws, j, word ++ [47], to, ps, 0, y, ix, L, p, code, c, words, acc, (), (), (), (), (), (), ()) = some (cost, ws, j, y, ix, L, words, acc ++ splitE word to code (ps.zip cost), (), (), (), (), ()) := by
  have hzl : (ps.zip cost).length = ps.length := by simp; omega
  have k1 := iter_fold0 (b := law34_entries_loop1) (α := Int × Wt) (A := Ents) (fun i acc => (cost, ws, j, word ++ [47], to, ps, (i : Int), y, ix, L, p, code, c, words, acc, (), (), (), (), (), (), ())) (fun acc z => .inl (acc ++ entS (word ++ [47] ++ z.2.1) to z.1 code)) (fun acc => (cost, ws, j, y, ix, L, words, acc, (), (), (), (), ()))
    (fun i acc => acc.length ≤ 100000 + i) (ps.zip cost) (a := acc) (by simpa using ha0) (fun i z acc hz ha => by
      have hi := (List.getElem?_eq_some_iff.1 hz).1
      obtain ⟨z1, z2⟩ := zip_get hz
      have hz1 := hp z.1 (List.mem_of_getElem? z1)
      have hz2 := hn z.2 (List.mem_of_getElem? z2)
      unfold law34_entries_loop1
      dsimp only
      simp only [gPi, gSS, gPb, gPm, gPs, gM, gM2, gAnd, gOr, gAndI, gOrI, gAA, gAO, gOA, gOO, gAAf, gAOf, gOAf, gOOf, gAMf, gOMf, gId]
      try simp only [gIn1, gIn2, gIn3, gIn4, gIn5, gIn6, gIn7, gIn8, gId, gIdF, gMb, gMm, gBm, gBb, bs, ms]
      rw [lt_len z1, if_pos rfl, lAt_nat z1, bs]
      by_cases h0 : z.1 = 0
      · have d : (z.1 != 0) = false := by simpa using h0
        rw [d, if_neg (by decide), bs]
        dsimp only
        have e : entS (word ++ [47] ++ z.2.1) to z.1 code = [] := by unfold entS; rw [if_pos h0]
        rw [e, List.append_nil, w_succ (by omega)]; rfl
      · have d : (z.1 != 0) = true := by simpa using h0
        obtain ⟨e, e1, e2⟩ := lentry_eq (d := word ++ [47] ++ z.2.1) (c := to) (n := code) (x := z.1) ⟨by omega, by omega⟩ h0
        rw [d, if_pos rfl, lAt_nat z2, bs, if_pos (by simp; omega), bs, e1, bs, appOk' (by simp; omega) (by decide), bs]
        dsimp only
        rw [w_succ (by omega), e2]; rfl) (fun i z acc acc' hz ha e => by
      cases e
      have hel := entS_len (word ++ [47] ++ z.2.1) to z.1 code
      simp only [List.length_append]; omega) (fun acc _ => by
      unfold law34_entries_loop1
      dsimp only
      rw [hzl, nlt_len, if_neg (by decide)])
  rw [foldE_app (fun z : Int × Wt => entS (word ++ [47] ++ z.2.1) to z.1 code), show ((0 : Nat) : Int) = 0 from rfl] at k1
  exact k1
theorem words_get {p : Int} (h : 0 ≤ p ∧ p < 7) : wordsL[p.toNat]? = some (wordsL.getD p.toNat []) ∧ (wordsL.getD p.toNat []).length ≤ 16 := by
  have cases7 : p = 0 ∨ p = 1 ∨ p = 2 ∨ p = 3 ∨ p = 4 ∨ p = 5 ∨ p = 6 := by omega
  rcases cases7 with h | h | h | h | h | h | h <;> subst h <;> exact ⟨rfl, by decide⟩
set_option maxHeartbeats 2000000 in
theorem lines_loop {cost : List Wt} (hc : CostOk cost) {L : List Ln} (hL : ∀ x ∈ L, LineOk x) (hn : L.length ≤ 1000) (y ix : Int) :
    iter law34_entries_loop2 (cost, cost.map (·.2), 0, y, ix, L, wordsL, [], (), (), (), (), ()) = some (L.flatMap (lineE cost), (), ()) := by
  have hnm : ∀ x ∈ cost, x.1.length ≤ 32 := fun x hx => nameB_len (hc.nm x hx)
  have key := iter_fold0 (b := law34_entries_loop2) (α := Ln) (A := Ents) (fun i acc => (cost, cost.map (·.2), (i : Int), y, ix, L, wordsL, acc, (), (), (), (), ()))
    (fun acc x => .inl (acc ++ lineE cost x)) (fun acc => (acc, (), ())) (fun i acc => acc.length ≤ 64 * i) L (a := []) (by simp) (fun i x acc hx ha => by
      have hi := (List.getElem?_eq_some_iff.1 hx).1
      have hl := hL x (List.mem_of_getElem? hx)
      have hp := hl.p
      have hcn := nameB_len hl.nm
      have hr := hl.r
      have hlen := lineE_len hc.len.1 hc.len.2 x
      obtain ⟨w1, w2⟩ := words_get hp
      obtain ⟨s1, s2, s3, s4⟩ := partsF_ok hc.ws hr
      rw [List.length_map] at s2
      unfold law34_entries_loop2
      dsimp only
      simp only [gPi, gSS, gPb, gPm, gPs, gM, gM2, gAnd, gOr, gAndI, gOrI, gAA, gAO, gOA, gOO, gAAf, gAOf, gOAf, gOOf, gAMf, gOMf, gId]
      try simp only [gIn1, gIn2, gIn3, gIn4, gIn5, gIn6, gIn7, gIn8, gId, gIdF, gMb, gMm, gBm, gBb, bs, ms]
      rw [lt_len hx, if_pos rfl, lAt_nat hx, bs]
      by_cases h0 : x.1 = 0
      · have d0 : (x.1 != 0) = false := by simpa using h0
        have d6 : (x.1 == 6) = false := by simp; omega
        rw [d0, if_neg (by decide), bs, if_neg (by decide), d6, if_neg (by decide), bs]
        dsimp only
        rw [s1, bs]
        dsimp only
        have e := parts_loop (cost := cost) (ws := cost.map (·.2)) (word := [119, 97, 103, 101, 115]) (to := [110, 101, 116]) (code := x.2.1) (p := x.1) (c := x.2.2) (j := (i : Int)) (y := y) (ix := ix) (ps := partsF (cost.map (·.2)) x.2.2) (L := L) (words := wordsL) s2 hc.len.1 (by decide) hnm s4 acc (by omega)
        simp only [List.cons_append, List.nil_append] at e
        rw [e, bs, bs]
        dsimp only
        have el : lineE cost x = splitE [119, 97, 103, 101, 115] [110, 101, 116] x.2.1 ((partsF (cost.map (·.2)) x.2.2).zip cost) := by
          unfold lineE; rw [if_pos h0]; rfl
        rw [el, w_succ (by omega)]; rfl
      · by_cases h6 : x.1 = 6
        · have d0 : (x.1 != 0) = true := by simpa using h0
          have d6' : (x.1 != 6) = false := by simpa using h6
          have d6 : (x.1 == 6) = true := by simpa using h6
          rw [d0, if_pos rfl, d6', bs, if_neg (by decide), d6, if_pos rfl, if_pos (by simp; omega), bs]
          dsimp only
          rw [s1, bs]
          dsimp only
          have e := parts_loop (cost := cost) (ws := cost.map (·.2)) (word := [102, 105, 114, 109]) (to := [111, 119, 101, 100, 47, 115, 111, 99, 105, 97, 108, 47] ++ x.2.1) (code := x.2.1) (p := x.1) (c := x.2.2) (j := (i : Int)) (y := y) (ix := ix) (ps := partsF (cost.map (·.2)) x.2.2) (L := L) (words := wordsL) s2 hc.len.1 (by decide) hnm s4 acc (by omega)
          simp only [List.cons_append, List.nil_append] at e ⊢
          rw [e, bs, bs]
          dsimp only
          have el : lineE cost x = splitE [102, 105, 114, 109] ([111, 119, 101, 100, 47, 115, 111, 99, 105, 97, 108, 47] ++ x.2.1) x.2.1 ((partsF (cost.map (·.2)) x.2.2).zip cost) := by
            unfold lineE; rw [if_neg h0, if_pos h6]; rfl
          rw [el, w_succ (by omega)]; rfl
        · have d0 : (x.1 != 0) = true := by simpa using h0
          have d6' : (x.1 != 6) = true := by simpa using h6
          have el : lineE cost x = entS [110, 101, 116] (owedT (wordsL.getD x.1.toNat []) x.2.1) x.2.2 x.2.1 := by
            unfold lineE; rw [if_neg h0, if_neg h6]
          have hwl : ((wordsL.length : Nat) : Int) = 7 := rfl
          generalize wordsL.getD x.1.toNat [] = W at *
          obtain ⟨e, e1, e2⟩ := lentry_eq (d := [110, 101, 116]) (c := owedT W x.2.1) (n := x.2.1) (x := x.2.2) ⟨by omega, by omega⟩ hl.ne
          rw [d0, if_pos rfl, d6', bs, if_pos rfl, if_pos ⟨hp.1, by rw [hwl]; exact hp.2⟩, w1, bs, if_pos (by simp; omega), if_pos (by simp; omega), if_pos (by simp; omega)]
          change ((law34_entry ([110, 101, 116], owedT W x.2.1, x.2.2, x.2.1)).bind _).bind _ = _
          rw [e1, bs, appOk' (by simp; omega) (by decide), bs]
          dsimp only
          rw [← e2] at el
          rw [el, w_succ (by omega)]; rfl) (fun i x acc acc' hx ha e => by
      cases e
      have hlen := lineE_len hc.len.1 hc.len.2 x
      simp only [List.length_append]; omega) (fun acc _ => by
      unfold law34_entries_loop2
      dsimp only
      rw [nlt_len, if_neg (by decide)])
  rw [foldE_app (lineE cost), List.nil_append] at key
  exact key
theorem entries_eq {s : Int × Int × List Ln} {cost : List Wt} (h0 : slipS s = 0) (h1 : costS cost = 0) : law34_entries (s, cost) = some (s.2.2.flatMap (lineE (costD cost))) := by
  obtain ⟨y, ix, L⟩ := s
  obtain ⟨g1, g2⟩ := slipS_ok h0
  have g1' : L.length ≤ 448 := g1
  have hc := costD_ok h1
  unfold law34_entries
  dsimp only
  have hD : (if ((cost.length : Int) == 0) = true then some ([(([102, 105, 114, 109] : List UInt8), (1 : Int))], y, ix, L, (), (), ()) else some (cost, y, ix, L, (), (), ())) = some (costD cost, y, ix, L, (), (), ()) := by
    unfold costD
    cases cost with
    | nil => rfl
    | cons x l => rw [if_neg (by simp; omega), if_neg (by simp)]
  rw [hD, bs]
  dsimp only
  rw [wl_loop hc.len.1, bs]
  dsimp only
  have e := lines_loop hc g2 (by show L.length ≤ 1000; omega) y ix
  unfold wordsL at e
  rw [e, bs]
theorem same_eq {l : Ents} (hn : l.length ≤ 100000) : law34_same (l, l) = some true := by
  have key := iter_fold0 (b := law34_same_loop1) (α := List UInt8 × List UInt8 × Int × List UInt8) (A := Unit) (fun i _ => (l, l, (i : Int), ())) (fun _ _ => .inl ()) (fun _ => .inl ()) (fun _ _ => True) l (a := ()) trivial (fun i x _ hx _ => by
    have hi := (List.getElem?_eq_some_iff.1 hx).1
    unfold law34_same_loop1
    dsimp only
    rw [lt_len hx, if_pos rfl, lAt_nat hx]
    simp only [ms, bs]
    rw [if_neg (by simp), w_succ (by omega)]; rfl) (fun _ _ _ _ _ _ _ => trivial) (fun _ _ => by
    unfold law34_same_loop1
    dsimp only
    rw [nlt_len, if_neg (by decide)])
  have hf : ∀ m : Ents, foldE (fun (_ : Unit) _ => (Sum.inl () : Unit ⊕ (Unit ⊕ Bool))) (fun _ => Sum.inl ()) () m = .inl () := by
    intro m
    induction m with
    | nil => rfl
    | cons x m ih => exact ih
  rw [hf] at key
  unfold law34_same
  dsimp only
  rw [if_neg (by simp), show (0 : Int) = ((0 : Nat) : Int) from rfl, key, bs]
end WB
namespace WB
open Go Go.RowKit

theorem parts_aw : partsF [1, 2] 100 = [33, 67] := by
  have hs : share_split (((100 : Nat) : Int), ([1, 2] : List Int).sum, [1, 2]) = some [33, 67] := by
    have r2 := split3 (a := 100) (s := 3) (by decide) (by decide) (by decide) [1, 2] [] (by decide) (by decide) (by decide)
    have r2' : iter share_split_loop3 ((100 : Int), (3 : Int), (100 : Int), [1, 2], (2 : Int), (0 : Int), [0, 0], [0, 0], (), (), ()) = some ((1 : Int), [33, 66], [1, 2], (), (), ()) := r2
    have b : iter share_split_loop1 ((1 : Int), (0 : Int), (2 : Int), (0 : Int), [33, 66], [1, 2], (), (), (), ()) = some ((1 : Int), (1 : Int), [33, 66], [1, 2], (), (), ()) := by
      rw [itL (s' := ((1 : Int), (0 : Int), (2 : Int), (1 : Int), [33, 66], [1, 2], (), (), (), ())) rfl, itL (s' := ((1 : Int), (1 : Int), (2 : Int), (2 : Int), [33, 66], [1, 2], (), (), (), ())) rfl, itR]
      rfl
    have r1 : iter share_split_loop2 ((1 : Int), [33, 66], [1, 2], (), (), ()) = some ([33, 67], (), ()) := by
      rw [itL (s' := ((0 : Int), [33, 67], [1, 0], (), (), ())), itR (t := ([33, 67], (), ()))]
      · rfl
      · unfold share_split_loop2
        dsimp only
        rw [if_pos (by decide)]
        change Option.bind (iter share_split_loop1 ((1 : Int), (0 : Int), (2 : Int), (0 : Int), [33, 66], [1, 2], (), (), (), ())) _ = _
        rw [b]
        rfl
    unfold share_split
    dsimp only
    rw [if_pos (by decide), bs, bs]
    change Option.bind (iter share_split_loop3 ((100 : Int), (3 : Int), (100 : Int), [1, 2], (2 : Int), (0 : Int), [0, 0], [0, 0], (), (), ())) _ = _
    rw [r2', bs]
    dsimp only
    rw [r1, bs]
  have hs' : share_split (100, ([1, 2] : List Int).sum, [1, 2]) = some [33, 67] := hs
  unfold partsF splitF
  rw [if_pos (by decide)]
  show (share_split (100, ([1, 2] : List Int).sum, [1, 2])).getD [] = _
  rw [hs']
  rfl
theorem parts_aw1 : partsF [1] (-100) = [-100] := by
  obtain ⟨k1, k2, k3, k4⟩ := splitF_ok (ws := [1]) ⟨by simp, by decide, by decide⟩ (a := 100) (by decide)
  unfold partsF
  rw [if_neg (by decide), show (- (-100 : Int)).toNat = 100 from rfl]
  match h : splitF [1] 100, k2, k3 with
  | [x], _, k3 =>
    simp only [List.sum_cons, List.sum_nil, Int.add_zero] at k3
    rw [k3]
    rfl
theorem awake_eq : law34_awake () = some true := by
  have h1 : ofS' (2024, 1, [(0, [115, 97, 108, 97, 114, 121], 100)]) [([97], 1), ([98], 2)] = ([([119, 97, 103, 101, 115, 47, 97], [110, 101, 116], 33, [115, 97, 108, 97, 114, 121]), ([119, 97, 103, 101, 115, 47, 98], [110, 101, 116], 67, [115, 97, 108, 97, 114, 121])], 0) := by
    unfold ofS'
    rw [if_neg (show ¬ (slipS (2024, 1, [(0, [115, 97, 108, 97, 114, 121], 100)]) ≠ 0) by decide), if_neg (show ¬ (costS [([97], 1), ([98], 2)] ≠ 0) by decide)]
    have e : lineE (costD [([97], 1), ([98], 2)]) (0, [115, 97, 108, 97, 114, 121], 100) = splitE [119, 97, 103, 101, 115] (toS (.inl ()) [115, 97, 108, 97, 114, 121]) [115, 97, 108, 97, 114, 121] ((partsF [1, 2] 100).zip [([97], 1), ([98], 2)]) := rfl
    simp only [List.flatMap_cons, List.flatMap_nil, List.append_nil]
    rw [e, parts_aw]
    rfl
  have h2 : ofS' (2024, 1, [(0, [115, 97, 108, 97, 114, 121], -100)]) [] = ([([110, 101, 116], [119, 97, 103, 101, 115, 47, 102, 105, 114, 109], 100, [115, 97, 108, 97, 114, 121])], 0) := by
    unfold ofS'
    rw [if_neg (show ¬ (slipS (2024, 1, [(0, [115, 97, 108, 97, 114, 121], -100)]) ≠ 0) by decide), if_neg (show ¬ (costS [] ≠ 0) by decide)]
    have e : lineE (costD []) (0, [115, 97, 108, 97, 114, 121], -100) = splitE [119, 97, 103, 101, 115] (toS (.inl ()) [115, 97, 108, 97, 114, 121]) [115, 97, 108, 97, 114, 121] ((partsF [1] (-100)).zip [([102, 105, 114, 109], 1)]) := rfl
    simp only [List.flatMap_cons, List.flatMap_nil, List.append_nil]
    rw [e, parts_aw1]
    rfl
  unfold law34_awake
  dsimp only
  rw [pOf_eq, bs, pOf_eq, bs, h1, h2]
  rfl
theorem great_eq (s : Int × Int × List Ln) (cost : List Wt) : law34_great (s, cost) = some (decide ((s.2.2.length : Int) > 60) || decide ((cost.length : Int) > 70)) := by
  unfold law34_great
  dsimp only
  try simp only [gPi, gSS, gPb, gPm, gPs, gM, gM2, gAnd, gOr, gAndI, gOrI, gAA, gAO, gOA, gOO, gAAf, gAOf, gOAf, gOOf, gAMf, gOMf, gId]
  try simp only [gIn1, gIn2, gIn3, gIn4, gIn5, gIn6, gIn7, gIn8, gId, gIdF, gMb, gMm, gBm, gBb, bs, ms]
  by_cases h : (s.2.2.length : Int) > 60
  · rw [decide_eq_true h, if_pos rfl]; rfl
  · rw [decide_eq_false h, if_neg (by decide)]; rfl
theorem ofS'_len (s : Int × Int × List Ln) (cost : List Wt) : (ofS' s cost).1.length ≤ 64 * s.2.2.length := by
  unfold ofS'
  split
  · simp
  · split
    · simp
    · rename_i h
      rw [ne_eq, Decidable.not_not] at h
      have hc := costD_ok h
      exact flat_len _ 64 (lineE_len hc.len.1 hc.len.2) _
theorem law_PostOf (s : Int × Int × List Ln) (cost : List Wt) : law34_PostOf (s, cost) = some true := by
  obtain ⟨y, ix, L⟩ := s
  unfold law34_PostOf
  dsimp only
  simp only [gPi, gSS, gPb, gPm, gPs, gM, gM2, gAnd, gOr, gAndI, gOrI, gAA, gAO, gOA, gOO, gAAf, gAOf, gOAf, gOOf, gAMf, gOMf, gId]
  try simp only [gIn1, gIn2, gIn3, gIn4, gIn5, gIn6, gIn7, gIn8, gId, gIdF, gMb, gMm, gBm, gBb, bs, ms]
  rw [great_eq, bs]
  cases hg : (decide ((L.length : Int) > 60) || decide ((cost.length : Int) > 70)) with
  | true =>
    rw [if_pos rfl, awake_eq]
  | false =>
    rw [if_neg (by decide), pOf_eq, bs, slip_eq, bs]
    have hl : L.length ≤ 60 := by
      rw [Bool.or_eq_false_iff, decide_eq_false_iff_not] at hg
      omega
    have hlen := ofS'_len (y, ix, L) cost
    by_cases h0 : slipS (y, ix, L) = 0
    · have d : (slipS (y, ix, L) == 0) = true := by simpa using h0
      rw [d, if_pos rfl, lcheck_eq, bs, bs]
      dsimp only
      by_cases h1 : costS cost = 0
      · have d1 : (costS cost != 0) = false := by simpa using h1
        have e : ofS' (y, ix, L) cost = (L.flatMap (lineE (costD cost)), 0) := by
          unfold ofS'
          rw [if_neg (show ¬ (slipS (y, ix, L) ≠ 0) by simpa using h0), if_neg (show ¬ (costS cost ≠ 0) by simpa using h1)]
        rw [d1, if_neg (by decide), entries_eq h0 h1, bs]
        rw [e] at hlen ⊢
        dsimp only at hlen ⊢
        rw [if_pos (by decide), same_eq (by show _ ≤ 100000; omega), bs, if_pos rfl, awake_eq]
      · have d1 : (costS cost != 0) = true := by simpa using h1
        have e : ofS' (y, ix, L) cost = ([], costS cost) := by
          unfold ofS'
          rw [if_neg (show ¬ (slipS (y, ix, L) ≠ 0) by simpa using h0), if_pos (show costS cost ≠ 0 from h1)]
        rw [d1, if_pos rfl, e]
        dsimp only
        rw [if_pos (by simp), bs]
        exact awake_eq
    · have d : (slipS (y, ix, L) == 0) = false := by simpa using h0
      have d1 : (slipS (y, ix, L) != 0) = true := by simpa using h0
      have e : ofS' (y, ix, L) cost = ([], slipS (y, ix, L)) := by
        unfold ofS'
        rw [if_pos (show slipS (y, ix, L) ≠ 0 from h0)]
      rw [d, if_neg (by decide), bs]
      dsimp only
      rw [d1, if_pos rfl, e]
      dsimp only
      rw [if_pos (by simp), bs]
      exact awake_eq
end WB
namespace WB
open Go Go.RowKit
set_option linter.unusedVariables false
noncomputable def ref28_Number_loop1 (s : (Int) × (List UInt8) × Unit) : Option (((Int) × (List UInt8) × Unit) ⊕ (((List UInt8) × Unit))) :=
  let x0 := s.1
  let x3 := s.2.1
  let x5 := ((x3 == ([] : List UInt8)))
  let x7 := (if x5 = false then some x0 else none)
  Option.bind (if x5 = false then ((x7.bind (fun z65 => some (z65, (0 : Int)))).map (fun z67 => (decide (z67.1 > z67.2)))).map some else some none) fun x8 =>
  Option.bind (if x5 then some true else x8.map (fun z68 => z68)) fun x9 =>
  if x9 then (
    Option.bind (if (10 : Int) = 0 then none else some (x0.tmod (10 : Int))) fun x11 =>
    let x12 := IntKind.i64.wrap ((48 : Int) + x11)
    let x13 := IntKind.u8.wrap x12
    let l14 := ([x13] : List (Int))
    let x15 := (l14.map fun n => UInt8.ofNat n.toNat)
    Option.bind (if x15.length + x3.length ≤ 4611686018427387904 then some (x15 ++ x3) else none) fun x17 =>
    Option.bind (if (10 : Int) = 0 then none else some (IntKind.i64.wrap (x0.tdiv (10 : Int)))) fun x19 =>
    some (Sum.inl (x19, x17, ())))
  else (
    some (Sum.inr (x3, ())))
noncomputable def ref28_Number (a : Int) : Option (List UInt8) :=
  let x0 := a
  let x2 := ([] : List UInt8)
  let x3 := ([] : List UInt8)
  Option.bind (iter ref28_Number_loop1 (x0, x3, ())) fun o =>
  let x3 := o.1
  some x3
noncomputable def post_Accounts (a : Unit) : Option (List (List UInt8)) :=
  let l1 := ([([98, 97, 110, 107] : List UInt8), ([99, 97, 115, 104] : List UInt8), ([110, 101, 116] : List UInt8)] : List (List UInt8))
  some l1
noncomputable def post_Pay_loop1 (s : (List ((Int) × (List UInt8))) × (List (Int × Int × Int × (List (Int × (List UInt8) × Int)) × (List (Int × Int × (List (Int × (List UInt8) × Int)))) × Int × Int × Int)) × (Int) × (Int) × (List ((List UInt8) × (List UInt8) × Int × (List UInt8))) × (Unit) × Unit) : Option (((List ((Int) × (List UInt8))) × (List (Int × Int × Int × (List (Int × (List UInt8) × Int)) × (List (Int × Int × (List (Int × (List UInt8) × Int)))) × Int × Int × Int)) × (Int) × (Int) × (List ((List UInt8) × (List UInt8) × Int × (List UInt8))) × (Unit) × Unit) ⊕ (((List ((List UInt8) × (List UInt8) × Int × (List UInt8))) × (Unit) × Unit))) :=
  let x1 := s.1
  let x10 := s.2.1
  let x11 := s.2.2.1
  let x12 := s.2.2.2.1
  let l1005 := s.2.2.2.2.1
  let x13 := (decide (x12 < x11))
  if x13 then (
    Option.bind (show Option (((List ((Int) × (List UInt8))) × (List (Int × Int × Int × (List (Int × (List UInt8) × Int)) × (List (Int × Int × (List (Int × (List UInt8) × Int)))) × Int × Int × Int)) × (Int) × (Int) × (List ((List UInt8) × (List UInt8) × Int × (List UInt8))) × (Unit) × Unit)) from (
      Option.bind ((lAt x10 x12).map (fun y => y)) fun x14 =>
      let x18 := (decide (x14.2.2.2.2.2.2.1 ≤ (0 : Int)))
      if x18 then (
        some (x1, x10, x11, x12, l1005, (), ()))
      else (
        let x8 := ([99, 97, 115, 104] : List UInt8)
        Option.bind (show Option (((List ((Int) × (List UInt8))) × (List UInt8) × (List (Int × Int × Int × (List (Int × (List UInt8) × Int)) × (List (Int × Int × (List (Int × (List UInt8) × Int)))) × Int × Int × Int)) × (Int) × (Int) × (Int) × (Int) × (Int) × (List (Int × (List UInt8) × Int)) × (List (Int × Int × (List (Int × (List UInt8) × Int)))) × (Int) × (Int) × (Int) × (List ((List UInt8) × (List UInt8) × Int × (List UInt8))) × (Unit) × (Unit) × (Unit) × Unit)) from (
          let x22 := (alGet (eqZ (.int .u32)) (zeroT .str) x14.1 x1).1
          let x23 := (!(x22 == ([] : List UInt8)))
          if x23 then (
            let x8 := ([98, 97, 110, 107] : List UInt8)
            some (x1, x8, x10, x11, x12, x14.1, x14.2.1, x14.2.2.1, x14.2.2.2.1, x14.2.2.2.2.1, x14.2.2.2.2.2.1, x14.2.2.2.2.2.2.1, x14.2.2.2.2.2.2.2, l1005, (), (), (), ()))
          else (
            some (x1, x8, x10, x11, x12, x14.1, x14.2.1, x14.2.2.1, x14.2.2.2.1, x14.2.2.2.2.1, x14.2.2.2.2.2.1, x14.2.2.2.2.2.2.1, x14.2.2.2.2.2.2.2, l1005, (), (), (), ())))) fun o =>
        let x1 := o.1
        let x8 := o.2.1
        let x10 := o.2.2.1
        let x11 := o.2.2.2.1
        let x12 := o.2.2.2.2.1
        let c7_0 := o.2.2.2.2.2.1
        let c7_1 := o.2.2.2.2.2.2.1
        let c7_2 := o.2.2.2.2.2.2.2.1
        let c7_3 := o.2.2.2.2.2.2.2.2.1
        let c7_4 := o.2.2.2.2.2.2.2.2.2.1
        let c7_5 := o.2.2.2.2.2.2.2.2.2.2.1
        let c7_6 := o.2.2.2.2.2.2.2.2.2.2.2.1
        let c7_7 := o.2.2.2.2.2.2.2.2.2.2.2.2.1
        let l1005 := o.2.2.2.2.2.2.2.2.2.2.2.2.2.1
        let x30 := IntKind.u64.wrap c7_0
        Option.bind (strconv_FormatUint (x30, (10 : Int))) fun x31 =>
        Option.bind (post_entry (([110, 101, 116] : List UInt8), x8, c7_6, x31)) fun x32 =>
        Option.bind (if ((l1005.length : Int) + (x32.length : Int)) * (56 : Int) ≤ 140737488355328 ∧ (l1005.length : Int) + (x32.length : Int) ≤ 4611686018427387904 then some (l1005 ++ x32) else none) fun l1005 =>
        some (x1, x10, x11, x12, l1005, (), ())))) fun o =>
    let x1 := o.1
    let x10 := o.2.1
    let x11 := o.2.2.1
    let x12 := o.2.2.2.1
    let l1005 := o.2.2.2.2.1
    let x34 := IntKind.i64.wrap (x12 + (1 : Int))
    some (Sum.inl (x1, x10, x11, x34, l1005, (), ())))
  else (
    some (Sum.inr (l1005, (), ())))
noncomputable def post_Pay (a : (Int × Int × Int × Int × (List (Int × Int × Int × (List (Int × (List UInt8) × Int)) × (List (Int × Int × (List (Int × (List UInt8) × Int)))) × Int × Int × Int))) × (List ((Int) × (List UInt8)))) : Option (List ((List UInt8) × (List UInt8) × Int × (List UInt8))) :=
  let x0 := a.1
  let x1 := a.2
  let x11 := (x0.2.2.2.2.length : Int)
  Option.bind (iter post_Pay_loop1 (x1, x0.2.2.2.2, x11, (0 : Int), ([] : List ((List UInt8) × (List UInt8) × Int × (List UInt8))), (), ())) fun o =>
  let l1005 := o.1
  some l1005
noncomputable def law34_PostPays_loop1 (s : (List (Int × Int × Int × (List (Int × (List UInt8) × Int)) × (List (Int × Int × (List (Int × (List UInt8) × Int)))) × Int × Int × Int)) × (Int) × (List ((Int) × (List UInt8))) × (List ((List UInt8) × (List UInt8) × Int × (List UInt8))) × (Unit) × (Unit) × Unit) : Option (((List (Int × Int × Int × (List (Int × (List UInt8) × Int)) × (List (Int × Int × (List (Int × (List UInt8) × Int)))) × Int × Int × Int)) × (Int) × (List ((Int) × (List UInt8))) × (List ((List UInt8) × (List UInt8) × Int × (List UInt8))) × (Unit) × (Unit) × Unit) ⊕ (((List (Int × Int × Int × (List (Int × (List UInt8) × Int)) × (List (Int × Int × (List (Int × (List UInt8) × Int)))) × Int × Int × Int)) × (List ((Int) × (List UInt8))) × (List ((List UInt8) × (List UInt8) × Int × (List UInt8))) × (Unit) × (Unit) × Unit))) :=
  let x0 := s.1
  let x8 := s.2.1
  let l20 := s.2.2.1
  let l1007 := s.2.2.2.1
  let x40 := (x0.length : Int)
  let x41 := (decide (x8 < x40))
  if x41 then (
    Option.bind (show Option (((List (Int × Int × Int × (List (Int × (List UInt8) × Int)) × (List (Int × Int × (List (Int × (List UInt8) × Int)))) × Int × Int × Int)) × (Int) × (List ((Int) × (List UInt8))) × (List ((List UInt8) × (List UInt8) × Int × (List UInt8))) × (Unit) × (Unit) × Unit)) from (
      Option.bind ((lAt x0 x8).map (fun y => y)) fun x46 =>
      let x49 := (decide (x46.2.2.2.2.2.2.1 ≤ (0 : Int)))
      if x49 then (
        some (x0, x8, l20, l1007, (), (), ()))
      else (
        let x9 := ([99, 97, 115, 104] : List UInt8)
        Option.bind (show Option (((List (Int × Int × Int × (List (Int × (List UInt8) × Int)) × (List (Int × Int × (List (Int × (List UInt8) × Int)))) × Int × Int × Int)) × (Int) × (List UInt8) × (List ((Int) × (List UInt8))) × (List ((List UInt8) × (List UInt8) × Int × (List UInt8))) × (Unit) × (Unit) × Unit)) from (
          Option.bind ((lAt x0 x8).map (fun y => y)) fun x53 =>
          let x56 := (alGet (eqZ (.int .u32)) (zeroT .str) x53.1 l20).1
          let x57 := (!(x56 == ([] : List UInt8)))
          if x57 then (
            let x9 := ([98, 97, 110, 107] : List UInt8)
            some (x0, x8, x9, l20, l1007, (), (), ()))
          else (
            some (x0, x8, x9, l20, l1007, (), (), ())))) fun o =>
        let x0 := o.1
        let x8 := o.2.1
        let x9 := o.2.2.1
        let l20 := o.2.2.2.1
        let l1007 := o.2.2.2.2.1
        Option.bind ((lAt x0 x8).map (fun y => y)) fun x62 =>
        Option.bind ((lAt x0 x8).map (fun y => y)) fun x67 =>
        let x70 := IntKind.i64.wrap x67.1
        Option.bind (ref28_Number x70) fun x71 =>
        let l73 := ([(([110, 101, 116] : List UInt8), x9, x62.2.2.2.2.2.2.1, x71)] : List ((List UInt8) × (List UInt8) × Int × (List UInt8)))
        Option.bind (if ((l1007.length : Int) + (l73.length : Int)) * (56 : Int) ≤ 140737488355328 ∧ (l1007.length : Int) + (l73.length : Int) ≤ 4611686018427387904 then some (l1007 ++ l73) else none) fun l1007 =>
        some (x0, x8, l20, l1007, (), (), ())))) fun o =>
    let x0 := o.1
    let x8 := o.2.1
    let l20 := o.2.2.1
    let l1007 := o.2.2.2.1
    let x43 := IntKind.i64.wrap (x8 + (1 : Int))
    some (Sum.inl (x0, x43, l20, l1007, (), (), ())))
  else (
    some (Sum.inr (x0, l20, l1007, (), (), ())))
noncomputable def law34_PostPays_loop2 (s : (List (Int × Int × Int × (List (Int × (List UInt8) × Int)) × (List (Int × Int × (List (Int × (List UInt8) × Int)))) × Int × Int × Int)) × (List (Int × (List UInt8))) × (Int) × (List ((Int) × (List UInt8))) × (Unit) × Unit) : Option (((List (Int × Int × Int × (List (Int × (List UInt8) × Int)) × (List (Int × Int × (List (Int × (List UInt8) × Int)))) × Int × Int × Int)) × (List (Int × (List UInt8))) × (Int) × (List ((Int) × (List UInt8))) × (Unit) × Unit) ⊕ (((List (Int × Int × Int × (List (Int × (List UInt8) × Int)) × (List (Int × Int × (List (Int × (List UInt8) × Int)))) × Int × Int × Int)) × (List ((Int) × (List UInt8))) × (Unit) × Unit))) :=
  let x0 := s.1
  let x1 := s.2.1
  let x6 := s.2.2.1
  let l20 := s.2.2.2.1
  let x23 := (x1.length : Int)
  let x24 := (decide (x6 < x23))
  if x24 then (
    Option.bind ((lAt x1 x6).map (fun y => y)) fun x30 =>
    Option.bind ((lAt x1 x6).map (fun y => y)) fun x35 =>
    let l20 := alPut (eqZ (.int .u32)) x30.1 x35.2 l20
    let x26 := IntKind.i64.wrap (x6 + (1 : Int))
    some (Sum.inl (x0, x1, x26, l20, (), ())))
  else (
    some (Sum.inr (x0, l20, (), ())))
noncomputable def law34_PostPays (a : (List (Int × Int × Int × (List (Int × (List UInt8) × Int)) × (List (Int × Int × (List (Int × (List UInt8) × Int)))) × Int × Int × Int)) × (List (Int × (List UInt8)))) : Option (Bool) :=
  let x0 := a.1
  let x1 := a.2
  let x12 := (x0.length : Int)
  let x13 := (decide (x12 > (40 : Int)))
  let x15 := (if x13 = false then some x1 else none)
  Option.bind (if x13 = false then (x15.map (fun z21 => (z21.length : Int))).map some else some none) fun x16 =>
  Option.bind (if x13 = false then ((x16.bind (fun z22 => some (z22, (40 : Int)))).map (fun z24 => (decide (z24.1 > z24.2)))).map some else some none) fun x17 =>
  Option.bind (if x13 then some true else x17.map (fun z25 => z25)) fun x18 =>
  if x18 then (
    Option.bind (law34_awake ()) fun x19 =>
    some x19)
  else (
    Option.bind (iter law34_PostPays_loop2 (x0, x1, (0 : Int), ([] : List ((Int) × (List UInt8))), (), ())) fun o =>
    let x0 := o.1
    let l20 := o.2.1
    Option.bind (iter law34_PostPays_loop1 (x0, (0 : Int), l20, ([] : List ((List UInt8) × (List UInt8) × Int × (List UInt8))), (), (), ())) fun o =>
    let x0 := o.1
    let l20 := o.2.1
    let l1007 := o.2.2.1
    Option.bind (post_Accounts ()) fun x75 =>
    Option.bind (post_Pay (((0 : Int), (0 : Int), (0 : Int), (0 : Int), x0), l20)) fun x79 =>
    Option.bind (law34_same (x79, l1007)) fun x81 =>
    let x83 := (if x81 = true then some x75 else none)
    Option.bind (if x81 = true then (x83.map (fun z76 => (z76.length : Int))).map some else some none) fun x84 =>
    Option.bind (if x81 = true then ((x84.bind (fun z77 => some (z77, (3 : Int)))).map (fun z79 => (z79.1 == z79.2))).map some else some none) fun x85 =>
    Option.bind (if x81 then x85 else some false) fun x86 =>
    let x88 := (if x86 = true then some x75 else none)
    Option.bind (if x86 = true then ((x88.bind (fun z80 => some (z80, (0 : Int)))).bind (fun z82 => (lAt z82.1 z82.2).map (fun y => y))).map some else some none) fun x89 =>
    Option.bind (if x86 = true then (x89.map (fun z83 => z83)).map some else some none) fun x90 =>
    Option.bind (if x86 = true then ((x90.bind (fun z84 => some (z84, ([98, 97, 110, 107] : List UInt8)))).map (fun z86 => ((z86.1 == z86.2)))).map some else some none) fun x91 =>
    Option.bind (if x86 then x91 else some false) fun x92 =>
    let x94 := (if x92 = true then some x75 else none)
    Option.bind (if x92 = true then ((x94.bind (fun z87 => some (z87, (1 : Int)))).bind (fun z89 => (lAt z89.1 z89.2).map (fun y => y))).map some else some none) fun x95 =>
    Option.bind (if x92 = true then (x95.map (fun z90 => z90)).map some else some none) fun x96 =>
    Option.bind (if x92 = true then ((x96.bind (fun z91 => some (z91, ([99, 97, 115, 104] : List UInt8)))).map (fun z93 => ((z93.1 == z93.2)))).map some else some none) fun x97 =>
    Option.bind (if x92 then x97 else some false) fun x98 =>
    let x100 := (if x98 = true then some x75 else none)
    Option.bind (if x98 = true then ((x100.bind (fun z94 => some (z94, (2 : Int)))).bind (fun z96 => (lAt z96.1 z96.2).map (fun y => y))).map some else some none) fun x101 =>
    Option.bind (if x98 = true then (x101.map (fun z97 => z97)).map some else some none) fun x102 =>
    Option.bind (if x98 = true then ((x102.bind (fun z98 => some (z98, ([110, 101, 116] : List UInt8)))).map (fun z100 => ((z100.1 == z100.2)))).map some else some none) fun x103 =>
    Option.bind (if x98 then x103 else some false) fun x104 =>
    Option.bind (if x104 = true then (law34_awake ()).map some else some none) fun x106 =>
    Option.bind (if x104 then x106 else some false) fun x107 =>
    some x107)
end WB
namespace WB
open Go Go.RowKit

theorem u8dig {n : Nat} (h : n < 10) : IntKind.u8.wrap (IntKind.i64.wrap (48 + (n : Int))) = 48 + (n : Int) := by
  have : ∀ k : Fin 10, IntKind.u8.wrap (IntKind.i64.wrap (48 + (k.val : Int))) = 48 + (k.val : Int) := by decide
  exact this ⟨n, h⟩
theorem itoa_nn (u : Nat) : Lib.itoa (u : Int) = Lib.decDigits u := by unfold Lib.itoa; rw [if_neg (by omega)]; simp
theorem num_step {n : Nat} {s : List UInt8} (hn : n ≤ 4294967295) (hs : s.length ≤ 1000) (hc : s = [] ∨ 0 < n) : ref28_Number_loop1 ((n : Int), s, ()) = some (.inl (((n / 10 : Nat) : Int), UInt8.ofNat (48 + n % 10) :: s, ())) := by
  unfold ref28_Number_loop1
  dsimp only
  simp only [gPi, gSS, gPb, gPm, gPs, gM, gM2, gAnd, gOr, gAndI, gOrI, gAA, gAO, gOA, gOO, gAAf, gAOf, gOAf, gOOf, gAMf, gOMf, gId]
  try simp only [gIn1, gIn2, gIn3, gIn4, gIn5, gIn6, gIn7, gIn8, gId, gIdF, gMb, gMm, gBm, gBb, bs, ms]
  have hg : (if (s == []) = true then some true else some (decide ((n : Int) > 0))) = some true := by
    rcases hc with h | h
    · subst h; rfl
    · rw [decide_eq_true (show (n : Int) > 0 by omega)]; exact ite_self _
  have h1 : (n : Int).tmod 10 = ((n % 10 : Nat) : Int) := by rw [Int.tmod_eq_emod_of_nonneg (by omega)]; rfl
  have h2 : (n : Int).tdiv 10 = ((n / 10 : Nat) : Int) := by rw [Int.tdiv_eq_ediv_of_nonneg (by omega)]; rfl
  rw [hg, bs, if_pos rfl, if_neg (by decide), bs, h1, u8dig (Nat.mod_lt _ (by decide)), if_pos (by simp; omega), if_neg (by decide), bs, h2, w64' (n := ((n / 10 : Nat) : Int)) (by omega) (by omega)]
  have h3 : (48 + ((n % 10 : Nat) : Int)).toNat = 48 + n % 10 := by omega
  simp only [List.map_cons, List.map_nil, h3, List.singleton_append]
theorem num_end {s : List UInt8} (hs : s ≠ []) : ref28_Number_loop1 (0, s, ()) = some (.inr (s, ())) := by
  unfold ref28_Number_loop1
  dsimp only
  simp only [gPi, gSS, gPb, gPm, gPs, gM, gM2, gAnd, gOr, gAndI, gOrI, gAA, gAO, gOA, gOO, gAAf, gAOf, gOAf, gOOf, gAMf, gOMf, gId]
  try simp only [gIn1, gIn2, gIn3, gIn4, gIn5, gIn6, gIn7, gIn8, gId, gIdF, gMb, gMm, gBm, gBb, bs, ms]
  have d : (s == []) = false := by simpa using hs
  rw [d, if_neg (by decide), bs]
  rfl
theorem num_loop : ∀ (k n : Nat) (s : List UInt8), n ≤ 4294967295 → 0 < n → n < 10 ^ k → s.length + k ≤ 100 → iter ref28_Number_loop1 ((n : Int), s, ()) = some (Lib.decDigits n ++ s, ())
  | 0, n, s, hn, h0, hk, hl => by simp at hk; omega
  | k + 1, n, s, hn, h0, hk, hl => by
    rw [itL (num_step hn (by omega) (.inr h0))]
    by_cases h : n < 10
    · have e : n / 10 = 0 := by omega
      rw [e, show ((0 : Nat) : Int) = 0 from rfl, itR (num_end (by simp)), Lib.decDigits_one h, show n % 10 = n by omega]
      rfl
    · rw [Nat.pow_succ] at hk
      have := num_loop k (n / 10) (UInt8.ofNat (48 + n % 10) :: s) (by omega) (by omega) (by omega) (by simp only [List.length_cons]; omega)
      rw [this, Lib.decDigits.eq_1 n, dif_neg h]
      simp
theorem num_eq {p : Int} (h : 0 ≤ p ∧ p ≤ 4294967295) : ref28_Number p = some (Lib.itoa p) := by
  obtain ⟨n, rfl⟩ := Int.eq_ofNat_of_zero_le h.1
  unfold ref28_Number
  dsimp only
  rw [itoa_nn]
  by_cases h0 : n = 0
  · subst h0
    rw [itL (num_step (n := 0) (by decide) (by decide) (.inl rfl))]
    rw [show ((0 / 10 : Nat) : Int) = 0 from rfl, itR (num_end (by simp)), bs, Lib.decDigits_one (by decide)]
  · rw [num_loop 10 n [] (by omega) (by omega) (by have : (10 : Nat) ^ 10 = 10000000000 := rfl; omega) (by decide), bs]
    simp
theorem pentry_pos {d c n : List UInt8} {x : Int} (hx : 0 < x) : post_entry (d, c, x, n) = some [(d, c, x, n)] := by
  unfold post_entry
  dsimp only
  have e : (x == 0) = false := by simp; omega
  rw [e, if_neg (by decide), decide_eq_false (by omega), if_neg (by decide)]; rfl
abbrev RowP := Int × Int × Int × List Ln × List (Int × Int × List Ln) × Int × Int × Int
abbrev BM := List (Int × List UInt8)
def bankOf (m : BM) (p : Int) : List UInt8 := (alGet (eqZ (Ty.int IntKind.u32)) (zeroT Ty.str) p m).1
def paid (r : RowP) : Int := r.2.2.2.2.2.2.1
def payE (m : BM) (r : RowP) : Ents := if paid r ≤ 0 then [] else [([110, 101, 116], if bankOf m r.1 = [] then [99, 97, 115, 104] else [98, 97, 110, 107], r.2.2.2.2.2.2.1, Lib.itoa r.1)]
theorem payE_len (m : BM) (r : RowP) : (payE m r).length ≤ 1 := by unfold payE; split <;> simp
theorem want_loop {rows : List RowP} {m : BM} (hp : ∀ r ∈ rows, 0 ≤ r.1 ∧ r.1 ≤ 4294967295) (hn : rows.length ≤ 1000) : iter law34_PostPays_loop1 (rows, 0, m, [], (), (), ()) = some (rows, m, rows.flatMap (payE m), (), (), ()) := by
  have key := iter_fold0 (b := law34_PostPays_loop1) (α := RowP) (A := Ents) (fun i acc => (rows, (i : Int), m, acc, (), (), ())) (fun acc x => .inl (acc ++ payE m x)) (fun acc => (rows, m, acc, (), (), ())) (fun i acc => acc.length ≤ i) rows (a := []) (by simp) (fun i x acc hx ha => by
    have hi := (List.getElem?_eq_some_iff.1 hx).1
    have hr := hp x (List.mem_of_getElem? hx)
    have hb : (alGet (eqZ (Ty.int IntKind.u32)) (zeroT Ty.str) x.1 m).fst = bankOf m x.1 := rfl
    unfold law34_PostPays_loop1 payE paid
    dsimp only
    simp only [gPi, gSS, gPb, gPm, gPs, gM, gM2, gAnd, gOr, gAndI, gOrI, gAA, gAO, gOA, gOO, gAAf, gAOf, gOAf, gOOf, gAMf, gOMf, gId]
    try simp only [gIn1, gIn2, gIn3, gIn4, gIn5, gIn6, gIn7, gIn8, gId, gIdF, gMb, gMm, gBm, gBb, bs, ms]
    rw [lt_len hx, if_pos rfl]
    simp only [lAt_nat hx, bs, hb]
    by_cases h0 : x.2.2.2.2.2.2.1 ≤ 0
    · rw [decide_eq_true h0, if_pos rfl, bs, if_pos h0, List.append_nil]
      dsimp only
      rw [w_succ (by omega)]; rfl
    · rw [decide_eq_false h0, if_neg (show ¬ (false = true) by decide), if_neg h0]
      by_cases hk : bankOf m x.1 = []
      · have d : (!(bankOf m x.1 == [])) = false := by simp [hk]
        rw [d, if_neg (show ¬ (false = true) by decide), if_pos hk, bs]
        dsimp only
        simp only [lAt_nat hx, bs]
        rw [w64' (n := x.1) (by omega) (by omega), num_eq hr, bs, appOk' (by simp; omega) (by decide), bs]
        dsimp only
        rw [w_succ (by omega)]; rfl
      · have d : (!(bankOf m x.1 == [])) = true := by simpa using hk
        rw [d, if_pos rfl, if_neg hk, bs]
        dsimp only
        simp only [lAt_nat hx, bs]
        rw [w64' (n := x.1) (by omega) (by omega), num_eq hr, bs, appOk' (by simp; omega) (by decide), bs]
        dsimp only
        rw [w_succ (by omega)]; rfl) (fun i x acc acc' hx ha e => by
    cases e
    have := payE_len m x
    simp only [List.length_append]; omega) (fun acc _ => by
    unfold law34_PostPays_loop1
    dsimp only
    rw [nlt_len, if_neg (by decide)])
  rw [foldE_app (payE m), List.nil_append] at key
  exact key
theorem pay_loop {rows : List RowP} {m : BM} (hp : ∀ r ∈ rows, 0 ≤ r.1 ∧ r.1 ≤ 4294967295) (hn : rows.length ≤ 1000) : iter post_Pay_loop1 (m, rows, (rows.length : Int), 0, [], (), ()) = some (rows.flatMap (payE m), (), ()) := by
  have key := iter_fold0 (b := post_Pay_loop1) (α := RowP) (A := Ents) (fun i acc => (m, rows, (rows.length : Int), (i : Int), acc, (), ())) (fun acc x => .inl (acc ++ payE m x)) (fun acc => (acc, (), ())) (fun i acc => acc.length ≤ i) rows (a := []) (by simp) (fun i x acc hx ha => by
    have hi := (List.getElem?_eq_some_iff.1 hx).1
    have hr := hp x (List.mem_of_getElem? hx)
    have hb : (alGet (eqZ (Ty.int IntKind.u32)) (zeroT Ty.str) x.1 m).fst = bankOf m x.1 := rfl
    have hf : strconv_FormatUint (IntKind.u64.wrap x.1, 10) = some (Lib.itoa x.1) := by
      rw [wu64' (by omega) (by omega)]
      exact if_pos ⟨rfl, by show 0 ≤ x.1; omega, by show x.1 < 18446744073709551616; omega⟩
    unfold post_Pay_loop1 payE paid
    dsimp only
    simp only [gPi, gSS, gPb, gPm, gPs, gM, gM2, gAnd, gOr, gAndI, gOrI, gAA, gAO, gOA, gOO, gAAf, gAOf, gOAf, gOOf, gAMf, gOMf, gId]
    try simp only [gIn1, gIn2, gIn3, gIn4, gIn5, gIn6, gIn7, gIn8, gId, gIdF, gMb, gMm, gBm, gBb, bs, ms]
    rw [lt_len hx, if_pos rfl]
    simp only [lAt_nat hx, bs, hb]
    by_cases h0 : x.2.2.2.2.2.2.1 ≤ 0
    · rw [decide_eq_true h0, if_pos rfl, bs, if_pos h0, List.append_nil]
      dsimp only
      rw [w_succ (by omega)]; rfl
    · rw [decide_eq_false h0, if_neg (show ¬ (false = true) by decide), if_neg h0]
      by_cases hk : bankOf m x.1 = []
      · have d : (!(bankOf m x.1 == [])) = false := by simp [hk]
        rw [d, if_neg (show ¬ (false = true) by decide), if_pos hk, bs]
        dsimp only
        rw [hf, bs, pentry_pos (by omega), bs, appOk' (by simp; omega) (by decide), bs]
        dsimp only
        rw [w_succ (by omega)]; rfl
      · have d : (!(bankOf m x.1 == [])) = true := by simpa using hk
        rw [d, if_pos rfl, if_neg hk, bs]
        dsimp only
        rw [hf, bs, pentry_pos (by omega), bs, appOk' (by simp; omega) (by decide), bs]
        dsimp only
        rw [w_succ (by omega)]; rfl) (fun i x acc acc' hx ha e => by
    cases e
    have := payE_len m x
    simp only [List.length_append]; omega) (fun acc _ => by
    unfold post_Pay_loop1
    dsimp only
    rw [nlt_len, if_neg (by decide)])
  rw [foldE_app (payE m), List.nil_append] at key
  exact key
theorem banks_loop {rows : List RowP} : ∀ (l pre : BM) (m : BM), pre.length + l.length ≤ 1000 → ∃ m', iter law34_PostPays_loop2 (rows, pre ++ l, (pre.length : Int), m, (), ()) = some (rows, m', (), ())
  | [], pre, m, hn => by
    refine ⟨m, itR ?_⟩
    unfold law34_PostPays_loop2
    dsimp only
    have c : decide ((pre.length : Int) < (((pre ++ []) : BM).length : Int)) = false := decide_eq_false (by simp)
    rw [c, if_neg (by decide)]
  | x :: l, pre, m, hn => by
    simp only [List.length_cons] at hn
    have w1 : IntKind.i64.wrap ((pre.length : Int) + 1) = ((pre ++ [x]).length : Int) := by rw [w64' (by omega) (by omega)]; simp
    have c : decide ((pre.length : Int) < (((pre ++ x :: l) : BM).length : Int)) = true := decide_eq_true (by simp; omega)
    obtain ⟨m', e⟩ := banks_loop (rows := rows) l (pre ++ [x]) (alPut (eqZ (Ty.int IntKind.u32)) x.1 x.2 m) (by simp; omega)
    rw [List.append_assoc, List.singleton_append] at e
    refine ⟨m', (itL (s' := (rows, pre ++ x :: l, ((pre ++ [x]).length : Int), alPut (eqZ (Ty.int IntKind.u32)) x.1 x.2 m, (), ())) ?_).trans e⟩
    unfold law34_PostPays_loop2
    dsimp only
    simp only [c, if_true, lAt_mid', ms, bs]
    rw [w1]
theorem law_PostPays {rows : List RowP} {banks : BM} (hp : ∀ r ∈ rows, 0 ≤ r.1 ∧ r.1 ≤ 4294967295) : law34_PostPays (rows, banks) = some true := by
  unfold law34_PostPays
  dsimp only
  simp only [gPi, gSS, gPb, gPm, gPs, gM, gM2, gAnd, gOr, gAndI, gOrI, gAA, gAO, gOA, gOO, gAAf, gAOf, gOAf, gOOf, gAMf, gOMf, gId]
  try simp only [gIn1, gIn2, gIn3, gIn4, gIn5, gIn6, gIn7, gIn8, gId, gIdF, gMb, gMm, gBm, gBb, bs, ms]
  by_cases h1 : (rows.length : Int) > 40
  · rw [decide_eq_true h1, if_pos rfl, bs, if_pos rfl, awake_eq]
  · rw [decide_eq_false h1, if_neg (by decide)]
    by_cases h2 : (banks.length : Int) > 40
    · rw [decide_eq_true h2, bs, if_pos rfl, awake_eq]
    · rw [decide_eq_false h2, bs, if_neg (by decide)]
      obtain ⟨m, hm⟩ := banks_loop (rows := rows) banks [] [] (by simp; omega)
      simp only [List.nil_append, List.length_nil] at hm
      rw [show ((0 : Nat) : Int) = 0 from rfl] at hm
      rw [hm, bs]
      dsimp only
      rw [want_loop hp (by omega), bs]
      dsimp only
      have hpay : post_Pay ((0, 0, 0, 0, rows), m) = some (rows.flatMap (payE m)) := by
        unfold post_Pay
        dsimp only
        rw [pay_loop hp (by omega), bs]
      have hl := flat_len (payE m) 1 (payE_len m) rows
      have hacc : post_Accounts () = some [[98, 97, 110, 107], [99, 97, 115, 104], [110, 101, 116]] := rfl
      rw [hacc, bs, hpay, bs, same_eq (by omega), bs]
      simp only [if_true, bs]
      have a0 : lAt ([[98, 97, 110, 107], [99, 97, 115, 104], [110, 101, 116]] : List (List UInt8)) 0 = some [98, 97, 110, 107] := rfl
      have a1 : lAt ([[98, 97, 110, 107], [99, 97, 115, 104], [110, 101, 116]] : List (List UInt8)) 1 = some [99, 97, 115, 104] := rfl
      have a2 : lAt ([[98, 97, 110, 107], [99, 97, 115, 104], [110, 101, 116]] : List (List UInt8)) 2 = some [110, 101, 116] := rfl
      rw [a0, a1, a2]
      rw [show ((([[98, 97, 110, 107], [99, 97, 115, 104], [110, 101, 116]] : List (List UInt8)).length : Int) == 3) = true from rfl]
      simp only [if_true, bs, beq_self_eq_true, awake_eq]
end WB
