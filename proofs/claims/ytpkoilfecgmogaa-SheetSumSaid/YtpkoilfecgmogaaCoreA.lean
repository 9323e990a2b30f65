/-
  THE OWN LAYER, A: closed values, and what it is for a value of the model to stand for one. Nothing of a program stands here.
-/
import Derived.WalkKit
import Derived.Deep.Draws
namespace WB
open Go Go.RowKit

/-- A closed value: plain data; slices, maps and pointers by what lies behind them. -/
inductive CV where
  | int (k : IntKind) (n : Int)
  | bool (b : Bool)
  | str (s : List UInt8)
  | agg (cs : List CV)
  | sl (nl : Option Bool) (es : List CV)
  | map (nl : Option Bool) (ks vs : List CV)
  | rp (cs : List CV)
  | fn (f : FuncId) (caps : List CV)
  | tup (cs : List CV)
  | nilif
  | ifc

def CV.cells : CV → List CV
  | .agg cs => cs
  | v => [v]

mutual
def RelC (w : World) (M : Nat → Prop) : CV → Value → Prop
  | .int k n, v => v = .int k n
  | .bool b, v => v = .bool b
  | .str s, v => v = .string ⟨⟨s⟩⟩
  | .agg cs, v => ∃ vs : List Value, v = .agg ⟨vs⟩ ∧ RelL w M cs vs
  | .sl nl es, v => ∃ a n c, v = .slice a n c ∧ n = es.length ∧ n ≤ c ∧ (nl = some true → a = none) ∧ (nl = some false → a ≠ none) ∧ (a = none → c = 0) ∧
      (es ≠ [] → ∃ ad size, a = some ad ∧ ad.block < w.heap.size ∧ ¬ M ad.block ∧ RelE w M ad size 0 es)
  | .map nl ks vs, v => ∃ r, v = .map r ∧ (nl = some true → r = none) ∧ (nl = some false → r ≠ none) ∧ (r = none → ks = [] ∧ vs = []) ∧
      ∀ b, r = some b → ¬ M b ∧ ∃ (ens : List MapEntry) (clk : Nat), w.heap[b]? = some (.map ⟨ens⟩ clk) ∧ RelL w M ks (ens.map (·.key)) ∧ RelL w M vs (ens.map (·.val))
  | .rp cs, v => ∃ (ad : Addr) (vs : List Value), v = .pointer (some ad) ∧ ad.block < w.heap.size ∧ ¬ M ad.block ∧ RelL w M cs vs ∧ ∀ (j : Nat) u, vs[j]? = some u → w.cell? (ad.add j) = some u
  | .fn f caps, v => ∃ vs : List Value, v = .func (.func f) #[] ⟨vs⟩ ∧ RelL w M caps vs
  | .tup cs, v => ∃ vs : List Value, v = .tuple ⟨vs⟩ ∧ RelL w M cs vs
  | .nilif, v => v = .nilIface
  | .ifc, v => ∃ t x, v = .iface t x
def RelL (w : World) (M : Nat → Prop) : List CV → List Value → Prop
  | [], vs => vs = []
  | c :: cs, vs => ∃ v vs', vs = v :: vs' ∧ RelC w M c v ∧ RelL w M cs vs'
def RelE (w : World) (M : Nat → Prop) (ad : Addr) (size : Nat) (i : Nat) : List CV → Prop
  | [] => True
  | e :: es => (∃ v, RelC w M e v ∧ v.cells.size = size ∧ ∀ (j : Nat) u, v.cells[j]? = some u → w.cell? (ad.add (i * size + j)) = some u) ∧ RelE w M ad size (i + 1) es
end

theorem add_block (a : Addr) (n : Nat) : (a.add n).block = a.block := by unfold Addr.add; split <;> rfl
theorem add_add (a : Addr) (i j : Nat) : (a.add i).add j = a.add (i + j) := by
  unfold Addr.add
  by_cases hi : i = 0 <;> by_cases hj : j = 0 <;> simp [hi, hj, Nat.add_assoc]
theorem add_zero (a : Addr) : a.add 0 = a := by simp [Addr.add]

theorem cell_lt {w : World} {a : Addr} {v : Value} (h : w.cell? a = some v) : a.block < w.heap.size := by
  unfold World.cell? at h
  rcases Nat.lt_or_ge a.block w.heap.size with hlt | hge
  · exact hlt
  · rw [Array.getElem?_eq_none hge] at h; simp at h
theorem heap_lt {w : World} {g : Nat} {o : Obj} (h : w.heap[g]? = some o) : g < w.heap.size := by
  rcases Nat.lt_or_ge g w.heap.size with hlt | hge
  · exact hlt
  · rw [Array.getElem?_eq_none hge] at h; cases h

/-- The world may grow, and turn where M said that it may. -/
structure Keeps (w : World) (M : Nat → Prop) (w' : World) (M' : Nat → Prop) : Prop where
  size : w.heap.size ≤ w'.heap.size
  heap : ∀ g, g < w.heap.size → ¬ M g → w'.heap[g]? = w.heap[g]?
  less : ∀ g, g < w.heap.size → M' g → M g

section
variable {w w' : World} {M M' : Nat → Prop}
theorem Keeps.cell (h : Keeps w M w' M') {a : Addr} {v : Value} (hm : ¬ M a.block) (hc : w.cell? a = some v) : w'.cell? a = some v := by
  have := h.heap a.block (cell_lt hc) hm
  unfold World.cell? at *
  rw [this]; exact hc

mutual
theorem RelC.keep (h : Keeps w M w' M') : ∀ (c : CV) (v : Value), RelC w M c v → RelC w' M' c v
  | .int _ _, _, hv => hv
  | .bool _, _, hv => hv
  | .str _, _, hv => hv
  | .nilif, _, hv => hv
  | .ifc, _, hv => hv
  | .agg cs, v, hv => by
    unfold RelC at *
    obtain ⟨vs, e, hl⟩ := hv
    exact ⟨vs, e, RelL.keep h cs vs hl⟩
  | .tup cs, v, hv => by
    unfold RelC at *
    obtain ⟨vs, e, hl⟩ := hv
    exact ⟨vs, e, RelL.keep h cs vs hl⟩
  | .fn f cs, v, hv => by
    unfold RelC at *
    obtain ⟨vs, e, hl⟩ := hv
    exact ⟨vs, e, RelL.keep h cs vs hl⟩
  | .rp cs, v, hv => by
    unfold RelC at *
    obtain ⟨ad, vs, e, hlt, hm, hl, hc⟩ := hv
    exact ⟨ad, vs, e, Nat.lt_of_lt_of_le hlt h.size, fun hM => hm (h.less _ hlt hM), RelL.keep h cs vs hl, fun j u hu => h.cell (by rw [add_block]; exact hm) (hc j u hu)⟩
  | .sl nl es, v, hv => by
    unfold RelC at *
    obtain ⟨a, n, c, e, hn, hle, h1, h2, h3, h4⟩ := hv
    refine ⟨a, n, c, e, hn, hle, h1, h2, h3, fun hne => ?_⟩
    obtain ⟨ad, size, ea, hlt, hm, hE⟩ := h4 hne
    exact ⟨ad, size, ea, Nat.lt_of_lt_of_le hlt h.size, fun hM => hm (h.less _ hlt hM), RelE.keep h ad size hm 0 es hE⟩
  | .map nl ks vs, v, hv => by
    unfold RelC at *
    obtain ⟨r, e, h1, h2, h3, h4⟩ := hv
    refine ⟨r, e, h1, h2, h3, fun b hb => ?_⟩
    obtain ⟨hm, ens, clk, hh, hk, hv⟩ := h4 b hb
    exact ⟨fun hM => hm (h.less _ (heap_lt hh) hM), ens, clk, (h.heap b (heap_lt hh) hm).trans hh, RelL.keep h ks _ hk, RelL.keep h vs _ hv⟩
theorem RelL.keep (h : Keeps w M w' M') : ∀ (cs : List CV) (vs : List Value), RelL w M cs vs → RelL w' M' cs vs
  | [], _, hv => hv
  | c :: cs, vs, hv => by
    unfold RelL at *
    obtain ⟨v, vs', e, h1, h2⟩ := hv
    exact ⟨v, vs', e, RelC.keep h c v h1, RelL.keep h cs vs' h2⟩
theorem RelE.keep (h : Keeps w M w' M') (ad : Addr) (size : Nat) (hm : ¬ M ad.block) : ∀ (i : Nat) (es : List CV), RelE w M ad size i es → RelE w' M' ad size i es
  | _, [], _ => by unfold RelE; trivial
  | i, e :: es, hv => by
    unfold RelE at *
    obtain ⟨⟨v, h1, h2, h3⟩, h4⟩ := hv
    exact ⟨⟨v, RelC.keep h e v h1, h2, fun j u hu => h.cell (by rw [add_block]; exact hm) (h3 j u hu)⟩, RelE.keep h ad size hm (i + 1) es h4⟩
end

theorem RelL.length : ∀ {cs : List CV} {vs : List Value}, RelL w M cs vs → vs.length = cs.length
  | [], _, h => by unfold RelL at h; subst h; rfl
  | _ :: _, _, h => by
    unfold RelL at h
    obtain ⟨v, vs', rfl, _, h2⟩ := h
    simp [RelL.length h2]
theorem RelL.get : ∀ {cs : List CV} {vs : List Value} {i : Nat} {c : CV}, RelL w M cs vs → cs[i]? = some c → ∃ v, vs[i]? = some v ∧ RelC w M c v
  | [], _, _, _, _, hi => by simp at hi
  | _ :: _, _, 0, _, h, hi => by
    unfold RelL at h
    obtain ⟨v, vs', rfl, h1, _⟩ := h
    simp at hi; subst hi
    exact ⟨v, rfl, h1⟩
  | _ :: _, _, i + 1, _, h, hi => by
    unfold RelL at h
    obtain ⟨v, vs', rfl, _, h2⟩ := h
    simp only [List.getElem?_cons_succ] at hi ⊢
    exact RelL.get h2 hi
theorem RelL.nil : RelL w M [] [] := by unfold RelL; rfl
theorem RelL.cons {c : CV} {v : Value} {cs : List CV} {vs : List Value} (h : RelC w M c v) (hl : RelL w M cs vs) : RelL w M (c :: cs) (v :: vs) := by
  unfold RelL; exact ⟨v, vs, rfl, h, hl⟩
theorem RelL.append : ∀ {cs ds : List CV} {vs us : List Value}, RelL w M cs vs → RelL w M ds us → RelL w M (cs ++ ds) (vs ++ us)
  | [], _, _, _, h, k => by unfold RelL at h; subst h; exact k
  | _ :: _, _, _, _, h, k => by
    unfold RelL at h
    obtain ⟨v, vs', rfl, h1, h2⟩ := h
    exact RelL.cons h1 (RelL.append h2 k)
theorem RelL.drop : ∀ {cs : List CV} {vs : List Value} (n : Nat), RelL w M cs vs → RelL w M (cs.drop n) (vs.drop n)
  | _, _, 0, h => h
  | [], _, n + 1, h => by unfold RelL at h; subst h; simpa using RelL.nil
  | _ :: _, _, n + 1, h => by
    unfold RelL at h
    obtain ⟨v, vs', rfl, _, h2⟩ := h
    simpa using RelL.drop n h2
theorem RelL.take : ∀ {cs : List CV} {vs : List Value} (n : Nat), RelL w M cs vs → RelL w M (cs.take n) (vs.take n)
  | _, _, 0, h => by simpa using RelL.nil
  | [], _, n + 1, h => by unfold RelL at h; subst h; simpa using RelL.nil
  | _ :: _, _, n + 1, h => by
    unfold RelL at h
    obtain ⟨v, vs', rfl, h1, h2⟩ := h
    simpa using RelL.cons h1 (RelL.take n h2)
theorem RelL.set : ∀ {cs : List CV} {vs : List Value} (i : Nat) {c : CV} {v : Value}, RelL w M cs vs → RelC w M c v → RelL w M (cs.set i c) (vs.set i v)
  | [], _, _, _, _, h, _ => by unfold RelL at h; subst h; simpa using RelL.nil
  | _ :: _, _, 0, _, _, h, k => by
    unfold RelL at h
    obtain ⟨v, vs', rfl, _, h2⟩ := h
    simpa using RelL.cons k h2
  | _ :: _, _, i + 1, _, _, h, k => by
    unfold RelL at h
    obtain ⟨v, vs', rfl, h1, h2⟩ := h
    simpa using RelL.cons h1 (RelL.set i h2 k)
theorem RelE.get {ad : Addr} {size : Nat} : ∀ {i : Nat} {es : List CV} {k : Nat} {e : CV}, RelE w M ad size i es → es[k]? = some e →
    ∃ v, RelC w M e v ∧ v.cells.size = size ∧ ∀ (j : Nat) u, v.cells[j]? = some u → w.cell? (ad.add ((i + k) * size + j)) = some u
  | _, [], _, _, _, hi => by simp at hi
  | i, _ :: _, 0, _, h, hi => by
    unfold RelE at h
    simp at hi; subst hi
    exact h.1
  | i, _ :: _, k + 1, _, h, hi => by
    unfold RelE at h
    simp only [List.getElem?_cons_succ] at hi
    have := RelE.get h.2 hi
    rw [show i + 1 + k = i + (k + 1) by omega] at this
    exact this
theorem RelC.cells {e : CV} {v : Value} (h : RelC w M e v) : RelL w M e.cells v.cells.toList := by
  cases e with
  | agg cs =>
    unfold RelC at h
    obtain ⟨vs, rfl, hl⟩ := h
    exact hl
  | int k n => have h' := h; unfold RelC at h'; subst h'; exact RelL.cons h RelL.nil
  | bool b => have h' := h; unfold RelC at h'; subst h'; exact RelL.cons h RelL.nil
  | str s => have h' := h; unfold RelC at h'; subst h'; exact RelL.cons h RelL.nil
  | nilif => have h' := h; unfold RelC at h'; subst h'; exact RelL.cons h RelL.nil
  | ifc => have h' := h; unfold RelC at h'; obtain ⟨t, x, rfl⟩ := h'; exact RelL.cons h RelL.nil
  | tup cs => have h' := h; unfold RelC at h'; obtain ⟨vs, rfl, _⟩ := h'; exact RelL.cons h RelL.nil
  | fn f cs => have h' := h; unfold RelC at h'; obtain ⟨vs, rfl, _⟩ := h'; exact RelL.cons h RelL.nil
  | rp cs => have h' := h; unfold RelC at h'; obtain ⟨ad, vs, rfl, _⟩ := h'; exact RelL.cons h RelL.nil
  | sl nl es => have h' := h; unfold RelC at h'; obtain ⟨a, n, c, rfl, _⟩ := h'; exact RelL.cons h RelL.nil
  | map nl ks vs => have h' := h; unfold RelC at h'; obtain ⟨r, rfl, _⟩ := h'; exact RelL.cons h RelL.nil
end
end WB
