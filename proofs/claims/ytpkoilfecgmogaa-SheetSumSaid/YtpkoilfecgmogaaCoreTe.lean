/-
  THE OWN LAYER, TE: each operation that yields a value does what it does over plain data.
-/
import Derived.Test.YtpkoilfecgmogaaCoreTd
namespace WB
open Go Go.RowKit

section
variable {G : Nat → List CV} {Γ : TC} {msk : List Nat} {ρ : HS Γ} {st : St} {rd : Nat → Ob}

theorem objT_ok {id : Nat} {q : Σ k : EK, HS Γ → DK k} (h : objT Γ msk id = some q) (hr : Rep Γ ρ st) (hrd : ∀ id, msk.contains id = false → rd id = st.ob id) : RO Γ ρ id q.1 (q.2 ρ) (rd id) := by
  unfold objT at h
  split at h <;> try (cases h; done)
  rename_i hm
  rw [hrd id (by simpa using hm)]
  exact hr.o id q h

theorem cellsT_ok {id nb : Nat} {cs : List SV} (hcs : ∀ j q, j < nb → get Γ (.c id j) = some q → ∃ sv, cs[j]? = some sv ∧ RS q.1 (q.2 ρ) sv) : ∀ {n off : Nat} {q : Σ r : Ty, HS Γ → D r}, cellsT Γ id n off = some q → off + n < nb → ∃ l, allM closed ((cs.drop off).take (n + 1)) = some l ∧ Can q.1 (q.2 ρ) l ∧ off + (n + 1) ≤ cs.length := by
  intro n
  induction n with
  | zero =>
    intro off q h hb
    simp only [cellsT] at h
    split at h <;> try (cases h; done)
    rename_i t f hg
    cases h
    obtain ⟨sv, h1, c, rfl, h3⟩ := hcs off _ (by omega) hg
    have hlt := (List.getElem?_eq_some_iff.1 h1).1
    refine ⟨[c], ?_, ?_, by omega⟩
    · rw [List.drop_eq_getElem_cons hlt, (List.getElem?_eq_some_iff.1 h1).2]
      simp [allM, closed]
    · unfold Can; exact ⟨c, rfl, h3⟩
  | succ n ih =>
    intro off q h hb
    simp only [cellsT] at h
    split at h <;> try (cases h; done)
    rename_i t f p hg hp
    cases h
    obtain ⟨sv, h1, c, rfl, h3⟩ := hcs off _ (by omega) hg
    have hlt := (List.getElem?_eq_some_iff.1 h1).1
    obtain ⟨l, g1, g2, g3⟩ := ih hp (by omega)
    refine ⟨c :: l, ?_, ?_, by omega⟩
    · rw [List.drop_eq_getElem_cons hlt, (List.getElem?_eq_some_iff.1 h1).2]
      simp only [List.take_succ_cons, allM, closed, Option.bind_some]
      rw [g1]; rfl
    · unfold Can; exact ⟨c, l, rfl, h3, g2⟩

theorem cellsN_row {t : Ty} {x : D t} {c : CV} {n : Nat} (hv : t.val = true) (hl : lenR (rowOf t) = some n) (h : Can t x [c]) : c.cells.length = n ∧ cellsN c = n := by
  have h1 := lenR_can hl (rowOf_can hv h)
  refine ⟨h1, ?_⟩
  rw [← h1]
  cases c <;> simp [cellsN, CV.cells]

theorem partsT_ok (hr : Rep Γ ρ st) : ∀ {ps : List (Nat × Nat × SO)} {r q : Σ r : Ty, Dyn (HS Γ) (D r)} {cs : List CV} {x : D q.1}, partsT Γ r ps = some q → q.2.val ρ = some x → (∀ y, r.2.val ρ = some y → Can r.1 y cs) →
    (∃ y, r.2.val ρ = some y) ∧ ∃ l cs', allM (fun p => (closed (so G st.fr p.2.2)).map fun v => (p.1, p.2.1, v)) ps = some l ∧ fillC cs l = some cs' ∧ Can q.1 x cs' := by
  intro ps
  induction ps with
  | nil =>
    intro r q cs x h hx hc
    simp only [partsT, Option.some.injEq] at h
    subst h
    exact ⟨⟨x, hx⟩, [], cs, rfl, rfl, hc x hx⟩
  | cons p ps ih =>
    intro r q cs x h hx hc
    simp only [partsT] at h
    split at h <;> try (cases h; done)
    rename_i t ht
    split at h <;> try (cases h; done)
    rename_i g hg
    split at h <;> try (cases h; done)
    rename_i hvl
    -- the state behind this part
    have key : ∀ y, ((r.2.both t.2).map fun _ z => g.2 z.1 (rowD t.1 z.2)).val ρ = some y → ∃ y0 z c, r.2.val ρ = some y0 ∧ t.2.val ρ = some z ∧ so G st.fr p.2.2 = .c c ∧ cellsN c = p.2.1 ∧ p.1 + p.2.1 ≤ cs.length ∧ Can g.1 y (cs.take p.1 ++ c.cells ++ cs.drop (p.1 + p.2.1)) := by
      intro y hy
      obtain ⟨b, h1, h2⟩ := Dyn.map_val hy
      obtain ⟨h3, h4⟩ := Dyn.both_val h1
      obtain ⟨c, h5, h6⟩ := rdV_ok (G := G) ht hr h4
      obtain ⟨e1, e2⟩ := cellsN_row hvl.1 hvl.2 h6
      obtain ⟨g1, g2⟩ := putR_can hg (hc _ h3) (rowOf_can hvl.1 h6)
      rw [e1] at g1 g2
      exact ⟨_, _, c, h3, h4, h5, e2, g2, h2 ▸ g1⟩
    -- its cells, whatever it is
    by_cases hex : ∃ y, ((r.2.both t.2).map fun _ z => g.2 z.1 (rowD t.1 z.2)).val ρ = some y
    · obtain ⟨y, hy⟩ := hex
      obtain ⟨y0, z, c, k1, k2, k3, k4, k5, k6⟩ := key y hy
      obtain ⟨_, l, cs', i1, i2, i3⟩ := ih (cs := cs.take p.1 ++ c.cells ++ cs.drop (p.1 + p.2.1)) h hx (fun y' hy' => by
        rw [hy] at hy'
        cases hy'
        exact k6)
      refine ⟨⟨y0, k1⟩, (p.1, p.2.1, c) :: l, cs', ?_, ?_, i3⟩
      · simp only [allM]
        rw [k3, i1]; rfl
      · simp only [fillC]
        rw [if_pos ⟨k4, k5⟩]
        exact i2
    · exfalso
      obtain ⟨⟨y, hy⟩, _⟩ := ih (cs := []) h hx (fun y hy => absurd ⟨y, hy⟩ hex)
      exact hex ⟨y, hy⟩

theorem mmT_ok (hr : Rep Γ ρ st) {mx : Bool} {k : IntKind} : ∀ {xs : List SO} {acc e : Dyn (HS Γ) Int} {z : Int}, mmT Γ mx k acc xs = some e → e.val ρ = some z → ∃ a l, acc.val ρ = some a ∧ allM (fun x => closed (so G st.fr x)) xs = some l ∧ l.foldlM (minmaxC mx) (.int k a) = some (.int k z) := by
  intro xs
  induction xs with
  | nil =>
    intro acc e z h hz
    simp only [mmT, Option.some.injEq] at h
    subst h
    exact ⟨z, [], hz, rfl, rfl⟩
  | cons x xs ih =>
    intro acc e z h hz
    simp only [mmT] at h
    split at h <;> try (cases h; done)
    rename_i k' d hd
    split at h <;> try (cases h; done)
    rename_i hk
    subst hk
    obtain ⟨a, l, h1, h2, h3⟩ := ih h hz
    cases mx <;>
    · obtain ⟨b, g1, g2⟩ := Dyn.map_val h1
      obtain ⟨g3, g4⟩ := Dyn.both_val g1
      obtain ⟨c, g5, g6⟩ := rdV_ok (G := G) hd hr g4
      unfold Can at g6
      cases g6
      refine ⟨b.1, _ :: l, g3, by simp only [allM]; rw [g5, h2]; rfl, ?_⟩
      simp only [List.foldlM_cons, minmaxC, if_true, Bool.false_eq_true, if_false]
      subst g2
      exact h3

theorem capsT_ok (hr : Rep Γ ρ st) : ∀ {xs : List SO} {q : Σ r : Ty, Dyn (HS Γ) (D r)} {x : D q.1}, capsT Γ xs = some q → q.2.val ρ = some x → ∃ l, allM (fun x => closed (so G st.fr x)) xs = some l ∧ Can q.1 x l
  | [], q, x, h, hx => by
    simp only [capsT, Option.some.injEq] at h
    subst h
    exact ⟨[], rfl, by unfold Can; rfl⟩
  | [y], q, x, h, hx => by
    simp only [capsT] at h
    split at h <;> try (cases h; done)
    rename_i p hp
    cases h
    obtain ⟨c, h1, h2⟩ := rdV_ok (G := G) hp hr hx
    exact ⟨[c], by simp [allM, h1, closed], by unfold Can; exact ⟨c, rfl, h2⟩⟩
  | y :: z :: xs, q, x, h, hx => by
    simp only [capsT] at h
    split at h <;> try (cases h; done)
    rename_i p p' hp hp'
    cases h
    obtain ⟨g1, g2⟩ := Dyn.both_val hx
    obtain ⟨c, h1, h2⟩ := rdV_ok (G := G) hp hr g1
    obtain ⟨l, h3, h4⟩ := capsT_ok hr hp' g2
    refine ⟨c :: l, ?_, by unfold Can; exact ⟨c, l, rfl, h2, h4⟩⟩
    have e : allM (fun x => closed (so G st.fr x)) (y :: z :: xs) = (closed (so G st.fr y)).bind fun b => (allM (fun x => closed (so G st.fr x)) (z :: xs)).map fun bs => b :: bs := rfl
    rw [e, h1, h3]; rfl

theorem boundsT_ok (hr : Rep Γ ρ st) {A : Type} {len : A → Int} {da : Dyn (HS Γ) A} {lo hi : Option SO} {e : Dyn (HS Γ) (A × Int × Int)} {p : A × Int × Int} (h : boundsT Γ len da lo hi = some e) (hp : e.val ρ = some p) :
    da.val ρ = some p.1 ∧ (∀ n : Nat, (n : Int) = len p.1 → 0 ≤ p.2.2 → bound n (hi.map (so G st.fr)) = some p.2.2.toNat) ∧ (0 ≤ p.2.1 → bound 0 (lo.map (so G st.fr)) = some p.2.1.toNat) := by
  have hint : ∀ {x : SO} {k : IntKind} {d : Dyn (HS Γ) (D (.int k))} {n : Int} {m : Nat}, rdV Γ x = some ⟨.int k, d⟩ → d.val ρ = some n → 0 ≤ n → bound m (some (so G st.fr x)) = some n.toNat := by
    intro x k d n m hx hn h0
    obtain ⟨c, h1, h2⟩ := rdV_ok (G := G) hx hr hn
    unfold Can at h2
    cases h2
    simp [bound, h1, h0]
  unfold boundsT at h
  split at h
  · cases h
    obtain ⟨b, h1, h2⟩ := Dyn.map_val hp
    subst h2
    refine ⟨h1, fun n hn _ => ?_, fun _ => rfl⟩
    simp [bound, ← hn]
  · split at h <;> try (cases h; done)
    rename_i l k d hd
    cases h
    obtain ⟨b, h1, h2⟩ := Dyn.map_val hp
    obtain ⟨h3, h4⟩ := Dyn.both_val h1
    subst h2
    refine ⟨h3, fun n hn _ => ?_, fun h0 => hint hd h4 h0⟩
    simp [bound, ← hn]
  · split at h <;> try (cases h; done)
    rename_i l k d hd
    cases h
    obtain ⟨b, h1, h2⟩ := Dyn.map_val hp
    obtain ⟨h3, h4⟩ := Dyn.both_val h1
    subst h2
    exact ⟨h3, fun n _ h0 => hint hd h4 h0, fun _ => rfl⟩
  · split at h <;> try (cases h; done)
    rename_i l hh k d k' d' hd hd'
    cases h
    obtain ⟨b, h1, h2⟩ := Dyn.map_val hp
    obtain ⟨h3, h4⟩ := Dyn.both_val h1
    obtain ⟨h5, h6⟩ := Dyn.both_val h4
    subst h2
    exact ⟨h3, fun n _ h0 => hint hd' h6 h0, fun h0 => hint hd h5 h0⟩

theorem loadT_ok (hr : Rep Γ ρ st) (hrd : ∀ id, msk.contains id = false → rd id = st.ob id) {sz : Option Nat} {q q' : Σ k : EK, Dyn (HS Γ) (DK k)} {sv : SV} {y : DK q'.1} (h : loadT Γ msk sz q = some q') (hy : q'.2.val ρ = some y)
    (hs : ∀ x, q.2.val ρ = some x → RS q.1 x sv) : ∃ sv', loadV rd sz sv = some sv' ∧ RS q'.1 y sv' := by
  obtain ⟨k, d⟩ := q
  cases k <;> try (cases h; done)
  · rename_i ex r
    simp only [loadT] at h
    split at h
    · split at h <;> try (cases h; done)
      rename_i p hp
      cases h
      obtain ⟨x, h1, h2⟩ := Dyn.map_val hy
      obtain ⟨cs, rest, e, hc, _⟩ := hs x h1
      subst e
      obtain ⟨c, h3, h4⟩ := nthR_can hp hc
      refine ⟨.c c, ?_, c, rfl, h2 ▸ h4⟩
      have hlt := (List.getElem?_eq_some_iff.1 h3).1
      simp [loadV, List.getElem?_append_left hlt, h3]
    · rename_i n
      split at h <;> try (cases h; done)
      rename_i p hp
      cases h
      obtain ⟨x, h1, h2⟩ := Dyn.map_val hy
      obtain ⟨cs, rest, e, hc, _⟩ := hs x h1
      subst e
      obtain ⟨h3, h4⟩ := takeR_can hp hc
      refine ⟨.c (.agg (cs.take n)), ?_, .agg (cs.take n), rfl, by unfold Can; exact ⟨_, rfl, h2 ▸ h3⟩⟩
      have : n ≤ cs.length + rest.length := by omega
      simp [loadV, partC, this, List.take_append_of_le_length h4]
  · rename_i id o
    simp only [loadT] at h
    split at h <;> try (cases h; done)
    rename_i n g hg
    obtain ⟨cs, e, hl, hcs⟩ := objT_ok hg hr hrd
    split at h
    · split at h <;> try (cases h; done)
      rename_i hb
      split at h <;> try (cases h; done)
      rename_i p hp
      cases h
      dsimp only at hy
      obtain ⟨u, hu, hy⟩ := Dyn.map_val hy
      have hsv : sv = .ptr id o := hs u hu
      subst hsv
      subst hy
      obtain ⟨sv', h1, h2⟩ := hcs o _ hb hp
      exact ⟨sv', by simp [loadV, e, h1], h2⟩
    · rename_i n
      split at h <;> try (cases h; done)
      rename_i hb
      split at h <;> try (cases h; done)
      rename_i p hp
      cases h
      dsimp only at hy
      obtain ⟨u, hu, hy⟩ := Dyn.map_val hy
      have hsv : sv = .ptr id o := hs u hu
      subst hsv
      subst hy
      obtain ⟨l, h1, h2, h3⟩ := cellsT_ok hcs hp hb
      exact ⟨.c (.agg l), by simp only [loadV, e]; rw [if_pos h3, h1]; rfl, .agg l, rfl, by unfold Can; exact ⟨l, rfl, h2⟩⟩
    · cases h
  · rename_i id size o
    simp only [loadT] at h
    split at h <;> try (cases h; done)
    rename_i e' size' t xs hg
    split at h <;> try (cases h; done)
    rename_i hsz
    obtain ⟨hsz, hv⟩ := hsz
    subst hsz
    obtain ⟨es, e, hes⟩ := objT_ok hg hr hrd
    split at h
    · split at h <;> try (cases h; done)
      rename_i p hp
      cases h
      obtain ⟨b, h1, h2⟩ := Dyn.comp_val hy
      obtain ⟨i, h3, h4⟩ := Dyn.map_val h1
      subst h4
      have hsv : sv = .eptr id i size o := hs i h3
      subst hsv
      obtain ⟨a, h5, h6⟩ := Option.map_eq_some_iff.1 h2
      obtain ⟨c, h7, h8⟩ := hes.get h5
      obtain ⟨c', h9, h10⟩ := nthR_can hp (rowOf_can hv h8)
      exact ⟨.c c', by simp [loadV, e, h7, partC, h9], c', rfl, h6 ▸ h10⟩
    · rename_i n
      split at h <;> try (cases h; done)
      rename_i hpos
      split at h <;> try (cases h; done)
      rename_i p hp
      cases h
      obtain ⟨b, h1, h2⟩ := Dyn.comp_val hy
      obtain ⟨i, h3, h4⟩ := Dyn.map_val h1
      subst h4
      have hsv : sv = .eptr id i size o := hs i h3
      subst hsv
      obtain ⟨a, h5, h6⟩ := Option.map_eq_some_iff.1 h2
      obtain ⟨c, h7, h8⟩ := hes.get h5
      obtain ⟨h9, h10⟩ := subR_can hp (rowOf_can hv h8)
      refine ⟨.c (.agg ((c.cells.drop o).take n)), ?_, _, rfl, by unfold Can; exact ⟨_, rfl, h6 ▸ h9⟩⟩
      have hle : o + n ≤ c.cells.length ∨ n = 0 := by omega
      rcases hle with hle | hle
      · simp only [loadV, e, if_true, h7, Option.bind_some, partC]
        rw [if_pos hle]; rfl
      · exact (hpos hle).elim

theorem lenT_ok (hr : Rep Γ ρ st) (hrd : ∀ id, msk.contains id = false → rd id = st.ob id) {kd : Nat} {x : SO} {d : Dyn (HS Γ) Int} {n : Int} (h : lenT G Γ msk kd x = some d) (hn : d.val ρ = some n) : lenV rd kd (so G st.fr x) = some n := by
  unfold lenT at h
  split at h
  · rename_i d' hd
    cases h
    obtain ⟨s, h1, h2⟩ := Dyn.map_val hn
    obtain ⟨c, e, hc⟩ := rdK_ok hd hr h1
    unfold Can at hc
    cases hc
    rw [e, h2]; rfl
  · rename_i t d' hd
    cases h
    obtain ⟨s, h1, h2⟩ := Dyn.map_val hn
    obtain ⟨c, e, hc⟩ := rdK_ok hd hr h1
    unfold Can at hc
    obtain ⟨nl, es, e', hes⟩ := hc
    cases e'
    rw [e, h2]
    simp [lenV, hes.length]
  · rename_i d' hd
    cases h
    obtain ⟨s, h1, h2⟩ := Dyn.map_val hn
    obtain ⟨c, e, hc⟩ := rdK_ok hd hr h1
    unfold Can at hc
    cases hc
    rw [e, h2]; rfl
  · rename_i id f hd
    split at h <;> try (cases h; done)
    rename_i e' sz t xs hg
    cases h
    obtain ⟨u, hu, hn⟩ := Dyn.map_val hn
    subst hn
    obtain ⟨es, e, hes⟩ := objT_ok hg hr hrd
    have hs : so G st.fr x = .osl id := rdK_ok hd hr hu
    rw [hs]
    simp [lenV, e, hes.length]
  · rename_i k v d' hd
    cases h
    obtain ⟨s, h1, h2⟩ := Dyn.map_val hn
    obtain ⟨c, e, hc⟩ := rdK_ok hd hr h1
    unfold Can at hc
    obtain ⟨nl, ks, vs, e', hks, _⟩ := hc
    cases e'
    rw [e, h2]
    simp [lenV, hks.length]
  · rename_i id f hd
    split at h <;> try (cases h; done)
    rename_i mt k v xs hg
    cases h
    obtain ⟨u, hu, hn⟩ := Dyn.map_val hn
    subst hn
    obtain ⟨z, ks, vs, e, _, hks, _⟩ := objT_ok hg hr hrd
    have hs : so G st.fr x = .omap id := rdK_ok hd hr hu
    rw [hs]
    simp [lenV, e, hks.length]
  · cases h

theorem lookF_ok (hr : Rep Γ ρ st) {key : SO} {kq : Σ t : Ty, Dyn (HS Γ) (D t)} (hkq : rdV Γ key = some kq) {ok : Bool} {k v : Ty} {dm : Dyn (HS Γ) (List (D k × D v))} {q : Σ k : EK, Dyn (HS Γ) (DK k)} {y : DK q.1} (h : lookF Γ kq ok k v dm = some q) (hy : q.2.val ρ = some y) :
    ∃ m ck, dm.val ρ = some m ∧ so G st.fr key = .c ck ∧ plainK k = true ∧ conf (ktT k) ck = true ∧
        ∀ {ks vs : List CV}, CanAll (fun x c => Can k x.1 [c]) m ks → CanAll (fun x c => Can v x.2 [c]) m vs → ∀ {z : CV}, Can v (zeroT v) [z] → ∃ c, (let (a, b) := look (ktT k) z ks vs ck; some (if ok then CV.tup [a, .bool b] else a)) = some c ∧ RS q.1 y (.c c) := by
  unfold lookF at h
  split at h <;> try (cases h; done)
  rename_i f hf
  split at h <;> try (cases h; done)
  rename_i hp
  split at h
  · cases h
    obtain ⟨p, h1, h2⟩ : ∃ p, (dm.both kq.2).val ρ = some p ∧ y = alGet (eqZ k) (zeroT v) (f p.2) p.1 := Dyn.map_val (C := D (.tup (.cons v (.one .bool)))) (B := List (D k × D v) × D kq.1) (g := fun _ p => alGet (eqZ k) (zeroT v) (f p.2) p.1) hy
    obtain ⟨h3, h4⟩ := Dyn.both_val h1
    obtain ⟨ck, h5, h6⟩ := rdV_ok (G := G) hkq hr h4
    have h7 := coeT_can _ _ hf h6
    refine ⟨p.1, ck, h3, h5, hp, (eqZ_ok hp h7 h7).2, fun {ks vs} g1 g2 {z} g3 => ?_⟩
    obtain ⟨c, l1, l2⟩ := look_ok hp h7 g3 g1 g2
    rw [l1]
    subst h2
    refine ⟨_, rfl, _, rfl, ?_⟩
    unfold Can
    refine ⟨_, rfl, ?_⟩
    unfold Can
    refine ⟨_, _, rfl, l2, ?_⟩
    unfold Can
    exact ⟨_, rfl, by unfold Can; rfl⟩
  · cases h
    obtain ⟨p, h1, h2⟩ : ∃ p, (dm.both kq.2).val ρ = some p ∧ y = (alGet (eqZ k) (zeroT v) (f p.2) p.1).1 := Dyn.map_val (C := D v) (B := List (D k × D v) × D kq.1) (g := fun _ p => (alGet (eqZ k) (zeroT v) (f p.2) p.1).1) hy
    obtain ⟨h3, h4⟩ := Dyn.both_val h1
    obtain ⟨ck, h5, h6⟩ := rdV_ok (G := G) hkq hr h4
    have h7 := coeT_can _ _ hf h6
    refine ⟨p.1, ck, h3, h5, hp, (eqZ_ok hp h7 h7).2, fun {ks vs} g1 g2 {z} g3 => ?_⟩
    obtain ⟨c, l1, l2⟩ := look_ok hp h7 g3 g1 g2
    rw [l1]
    subst h2
    exact ⟨_, rfl, _, rfl, l2⟩
theorem lookT_ok (hr : Rep Γ ρ st) (hrd : ∀ id, msk.contains id = false → rd id = st.ob id) {mt : TypeId} {kt : KT} {z : CV} {ok : Bool} {x key : SO} {q : Σ k : EK, Dyn (HS Γ) (DK k)} {y : DK q.1} (h : lookT G Γ msk mt kt z ok x key = some q) (hy : q.2.val ρ = some y) :
    ∃ c, lookV rd mt kt z ok (so G st.fr x) (so G st.fr key) = some c ∧ RS q.1 y (.c c) := by
  unfold lookT at h
  split at h <;> try (cases h; done)
  rename_i kq hkq
  split at h
  · rename_i k v d hd
    split at h <;> try (cases h; done)
    rename_i hz
    obtain ⟨m, ck, h1, h2, hp, h3, h4⟩ := lookF_ok (G := G) hr hkq h hy
    obtain ⟨c, e, hc⟩ := rdK_ok hd hr h1
    unfold Can at hc
    obtain ⟨nl, ks, vs, e', hk, hv⟩ := hc
    cases e'
    rw [e, h2]
    have hkt := ktB_ok hz.2
    subst hkt
    obtain ⟨c, g1, g2⟩ := h4 hk hv (zeroOk_can hz.1)
    refine ⟨c, ?_, g2⟩
    simp only [lookV, h3, keys_conf hp hk, Bool.and_self, if_true]
    exact g1
  · rename_i id f hd
    split at h <;> try (cases h; done)
    rename_i mt' k v m' hg
    split at h <;> try (cases h; done)
    rename_i hmt
    subst hmt
    obtain ⟨m, ck, h1, h2, hp, h3, h4⟩ := lookF_ok (G := G) hr hkq h hy
    obtain ⟨u, hu, h1⟩ := Dyn.map_val h1
    subst h1
    obtain ⟨z', ks, vs, e, hz, hk, hv⟩ := objT_ok hg hr hrd
    have hs : so G st.fr x = .omap id := rdK_ok hd hr hu
    rw [hs, h2]
    obtain ⟨c, g1, g2⟩ := h4 hk hv hz
    refine ⟨c, ?_, g2⟩
    simp only [lookV, e, h3, and_self, if_true]
    exact g1
  · cases h
end
end WB
