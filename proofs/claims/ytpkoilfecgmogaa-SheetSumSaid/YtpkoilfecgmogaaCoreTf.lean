/-
  THE OWN LAYER, TF: what each operation that yields a value comes to.
-/
import Derived.Test.YtpkoilfecgmogaaCoreTe
namespace WB
open Go Go.RowKit

section
variable {G : Nat → List CV} {Γ : TC} {msk : List Nat} {ρ : HS Γ} {st : St} {rd : Nat → Ob}

theorem idx_of {α β : Type} {R : α → β → Prop} {xs : List α} {es : List β} (h : CanAll R xs es) {n : Int} {a : α} (ha : lAt xs n = some a) : ∃ b, idxOf n es.length = some n.toNat ∧ es[n.toNat]? = some b ∧ R a b ∧ xs[n.toNat]? = some a := by
  unfold lAt at ha
  split at ha <;> try (cases ha; done)
  rename_i hn
  obtain ⟨b, h1, h2⟩ := h.get ha
  refine ⟨b, ?_, h1, h2, ha⟩
  unfold idxOf
  rw [h.length, if_pos hn]

theorem lAt_some {α : Type} {xs : List α} {n : Int} {a : α} (ha : lAt xs n = some a) : 0 ≤ n ∧ n < xs.length ∧ xs[n.toNat]? = some a := by
  unfold lAt at ha
  split at ha <;> try (cases ha; done)
  rename_i hn
  exact ⟨hn.1, hn.2, ha⟩

theorem lSub_some {α : Type} {xs ys : List α} {lo hi : Int} (h : lSub xs lo hi = some ys) : 0 ≤ lo ∧ lo ≤ hi ∧ hi ≤ xs.length ∧ ys = (xs.take hi.toNat).drop lo.toNat := by
  unfold lSub at h
  split at h <;> try (cases h; done)
  rename_i hh
  cases h
  exact ⟨hh.1, hh.2.1, hh.2.2, rfl⟩

theorem val_ok (hr : Rep Γ ρ st) (hrd : ∀ id, msk.contains id = false → rd id = st.ob id) {op : SOp} {q : Σ k : EK, Dyn (HS Γ) (DK k)} {y : DK q.1} (h : valK G Γ msk op = some q) (hy : q.2.val ρ = some y) :
    ∃ sv, valOp rd (so G st.fr) op = some sv ∧ RS q.1 y sv := by
  cases op <;> simp only [valK] at h <;> try (cases h; done)
  case mov x => exact ⟨_, rfl, rdK_ok h hr hy⟩
  case pick c a b =>
    split at h <;> try (cases h; done)
    rename_i dc qa qb hc ha hb
    have fin : ∀ {t : Ty} {f : D qa.1 → D t} {g : D qb.1 → D t}, (∀ {x : D qa.1} {cs : List CV}, Can qa.1 x cs → Can t (f x) cs) → (∀ {x : D qb.1} {cs : List CV}, Can qb.1 x cs → Can t (g x) cs) → ∀ {z : D t}, (pickD dc (qa.2.map fun _ y => f y) (qb.2.map fun _ y => g y)).val ρ = some z →
        ∃ sv, valOp rd (so G st.fr) (.pick c a b) = some sv ∧ RS (.v t) z sv := by
      intro t f g hf hg z hz
      obtain ⟨b', h1, h2⟩ := pickD_val hz
      obtain ⟨c1, h3, h4⟩ := rdV_ok (G := G) hc hr h1
      unfold Can at h4
      cases h4
      cases b'
      · simp only [Bool.false_eq_true, if_false] at h2
        obtain ⟨w, h5, h6⟩ := Dyn.map_val h2
        obtain ⟨c2, h7, h8⟩ := rdV_ok (G := G) hb hr h5
        exact ⟨so G st.fr b, by simp [valOp, h3], c2, h7, h6 ▸ hg h8⟩
      · simp only [if_true] at h2
        obtain ⟨w, h5, h6⟩ := Dyn.map_val h2
        obtain ⟨c2, h7, h8⟩ := rdV_ok (G := G) ha hr h5
        exact ⟨so G st.fr a, by simp [valOp, h3], c2, h7, h6 ▸ hf h8⟩
    have idm : ∀ {t : Ty} (d : Dyn (HS Γ) (D t)), d.map (fun _ y => y) = d := by
      intro t d
      cases d with
      | tot f => rfl
      | par f =>
        simp only [Dyn.map, Dyn.par.injEq]
        funext a
        cases f a <;> rfl
    split at h
    · rename_i g hg
      cases h
      try dsimp only at hy
      refine fin (f := fun y => y) (fun hx => hx) (fun hx => coeT_can _ _ hg hx) ?_
      rw [idm]
      exact hy
    · split at h <;> try (cases h; done)
      rename_i g hg
      cases h
      try dsimp only at hy
      refine fin (g := fun y => y) (fun hx => coeT_can _ _ hg hx) (fun hx => hx) ?_
      rw [idm]
      exact hy
  case bin op x y' =>
    split at h <;> try (cases h; done)
    rename_i p q' hp hq
    split at h <;> try (cases h; done)
    rename_i b hb
    cases h
    try dsimp only at hy
    obtain ⟨z, h1, h2⟩ := Dyn.comp_val hy
    obtain ⟨h3, h4⟩ := Dyn.both_val h1
    obtain ⟨c1, e1, g1⟩ := rdV_ok (G := G) hp hr h3
    obtain ⟨c2, e2, g2⟩ := rdV_ok (G := G) hq hr h4
    obtain ⟨c, h5, h6⟩ := binT_ok hb g1 g2 h2
    exact ⟨.c c, by simp [valOp, e1, e2, h5], c, rfl, h6⟩
  case eqs neg ts x y' =>
    split at h <;> try (cases h; done)
    rename_i r d s e hd he
    split at h <;> try (cases h; done)
    rename_i f hf
    split at h <;>
    · cases h
      try dsimp only at hy
      obtain ⟨z, h1, h2⟩ := Dyn.map_val hy
      obtain ⟨h3, h4⟩ := Dyn.both_val h1
      obtain ⟨c1, e1, g1⟩ := rdV_ok (G := G) hd hr h3
      obtain ⟨c2, e2, g2⟩ := rdV_ok (G := G) he hr h4
      unfold Can at g1 g2
      obtain ⟨l1, q1, g1⟩ := g1
      obtain ⟨l2, q2, g2⟩ := g2
      cases q1
      cases q2
      have h5 := eqRT_ok hf g1 g2
      exact ⟨.c (.bool y), by rw [h2]; simp [valOp, e1, e2, eqA, h5], _, rfl, by unfold Can; rfl⟩
  case beq neg x y' =>
    split at h <;> try (cases h; done)
    rename_i d e hd he
    split at h <;>
    · cases h
      try dsimp only at hy
      obtain ⟨z, h1, h2⟩ := Dyn.map_val hy
      obtain ⟨h3, h4⟩ := Dyn.both_val h1
      obtain ⟨c1, e1, g1⟩ := rdV_ok (G := G) hd hr h3
      obtain ⟨c2, e2, g2⟩ := rdV_ok (G := G) he hr h4
      unfold Can at g1 g2
      cases g1
      cases g2
      exact ⟨.c (.bool y), by rw [h2]; simp [valOp, e1, e2], _, rfl, by unfold Can; rfl⟩
  case isnil kd neg x =>
    split at h <;> try (cases h; done)
    · rename_i d hd
      split at h <;>
      · cases h
        try dsimp only at hy
        obtain ⟨z, h1, h2⟩ := Dyn.map_val hy
        obtain ⟨c1, e1, g1⟩ := rdV_ok (G := G) hd hr h1
        unfold Can at g1
        cases g1
        refine ⟨.c (.bool y), ?_, _, rfl, by unfold Can; rfl⟩
        rw [h2]
        cases z <;> simp [valOp, e1]
    · rename_i d hd
      cases h
      try dsimp only at hy
      obtain ⟨z, h1, h2⟩ := Dyn.map_val hy
      obtain ⟨c1, e1, g1⟩ := rdV_ok (G := G) hd hr h1
      unfold Can at g1
      cases g1
      refine ⟨.c (.bool y), ?_, _, rfl, by unfold Can; rfl⟩
      rw [h2]
      cases neg <;> simp [valOp, e1]
  case un op x =>
    split at h <;> try (cases h; done)
    all_goals
      rename_i d hd
      cases h
      try dsimp only at hy
      obtain ⟨z, h1, h2⟩ := Dyn.map_val hy
      obtain ⟨c1, e1, g1⟩ := rdV_ok (G := G) hd hr h1
      unfold Can at g1
      cases g1
      subst h2
      exact ⟨_, by simp only [valOp, e1]; rfl, _, rfl, by unfold Can; rfl⟩
  case cvi k x =>
    split at h <;> try (cases h; done)
    rename_i k' d hd
    cases h
    try dsimp only at hy
    obtain ⟨z, h1, h2⟩ := Dyn.map_val hy
    obtain ⟨c1, e1, g1⟩ := rdV_ok (G := G) hd hr h1
    unfold Can at g1
    cases g1
    subst h2
    exact ⟨_, by simp only [valOp, e1]; rfl, _, rfl, by unfold Can; rfl⟩
  case cvrune x =>
    split at h <;> try (cases h; done)
    rename_i k' d hd
    cases h
    try dsimp only at hy
    obtain ⟨z, h1, h2⟩ := Dyn.map_val hy
    obtain ⟨c1, e1, g1⟩ := rdV_ok (G := G) hd hr h1
    unfold Can at g1
    cases g1
    subst h2
    exact ⟨_, by simp only [valOp, e1]; rfl, _, rfl, by unfold Can; rfl⟩
  case bytes e x =>
    split at h <;> try (cases h; done)
    rename_i d hd
    cases h
    try dsimp only at hy
    obtain ⟨s, h1, h2⟩ := Dyn.comp_val hy
    obtain ⟨c1, e1, g1⟩ := rdV_ok (G := G) hd hr h1
    unfold Can at g1
    cases g1
    simp only [Dyn.val] at h2
    split at h2 <;> try (cases h2; done)
    rename_i hl
    cases h2
    refine ⟨_, by simp only [valOp, e1]; rw [if_pos hl], _, rfl, ?_⟩
    unfold Can
    refine ⟨_, _, rfl, ?_⟩
    clear h1 e1 hl hy
    induction s with
    | nil => rfl
    | cons b s ih => exact ⟨_, _, rfl, by unfold Can; rfl, ih⟩
  case cvid x =>
    split at h <;> try (cases h; done)
    rename_i d hd
    cases h
    try dsimp only at hy
    obtain ⟨c1, e1, g1⟩ := rdV_ok (G := G) hd hr hy
    have g1' := g1
    unfold Can at g1'
    cases g1'
    exact ⟨_, by simp only [valOp, e1], _, rfl, g1⟩
  case build z parts =>
    split at h <;> try (cases h; done)
    rename_i p hp
    split at h <;> try (cases h; done)
    rename_i r hr'
    cases h
    try dsimp only at hy
    obtain ⟨_, l, cs', h1, h2, h3⟩ := partsT_ok (G := G) hr hr' hy (cs := z) (fun y hy' => by cases hy'; exact constR_can hp)
    refine ⟨.c (.agg cs'), ?_, _, rfl, by unfold Can; exact ⟨_, rfl, h3⟩⟩
    simp only [valOp]
    rw [h1]
    simp [h2]
  case field off sz x =>
    split at h <;> try (cases h; done)
    rename_i r d hd
    split at h
    · split at h <;> try (cases h; done)
      rename_i p hp
      cases h
      try dsimp only at hy
      obtain ⟨z, h1, h2⟩ := Dyn.map_val hy
      obtain ⟨c1, e1, g1⟩ := rdV_ok (G := G) hd hr h1
      unfold Can at g1
      obtain ⟨l, e2, g1⟩ := g1
      cases e2
      obtain ⟨c, h3, h4⟩ := nthR_can hp g1
      exact ⟨.c c, by simp [valOp, e1, partC, h3], c, rfl, h2 ▸ h4⟩
    · rename_i n
      split at h <;> try (cases h; done)
      rename_i p hp
      split at h <;> try (cases h; done)
      rename_i hn
      cases h
      try dsimp only at hy
      obtain ⟨z, h1, h2⟩ := Dyn.map_val hy
      obtain ⟨c1, e1, g1⟩ := rdV_ok (G := G) hd hr h1
      unfold Can at g1
      obtain ⟨l, e2, g1⟩ := g1
      cases e2
      obtain ⟨h3, h4⟩ := subR_can hp g1
      have hle : off + n ≤ l.length := by omega
      exact ⟨.c (.agg ((l.drop off).take n)), by simp [valOp, e1, partC, hle], _, rfl, by unfold Can; exact ⟨_, rfl, h2 ▸ h3⟩⟩
  case ext x i =>
    split at h <;> try (cases h; done)
    · rename_i r d hd
      split at h <;> try (cases h; done)
      rename_i p hp
      cases h
      try dsimp only at hy
      obtain ⟨z, h1, h2⟩ := Dyn.map_val hy
      obtain ⟨c1, e1, g1⟩ := rdK_ok hd hr h1
      unfold Can at g1
      obtain ⟨l, e2, g1⟩ := g1
      cases e2
      obtain ⟨c, h3, h4⟩ := nthR_can hp g1
      exact ⟨.c c, by simp [valOp, e1, h3], c, rfl, h2 ▸ h4⟩
    · rename_i id k v d hd
      split at h <;> try (cases h; done)
      · cases h
        try dsimp only at hy
        obtain ⟨z, h1, h2⟩ := Dyn.map_val hy
        obtain ⟨ck, cv, e1, g1, g2⟩ := rdK_ok hd hr h1
        exact ⟨.c cv, by simp [valOp, e1], cv, rfl, h2 ▸ g2⟩
      · cases h
        try dsimp only at hy
        obtain ⟨z, h1, h2⟩ := Dyn.map_val hy
        obtain ⟨ck, cv, e1, g1, g2⟩ := rdK_ok hd hr h1
        exact ⟨.stamp id ck, by simp [valOp, e1], ck, rfl, h2 ▸ g1⟩
  case minmax mx xs =>
    split at h <;> try (cases h; done)
    rename_i x xs
    split at h <;> try (cases h; done)
    rename_i k d hd
    split at h <;> try (cases h; done)
    rename_i e he
    cases h
    try dsimp only at hy
    obtain ⟨a, l, h1, h2, h3⟩ := mmT_ok (G := G) hr he hy
    obtain ⟨c1, e1, g1⟩ := rdV_ok (G := G) hd hr h1
    unfold Can at g1
    cases g1
    refine ⟨_, ?_, _, rfl, by unfold Can; rfl⟩
    have e : allM (fun x => closed (so G st.fr x)) (x :: xs) = (closed (so G st.fr x)).bind fun b => (allM (fun x => closed (so G st.fr x)) xs).map fun bs => b :: bs := rfl
    simp only [valOp]
    rw [e, e1, h2]
    simp only [closed, Option.bind_some, Option.map_some, h3]
  case fnv f caps =>
    split at h <;> try (cases h; done)
    rename_i p hp
    cases h
    try dsimp only at hy
    obtain ⟨l, h1, h2⟩ := capsT_ok (G := G) hr hp hy
    refine ⟨.c (.fn f l), ?_, _, rfl, by unfold Can; exact ⟨l, rfl, h2⟩⟩
    simp only [valOp]
    rw [h1]; rfl
  case faddr off x =>
    split at h <;> try (cases h; done)
    · rename_i ex r d hd
      split at h <;> try (cases h; done)
      rename_i p hp
      cases h
      try dsimp only at hy
      obtain ⟨z, h1, h2⟩ := Dyn.map_val hy
      obtain ⟨cs, rest, e1, g1, g2⟩ := rdK_ok hd hr h1
      obtain ⟨g3, g4⟩ := dropR_can hp g1
      have hle : off ≤ cs.length := by omega
      refine ⟨_, by simp only [valOp, e1]; rw [if_pos (by simp; omega)], cs.drop off, rest, ?_, h2 ▸ g3, g2⟩
      rw [List.drop_append_of_le_length hle]
    · rename_i id o d hd
      cases h
      try dsimp only at hy
      have hs : so G st.fr x = .ptr id o := rdK_ok hd hr hy
      exact ⟨.ptr id (o + off), by simp [valOp, hs], rfl⟩
    · rename_i id s o d hd
      cases h
      try dsimp only at hy
      have hs : so G st.fr x = .eptr id y s o := rdK_ok hd hr hy
      exact ⟨.eptr id y s (o + off), by simp [valOp, hs], rfl⟩
  case iaddr size x i =>
    split at h <;> try (cases h; done)
    · rename_i e d k di hd hdi
      split at h <;> try (cases h; done)
      rename_i hv
      cases h
      try dsimp only at hy
      obtain ⟨z, h1, h2⟩ := Dyn.comp_val hy
      obtain ⟨h3, h4⟩ := Dyn.both_val h1
      obtain ⟨a, h5, h6⟩ := Option.map_eq_some_iff.1 h2
      obtain ⟨c1, e1, g1⟩ := rdK_ok hd hr h3
      obtain ⟨c2, e2, g2⟩ := rdV_ok (G := G) hdi hr h4
      unfold Can at g1 g2
      cases g2
      obtain ⟨nl, es, e3, g1⟩ := g1
      cases e3
      obtain ⟨c, i1, i2, i3, _⟩ := idx_of g1 h5
      obtain ⟨n1, n2⟩ := cellsN_row hv.1 hv.2 i3
      refine ⟨.c (.rp c.cells), ?_, c.cells, [], by simp, h6 ▸ rowOf_can hv.1 i3, fun _ => rfl⟩
      simp [valOp, iaddrV, e1, e2, i1, i2, n2]
    · rename_i id f k di hd hdi
      split at h <;> try (cases h; done)
      rename_i e' sz t xs hg
      split at h <;> try (cases h; done)
      rename_i hsz
      cases h
      try dsimp only at hy
      obtain ⟨z, h1, h2⟩ := Dyn.comp_val hy
      obtain ⟨n, h3, h4⟩ := Dyn.map_val h1
      obtain ⟨u, n⟩ := n
      obtain ⟨h5, h6⟩ := Dyn.both_val h3
      have h2' : z = some y := h2
      subst h2'
      obtain ⟨c2, e2, g2⟩ := rdV_ok (G := G) hdi hr h6
      unfold Can at g2
      cases g2
      obtain ⟨es, e, hes⟩ := objT_ok hg hr hrd
      have hs : so G st.fr x = .osl id := rdK_ok hd hr h5
      split at h4 <;> try (cases h4; done)
      rename_i hn
      cases h4
      refine ⟨.eptr id n.toNat size 0, ?_, rfl⟩
      have hi : idxOf n es.length = some n.toNat := by
        unfold idxOf
        rw [hes.length, if_pos hn]
      simp [valOp, iaddrV, hs, e2, e, hsz, hi]
  case aaddr len size x i =>
    split at h <;> try (cases h; done)
    rename_i r d k di hd hdi
    split at h <;> try (cases h; done)
    rename_i p hp
    split at h <;> try (cases h; done)
    rename_i f hf
    split at h <;> try (cases h; done)
    rename_i hlen
    cases h
    try dsimp only at hy
    obtain ⟨z, h1, h2⟩ := Dyn.comp_val hy
    obtain ⟨h3, h4⟩ := Dyn.both_val h1
    obtain ⟨cs, rest, e1, g1, g3⟩ := rdK_ok hd hr h3
    have hrest := g3 rfl
    subst hrest
    obtain ⟨c2, e2, g2⟩ := rdV_ok (G := G) hdi hr h4
    unfold Can at g2
    cases g2
    obtain ⟨j1, j2, j3⟩ := lAt_some h2
    obtain ⟨a1, a2⟩ := arrT_can hf g1
    obtain ⟨a3, a4⟩ := a2 j3
    have hl := lenR_can hlen g1
    refine ⟨.c (.rp ((cs ++ []).drop (z.2.toNat * size))), ?_, (cs.drop (z.2.toNat * size)).take size, (cs.drop (z.2.toNat * size)).drop size, ?_, a3, fun hh => by cases hh⟩
    · have hi : idxOf z.2 len = some z.2.toNat := by
        unfold idxOf
        rw [if_pos ⟨j1, by rw [a1] at j2; exact j2⟩]
      simp [valOp, aaddrV, e1, e2, hl, hi]
    · rw [List.append_nil, List.take_append_drop]
  case sidx x i =>
    split at h <;> try (cases h; done)
    rename_i d k di hd hdi
    cases h
    try dsimp only at hy
    obtain ⟨z, h1, h2⟩ := Dyn.comp_val hy
    obtain ⟨h3, h4⟩ := Dyn.both_val h1
    obtain ⟨c1, e1, g1⟩ := rdV_ok (G := G) hd hr h3
    obtain ⟨c2, e2, g2⟩ := rdV_ok (G := G) hdi hr h4
    unfold Can at g1 g2
    cases g1
    cases g2
    have h2' : sAt z.1 z.2 = some y := h2
    unfold sAt at h2'
    split at h2' <;> try (cases h2'; done)
    rename_i hn
    obtain ⟨b, h5, h6⟩ := Option.map_eq_some_iff.1 h2'
    refine ⟨.c (.int .u8 y), ?_, _, rfl, by unfold Can; rfl⟩
    have hi : idxOf z.2 z.1.length = some z.2.toNat := by
      unfold idxOf
      rw [if_pos hn]
    simp [valOp, e1, e2, hi, h5, h6]
  case aidx len size sz x i =>
    split at h <;> try (cases h; done)
    rename_i r d k di hd hdi
    split at h
    · split at h <;> try (cases h; done)
      rename_i p hp
      split at h <;> try (cases h; done)
      rename_i p1 hp1
      split at h <;> try (cases h; done)
      rename_i f hf
      split at h <;> try (cases h; done)
      rename_i hlen
      subst hlen
      cases h
      try dsimp only at hy
      obtain ⟨z, h1, h2⟩ := Dyn.comp_val hy
      obtain ⟨h3, h4⟩ := Dyn.both_val h1
      obtain ⟨a, h5, h6⟩ := Option.map_eq_some_iff.1 h2
      obtain ⟨c1, e1, g1⟩ := rdV_ok (G := G) hd hr h3
      obtain ⟨c2, e2, g2⟩ := rdV_ok (G := G) hdi hr h4
      unfold Can at g1 g2
      cases g2
      obtain ⟨l, e3, g1⟩ := g1
      cases e3
      obtain ⟨j1, j2, j3⟩ := lAt_some h5
      obtain ⟨a1, a2⟩ := arrT_can hf g1
      obtain ⟨a3, a4⟩ := a2 j3
      obtain ⟨c, b1, b2⟩ := nthR_can hp1 a3
      refine ⟨.c c, ?_, c, rfl, h6 ▸ b2⟩
      have hi : idxOf z.2 len = some z.2.toNat := by
        unfold idxOf
        rw [if_pos ⟨j1, by rw [a1] at j2; exact j2⟩]
      simp only [Nat.mul_one] at b1 a4
      have hc : l[z.2.toNat]? = some c := by
        rw [List.getElem?_take_of_lt (by omega), List.getElem?_drop] at b1
        simpa using b1
      simp [valOp, e1, e2, hi, partC, hc]
    · rename_i n
      split at h <;> try (cases h; done)
      rename_i p hp
      split at h <;> try (cases h; done)
      rename_i f hf
      split at h <;> try (cases h; done)
      rename_i hlen
      obtain ⟨hlen, hpos⟩ := hlen
      subst hlen
      cases h
      try dsimp only at hy
      obtain ⟨z, h1, h2⟩ := Dyn.comp_val hy
      obtain ⟨h3, h4⟩ := Dyn.both_val h1
      obtain ⟨c1, e1, g1⟩ := rdV_ok (G := G) hd hr h3
      obtain ⟨c2, e2, g2⟩ := rdV_ok (G := G) hdi hr h4
      unfold Can at g1 g2
      cases g2
      obtain ⟨l, e3, g1⟩ := g1
      cases e3
      obtain ⟨j1, j2, j3⟩ := lAt_some h2
      obtain ⟨a1, a2⟩ := arrT_can hf g1
      obtain ⟨a3, a4⟩ := a2 j3
      refine ⟨.c (.agg ((l.drop (z.2.toNat * n)).take n)), ?_, _, rfl, by unfold Can; exact ⟨_, rfl, a3⟩⟩
      have hi : idxOf z.2 len = some z.2.toNat := by
        unfold idxOf
        rw [if_pos ⟨j1, by rw [a1] at j2; exact j2⟩]
      simp [valOp, e1, e2, hi, partC, a4]
  case load sz x =>
    split at h <;> try (cases h; done)
    rename_i p hp
    exact loadT_ok hr hrd h hy fun x hx => rdK_ok hp hr hx
  case len kd x =>
    split at h <;> try (cases h; done)
    rename_i d hd
    cases h
    try dsimp only at hy
    exact ⟨_, by simp only [valOp]; rw [lenT_ok hr hrd hd hy]; rfl, _, rfl, by unfold Can; rfl⟩
  case sslice x lo hi =>
    split at h <;> try (cases h; done)
    rename_i d hd
    split at h <;> try (cases h; done)
    rename_i e he
    cases h
    try dsimp only at hy
    obtain ⟨p, h1, h2⟩ := Dyn.comp_val hy
    obtain ⟨h3, h4, h5⟩ := boundsT_ok (G := G) hr he h1
    obtain ⟨c1, e1, g1⟩ := rdV_ok (G := G) hd hr h3
    unfold Can at g1
    cases g1
    obtain ⟨l1, l2, l3, l4⟩ := lSub_some h2
    refine ⟨.c (.str y), ?_, _, rfl, by unfold Can; rfl⟩
    simp only [valOp, e1]
    rw [h4 _ rfl (by omega), Option.bind_some, h5 l1, Option.bind_some, if_pos (by omega), l4]
  case slice size x lo hi =>
    split at h <;> try (cases h; done)
    rename_i e d hd
    split at h <;> try (cases h; done)
    rename_i hv
    split at h <;> try (cases h; done)
    rename_i g hg
    cases h
    try dsimp only at hy
    obtain ⟨p, h1, h2⟩ := Dyn.comp_val hy
    obtain ⟨h3, h4, h5⟩ := boundsT_ok (G := G) hr hg h1
    obtain ⟨c1, e1, g1⟩ := rdV_ok (G := G) hd hr h3
    unfold Can at g1
    obtain ⟨nl, es, e3, g1⟩ := g1
    cases e3
    obtain ⟨l1, l2, l3, l4⟩ := lSub_some h2
    have hlen := g1.length
    refine ⟨.c (.sl nl ((es.take p.2.2.toNat).drop p.2.1.toNat)), ?_, _, rfl, by unfold Can; exact ⟨_, _, rfl, by rw [l4]; exact (g1.take _).drop _⟩⟩
    simp only [valOp, e1]
    have hall : (es.all fun e => cellsN e == size) = true := by
      rw [List.all_eq_true]
      intro c hc
      obtain ⟨i, hi⟩ := List.getElem?_of_mem hc
      obtain ⟨a, _, h7⟩ := g1.getB hi
      simp [(cellsN_row hv.1 hv.2 h7).2]
    rw [h4 _ (by rw [hlen]) (by omega), Option.bind_some, h5 l1, Option.bind_some, if_pos ⟨by omega, hall⟩]
  case lookup mt kt z ok x k =>
    obtain ⟨c, h1, h2⟩ := lookT_ok hr hrd h hy
    exact ⟨.c c, by simp only [valOp, h1, Option.map_some], h2⟩
end
end WB
