/-
  THE OWN LAYER, TI: a line does what it does over plain data.
-/
import Derived.Test.YtpkoilfecgmogaaCoreTh
namespace WB
open Go Go.RowKit

section
variable {X : TP} {E : Env} {Γ : TC} {msk : List Nat} {ρ : HS Γ} {st : St} {rd : Nat → Ob}

theorem rdC_ok {x : SO} {fl : Bool} {q : Σ t : Ty, Dyn (HS Γ) (D t)} (h : rdC Γ msk x = some (fl, q)) (hr : Rep Γ ρ st) (hrd : ∀ id, msk.contains id = false → rd id = st.ob id) {a : D q.1} (ha : q.2.val ρ = some a) {G : Nat → List CV} :
    ∃ c, close rd (so G st.fr x) = some c ∧ Can q.1 a [c] ∧ (fl = true → isC (so G st.fr x) = true) ∧
      (so G st.fr x = .c c ∨ (∃ id e size es, so G st.fr x = .osl id ∧ rd id = .arr e size es ∧ c = .sl none es) ∨ ∃ nl ks vs, c = .map nl ks vs) := by
  cases x with
  | t i =>
    simp only [rdC] at h
    split at h
    · rename_i t f hg
      cases h
      cases ha
      obtain ⟨c, e, hc⟩ := hr.s i _ hg
      have e' : so G st.fr (.t i) = .c c := e
      exact ⟨c, by rw [e']; rfl, hc, fun _ => by rw [e']; rfl, .inl e'⟩
    · rename_i t f hg
      cases h
      have := hr.s i _ hg
      have ha' : f ρ = some a := ha
      unfold RS at this
      simp only [ha'] at this
      unfold RS at this
      obtain ⟨c, e, hc⟩ := this
      have e' : so G st.fr (.t i) = .c c := e
      exact ⟨c, by rw [e']; rfl, hc, fun _ => by rw [e']; rfl, .inl e'⟩
    · rename_i id f hg
      split at h <;> try (cases h; done)
      rename_i e' size t xs ho
      cases h
      cases ha
      obtain ⟨es, e, hes⟩ := objT_ok ho hr hrd
      have e2 : so G st.fr (.t i) = .osl id := hr.s i _ hg
      exact ⟨.sl none es, by rw [e2]; simp only [close, e], by unfold Can; exact ⟨_, _, rfl, hes⟩, (fun hh => by cases hh), .inr (.inl ⟨id, _, _, es, e2, e, rfl⟩)⟩
    · rename_i id f hg
      split at h <;> try (cases h; done)
      rename_i mt k v xs ho
      cases h
      cases ha
      obtain ⟨z, ks, vs, e, _, hk, hv⟩ := objT_ok ho hr hrd
      have e2 : so G st.fr (.t i) = .omap id := hr.s i _ hg
      exact ⟨.map none ks vs, by rw [e2]; simp only [close, e], by unfold Can; exact ⟨_, _, _, rfl, hk, hv⟩, (fun hh => by cases hh), .inr (.inr ⟨_, _, _, rfl⟩)⟩
    · cases h
  | k c =>
    simp only [rdC] at h
    split at h <;> try (cases h; done)
    rename_i p hp
    cases h
    cases ha
    exact ⟨c, rfl, constT_can hp, fun _ => rfl, .inl rfl⟩
  | g i => cases h

theorem argsT_ok (hr : Rep Γ ρ st) (hrd : ∀ id, msk.contains id = false → rd id = st.ob id) {G : Nat → List CV} : ∀ {xs : List SO} {fl : Bool} {q : Σ r : Ty, Dyn (HS Γ) (D r)} {a : D q.1}, argsT Γ msk xs = some (fl, q) → q.2.val ρ = some a →
    ∃ l, allM (fun x => close rd (so G st.fr x)) xs = some l ∧ Can q.1 a l ∧ (fl = true → (xs.all fun x => isC (so G st.fr x)) = true)
  | [], fl, q, a, h, ha => by
    simp only [argsT, Option.some.injEq] at h
    cases h
    exact ⟨[], rfl, by unfold Can; rfl, fun _ => rfl⟩
  | [x], fl, q, a, h, ha => by
    simp only [argsT] at h
    split at h <;> try (cases h; done)
    rename_i p hp
    cases h
    obtain ⟨c, h1, h2, h3, _⟩ := rdC_ok (G := G) (fl := p.1) (q := p.2) hp hr hrd ha
    exact ⟨[c], by simp [allM, h1], by unfold Can; exact ⟨c, rfl, h2⟩, fun hh => by simp [h3 hh]⟩
  | x :: y :: xs, fl, q, a, h, ha => by
    simp only [argsT] at h
    split at h <;> try (cases h; done)
    rename_i p p' hp hp'
    cases h
    obtain ⟨g1, g2⟩ := Dyn.both_val ha
    obtain ⟨c, h1, h2, h3, _⟩ := rdC_ok (G := G) (fl := p.1) (q := p.2) hp hr hrd g1
    obtain ⟨l, h4, h5, h6⟩ := argsT_ok hr hrd (G := G) (fl := p'.1) (q := p'.2) hp' g2
    refine ⟨c :: l, ?_, by unfold Can; exact ⟨c, l, rfl, h2, h5⟩, fun hh => ?_⟩
    · have e : allM (fun x => close rd (so G st.fr x)) (x :: y :: xs) = (close rd (so G st.fr x)).bind fun b => (allM (fun x => close rd (so G st.fr x)) (y :: xs)).map fun bs => b :: bs := rfl
      rw [e, h1, h4]; rfl
    · simp only [Bool.and_eq_true] at hh
      have := h6 hh.2
      rw [List.all_cons, h3 hh.1, this]; rfl

theorem enc_ml {t : Ty} {x : D t} (hv : t.val = true) (ho : t.ok = true) (hm : mlT t = true) : memless (enc t x) = true := by
  have := mlT_can hm (Can.enc x hv ho)
  simpa [memlessL] using this

theorem callT_ok (hT : TOk X E) (hr : Rep Γ ρ st) (hrd : ∀ id, msk.contains id = false → rd id = st.ob id) {op : SOp} {q : Σ k : EK, Dyn (HS Γ) (DK k)} {y : DK q.1} (hcls : op.cls = .call) (h : callT X Γ msk op = some q) (hy : q.2.val ρ = some y) (d : Option Nat) :
    ∃ v, evalOp E rd st d op = some (st.set d (.c v)) ∧ RS q.1 y (.c v) := by
  cases op <;> try (cases h; done)
  case call f args =>
    simp only [callT] at h
    split at h <;> try (cases h; done)
    rename_i s hs
    split at h <;> try (cases h; done)
    rename_i p hp
    split at h <;> try (cases h; done)
    rename_i g hg
    split at h <;> try (cases h; done)
    rename_i hc
    cases h
    try dsimp only at hy
    obtain ⟨z, h1, h2⟩ := Dyn.comp_val hy
    obtain ⟨a, h3, h4⟩ := Dyn.map_val h1
    subst h4
    obtain ⟨l, h5, h6, h7⟩ := argsT_ok hr hrd (G := E.G) (fl := p.1) (q := p.2) hp h3
    obtain ⟨s1, s2, s3⟩ := hT.fn f s hs
    have h8 := s3 _ l y (coeT_can _ _ hg h6) h2
    refine ⟨enc s.r y, ?_, _, rfl, Can.enc y s1 s2⟩
    have hm : ((args.all fun x => isC (so E.G st.fr x)) || (Res.val (enc s.r y)).memless) = true := by
      cases hp1 : p.1 with
      | true => rw [h7 hp1]; rfl
      | false =>
        rw [hp1] at hc
        simp only [Bool.false_or] at hc
        simp [Res.memless, enc_ml s1 s2 hc]
    simp only [evalOp, SOp.cls, callOp, h5, Option.bind_some, List.append_nil, h8, hm, if_true, setRes]
  case callv f args =>
    simp only [callT] at h
    split at h <;> try (cases h; done)
    rename_i g r e he
    split at h <;> try (cases h; done)
    rename_i s hs
    split at h <;> try (cases h; done)
    rename_i p hp
    split at h <;> try (cases h; done)
    rename_i n k hn hk
    split at h <;> try (cases h; done)
    rename_i hc
    cases h
    try dsimp only at hy
    obtain ⟨z, h1, h2⟩ := Dyn.comp_val hy
    obtain ⟨a, h3, h4⟩ := Dyn.map_val h1
    obtain ⟨h3, h3'⟩ := Dyn.both_val h3
    subst h4
    obtain ⟨l, h5, h6, h7⟩ := argsT_ok hr hrd (G := E.G) (fl := p.1) (q := p.2) hp h3
    obtain ⟨c, e1, e2⟩ := rdV_ok (G := E.G) he hr h3'
    unfold Can at e2
    obtain ⟨caps, e3, e2⟩ := e2
    cases e3
    obtain ⟨s1, s2, s3⟩ := hT.fn g s hs
    have h8 := s3 _ (l ++ caps) y (coeT_can _ _ hk (appR_can hn h6 e2)) h2
    refine ⟨enc s.r y, ?_, _, rfl, Can.enc y s1 s2⟩
    have hm : ((args.all fun x => isC (so E.G st.fr x)) || (Res.val (enc s.r y)).memless) = true := by
      cases hp1 : p.1 with
      | true => rw [h7 hp1]; rfl
      | false =>
        rw [hp1] at hc
        simp only [Bool.false_or] at hc
        simp [Res.memless, enc_ml s1 s2 hc]
    simp only [evalOp, SOp.cls, e1, callOp, h5, Option.bind_some, h8, hm, if_true, setRes]

theorem softK_ok (hT : TOk X E) (hr : Rep Γ ρ st) (hrd : ∀ id, msk.contains id = false → rd id = st.ob id) {op : SOp} {q : Σ k : EK, Dyn (HS Γ) (DK k)} {y : DK q.1} (h : softK X Γ msk op = some q) (hy : q.2.val ρ = some y) (d : Option Nat) :
    ∃ sv, evalOp E rd st d op = some (st.set d sv) ∧ RS q.1 y sv := by
  unfold softK at h
  split at h
  · rename_i hcls
    obtain ⟨sv, h1, h2⟩ := val_ok hr hrd h hy
    rw [← hT.G] at h1
    exact ⟨sv, by simp only [evalOp, hcls, h1, Option.map_some], h2⟩
  · rename_i hcls
    obtain ⟨sv, h1, h2⟩ := val_ok hr hrd h hy
    rw [← hT.G] at h1
    exact ⟨sv, by simp only [evalOp, hcls, h1, Option.map_some], h2⟩
  · rename_i hcls
    obtain ⟨v, h1, h2⟩ := callT_ok hT hr hrd hcls h hy d
    exact ⟨.c v, h1, h2⟩
  · cases h

theorem listT_ok (hr : Rep Γ ρ st) {G : Nat → List CV} {t : Ty} : ∀ {xs : List SO} {e : Dyn (HS Γ) (List (D t))} {ys : List (D t)}, listT Γ t xs = some e → e.val ρ = some ys → ∃ l, allM (fun x => closed (so G st.fr x)) xs = some l ∧ CanAll (fun x c => Can t x [c]) ys l
  | [], e, ys, h, hy => by
    simp only [listT, Option.some.injEq] at h
    subst h
    cases hy
    exact ⟨[], rfl, rfl⟩
  | x :: xs, e, ys, h, hy => by
    simp only [listT] at h
    split at h <;> try (cases h; done)
    rename_i q e' hq he'
    split at h <;> try (cases h; done)
    rename_i g hg
    cases h
    obtain ⟨p, h1, h2⟩ := Dyn.map_val hy
    obtain ⟨h3, h4⟩ := Dyn.both_val h1
    obtain ⟨c, h5, h6⟩ := rdV_ok (G := G) hq hr h3
    obtain ⟨l, h7, h8⟩ := listT_ok hr (G := G) he' h4
    subst h2
    refine ⟨c :: l, ?_, c, l, rfl, coeT_can _ _ hg h6, h8⟩
    have e : allM (fun x => closed (so G st.fr x)) (x :: xs) = (closed (so G st.fr x)).bind fun b => (allM (fun x => closed (so G st.fr x)) xs).map fun bs => b :: bs := rfl
    rw [e, h5, h7]; rfl

theorem opNew_ok (hr : Rep Γ ρ st) {d : Nat} {op : SOp} {o : OpD Γ} {b : o.B} (h : opNew X Γ d op = some o) (hb : o.d.val ρ = some b) : ∃ v ob, newOp (so X.G st.fr) d op = some (v, ob) ∧ Rep o.Γ' (o.up ρ b) { fr := upd st.fr d v, ob := upd st.ob d ob } := by
  cases op <;> try (cases h; done)
  case alloc z =>
    simp only [opNew] at h
    split at h <;> try (cases h; done)
    rename_i q hq
    split at h <;> try (cases h; done)
    rename_i p hp
    cases h
    have hc := constR_can hq
    obtain ⟨h1, h2⟩ := pushR_ok (ρ := ρ) hp hc
    refine ⟨.ptr d 0, .box (z.map .c), rfl, Rep.newObj hr h1 ⟨z.map .c, rfl, by simp, fun j q' hj hq' => ?_⟩ rfl⟩
    rcases h2 j q' hq' with ⟨_, c, h3, h4⟩ | ⟨h3, _⟩
    · exact ⟨.c c, by simpa using h3, h4⟩
    · omega
  case box x =>
    simp only [opNew] at h
    split at h <;> try (cases h; done)
    · rename_i r e he
      split at h <;> try (cases h; done)
      rename_i n p hn hp
      cases h
      try dsimp only at hb
      obtain ⟨c, e1, e2⟩ := rdV_ok (G := X.G) he hr hb
      unfold Can at e2
      obtain ⟨l, e3, e2⟩ := e2
      cases e3
      have hl := lenR_can hn e2
      obtain ⟨h1, h2⟩ := pushR_ok (ρ := ρ) hp e2
      refine ⟨.ptr d 0, .box (l.map .c), by simp only [newOp, e1], Rep.newObj hr h1 ⟨l.map .c, rfl, by simp [hl], fun j q' hj hq' => ?_⟩ rfl⟩
      rcases h2 j q' hq' with ⟨_, c, h3, h4⟩ | ⟨h3, _⟩
      · exact ⟨.c c, by have h3' : l[j]? = some c := by simpa using h3
                        simp [h3'], h4⟩
      · omega
    · rename_i t e hne he
      split at h <;> try (cases h; done)
      rename_i h1
      cases h
      try dsimp only at hb
      obtain ⟨c, e1, e2⟩ := rdV_ok (G := X.G) he hr hb
      have hn : newOp (so X.G st.fr) d (.box x) = some (.ptr d 0, .box [.c c]) := by
        simp only [newOp, e1]
        have := oneT_can h1 e2
        cases c <;> first | rfl | (simp [oneC] at this)
      refine ⟨_, _, hn, ?_⟩
      have hx : ExtC d Γ ρ ((.c d 0, .v t) :: Γ) (b, ρ) := fun p q hq => by
        by_cases hp : Key.c d 0 = p
        · exact .inl ⟨0, hp.symm⟩
        · obtain ⟨f, hf, e⟩ := get_ne hp hq
          exact .inr ⟨f, hf, e _⟩
      refine Rep.newObj hr hx ⟨[.c c], rfl, rfl, fun j q' hj hq' => ?_⟩ rfl
      have hj0 : j = 0 := by omega
      subst hj0
      rw [get_eq] at hq'
      cases hq'
      exact ⟨.c c, rfl, c, rfl, e2⟩
  case mksl e size parts =>
    simp only [opNew] at h
    split at h <;> try (cases h; done)
    rename_i t ht
    split at h <;> try (cases h; done)
    rename_i l hl
    split at h <;> try (cases h; done)
    rename_i hv
    cases h
    obtain ⟨cs, h1, h2⟩ := listT_ok hr (G := X.G) hl hb
    have hall : (cs.all fun v => cellsN v == size) = true := by
      rw [List.all_eq_true]
      intro c hc
      obtain ⟨i, hi⟩ := List.getElem?_of_mem hc
      obtain ⟨a, _, h7⟩ := h2.getB hi
      simp [(cellsN_row hv.1 hv.2 h7).2]
    refine ⟨.osl d, .arr e size cs, ?_, Rep.newObj hr (ExtC.refl d) ⟨cs, rfl, h2⟩ rfl⟩
    simp only [newOp]
    rw [h1, Option.bind_some, if_pos hall]
  case mkmap mt kt z =>
    simp only [opNew] at h
    split at h <;> try (cases h; done)
    rename_i k v hm
    split at h <;> try (cases h; done)
    rename_i hh
    cases h
    have hk := ktB_ok hh.2.1
    subst hk
    exact ⟨.omap d, .map mt (ktT k) z [] [], rfl, Rep.newObj hr (ExtC.refl d) ⟨z, [], [], rfl, zeroOk_can hh.1, rfl, rfl⟩ rfl⟩
  case make e size bytes z x y =>
    simp only [opNew] at h
    split at h <;> try (cases h; done)
    rename_i t k dx k' dy ht hx hy
    split at h <;> try (cases h; done)
    rename_i hz
    cases h
    obtain ⟨p, h1, h2⟩ := Dyn.comp_val hb
    obtain ⟨h3, h4⟩ := Dyn.both_val h1
    obtain ⟨c1, e1, g1⟩ := rdV_ok (G := X.G) hx hr h3
    obtain ⟨c2, e2, g2⟩ := rdV_ok (G := X.G) hy hr h4
    unfold Can at g1 g2
    cases g1
    cases g2
    simp only [Dyn.val] at h2
    split at h2 <;> try (cases h2; done)
    rename_i hc
    cases h2
    refine ⟨.osl d, .arr e size (List.replicate p.1.toNat z), ?_, Rep.newObj hr (ExtC.refl d) ⟨_, rfl, CanAll.replicate (R := fun x c => Can t x [c]) (zeroOk_can hz) _⟩ rfl⟩
    simp only [newOp, e1, e2]
    rw [if_pos hc]
  case siter x =>
    simp only [opNew] at h
    split at h <;> try (cases h; done)
    rename_i e he
    cases h
    obtain ⟨c, e1, e2⟩ := rdV_ok (G := X.G) he hr hb
    unfold Can at e2
    cases e2
    exact ⟨.iter d, .siter b 0, by simp only [newOp, e1], Rep.newObj hr (ExtC.refl d) rfl rfl⟩

theorem newsT_ok (hr : Rep Γ ρ st) {G : Nat → List CV} {t : Ty} {x : SO} {l : Dyn (HS Γ) (List (D t))} {ys : List (D t)} (h : newsT Γ t x = some l) (hy : l.val ρ = some ys) : ∃ es, newsOf st (so G st.fr x) = some es ∧ CanAll (fun x c => Can t x [c]) ys es := by
  unfold newsT at h
  split at h <;> try (cases h; done)
  rename_i fl u e he
  split at h <;> try (cases h; done)
  rename_i g hg
  cases h
  obtain ⟨y, h1, h2⟩ := Dyn.map_val hy
  obtain ⟨c, h3, h4, _, h5⟩ := rdC_ok (msk := []) (rd := st.ob) (G := G) he hr (fun _ _ => rfl) h1
  have h6 := coeT_can _ _ hg h4
  unfold Can at h6
  obtain ⟨nl, es, e1, h6⟩ := h6
  cases e1
  refine ⟨es, ?_, h2 ▸ h6⟩
  rcases h5 with h5 | ⟨id, e', size, es', h5, h7, h8⟩ | ⟨nl', ks, vs, h5⟩
  · rw [h5]; rfl
  · cases h8
    rw [h5]
    simp only [newsOf, h7]
  · cases h5

theorem cells_all {t : Ty} {n : Nat} {xs : List (D t)} {es : List CV} (hv : t.val = true) (hl : lenR (rowOf t) = some n) (ho : oneR (rowOf t) = true) (h : CanAll (fun x c => Can t x [c]) xs es) : (es.all (fun v => cellsN v == n) && es.all fun v => v.cells.all oneC) = true := by
  rw [Bool.and_eq_true, List.all_eq_true, List.all_eq_true]
  refine ⟨fun c hc => ?_, fun c hc => ?_⟩
  · obtain ⟨i, hi⟩ := List.getElem?_of_mem hc
    obtain ⟨a, _, h7⟩ := h.getB hi
    simp [(cellsN_row hv hl h7).2]
  · obtain ⟨i, hi⟩ := List.getElem?_of_mem hc
    obtain ⟨a, _, h7⟩ := h.getB hi
    exact oneR_can ho (rowOf_can hv h7)

theorem putT_ok {t u : Ty} {o n : Nat} {g : D t → D u → D t} (h : putT t o n u = some g) {x : D t} {y : D u} {c c' : CV} (hv : t.val = true) (hx : Can t x [c]) (hy : Can u y [c']) :
    cellsN c' = n ∧ o + n ≤ cellsN c ∧ Can t (g x y) [putC c o n c'] := by
  have single : ∀ {f : D u → D t}, n = 1 ∧ o = 0 ∧ oneT u = true → coeT u t = some f → (∀ l, c ≠ .agg l) → cellsN c' = n ∧ o + n ≤ cellsN c ∧ Can t (f y) [putC c o n c'] := by
    intro f ⟨h1, h2, h3⟩ hf hna
    have ho := oneT_can h3 hy
    have h4 : cellsN c' = 1 := by cases c' <;> first | rfl | (simp [oneC] at ho)
    have h5 : cellsN c = 1 := by cases c <;> first | rfl | (exact absurd rfl (hna _))
    have h6 : putC c o n c' = c' := by cases c <;> first | rfl | (exact absurd rfl (hna _))
    rw [h6]
    exact ⟨by omega, by omega, coeT_can _ _ hf hy⟩
  cases t
  case agg r =>
    simp only [putT] at h
    split at h <;> try (cases h; done)
    rename_i m q hm hq
    split at h <;> try (cases h; done)
    rename_i he
    split at h <;> try (cases h; done)
    rename_i hn
    cases h
    obtain ⟨r', f⟩ := q
    simp only at he
    subst he
    unfold Can at hx
    obtain ⟨l, e, hx⟩ := hx
    cases e
    obtain ⟨g1, g2⟩ := putR_can hq hx (rowOf_can hn.2 hy)
    obtain ⟨n1, n2⟩ := cellsN_row hn.2 hm hy
    rw [n1] at g1 g2
    rw [hn.1] at n2 g1 g2
    refine ⟨n2, g2, ?_⟩
    unfold Can
    exact ⟨_, rfl, g1⟩
  all_goals (try (cases hv; done))
  all_goals
    simp only [putT] at h
    split at h <;> try (cases h; done)
    rename_i hh
    split at h <;> try (cases h; done)
    rename_i f hf
    have hg := Option.some.inj h
    rw [← hg]
    refine single hh hf fun l hl => ?_
    subst hl
    unfold Can at hx
    first
      | (cases hx; done)
      | (obtain ⟨_, e, _⟩ := hx; cases e; done)
      | (obtain ⟨_, _, e, _⟩ := hx; cases e; done)
      | (obtain ⟨_, _, _, e, _⟩ := hx; cases e; done)
      | (cases x <;> cases hx; done)

theorem alGet_key {α β : Type} {eq : α → α → Bool} {z : β} {x : α} {y : β} : ∀ {m : List (α × β)}, (alGet eq z x m).2 = true → (alPut eq x y m).map (·.1) = m.map (·.1)
  | [], h => by cases h
  | p :: m, h => by
    unfold alGet at h
    unfold alPut
    split
    · rfl
    · rename_i hp
      rw [if_neg hp] at h
      simp [alGet_key h]
theorem CanAll.fst {α β γ : Type} {R : α → γ → Prop} : ∀ {m m' : List (α × β)} {ks : List γ}, m.map (·.1) = m'.map (·.1) → CanAll (fun x c => R x.1 c) m ks → CanAll (fun x c => R x.1 c) m' ks
  | [], [], _, _, h => h
  | [], _ :: _, _, e, _ => by cases e
  | _ :: _, [], _, e, _ => by cases e
  | p :: m, p' :: m', ks, e, h => by
    simp only [List.map_cons, List.cons.injEq] at e
    obtain ⟨c, ks', rfl, h1, h2⟩ := h
    exact ⟨c, ks', rfl, (by show R p'.1 c; rw [← e.1]; exact h1), CanAll.fst e.2 h2⟩

theorem cell_turn {id nb off : Nat} {fo : HS Γ → DK (.box nb)} {cs : List SV} {k : EK} {x : DK k} {sv : SV} (hr : Rep Γ ρ st) (ho : get Γ (.o id) = some ⟨.box nb, fo⟩) (hl : cs.length = nb) (hcs : ∀ j q, j < nb → get Γ (.c id j) = some q → ∃ sv, cs[j]? = some sv ∧ RS q.1 (q.2 ρ) sv)
    (hoff : off < nb) (hs : RS k x sv) : Rep ((.c id off, k) :: Γ) (x, ρ) { st with ob := upd st.ob id (.box (cs.set off sv)) } := by
  refine Rep.turnCells hr (Γc := (.c id off, k) :: Γ) (ρc := (x, ρ)) (fun p q hq => ?_) ho (cs := cs.set off sv) (by simp [hl]) fun j q hj hq => ?_
  · by_cases hp : Key.c id off = p
    · exact .inl ⟨off, hp.symm⟩
    · obtain ⟨f, hf, e⟩ := get_ne hp hq
      exact .inr ⟨f, hf, e _⟩
  · by_cases hjo : off = j
    · subst hjo
      rw [get_eq] at hq
      cases hq
      exact ⟨sv, by simp [List.getElem?_set]; omega, hs⟩
    · obtain ⟨f, hf, e'⟩ := get_ne (by simpa using hjo) hq
      obtain ⟨sv', h6, h7⟩ := hcs j _ hj hf
      exact ⟨sv', by simp [hjo, h6], (e' _) ▸ h7⟩

/-- A slot is set, and an object that may have another name. -/
theorem Rep.newObjS {d id : Nat} {k ko : EK} {x : DK k} {y : DK ko} {v : SV} {o : Ob} (h : Rep Γ ρ st) (ho : RO Γ ρ id ko y o) (hs : RS k x v) :
    Rep ((.s d, k) :: (.o id, ko) :: Γ) (x, y, ρ) { fr := upd st.fr d v, ob := upd st.ob id o } := by
  have h1 := Rep.turnObj h ho
  have h2 := Rep.set h1 (d := d) hs
  exact h2

theorem le_bytes {n : Nat} {i : Int} (e : (n : Int) = i) (h : i ≤ 140737488355328) : n ≤ 140737488355328 := by omega
theorem le_many {n : Nat} {i : Int} (e : (n : Int) = i) (h : i ≤ 4611686018427387904) : n ≤ 4611686018427387904 := by omega

theorem opEff_ok (hr : Rep Γ ρ st) {d : Option Nat} {op : SOp} {o : OpD Γ} {b : o.B} (h : opEff X Γ d op = some o) (hb : o.d.val ρ = some b) : ∃ st', effOp d (so X.G st.fr) st op = some st' ∧ Rep o.Γ' (o.up ρ b) st' := by
  cases op <;> try (cases h; done)
  case store n a x =>
    simp only [opEff] at h
    split at h <;> try (cases h; done)
    · rename_i id off fa ha
      have ha' : so X.G st.fr a = .ptr id off := rdK_ok ha hr (a := fa ρ) rfl
      split at h <;> try (cases h; done)
      rename_i nb fo ho
      obtain ⟨cs, e, hl, hcs⟩ := hr.o id _ ho
      split at h <;> try (cases h; done)
      · rename_i r ex hx
        split at h <;> try (cases h; done)
        rename_i m p hm hp
        split at h <;> try (cases h; done)
        rename_i hh
        cases h
        obtain ⟨c, e1, e2⟩ := rdK_ok hx hr hb
        unfold Can at e2
        obtain ⟨l, e3, e2⟩ := e2
        cases e3
        have hlen := lenR_can hm e2
        obtain ⟨h1, h2⟩ := pushR_ok (ρ := ρ) hp e2
        refine ⟨_, ?_, Rep.turnCells hr h1 ho (cs := setCells cs off (l.map .c)) ?_ fun j q hj hq => ?_⟩
        · simp only [effOp, ha', e, e1]
          rw [if_pos ⟨by omega, by omega, oneR_can hh.2.2 e2⟩]
        · simp [setCells]; omega
        · rcases h2 j q hq with ⟨h3, c, h4, h5⟩ | ⟨h3, f, h4, h5⟩
          · have hjl := (List.getElem?_eq_some_iff.1 h4).1
            refine ⟨.c c, ?_, h5⟩
            simp only [setCells]
            rw [List.append_assoc, List.getElem?_append_right (by simp; omega), List.getElem?_append_left (by simp; omega)]
            have : j - (cs.take off).length = j - off := by simp; omega
            rw [this, List.getElem?_map, h4]; rfl
          · obtain ⟨sv, h6, h7⟩ := hcs j _ hj h4
            refine ⟨sv, ?_, h5 ▸ h7⟩
            simp only [setCells]
            rcases h3 with h3 | h3
            · rw [List.append_assoc, List.getElem?_append_left (by simp; omega), List.getElem?_take_of_lt h3, h6]
            · rw [List.getElem?_append_right (by simp; omega), List.getElem?_drop]
              have : off + (l.map SV.c).length + (j - (cs.take off ++ l.map SV.c).length) = j := by simp; omega
              rw [this, h6]
      · rename_i t ex hna hx
        split at h <;> try (cases h; done)
        rename_i hh
        cases h
        obtain ⟨c, e1, e2⟩ := rdK_ok hx hr hb
        have ho1 := oneT_can hh.2.2 e2
        refine ⟨_, ?_, cell_turn hr ho hl hcs hh.2.1 (k := .v t) (x := b) (sv := .c c) ⟨c, rfl, e2⟩⟩
        simp only [effOp, ha', e, e1]
        cases c <;> first
          | (simp [oneC] at ho1; done)
          | (exact if_pos ⟨hh.1, by omega, ho1⟩)
      · rename_i i fx hx
        split at h <;> try (cases h; done)
        rename_i hh
        cases h
        have e1 : so X.G st.fr x = .osl i := rdK_ok hx hr (a := fx ρ) rfl
        refine ⟨_, ?_, cell_turn hr ho hl hcs hh.2 (k := .own i) (x := ()) (sv := .osl i) rfl⟩
        simp only [effOp, ha', e, e1]
        exact if_pos ⟨hh.1, by omega, rfl⟩
      · rename_i i fx hx
        split at h <;> try (cases h; done)
        rename_i hh
        cases h
        have e1 : so X.G st.fr x = .omap i := rdK_ok hx hr (a := fx ρ) rfl
        refine ⟨_, ?_, cell_turn hr ho hl hcs hh.2 (k := .mp i) (x := ()) (sv := .omap i) rfl⟩
        simp only [effOp, ha', e, e1]
        exact if_pos ⟨hh.1, by omega, rfl⟩
    · rename_i id size off di ha
      split at h <;> try (cases h; done)
      rename_i e' sz t xs ho
      split at h <;> try (cases h; done)
      rename_i u dx hx
      split at h <;> try (cases h; done)
      rename_i g hg
      split at h <;> try (cases h; done)
      rename_i hh
      obtain ⟨hsz, hn, hv, hlt, hone⟩ := hh
      cases h
      obtain ⟨w, h1, h2⟩ := Dyn.comp_val hb
      obtain ⟨p, h3, h4⟩ := Dyn.map_val h1
      obtain ⟨h5, h6⟩ := Dyn.both_val h3
      have h2' : w = some b := h2
      rw [h2'] at h4
      obtain ⟨el, h7, h8⟩ := Option.map_eq_some_iff.1 h4.symm
      have ha' : so X.G st.fr a = .eptr id p.1 size off := rdK_ok ha hr h5
      obtain ⟨c, e1, e2⟩ := rdV_ok (G := X.G) hx hr h6
      obtain ⟨es, e, hes⟩ := hr.o id _ ho
      obtain ⟨c0, h9, h10⟩ := hes.get h7
      obtain ⟨g1, g2, g3⟩ := putT_ok hg hv h10 e2
      have hob : c.cells.all oneC = true := by
        unfold putT at hg
        cases hu : u.val with
        | true => exact oneR_can hone (rowOf_can hu e2)
        | false =>
          exfalso
          split at hg
          · split at hg <;> try (cases hg; done)
            split at hg <;> try (cases hg; done)
            split at hg <;> try (cases hg; done)
            rename_i hh
            rw [hu] at hh
            cases hh.2
          · split at hg <;> try (cases hg; done)
            rename_i hh
            have := hh.2.2
            cases u <;> first | (cases hu; done) | (cases this; done)
      refine ⟨_, ?_, Rep.turnObj hr (k := .arr e' sz t) (y := b) ⟨es.set p.1 (putC c0 off n c), rfl, h8 ▸ hes.set p.1 g3⟩⟩
      simp only [effOp, ha', e, e1]
      rw [if_pos ⟨hsz, hn, g1, hob⟩, h9, Option.bind_some, if_pos g2]
  case append e size bytes x y =>
    simp only [opEff] at h
    split at h <;> try (cases h; done)
    · rename_i id fx hx
      split at h <;> try (cases h; done)
      rename_i e' size' t xs ho
      split at h <;> try (cases h; done)
      rename_i l d' hl
      split at h <;> try (cases h; done)
      rename_i hh
      obtain ⟨he, hs, hv, hlr, hone⟩ := hh
      cases h
      have hx' : so X.G st.fr x = .osl id := rdK_ok hx hr (a := fx ρ) rfl
      obtain ⟨w, h1, h2⟩ := Dyn.comp_val hb
      obtain ⟨ys, h3, h4⟩ := Dyn.map_val h1
      have h2' : w = some b := h2
      rw [h2'] at h4
      split at h4 <;> try (cases h4; done)
      rename_i hc
      cases h4
      obtain ⟨news, h5, h6⟩ := newsT_ok hr (G := X.G) hl h3
      obtain ⟨es, e0, hes⟩ := hr.o id _ ho
      have hall := cells_all hv hlr hone h6
      have hl1 := hes.length
      have hl2 := h6.length
      refine ⟨_, ?_, Rep.newObjS (hr.kill [id]) (k := .own id) (ko := .arr e size t) (x := ()) (y := xs ρ ++ ys) (v := .osl id) (o := .arr e size (es ++ news)) ⟨_, rfl, hes.append h6⟩ rfl⟩
      simp only [effOp, h5, hall, if_true, hx', e0]
      rw [if_pos ⟨he, hs, by rw [hl1, hl2]; exact le_bytes (by rw [Int.natCast_mul, Int.natCast_add]) hc.1, by rw [hl1, hl2]; exact le_many (by rw [Int.natCast_add]) hc.2⟩]
      rfl
    · rename_i fx hx
      split at h <;> try (cases h; done)
      rename_i t ht
      split at h <;> try (cases h; done)
      rename_i l d' hl
      split at h <;> try (cases h; done)
      rename_i hh
      obtain ⟨hv, hlr, hone⟩ := hh
      cases h
      obtain ⟨c, hx', hcx⟩ := rdK_ok hx hr (a := fx ρ) rfl
      unfold Can at hcx
      cases hcx
      obtain ⟨ys, h1, h2⟩ := Dyn.comp_val hb
      simp only [Dyn.val] at h2
      split at h2 <;> try (cases h2; done)
      rename_i hc
      cases h2
      obtain ⟨news, h5, h6⟩ := newsT_ok hr (G := X.G) hl h1
      have hall := cells_all hv hlr hone h6
      have hl2 := h6.length
      refine ⟨_, ?_, Rep.newObjS (hr.kill [d']) (k := .own d') (ko := .arr e size t) (x := ()) (y := b) (v := .osl d') (o := .arr e size news) ⟨_, rfl, h6⟩ rfl⟩
      simp only [effOp, h5, hall, if_true, hx']
      rw [if_pos ⟨by rw [hl2]; exact le_bytes (by rw [Int.natCast_mul]) hc.1, by rw [hl2]; exact le_many rfl hc.2⟩]
  case mapent mt x k =>
    simp only [opEff] at h
    split at h <;> try (cases h; done)
    rename_i id fx q d' hx hk
    split at h <;> try (cases h; done)
    rename_i mt' kt vt m ho
    split at h <;> try (cases h; done)
    rename_i g hg
    split at h <;> try (cases h; done)
    rename_i hh
    obtain ⟨hm, hp⟩ := hh
    cases h
    have hx' : so X.G st.fr x = .omap id := rdK_ok hx hr (a := fx ρ) rfl
    dsimp only at hb
    obtain ⟨y, h1, h2⟩ := Dyn.map_val hb
    obtain ⟨ck, e1, e2⟩ := rdV_ok (G := X.G) hk hr h1
    have e3 := coeT_can _ _ hg e2
    obtain ⟨z, ks, vs, e0, hz, hks, hvs⟩ := hr.o id _ ho
    obtain ⟨cv, l1, l2⟩ := look_ok hp e3 hz hks hvs
    obtain ⟨i1, i2⟩ := insert_ok hp e3 l2 hks hvs
    subst h2
    refine ⟨_, ?_, Rep.newObjS hr (k := .ent id kt vt) (ko := .mob mt kt vt) (x := _) (y := _) (v := .ent id ck cv) (o := .map mt (ktT kt) z (insertK (ktT kt) ks ck) (insertV (ktT kt) ks vs ck cv)) ⟨z, _, _, rfl, hz, i1, i2⟩ ⟨ck, cv, rfl, e3, l2⟩⟩
    simp only [effOp, hx', e1, e0]
    rw [if_pos ⟨hm, (eqZ_ok hp e3 e3).2, by rw [hks.length, hvs.length]⟩]
    simp only [l1, St.set, hm]
  case entst x s v =>
    simp only [opEff] at h
    split at h <;> try (cases h; done)
    rename_i id fx id' kt fs q hx hs hv
    split at h <;> try (cases h; done)
    rename_i mt kt' vt m ho
    split at h <;> try (cases h; done)
    rename_i g hg
    split at h <;> try (cases h; done)
    rename_i hk
    subst hk
    split at h <;> try (cases h; done)
    rename_i hh
    obtain ⟨hid, hp⟩ := hh
    subst hid
    cases h
    have hx' : so X.G st.fr x = .omap id := rdK_ok hx hr (a := fx ρ) rfl
    obtain ⟨ck, hs', hck⟩ := rdK_ok hs hr (a := fs ρ) rfl
    obtain ⟨w, h1, h2⟩ := Dyn.comp_val hb
    obtain ⟨y, h3, h4⟩ := Dyn.map_val h1
    have h2' : w = some b := h2
    rw [h2'] at h4
    split at h4 <;> try (cases h4; done)
    rename_i hkey
    cases h4
    obtain ⟨cv, e1, e2⟩ := rdV_ok (G := X.G) hv hr h3
    have e3 := coeT_can _ _ hg e2
    obtain ⟨z, ks, vs, e0, hz, hks, hvs⟩ := hr.o id _ ho
    obtain ⟨i1, i2⟩ := insert_ok hp hck e3 hks hvs
    refine ⟨_, ?_, Rep.turnObj hr (k := .mob mt kt vt) (y := alPut (eqZ kt) (fs ρ) (g y) (m ρ)) ⟨z, ks, insertV (ktT kt) ks vs ck cv, rfl, hz, CanAll.fst (R := fun k c => Can kt k [c]) (alGet_key hkey).symm hks, i2⟩⟩
    simp only [effOp, hx', hs', e1, e0, if_true]
  case mapupd mt x k v =>
    simp only [opEff] at h
    split at h <;> try (cases h; done)
    rename_i id fx q p hx hk hv
    split at h <;> try (cases h; done)
    rename_i mt' kt vt m ho
    split at h <;> try (cases h; done)
    rename_i g f hg hf
    split at h <;> try (cases h; done)
    rename_i hh
    obtain ⟨hm, hp⟩ := hh
    cases h
    have hx' : so X.G st.fr x = .omap id := rdK_ok hx hr (a := fx ρ) rfl
    dsimp only at hb
    obtain ⟨y, h1, h2⟩ := Dyn.map_val hb
    obtain ⟨h3, h4⟩ := Dyn.both_val h1
    obtain ⟨ck, e1, e2⟩ := rdV_ok (G := X.G) hk hr h3
    obtain ⟨cv, e1', e2'⟩ := rdV_ok (G := X.G) hv hr h4
    have e3 := coeT_can _ _ hg e2
    have e3' := coeT_can _ _ hf e2'
    obtain ⟨z, ks, vs, e0, hz, hks, hvs⟩ := hr.o id _ ho
    obtain ⟨i1, i2⟩ := insert_ok hp e3 e3' hks hvs
    refine ⟨_, ?_, Rep.turnObj hr (k := .mob mt kt vt) (y := b) ⟨z, insertK (ktT kt) ks ck, insertV (ktT kt) ks vs ck cv, rfl, hz, h2 ▸ i1, h2 ▸ i2⟩⟩
    simp only [effOp, hx', e1, e1', e0]
    rw [if_pos ⟨hm, (eqZ_ok hp e3 e3).2⟩, hm]
end
end WB
