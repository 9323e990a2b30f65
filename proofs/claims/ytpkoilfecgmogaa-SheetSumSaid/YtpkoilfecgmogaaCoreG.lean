/-
  THE OWN LAYER, G: operations that yield a value: memory, maps, texts.
-/
import Derived.Test.YtpkoilfecgmogaaCoreF
namespace WB
open Go Go.RowKit

section
variable {P : Program} {w : World} {M : Nat → Prop}

theorem RelE_of_get {ad : Addr} {size : Nat} : ∀ {i : Nat} {es : List CV}, (∀ (k : Nat) e, es[k]? = some e → ∃ v, RelC w M e v ∧ v.cells.size = size ∧ ∀ (j : Nat) u, v.cells[j]? = some u → w.cell? (ad.add ((i + k) * size + j)) = some u) →
    RelE w M ad size i es
  | _, [], _ => by unfold RelE; trivial
  | i, e :: es, h => by
    unfold RelE
    refine ⟨by simpa using h 0 e rfl, RelE_of_get fun k e' he => ?_⟩
    have := h (k + 1) e' (by simpa using he)
    rw [show i + (k + 1) = i + 1 + k by omega] at this
    exact this

theorem RelE_cut {ad : Addr} {size l h : Nat} {es : List CV} (hr : RelE w M ad size 0 es) : RelE w M (ad.add (l * size)) size 0 ((es.take h).drop l) := by
  refine RelE_of_get fun k e he => ?_
  have he' : es[l + k]? = some e := by
    rw [List.getElem?_drop, List.getElem?_take] at he
    split at he
    · exact he
    · cases he
  obtain ⟨v, h1, h2, h3⟩ := RelE.get hr he'
  refine ⟨v, h1, h2, fun j u hu => ?_⟩
  rw [add_add]
  have := h3 j u hu
  rw [show l * size + ((0 + k) * size + j) = (0 + (l + k)) * size + j by rw [Nat.zero_add, Nat.zero_add, Nat.add_mul]; omega]
  exact this

theorem RelF_get {size : Nat} : ∀ {es : List CV} {xs : List Value} {i : Nat} {e : CV}, RelF w M size es xs → es[i]? = some e →
    ∃ v, RelC w M e v ∧ v.cells.size = size ∧ ∀ (j : Nat) u, v.cells[j]? = some u → xs[i * size + j]? = some u
  | [], _, _, _, _, hi => by simp at hi
  | e :: es, xs, 0, e', h, hi => by
    obtain ⟨v, xs', rfl, h1, h2, h3⟩ := h
    simp at hi; subst hi
    refine ⟨v, h2, h1, fun j u hu => ?_⟩
    rw [Nat.zero_mul, Nat.zero_add, List.getElem?_append_left]
    · simpa using hu
    · have := (Array.getElem?_eq_some_iff.1 hu).1
      simpa using this
  | e :: es, xs, i + 1, e', h, hi => by
    obtain ⟨v, xs', rfl, h1, h2, h3⟩ := h
    simp only [List.getElem?_cons_succ] at hi
    obtain ⟨u, g1, g2, g3⟩ := RelF_get h3 hi
    refine ⟨u, g1, g2, fun j u' hu => ?_⟩
    have hl : v.cells.toList.length = size := by simpa using h1
    rw [List.getElem?_append_right (by rw [hl, Nat.add_mul]; omega), hl]
    have := g3 j u' hu
    rw [show (i + 1) * size + j - size = i * size + j by rw [Nat.add_mul]; omega]
    exact this

theorem RelF_length {size : Nat} : ∀ {es : List CV} {xs : List Value}, RelF w M size es xs → xs.length = es.length * size
  | [], _, h => by unfold RelF at h; subst h; simp
  | e :: es, xs, h => by
    obtain ⟨v, xs', rfl, h1, _, h3⟩ := h
    simp [RelF_length h3, h1, Nat.add_mul]; omega

theorem RelF_append {size : Nat} : ∀ {es fs : List CV} {xs ys : List Value}, RelF w M size es xs → RelF w M size fs ys → RelF w M size (es ++ fs) (xs ++ ys)
  | [], _, _, _, h, k => by unfold RelF at h; subst h; exact k
  | e :: es, _, _, _, h, k => by
    obtain ⟨v, xs', rfl, h1, h2, h3⟩ := h
    exact ⟨v, xs' ++ _, by rw [List.append_assoc], h1, h2, RelF_append h3 k⟩

theorem RelSs.get {z : Cz} {ob : Nat → Ob} : ∀ {cs : List SV} {vs : List Value} {i : Nat} {s : SV}, RelSs w M z ob cs vs → cs[i]? = some s → ∃ v, vs[i]? = some v ∧ RelS w M z ob s v
  | [], _, _, _, _, hi => by simp at hi
  | _ :: _, _, 0, _, h, hi => by
    obtain ⟨v, vs', rfl, h1, _⟩ := h
    simp at hi; subst hi
    exact ⟨v, rfl, h1⟩
  | _ :: _, _, i + 1, _, h, hi => by
    obtain ⟨v, vs', rfl, _, h2⟩ := h
    simp only [List.getElem?_cons_succ] at hi ⊢
    exact RelSs.get h2 hi
theorem RelSs.length {z : Cz} {ob : Nat → Ob} : ∀ {cs : List SV} {vs : List Value}, RelSs w M z ob cs vs → vs.length = cs.length
  | [], _, h => by unfold RelSs at h; subst h; rfl
  | _ :: _, _, h => by
    obtain ⟨v, vs', rfl, _, h2⟩ := h
    simp [RelSs.length h2]
theorem RelSs.drop {z : Cz} {ob : Nat → Ob} : ∀ {cs : List SV} {vs : List Value} (n : Nat), RelSs w M z ob cs vs → RelSs w M z ob (cs.drop n) (vs.drop n)
  | _, _, 0, h => h
  | [], _, n + 1, h => by unfold RelSs at h; subst h; simp [RelSs]
  | _ :: _, _, n + 1, h => by
    obtain ⟨v, vs', rfl, _, h2⟩ := h
    simpa using RelSs.drop n h2
theorem RelSs.take {z : Cz} {ob : Nat → Ob} : ∀ {cs : List SV} {vs : List Value} (n : Nat), RelSs w M z ob cs vs → RelSs w M z ob (cs.take n) (vs.take n)
  | _, _, 0, _ => by simp [RelSs]
  | [], _, n + 1, h => by unfold RelSs at h; subst h; simp [RelSs]
  | _ :: _, _, n + 1, h => by
    obtain ⟨v, vs', rfl, h1, h2⟩ := h
    exact ⟨v, vs'.take n, by simp, h1, RelSs.take n h2⟩
theorem RelSs.closed {z : Cz} {ob : Nat → Ob} : ∀ {cs : List SV} {vs : List Value} {l : List CV}, RelSs w M z ob cs vs → allM closed cs = some l → RelL w M l vs
  | [], _, _, h, hl => by simp only [allM, Option.some.injEq] at hl; subst hl; unfold RelSs at h; subst h; exact RelL.nil
  | c :: cs, _, l, h, hl => by
    obtain ⟨v, vs', rfl, h1, h2⟩ := h
    simp only [allM, Option.bind_eq_some_iff, Option.map_eq_some_iff] at hl
    obtain ⟨x, hx, xs, hxs, rfl⟩ := hl
    cases c <;> simp only [WB.closed, reduceCtorEq, Option.some.injEq] at hx
    subst hx
    exact RelL.cons h1 (RelSs.closed h2 hxs)
theorem RelSs.of_c {z : Cz} {ob : Nat → Ob} : ∀ {cs : List CV} {vs : List Value}, RelL w M cs vs → RelSs w M z ob (cs.map .c) vs
  | [], _, h => by unfold RelL at h; subst h; rfl
  | c :: cs, _, h => by
    unfold RelL at h
    obtain ⟨v, vs', rfl, h1, h2⟩ := h
    exact ⟨v, vs', rfl, h1, RelSs.of_c h2⟩

theorem cell_at {g o : Nat} {vs : List Value} {t : TypeId} {fz : Nat × Nat} (h : w.heap[g]? = some (.cells ⟨vs⟩ t fz)) : w.cell? ⟨g, o, none⟩ = vs[o]? := by
  have := cell_of_row w g o ⟨vs⟩ t fz h
  simpa using this
theorem addr_add (g o n : Nat) : (⟨g, o, none⟩ : Addr).add n = ⟨g, o + n, none⟩ := by
  unfold Addr.add
  by_cases h : n = 0 <;> simp [h]

/-! ### Keys -/

theorem conf_ktOf1 {kt : KT} {t : TypeId} (h : ktOf1 P t = some kt) : ∀ fs, kt ≠ .struct fs := by
  intro fs e
  unfold ktOf1 at h
  split at h <;> simp_all

theorem eq1_some {kt : KT} {a b : CV} (ha : conf1 kt a = true) (hb : conf1 kt b = true) : ∃ r, eq1 kt a b = some r := by
  cases kt <;> cases a <;> simp [conf1] at ha <;> cases b <;> simp [conf1] at hb
  · subst ha; subst hb; exact ⟨_, if_pos rfl⟩
  · exact ⟨_, rfl⟩
  · exact ⟨_, rfl⟩
theorem eqL_some : ∀ {ts : List KT} {as bs : List CV}, confL ts as = true → confL ts bs = true → ∃ r, eqL ts as bs = some r
  | [], [], [], _, _ => ⟨true, rfl⟩
  | [], _ :: _, _, h, _ => by simp [confL] at h
  | [], [], _ :: _, _, h => by simp [confL] at h
  | _ :: _, [], _, h, _ => by simp [confL] at h
  | _ :: _, _ :: _, [], _, h => by simp [confL] at h
  | t :: ts, a :: as, b :: bs, ha, hb => by
    simp only [confL, Bool.and_eq_true] at ha hb
    obtain ⟨r, hr⟩ := eq1_some ha.1 hb.1
    obtain ⟨r', hr'⟩ := eqL_some ha.2 hb.2
    exact ⟨r && r', by simp [eqL, hr, hr']⟩

/-- What the model says of two keys is what the layer says. -/
theorem run_keyEq {kt : KT} {t : TypeId} (hk : ktOf P t = some kt) {x y : CV} {vx vy : Value} (hx : RelC w M x vx) (hy : RelC w M y vy) (cx : conf kt x = true) (cy : conf kt y = true) :
    (Op.equal t vx vy).run P w = .ok (keyEq kt x y) w := by
  have key : ∀ r, (∀ d, (Op.equalIn (d + 2) t vx vy).run P w = .ok r w) → (Op.equal t vx vy).run P w = .ok r w := by
    intro r h
    have := h 9998
    simpa [Op.equal, Op.maxDepth] using this
  unfold ktOf at hk
  split at hk
  · rename_i fs hu
    split at hk
    · cases hk
    · rename_i hp
      simp only [Option.map_eq_some_iff] at hk
      obtain ⟨ts, hts, rfl⟩ := hk
      have hp' : P.stoodInHeld t = false := by simpa using hp
      cases x <;> try (simp [conf, conf1] at cx; done)
      cases y <;> try (simp [conf, conf1] at cy; done)
      simp only [conf] at cx cy
      obtain ⟨r, hr⟩ := eqL_some cx cy
      have := (run_eqs (w := w) (M := M) hu hp' hts hx hy (r := r) hr).2.2
      rename_i as bs
      have e : keyEq (.struct ts) (.agg as) (.agg bs) = r := by simp only [keyEq, hr, Option.getD_some]
      rw [e]
      exact key r this
  · have hns := conf_ktOf1 hk
    have c1 : conf1 kt x = true := by
      cases kt <;> first | exact absurd rfl (hns _) | (simpa [conf] using cx)
    have c2 : conf1 kt y = true := by
      cases kt <;> first | exact absurd rfl (hns _) | (simpa [conf] using cy)
    obtain ⟨r, hr⟩ := eq1_some c1 c2
    have e : keyEq kt x y = r := by
      cases kt <;> first | exact absurd rfl (hns _) | (simp only [keyEq, hr, Option.getD_some])
    rw [e]
    exact key r fun d => run_eq1 hk hx hy hr (d + 1)

theorem kIdx_shift {kt : KT} {k : CV} : ∀ (cs : List CV), kIdx kt k cs = (cs.findIdx? (keyEq kt k)) := by
  intro cs
  induction cs with
  | nil => rfl
  | cons c cs ih =>
    simp only [kIdx, List.findIdx?_cons, ih]

/-- What the model finds at a key. -/
def foundAt (ens : List MapEntry) (o : Option Nat) : Option (Nat × Value) := o.bind fun i => (ens[i]?).map fun e => (i, e.val)

theorem run_findAsking {kt : KT} {t : TypeId} (hk : ktOf P t = some kt) {k : CV} {vk : Value} (hx : RelC w M k vk) (cx : conf kt k = true) :
    ∀ (ks : List CV) (ens : List MapEntry) (i : Nat), RelL w M ks (ens.map (·.key)) → (∀ c ∈ ks, conf kt c = true) →
      (Instr.findAsking t vk ens i).run P w = .ok ((foundAt ens (kIdx kt k ks)).map fun p => (p.1 + i, p.2)) w
  | [], ens, i, h, _ => by
    have : ens = [] := by unfold RelL at h; simpa using h
    subst this
    rfl
  | c :: ks, ens, i, h, hc => by
    unfold RelL at h
    obtain ⟨v, vs', e, h1, h2⟩ := h
    cases ens with
    | nil => simp at e
    | cons en ens =>
      simp only [List.map_cons, List.cons.injEq] at e
      obtain ⟨e1, e2⟩ := e
      subst e1; subst e2
      have hq := run_keyEq hk hx h1 cx (hc c (by simp))
      have ih := run_findAsking hk hx cx ks ens (i + 1) h2 (fun c' hc' => hc c' (by simp [hc']))
      simp only [Instr.findAsking, Sem.run_bind, hq, Result.andThen_ok, kIdx]
      by_cases hb : keyEq kt k c = true
      · simp [hb, foundAt]
      · simp only [hb, Bool.false_eq_true, if_false, ih]
        congr 1
        cases hi : kIdx kt k ks with
        | none => simp [foundAt]
        | some j =>
          cases hj : ens[j]? <;> simp [foundAt, hj]
          omega

theorem findNow_eq {kt : KT} {t : TypeId} {d : TypeDesc} (hu : P.underlying t = some d) (hk : ktOf P t = some kt) {k : CV} {vk : Value} (hx : RelC w M k vk) (cx : conf kt k = true) :
    ∀ (ks : List CV) (ens : List MapEntry) (i : Nat), RelL w M ks (ens.map (·.key)) → (∀ c ∈ ks, conf kt c = true) →
      Instr.findNow d vk ens i = none ∨ Instr.findNow d vk ens i = some ((foundAt ens (kIdx kt k ks)).map fun p => (p.1 + i, p.2))
  | [], ens, i, h, _ => by
    have : ens = [] := by unfold RelL at h; simpa using h
    subst this
    exact .inr rfl
  | c :: ks, ens, i, h, hc => by
    unfold RelL at h
    obtain ⟨v, vs', e, h1, h2⟩ := h
    cases ens with
    | nil => simp at e
    | cons en ens =>
      simp only [List.map_cons, List.cons.injEq] at e
      obtain ⟨e1, e2⟩ := e
      subst e1; subst e2
      have hcc := hc c (by simp)
      have ih := findNow_eq hu hk hx cx ks ens (i + 1) h2 (fun c' hc' => hc c' (by simp [hc']))
      have hsn : Instr.sameNow d vk en.key = none ∨ Instr.sameNow d vk en.key = some (keyEq kt k c) := by
        unfold ktOf ktOf1 at hk
        rw [hu] at hk
        cases d <;> simp only [reduceCtorEq, Option.some.injEq] at hk
        · subst hk
          cases k <;> simp [conf, conf1] at cx
          cases c <;> simp [conf, conf1] at hcc
          have e1 := of_bool hx
          have e2 := of_bool h1
          rw [e1, e2]
          exact .inr rfl
        · subst hk
          cases k <;> simp [conf, conf1] at cx
          cases c <;> simp [conf, conf1] at hcc
          have e1 := of_int hx
          have e2 := of_int h1
          subst cx; subst hcc
          rw [e1, e2]
          refine .inr ?_
          simp [Instr.sameNow, keyEq, eq1]
        · subst hk
          cases k <;> simp [conf, conf1] at cx
          cases c <;> simp [conf, conf1] at hcc
          have e1 := of_str hx
          have e2 := of_str h1
          rw [e1, e2]
          refine .inr ?_
          simp [Instr.sameNow, keyEq, eq1, beq_toListBytes]
        · left; rfl
      simp only [Instr.findNow, kIdx]
      rcases hsn with e | e
      · rw [e]; exact .inl rfl
      · rw [e]
        by_cases hb : keyEq kt k c = true
        · simp [hb, foundAt]
        · simp only [hb, Bool.false_eq_true, if_false]
          rcases ih with e | e
          · rw [e]; exact .inl rfl
          · rw [e]
            refine .inr ?_
            congr 1
            cases hi : kIdx kt k ks with
            | none => simp [foundAt]
            | some j =>
              cases hj : ens[j]? <;> simp [foundAt, hj]
              omega

theorem underlying_of_ktOf {t : TypeId} {kt : KT} (hk : ktOf P t = some kt) : ∃ d, P.underlying t = some d := by
  unfold ktOf ktOf1 at hk
  cases hu : P.underlying t with
  | none => rw [hu] at hk; simp at hk
  | some d => exact ⟨d, rfl⟩

theorem run_findKey {kt : KT} {t : TypeId} (hk : ktOf P t = some kt) {k : CV} {vk : Value} (hx : RelC w M k vk) (cx : conf kt k = true)
    {ks : List CV} {ens : List MapEntry} (h : RelL w M ks (ens.map (·.key))) (hc : ∀ c ∈ ks, conf kt c = true) :
    (Instr.findKey t vk ens).run P w = .ok (foundAt ens (kIdx kt k ks)) w := by
  obtain ⟨d, hu⟩ := underlying_of_ktOf hk
  have h1 := run_findAsking hk hx cx ks ens 0 h hc
  have h2 := findNow_eq hu hk hx cx ks ens 0 h hc
  have e : (foundAt ens (kIdx kt k ks)).map (fun p => (p.1 + 0, p.2)) = foundAt ens (kIdx kt k ks) := by
    cases foundAt ens (kIdx kt k ks) <;> rfl
  rw [e] at h1 h2
  simp only [Instr.findKey, Sem.run_bind, run_underlying hu, Result.andThen_ok]
  rcases h2 with h2 | h2
  · rw [h2]; exact h1
  · rw [h2]; rfl

theorem run_checkKey1 {t : TypeId} {kt : KT} (hk : ktOf1 P t = some kt) (em : Bool) (n : Nat) (v : Value) : (Instr.checkKey em (n + 1) t v).run P w = .ok () w := by
  unfold ktOf1 at hk
  split at hk <;> first | cases hk; done | skip
  all_goals
    rename_i hu
    simp only [Instr.checkKey, Sem.run_bind, run_underlying hu, Result.andThen_ok]
    rfl

theorem run_checkKey {t : TypeId} {kt : KT} (hk : ktOf P t = some kt) (em : Bool) {k : CV} {vk : Value} (hx : RelC w M k vk) (cx : conf kt k = true) : (Instr.checkKey em 10000 t vk).run P w = .ok () w := by
  have hk' := hk
  unfold ktOf at hk'
  split at hk'
  · rename_i fs hu
    split at hk'
    · cases hk'
    · simp only [Option.map_eq_some_iff] at hk'
      obtain ⟨ts, hts, rfl⟩ := hk'
      cases k <;> try (simp [conf, conf1] at cx; done)
      rename_i cs
      simp only [conf] at cx
      unfold RelC at hx
      obtain ⟨xs, rfl, hx⟩ := hx
      have key : ∀ (m : Nat) (l : List Field) (i : Nat) (ts : List KT) (cs : List CV), ktFields P i l = some ts → confL ts cs = true → RelL w M cs (xs.drop i) →
          (forIn l PUnit.unit (fun f (_ : PUnit) => (do
            if f.name ≠ "_" then Instr.checkKey em (m + 1) f.type (← part f.type ⟨xs⟩ f.offset)
            pure (ForInStep.yield PUnit.unit) : Sem (ForInStep PUnit)))).run P w = .ok PUnit.unit w := by
        intro m l
        induction l with
        | nil => intro i ts cs _ _ _; rfl
        | cons f l ih =>
          intro i ts cs hk hc hr
          simp only [ktFields, Option.ite_none_right_eq_some, Option.bind_eq_some_iff, Option.map_eq_some_iff] at hk
          obtain ⟨⟨hoff, hname⟩, kt, hk1, kts, hks, rfl⟩ := hk
          cases cs with
          | nil => simp [confL] at hc
          | cons c cs =>
            simp only [confL, Bool.and_eq_true] at hc
            unfold RelL at hr
            obtain ⟨v, vs', ea, h1, h2⟩ := hr
            have ga : xs[i]? = some v := by have := congrArg (·[0]?) ea; simpa using this
            have da : xs.drop (i + 1) = vs' := by have := congrArg (List.drop 1) ea; simpa [List.drop_drop] using this
            subst hoff
            rw [← da] at h2
            have ih' := ih (f.offset + 1) kts cs hks hc.2 h2
            simp only [List.forIn_cons, Sem.run_bind, if_pos hname, ktOf1_part hk1 ga, Result.andThen_ok, run_checkKey1 hk1 em m v, Sem.run_pure]
            exact ih'
      have all : ∀ m, (Instr.checkKey em (m + 2) t (.agg ⟨xs⟩)).run P w = .ok () w := by
        intro m
        have := key m fs.toList 0 ts cs hts cx (by simpa using hx)
        rw [Instr.checkKey]
        simp only [Sem.run_bind, run_underlying hu, Result.andThen_ok]
        rw [← Array.forIn_toList]
        exact congrArg (fun r => Result.andThen r fun _ w' => Sem.run P (pure ()) w') this
      exact all 9998
  · exact run_checkKey1 hk' em 9999 vk
end
end WB
