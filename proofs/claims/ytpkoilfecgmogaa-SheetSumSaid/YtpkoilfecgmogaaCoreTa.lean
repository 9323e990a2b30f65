/-
  THE OWN LAYER, TA: types of closed values, their plain data, and what it is for a closed value to stand for plain data.
-/
import Derived.Test.YtpkoilfecgmogaaCoreYb
namespace WB
open Go Go.RowKit

/-- Types of plain data. A row (nil, one, cons) is a list of cells. -/
inductive Ty where
  | int (k : IntKind)
  | bool
  | str
  | err
  | clo (f : Nat) (r : Ty)
  | nsl
  | nmap
  | agg (r : Ty)
  | tup (r : Ty)
  | sl (e : Ty)
  | map (k v : Ty)
  | nil
  | one (t : Ty)
  | cons (t r : Ty)
  deriving DecidableEq

@[reducible] def D : Ty → Type
  | .int _ => Int
  | .bool => Bool
  | .str => List UInt8
  | .err => Bool
  | .clo _ r => D r
  | .nsl => Unit
  | .nmap => Unit
  | .agg r => D r
  | .tup r => D r
  | .sl e => List (D e)
  | .map k v => List (D k × D v)
  | .nil => Unit
  | .one t => D t
  | .cons t r => D t × D r

def CanAll {α β : Type} (R : α → β → Prop) : List α → List β → Prop
  | [], bs => bs = []
  | a :: as, bs => ∃ b bs', bs = b :: bs' ∧ R a b ∧ CanAll R as bs'

/-- What cells stand for. -/
def Can : (t : Ty) → D t → List CV → Prop
  | .int k, n, cs => cs = [.int k n]
  | .bool, b, cs => cs = [.bool b]
  | .str, s, cs => cs = [.str s]
  | .err, b, cs => cs = [if b then .nilif else .ifc]
  | .clo f r, x, cs => ∃ l, cs = [.fn f l] ∧ Can r x l
  | .nsl, _, cs => cs = [.sl (some true) []]
  | .nmap, _, cs => cs = [.map (some true) [] []]
  | .agg r, x, cs => ∃ l, cs = [.agg l] ∧ Can r x l
  | .tup r, x, cs => ∃ l, cs = [.tup l] ∧ Can r x l
  | .sl e, xs, cs => ∃ nl es, cs = [.sl nl es] ∧ CanAll (fun x c => Can e x [c]) xs es
  | .map k v, m, cs => ∃ nl ks vs, cs = [.map nl ks vs] ∧ CanAll (fun x c => Can k x.1 [c]) m ks ∧ CanAll (fun x c => Can v x.2 [c]) m vs
  | .nil, _, cs => cs = []
  | .one t, x, cs => ∃ c, cs = [c] ∧ Can t x [c]
  | .cons t r, x, cs => ∃ c l, cs = c :: l ∧ Can t x.1 [c] ∧ Can r x.2 l

/-- The plain form. -/
def encL : (t : Ty) → D t → List CV
  | .int k, n => [.int k n]
  | .bool, b => [.bool b]
  | .str, s => [.str s]
  | .err, b => [if b then .nilif else .ifc]
  | .clo f r, x => [.fn f (encL r x)]
  | .nsl, _ => [.sl (some true) []]
  | .nmap, _ => [.map (some true) [] []]
  | .agg r, x => [.agg (encL r x)]
  | .tup r, x => [.tup (encL r x)]
  | .sl e, xs => [.sl none (xs.map fun x => (encL e x).headD .nilif)]
  | .map k v, m => [.map none (m.map fun x => (encL k x.1).headD .nilif) (m.map fun x => (encL v x.2).headD .nilif)]
  | .nil, _ => []
  | .one t, x => [(encL t x).headD .nilif]
  | .cons t r, x => (encL t x.1).headD .nilif :: encL r x.2
def enc (t : Ty) (x : D t) : CV := (encL t x).headD .nilif

/-- Is it the type of one value. -/
def Ty.val : Ty → Bool
  | .nil | .one _ | .cons _ _ => false
  | _ => true

section
variable {α β : Type} {R S : α → β → Prop}
theorem CanAll.length : ∀ {as : List α} {bs : List β}, CanAll R as bs → bs.length = as.length
  | [], _, h => by unfold CanAll at h; subst h; rfl
  | _ :: _, _, h => by
    obtain ⟨b, bs', rfl, _, h2⟩ := h
    simp [CanAll.length h2]
theorem CanAll.get : ∀ {as : List α} {bs : List β} {i : Nat} {a : α}, CanAll R as bs → as[i]? = some a → ∃ b, bs[i]? = some b ∧ R a b
  | [], _, _, _, _, h => by simp at h
  | _ :: _, _, 0, _, hc, h => by
    obtain ⟨b, bs', rfl, h1, _⟩ := hc
    simp at h; subst h
    exact ⟨b, rfl, h1⟩
  | _ :: _, _, i + 1, _, hc, h => by
    obtain ⟨b, bs', rfl, _, h2⟩ := hc
    simp only [List.getElem?_cons_succ] at h ⊢
    exact CanAll.get h2 h
theorem CanAll.getB : ∀ {as : List α} {bs : List β} {i : Nat} {b : β}, CanAll R as bs → bs[i]? = some b → ∃ a, as[i]? = some a ∧ R a b
  | [], _, _, _, hc, h => by unfold CanAll at hc; subst hc; simp at h
  | _ :: _, _, 0, _, hc, h => by
    obtain ⟨b, bs', rfl, h1, _⟩ := hc
    simp at h; subst h
    exact ⟨_, rfl, h1⟩
  | _ :: _, _, i + 1, _, hc, h => by
    obtain ⟨b, bs', rfl, _, h2⟩ := hc
    simp only [List.getElem?_cons_succ] at h ⊢
    exact CanAll.getB h2 h
theorem CanAll.mono : ∀ {as : List α} {bs : List β}, (∀ a b, a ∈ as → R a b → S a b) → CanAll R as bs → CanAll S as bs
  | [], _, _, h => h
  | _ :: _, _, f, h => by
    obtain ⟨b, bs', rfl, h1, h2⟩ := h
    exact ⟨b, bs', rfl, f _ _ (by simp) h1, CanAll.mono (fun a b ha => f a b (by simp [ha])) h2⟩
theorem CanAll.append : ∀ {as as' : List α} {bs bs' : List β}, CanAll R as bs → CanAll R as' bs' → CanAll R (as ++ as') (bs ++ bs')
  | [], _, _, _, h, k => by unfold CanAll at h; subst h; exact k
  | _ :: _, _, _, _, h, k => by
    obtain ⟨b, bs', rfl, h1, h2⟩ := h
    exact ⟨b, _, rfl, h1, CanAll.append h2 k⟩
theorem CanAll.take : ∀ (n : Nat) {as : List α} {bs : List β}, CanAll R as bs → CanAll R (as.take n) (bs.take n)
  | 0, _, _, _ => by simp [CanAll]
  | n + 1, [], _, h => by unfold CanAll at h; subst h; simp [CanAll]
  | n + 1, _ :: _, _, h => by
    obtain ⟨b, bs', rfl, h1, h2⟩ := h
    exact ⟨b, _, rfl, h1, CanAll.take n h2⟩
theorem CanAll.drop : ∀ (n : Nat) {as : List α} {bs : List β}, CanAll R as bs → CanAll R (as.drop n) (bs.drop n)
  | 0, _, _, h => h
  | n + 1, [], _, h => by unfold CanAll at h; subst h; simp [CanAll]
  | n + 1, _ :: _, _, h => by
    obtain ⟨b, bs', rfl, h1, h2⟩ := h
    exact CanAll.drop n h2
theorem CanAll.set : ∀ (n : Nat) {as : List α} {bs : List β} {a : α} {b : β}, CanAll R as bs → R a b → CanAll R (as.set n a) (bs.set n b)
  | _, [], _, _, _, h, _ => by unfold CanAll at h; subst h; simp [CanAll]
  | 0, _ :: _, _, _, _, h, k => by
    obtain ⟨b, bs', rfl, h1, h2⟩ := h
    exact ⟨_, _, rfl, k, h2⟩
  | n + 1, _ :: _, _, _, _, h, k => by
    obtain ⟨b, bs', rfl, h1, h2⟩ := h
    exact ⟨b, _, rfl, h1, CanAll.set n h2 k⟩
theorem CanAll.cons {a : α} {b : β} {as : List α} {bs : List β} (h : R a b) (k : CanAll R as bs) : CanAll R (a :: as) (b :: bs) := ⟨b, bs, rfl, h, k⟩
theorem CanAll.nil : CanAll R [] [] := rfl
theorem CanAll.replicate {a : α} {b : β} (h : R a b) : ∀ n, CanAll R (List.replicate n a) (List.replicate n b)
  | 0 => rfl
  | n + 1 => ⟨b, _, rfl, h, CanAll.replicate h n⟩
theorem CanAll.uniq : ∀ {as as' : List α} {bs : List β}, (∀ a a' b, R a b → R a' b → a = a') → CanAll R as bs → CanAll R as' bs → as = as'
  | [], [], _, _, _, _ => rfl
  | [], _ :: _, _, _, h, k => by
    obtain ⟨b, bs', rfl, _⟩ := k
    unfold CanAll at h; cases h
  | _ :: _, [], _, _, h, k => by
    obtain ⟨b, bs', rfl, _⟩ := h
    unfold CanAll at k; cases k
  | _ :: _, _ :: _, _, f, h, k => by
    obtain ⟨b, bs', rfl, h1, h2⟩ := h
    obtain ⟨b2, bs2, e, k1, k2⟩ := k
    cases e
    rw [f _ _ _ h1 k1, CanAll.uniq f h2 k2]
end

/-- Cells of one value are one. -/
theorem Can.one : ∀ {t : Ty} {x : D t} {cs : List CV}, t.val = true → Can t x cs → ∃ c, cs = [c] := by
  intro t x cs hv h
  cases t <;> simp only [Ty.val, Bool.false_eq_true] at hv <;> unfold Can at h
  case agg => obtain ⟨l, h, _⟩ := h; exact ⟨_, h⟩
  case clo => obtain ⟨l, h, _⟩ := h; exact ⟨_, h⟩
  case tup => obtain ⟨l, h, _⟩ := h; exact ⟨_, h⟩
  case sl => obtain ⟨_, _, h, _⟩ := h; exact ⟨_, h⟩
  case map => obtain ⟨_, _, _, h, _⟩ := h; exact ⟨_, h⟩
  all_goals exact ⟨_, h⟩

theorem Can.uniq : ∀ (t : Ty) {x y : D t} {cs : List CV}, Can t x cs → Can t y cs → x = y
  | .int _, _, _, _, h, k => by unfold Can at h k; rw [h] at k; simpa using k
  | .bool, _, _, _, h, k => by unfold Can at h k; rw [h] at k; simpa using k
  | .str, _, _, _, h, k => by unfold Can at h k; rw [h] at k; simpa using k
  | .err, x, y, _, h, k => by unfold Can at h k; rw [h] at k; cases x <;> cases y <;> simp_all
  | .clo f r, _, _, _, h, k => by
    unfold Can at h k
    obtain ⟨l, rfl, h⟩ := h
    obtain ⟨l', e, k⟩ := k
    cases e
    exact Can.uniq r h k
  | .nsl, _, _, _, _, _ => rfl
  | .nmap, _, _, _, _, _ => rfl
  | .agg r, _, _, _, h, k => by
    unfold Can at h k
    obtain ⟨l, rfl, h⟩ := h
    obtain ⟨l', e, k⟩ := k
    cases e
    exact Can.uniq r h k
  | .tup r, _, _, _, h, k => by
    unfold Can at h k
    obtain ⟨l, rfl, h⟩ := h
    obtain ⟨l', e, k⟩ := k
    cases e
    exact Can.uniq r h k
  | .sl e, _, _, _, h, k => by
    unfold Can at h k
    obtain ⟨nl, es, rfl, h⟩ := h
    obtain ⟨nl', es', e', k⟩ := k
    cases e'
    exact CanAll.uniq (R := fun x c => Can e x [c]) (fun a a' b h k => Can.uniq e h k) h k
  | .map kt vt, x, y, _, h, k => by
    unfold Can at h k
    obtain ⟨nl, ks, vs, rfl, h1, h2⟩ := h
    obtain ⟨nl', ks', vs', e', k1, k2⟩ := k
    cases e'
    have key : ∀ {m m' : List (D kt × D vt)} {ks vs : List CV}, CanAll (fun x c => Can kt x.1 [c]) m ks → CanAll (fun x c => Can vt x.2 [c]) m vs → CanAll (fun x c => Can kt x.1 [c]) m' ks → CanAll (fun x c => Can vt x.2 [c]) m' vs → m = m' := by
      intro m
      induction m with
      | nil =>
        intro m' ks vs a1 a2 b1 b2
        have := b1.length
        unfold CanAll at a1
        subst a1
        exact (List.eq_nil_of_length_eq_zero (by simpa using this.symm)).symm
      | cons p m ih =>
        intro m' ks vs a1 a2 b1 b2
        obtain ⟨c, ks, rfl, c1, a1⟩ := a1
        obtain ⟨d, vs, rfl, d1, a2⟩ := a2
        cases m' with
        | nil => unfold CanAll at b1; cases b1
        | cons p' m' =>
          obtain ⟨c', ks', e, c1', b1⟩ := b1
          cases e
          obtain ⟨d', vs', e, d1', b2⟩ := b2
          cases e
          rw [ih a1 a2 b1 b2]
          have e1 := Can.uniq kt c1 c1'
          have e2 := Can.uniq vt d1 d1'
          obtain ⟨p1, p2⟩ := p
          obtain ⟨q1, q2⟩ := p'
          simp only at e1 e2
          rw [e1, e2]
    exact key h1 h2 k1 k2
  | .nil, _, _, _, _, _ => rfl
  | .one t, _, _, _, h, k => by
    unfold Can at h k
    obtain ⟨c, rfl, h⟩ := h
    obtain ⟨c', e, k⟩ := k
    cases e
    exact Can.uniq t h k
  | .cons t r, (a, b), (a', b'), _, h, k => by
    unfold Can at h k
    obtain ⟨c, l, rfl, h1, h2⟩ := h
    obtain ⟨c', l', e, k1, k2⟩ := k
    cases e
    have e1 := Can.uniq t h1 k1
    have e2 := Can.uniq r h2 k2
    simp only at e1 e2
    rw [e1, e2]

/-- A cell read as its plain form is what it was. -/
theorem RelC.plain {w : World} {M : Nat → Prop} : ∀ (t : Ty) {x : D t} {cs : List CV} {vs : List Value}, Can t x cs → RelL w M cs vs → RelL w M (encL t x) vs := by
  have hd : ∀ (t : Ty), (∀ {x : D t} {cs : List CV} {vs : List Value}, Can t x cs → RelL w M cs vs → RelL w M (encL t x) vs) → ∀ {x : D t} {c : CV} {v : Value}, Can t x [c] → RelC w M c v → RelC w M ((encL t x).headD .nilif) v := by
    intro t ih x c v hc hr
    have := ih hc (RelL.cons hr RelL.nil)
    have hl := this.length
    match he : encL t x with
    | [] => rw [he] at hl; simp at hl
    | [d] =>
      rw [he] at this
      unfold RelL at this
      obtain ⟨v', vs', e, h1, h2⟩ := this
      cases e
      exact h1
    | d :: d' :: ds => rw [he] at hl; simp at hl
  have relL1 : ∀ {c : CV} {vs : List Value}, RelL w M [c] vs → ∃ v, vs = [v] ∧ RelC w M c v := by
    intro c vs h
    unfold RelL at h
    obtain ⟨v, vs', rfl, h1, h2⟩ := h
    unfold RelL at h2
    subst h2
    exact ⟨v, rfl, h1⟩
  intro t
  induction t with
  | int k => intro x cs vs h hr; unfold Can at h; subst h; exact hr
  | bool => intro x cs vs h hr; unfold Can at h; subst h; exact hr
  | str => intro x cs vs h hr; unfold Can at h; subst h; exact hr
  | err => intro x cs vs h hr; unfold Can at h; subst h; exact hr
  | clo f r ih =>
    intro x cs vs h hr
    unfold Can at h
    obtain ⟨l, rfl, h⟩ := h
    obtain ⟨v, rfl, hv⟩ := relL1 hr
    refine RelL.cons ?_ RelL.nil
    unfold RelC at hv ⊢
    obtain ⟨us, e, hl⟩ := hv
    exact ⟨us, e, ih h hl⟩
  | nsl => intro x cs vs h hr; unfold Can at h; subst h; exact hr
  | nmap => intro x cs vs h hr; unfold Can at h; subst h; exact hr
  | nil => intro x cs vs h hr; unfold Can at h; subst h; exact hr
  | agg r ih =>
    intro x cs vs h hr
    unfold Can at h
    obtain ⟨l, rfl, h⟩ := h
    obtain ⟨v, rfl, hv⟩ := relL1 hr
    refine RelL.cons ?_ RelL.nil
    unfold RelC at hv ⊢
    obtain ⟨us, e, hl⟩ := hv
    exact ⟨us, e, ih h hl⟩
  | tup r ih =>
    intro x cs vs h hr
    unfold Can at h
    obtain ⟨l, rfl, h⟩ := h
    obtain ⟨v, rfl, hv⟩ := relL1 hr
    refine RelL.cons ?_ RelL.nil
    unfold RelC at hv ⊢
    obtain ⟨us, e, hl⟩ := hv
    exact ⟨us, e, ih h hl⟩
  | sl e ih =>
    intro x cs vs h hr
    unfold Can at h
    obtain ⟨nl, es, rfl, h⟩ := h
    obtain ⟨v, rfl, hv⟩ := relL1 hr
    refine RelL.cons ?_ RelL.nil
    have hlen := h.length
    unfold RelC at hv ⊢
    obtain ⟨a, n, c, ev, hn, hle, _, _, hc0, hmem⟩ := hv
    refine ⟨a, n, c, ev, by simp [hn, hlen], hle, (fun h => by cases h), (fun h => by cases h), hc0, fun hne => ?_⟩
    obtain ⟨ad, size, ea, hlt, hM, hE⟩ := hmem (by
      intro h0
      subst h0
      simp only [List.length_nil] at hlen
      exact hne (by simp [List.eq_nil_of_length_eq_zero hlen.symm]))
    refine ⟨ad, size, ea, hlt, hM, ?_⟩
    clear hne ea hn hlen
    have key : ∀ {xs : List (D e)} {es : List CV} {i : Nat}, CanAll (fun x c => Can e x [c]) xs es → RelE w M ad size i es → RelE w M ad size i (xs.map fun x => (encL e x).headD .nilif) := by
      intro xs
      induction xs with
      | nil => intro es i _ _; unfold RelE; trivial
      | cons y ys ihx =>
        intro es i hc hE
        obtain ⟨c, es', rfl, h1, h2⟩ := hc
        unfold RelE at hE
        obtain ⟨⟨u, g1, g2, g3⟩, g4⟩ := hE
        simp only [List.map_cons]
        unfold RelE
        exact ⟨⟨u, hd e ih h1 g1, g2, g3⟩, ihx h2 g4⟩
    exact key h hE
  | map kt vt ihk ihv =>
    intro x cs vs h hr
    unfold Can at h
    obtain ⟨nl, ks, us, rfl, h1, h2⟩ := h
    obtain ⟨v, rfl, hv⟩ := relL1 hr
    refine RelL.cons ?_ RelL.nil
    have hl1 := h1.length
    have hl2 := h2.length
    unfold RelC at hv ⊢
    obtain ⟨r, ev, _, _, h0, hm⟩ := hv
    refine ⟨r, ev, (fun h => by cases h), (fun h => by cases h), fun hr0 => ?_, fun b hb => ?_⟩
    · obtain ⟨e1, e2⟩ := h0 hr0
      subst e1
      have : x = [] := List.eq_nil_of_length_eq_zero (by simpa using hl1.symm)
      subst this
      exact ⟨rfl, rfl⟩
    · obtain ⟨hM, ens, clk, hh, r1, r2⟩ := hm b hb
      refine ⟨hM, ens, clk, hh, ?_, ?_⟩
      · have key : ∀ (m : List (D kt × D vt)) (ks : List CV) (vs : List Value), CanAll (fun x c => Can kt x.1 [c]) m ks → RelL w M ks vs → RelL w M (m.map fun x => (encL kt x.1).headD .nilif) vs := by
          intro m
          induction m with
          | nil =>
            intro ks vs h1 r1
            unfold CanAll at h1
            subst h1
            exact r1
          | cons p m ihm =>
            intro ks vs h1 r1
            obtain ⟨c, ks', rfl, g1, g2⟩ := h1
            unfold RelL at r1
            obtain ⟨v', vs', e, q1, q2⟩ := r1
            rw [e]
            exact RelL.cons (hd kt ihk g1 q1) (ihm ks' vs' g2 q2)
        exact key _ _ _ h1 r1
      · have key : ∀ (m : List (D kt × D vt)) (ks : List CV) (vs : List Value), CanAll (fun x c => Can vt x.2 [c]) m ks → RelL w M ks vs → RelL w M (m.map fun x => (encL vt x.2).headD .nilif) vs := by
          intro m
          induction m with
          | nil =>
            intro ks vs h1 r1
            unfold CanAll at h1
            subst h1
            exact r1
          | cons p m ihm =>
            intro ks vs h1 r1
            obtain ⟨c, ks', rfl, g1, g2⟩ := h1
            unfold RelL at r1
            obtain ⟨v', vs', e, q1, q2⟩ := r1
            rw [e]
            exact RelL.cons (hd vt ihv g1 q1) (ihm ks' vs' g2 q2)
        exact key _ _ _ h2 r2
  | one t ih =>
    intro x cs vs h hr
    unfold Can at h
    obtain ⟨c, rfl, h⟩ := h
    obtain ⟨v, rfl, hv⟩ := relL1 hr
    exact RelL.cons (hd t ih h hv) RelL.nil
  | cons t r iht ihr =>
    intro x cs vs h hr
    unfold Can at h
    obtain ⟨c, l, rfl, h1, h2⟩ := h
    unfold RelL at hr
    obtain ⟨v, vs', rfl, h3, h4⟩ := hr
    exact RelL.cons (hd t iht h1 h3) (ihr h2 h4)

theorem RelC.enc {w : World} {M : Nat → Prop} {t : Ty} {x : D t} {c : CV} {v : Value} (h : Can t x [c]) (hr : RelC w M c v) : RelC w M (enc t x) v := by
  have := RelC.plain t h (RelL.cons hr RelL.nil)
  have hl := this.length
  unfold WB.enc
  match he : encL t x with
  | [] => rw [he] at hl; simp at hl
  | [d] =>
    rw [he] at this
    unfold RelL at this
    obtain ⟨v', vs', e, h1, h2⟩ := this
    cases e
    exact h1
  | d :: d' :: ds => rw [he] at hl; simp at hl

/-- Rows are rows of values. -/
def Ty.ok : Ty → Bool
  | .agg r => !r.val && r.ok
  | .tup r => !r.val && r.ok
  | .clo _ r => !r.val && r.ok
  | .sl e => e.val && e.ok
  | .map k v => k.val && k.ok && v.val && v.ok
  | .one t => t.val && t.ok
  | .cons t r => t.val && t.ok && !r.val && r.ok
  | _ => true

theorem Can.plain : ∀ (t : Ty) (x : D t), t.ok = true → Can t x (encL t x) := by
  have hd : ∀ (t : Ty), (∀ (x : D t), t.ok = true → Can t x (encL t x)) → ∀ (x : D t), t.val = true → t.ok = true → Can t x [(encL t x).headD .nilif] := by
    intro t ih x hv ho
    have h := ih x ho
    obtain ⟨c, hc⟩ := h.one hv
    rw [hc] at h ⊢
    exact h
  intro t
  induction t with
  | int k => intro x _; unfold Can encL; rfl
  | bool => intro x _; unfold Can encL; rfl
  | str => intro x _; unfold Can encL; rfl
  | err => intro x _; unfold Can encL; rfl
  | clo f r ih =>
    intro x h
    simp only [Ty.ok, Bool.and_eq_true] at h
    unfold Can encL
    exact ⟨_, rfl, ih x h.2⟩
  | nsl => intro x _; unfold Can encL; rfl
  | nmap => intro x _; unfold Can encL; rfl
  | nil => intro x _; unfold Can encL; rfl
  | agg r ih =>
    intro x h
    simp only [Ty.ok, Bool.and_eq_true] at h
    unfold Can encL
    exact ⟨_, rfl, ih x h.2⟩
  | tup r ih =>
    intro x h
    simp only [Ty.ok, Bool.and_eq_true] at h
    unfold Can encL
    exact ⟨_, rfl, ih x h.2⟩
  | sl e ih =>
    intro x h
    simp only [Ty.ok, Bool.and_eq_true] at h
    unfold Can encL
    refine ⟨none, _, rfl, ?_⟩
    induction x with
    | nil => rfl
    | cons y ys ihx => exact ⟨_, _, rfl, hd e ih y h.1 h.2, ihx⟩
  | map kt vt ihk ihv =>
    intro x h
    simp only [Ty.ok, Bool.and_eq_true] at h
    obtain ⟨⟨⟨h1, h2⟩, h3⟩, h4⟩ := h
    unfold Can encL
    refine ⟨none, _, _, rfl, ?_, ?_⟩
    · induction x with
      | nil => rfl
      | cons y ys ihx => exact ⟨_, _, rfl, hd kt ihk _ h1 h2, ihx⟩
    · induction x with
      | nil => rfl
      | cons y ys ihx => exact ⟨_, _, rfl, hd vt ihv _ h3 h4, ihx⟩
  | one t ih =>
    intro x h
    simp only [Ty.ok, Bool.and_eq_true] at h
    unfold Can encL
    exact ⟨_, rfl, hd t ih x h.1 h.2⟩
  | cons t r iht ihr =>
    intro x h
    simp only [Ty.ok, Bool.and_eq_true] at h
    obtain ⟨⟨⟨h1, h2⟩, h3⟩, h4⟩ := h
    unfold Can encL
    exact ⟨_, _, rfl, hd t iht x.1 h1 h2, ihr x.2 h4⟩
theorem Can.enc {t : Ty} (x : D t) (hv : t.val = true) (ho : t.ok = true) : Can t x [WB.enc t x] := by
  have h := Can.plain t x ho
  obtain ⟨c, hc⟩ := h.one hv
  unfold WB.enc
  rw [hc] at h ⊢
  exact h
end WB
