/-
  THE OWN LAYER, TC: operations that yield values, over plain data.
-/
import Derived.Test.YtpkoilfecgmogaaCoreTb
namespace WB
open Go Go.RowKit

/-! ### What plain data reckons with -/

def lAt {α : Type} (xs : List α) (n : Int) : Option α := if 0 ≤ n ∧ n < xs.length then xs[n.toNat]? else none
def sAt (s : List UInt8) (n : Int) : Option Int := if 0 ≤ n ∧ n < s.length then (s[n.toNat]?).map fun b => (b.toNat : Int) else none
def lSub {α : Type} (xs : List α) (lo hi : Int) : Option (List α) := if 0 ≤ lo ∧ lo ≤ hi ∧ hi ≤ xs.length then some ((xs.take hi.toNat).drop lo.toNat) else none
def bitZ (op : BinOp) (k : IntKind) (x y : Int) : Int :=
  match op with
  | .and => k.wrap (BitVec.ofInt k.bits x &&& BitVec.ofInt k.bits y).toNat
  | .or => k.wrap (BitVec.ofInt k.bits x ||| BitVec.ofInt k.bits y).toNat
  | .xor => k.wrap (BitVec.ofInt k.bits x ^^^ BitVec.ofInt k.bits y).toNat
  | _ => k.wrap (BitVec.ofInt k.bits x &&& ~~~(BitVec.ofInt k.bits y)).toNat
def alGet {α β : Type} (eq : α → α → Bool) (z : β) (x : α) : List (α × β) → β × Bool
  | [] => (z, false)
  | p :: m => if eq x p.1 then (p.2, true) else alGet eq z x m
def alPut {α β : Type} (eq : α → α → Bool) (x : α) (y : β) : List (α × β) → List (α × β)
  | [] => [(x, y)]
  | p :: m => if eq x p.1 then (p.1, y) :: m else p :: alPut eq x y m

/-! ### Operands -/

section
variable (G : Nat → List CV) (Γ : TC)

def rdV : SO → Option (Σ t : Ty, Dyn (HS Γ) (D t))
  | .t i => match get Γ (.s i) with
    | some ⟨.v t, f⟩ => some ⟨t, .tot f⟩
    | some ⟨.opt (.v t), f⟩ => some ⟨t, .par f⟩
    | _ => none
  | .k c => match constT c with
    | some q => some ⟨q.1, .tot fun _ => q.2⟩
    | none => none
  | .g _ => none

def rdK : SO → Option (Σ k : EK, Dyn (HS Γ) (DK k))
  | .t i => match get Γ (.s i) with
    | some ⟨.opt k, f⟩ => some ⟨k, .par f⟩
    | some q => some ⟨q.1, .tot q.2⟩
    | none => none
  | .k c => match constT c with
    | some q => some ⟨.v q.1, .tot fun _ => q.2⟩
    | none => none
  | .g i => match G i, constR (G i) with
    | _ :: _, some q => some ⟨.rp true q.1, .tot fun _ => q.2⟩
    | _, _ => none
end

section
variable {G : Nat → List CV} {Γ : TC} {ρ : HS Γ} {st : St}

theorem rdV_ok {x : SO} {q : Σ t : Ty, Dyn (HS Γ) (D t)} (h : rdV Γ x = some q) (hr : Rep Γ ρ st) {a : D q.1} (ha : q.2.val ρ = some a) : ∃ c, so G st.fr x = .c c ∧ Can q.1 a [c] := by
  cases x with
  | t i =>
    simp only [rdV] at h
    split at h
    · rename_i t f hg
      cases h
      cases ha
      exact hr.s i _ hg
    · rename_i t f hg
      cases h
      have := hr.s i _ hg
      have ha' : f ρ = some a := ha
      unfold RS at this
      simp only [ha'] at this
      unfold RS at this
      exact this
    · cases h
  | k c =>
    simp only [rdV] at h
    split at h <;> try (cases h; done)
    rename_i p hp
    cases h
    cases ha
    exact ⟨c, rfl, constT_can hp⟩
  | g i => cases h

theorem rdK_ok {x : SO} {q : Σ k : EK, Dyn (HS Γ) (DK k)} (h : rdK G Γ x = some q) (hr : Rep Γ ρ st) {a : DK q.1} (ha : q.2.val ρ = some a) : RS q.1 a (so G st.fr x) := by
  cases x with
  | t i =>
    simp only [rdK] at h
    split at h
    · rename_i t f hg
      cases h
      have := hr.s i _ hg
      have ha' : f ρ = some a := ha
      unfold RS at this
      simp only [ha'] at this
      exact this
    · rename_i p hp hg
      cases h
      cases ha
      exact hr.s i _ hg
    · cases h
  | k c =>
    simp only [rdK] at h
    split at h <;> try (cases h; done)
    rename_i p hp
    cases h
    cases ha
    exact ⟨c, rfl, constT_can hp⟩
  | g i =>
    simp only [rdK] at h
    split at h <;> try (cases h; done)
    rename_i c cs p hG hp
    cases h
    cases ha
    refine ⟨G i, [], ?_, constR_can hp, fun _ => rfl⟩
    simp [so, hG]
end

/-! ### Whole numbers and texts -/

def binTI (op : BinOp) (k : IntKind) : Option (Σ t : Ty, Dyn (Int × Int) (D t)) :=
  match op with
  | .add => some ⟨.int k, .tot fun p => k.wrap (p.1 + p.2)⟩
  | .sub => some ⟨.int k, .tot fun p => k.wrap (p.1 - p.2)⟩
  | .mul => some ⟨.int k, .tot fun p => k.wrap (p.1 * p.2)⟩
  | .quo => some ⟨.int k, .par fun p => if p.2 = 0 then none else some (k.wrap (p.1.tdiv p.2))⟩
  | .rem => some ⟨.int k, .par fun p => if p.2 = 0 then none else some (p.1.tmod p.2)⟩
  | .and => some ⟨.int k, .tot fun p => bitZ .and k p.1 p.2⟩
  | .or => some ⟨.int k, .tot fun p => bitZ .or k p.1 p.2⟩
  | .xor => some ⟨.int k, .tot fun p => bitZ .xor k p.1 p.2⟩
  | .andNot => some ⟨.int k, .tot fun p => bitZ .andNot k p.1 p.2⟩
  | .eql => some ⟨.bool, .tot fun p => p.1 == p.2⟩
  | .neq => some ⟨.bool, .tot fun p => p.1 != p.2⟩
  | .lss => some ⟨.bool, .tot fun p => decide (p.1 < p.2)⟩
  | .leq => some ⟨.bool, .tot fun p => decide (p.1 ≤ p.2)⟩
  | .gtr => some ⟨.bool, .tot fun p => decide (p.1 > p.2)⟩
  | .geq => some ⟨.bool, .tot fun p => decide (p.1 ≥ p.2)⟩
  | _ => none
def binTS (op : BinOp) : Option (Σ t : Ty, Dyn (List UInt8 × List UInt8) (D t)) :=
  match op with
  | .add => some ⟨.str, .par fun p => if p.1.length + p.2.length ≤ 4611686018427387904 then some (p.1 ++ p.2) else none⟩
  | .eql => some ⟨.bool, .tot fun p => p.1 == p.2⟩
  | .neq => some ⟨.bool, .tot fun p => !(p.1 == p.2)⟩
  | .lss => some ⟨.bool, .tot fun p => sLess p.1 p.2⟩
  | .leq => some ⟨.bool, .tot fun p => sLess p.1 p.2 || p.1 == p.2⟩
  | .gtr => some ⟨.bool, .tot fun p => !(sLess p.1 p.2 || p.1 == p.2)⟩
  | .geq => some ⟨.bool, .tot fun p => !(sLess p.1 p.2)⟩
  | _ => none
def binT (op : BinOp) : (t u : Ty) → Option (Σ v : Ty, Dyn (D t × D u) (D v))
  | .int k, .int k' => match op with
    | .shl => some ⟨.int k, .par fun p => if p.2 < 0 then none else some (k.wrap (p.1 * 2 ^ (min p.2.toNat k.bits)))⟩
    | .shr => some ⟨.int k, .par fun p => if p.2 < 0 then none else some (p.1.fdiv (2 ^ (min p.2.toNat k.bits)))⟩
    | _ => if k = k' then binTI op k else none
  | .str, .str => binTS op
  | _, _ => none

theorem binTI_ok {op : BinOp} {k : IntKind} {q : Σ t : Ty, Dyn (Int × Int) (D t)} (h : binTI op k = some q) {a b : Int} {x : D q.1} (hx : q.2.val (a, b) = some x) : ∃ c, binI op k a b = some c ∧ Can q.1 x [c] := by
  cases op <;> simp only [binTI, Option.some.injEq, reduceCtorEq] at h <;> cases h
  case quo =>
    simp only [Dyn.val] at hx
    split at hx <;> try (cases hx; done)
    rename_i hb
    cases hx
    exact ⟨_, by simp only [binI]; rw [if_neg hb], by unfold Can; rfl⟩
  case rem =>
    simp only [Dyn.val] at hx
    split at hx <;> try (cases hx; done)
    rename_i hb
    cases hx
    exact ⟨_, by simp only [binI]; rw [if_neg hb], by unfold Can; rfl⟩
  all_goals
    cases hx
    exact ⟨_, rfl, by unfold Can; rfl⟩
theorem binTS_ok {op : BinOp} {q : Σ t : Ty, Dyn (List UInt8 × List UInt8) (D t)} (h : binTS op = some q) {a b : List UInt8} {x : D q.1} (hx : q.2.val (a, b) = some x) : ∃ c, binS op a b = some c ∧ Can q.1 x [c] := by
  cases op <;> simp only [binTS, Option.some.injEq, reduceCtorEq] at h <;> cases h
  case add =>
    simp only [Dyn.val] at hx
    split at hx <;> try (cases hx; done)
    rename_i hb
    cases hx
    exact ⟨_, by simp only [binS]; rw [if_pos hb], by unfold Can; rfl⟩
  all_goals
    cases hx
    exact ⟨_, rfl, by unfold Can; rfl⟩
theorem binT_ok {op : BinOp} {t u : Ty} {q : Σ v : Ty, Dyn (D t × D u) (D v)} (h : binT op t u = some q) {a : D t} {b : D u} {ca cb : CV} (ha : Can t a [ca]) (hb : Can u b [cb]) {x : D q.1} (hx : q.2.val (a, b) = some x) :
    ∃ c, binC op ca cb = some c ∧ Can q.1 x [c] := by
  unfold binT at h
  split at h
  · rename_i k k'
    unfold Can at ha hb
    cases ha
    cases hb
    split at h
    · cases h
      simp only [Dyn.val] at hx
      split at hx <;> try (cases hx; done)
      rename_i hneg
      cases hx
      exact ⟨_, by simp only [binC]; rw [if_neg hneg], by unfold Can; rfl⟩
    · cases h
      simp only [Dyn.val] at hx
      split at hx <;> try (cases hx; done)
      rename_i hneg
      cases hx
      exact ⟨_, by simp only [binC]; rw [if_neg hneg], by unfold Can; rfl⟩
    · rename_i hl hr
      split at h <;> try (cases h; done)
      rename_i hk
      subst hk
      obtain ⟨c, h1, h2⟩ := binTI_ok h hx
      refine ⟨c, ?_, h2⟩
      cases op <;> first | (exact (hl rfl).elim) | (exact (hr rfl).elim) | (simp only [binC, if_true]; exact h1)
  · unfold Can at ha hb
    cases ha
    cases hb
    exact binTS_ok h hx
  · cases h

/-! ### Are two alike -/

def eq1T : KT → (t u : Ty) → Option (D t → D u → Bool)
  | .int _, .int k, .int k' => if k = k' then some fun (a b : Int) => a == b else none
  | .str, .str, .str => some fun (a b : List UInt8) => a == b
  | .bool, .bool, .bool => some fun (a b : Bool) => a == b
  | _, _, _ => none
def eqRT : (r s : Ty) → List KT → Option (D r → D s → Bool)
  | .nil, .nil, ks => if ks.isEmpty then some fun _ _ => true else none
  | .one t, .one u, ks => match ks with
    | [k] => eq1T k t u
    | _ => none
  | .cons t r, .cons u s, ks => match ks with
    | k :: ks => match eq1T k t u, eqRT r s ks with
      | some f, some g => some fun x y => f x.1 y.1 && g x.2 y.2
      | _, _ => none
    | [] => none
  | _, _, _ => none
theorem eq1T_ok {k : KT} {t u : Ty} {f : D t → D u → Bool} (h : eq1T k t u = some f) {a : D t} {b : D u} {ca cb : CV} (ha : Can t a [ca]) (hb : Can u b [cb]) : eq1 k ca cb = some (f a b) := by
  unfold eq1T at h
  split at h
  · split at h <;> try (cases h; done)
    rename_i hk
    cases h
    unfold Can at ha hb
    cases ha; cases hb
    simp [eq1, hk]
  · cases h
    unfold Can at ha hb
    cases ha; cases hb
    rfl
  · cases h
    unfold Can at ha hb
    cases ha; cases hb
    rfl
  · cases h
theorem eqRT_ok : ∀ {r s : Ty} {ks : List KT} {f : D r → D s → Bool}, eqRT r s ks = some f → ∀ {a : D r} {b : D s} {la lb : List CV}, Can r a la → Can s b lb → eqL ks la lb = some (f a b) := by
  intro r
  induction r with
  | nil =>
    intro s ks f h a b la lb ha hb
    cases s <;> try (cases h; done)
    simp only [eqRT, Option.ite_none_right_eq_some, Option.some.injEq] at h
    obtain ⟨hk, rfl⟩ := h
    cases ks <;> simp at hk
    unfold Can at ha hb
    subst ha; subst hb
    rfl
  | one t =>
    intro s ks f h a b la lb ha hb
    cases s <;> try (cases h; done)
    rename_i u
    match ks, h with
    | [k], h =>
      unfold Can at ha hb
      obtain ⟨ca, rfl, ha⟩ := ha
      obtain ⟨cb, rfl, hb⟩ := hb
      have h' : eq1T k t u = some f := h
      simp [eqL, eq1T_ok h' ha hb]
    | [], h => cases h
    | _ :: _ :: _, h => cases h
  | cons t r iht ihr =>
    intro s ks f h a b la lb ha hb
    cases s <;> try (cases h; done)
    match ks, h with
    | [], h => cases h
    | k :: ks, h =>
      simp only [eqRT] at h
      split at h <;> try (cases h; done)
      rename_i f1 g1 hf hg
      cases h
      unfold Can at ha hb
      obtain ⟨ca, la', rfl, ha1, ha2⟩ := ha
      obtain ⟨cb, lb', rfl, hb1, hb2⟩ := hb
      simp [eqL, eq1T_ok hf ha1 hb1, ihr hg ha2 hb2]
  | _ =>
    intro s ks f h
    cases s <;> cases h

/-! ### Keys -/

def plain1 : Ty → Bool
  | .int _ | .str | .bool => true
  | _ => false
def plainR : Ty → Bool
  | .one t => plain1 t
  | .cons t r => plain1 t && plainR r
  | _ => false
def plainK : Ty → Bool
  | .agg r => plainR r
  | t => plain1 t
def eqZ1 : (t : Ty) → D t → D t → Bool
  | .int _, a, b => (a : Int) == b
  | .str, a, b => (a : List UInt8) == b
  | .bool, a, b => (a : Bool) == b
  | _, _, _ => false
def eqZR : (r : Ty) → D r → D r → Bool
  | .one t, a, b => eqZ1 t a b
  | .cons t r, a, b => eqZ1 t a.1 b.1 && eqZR r a.2 b.2
  | _, _, _ => false
def eqZ : (t : Ty) → D t → D t → Bool
  | .agg r, a, b => eqZR r a b
  | .int _, a, b => (a : Int) == b
  | .str, a, b => (a : List UInt8) == b
  | .bool, a, b => (a : Bool) == b
  | _, _, _ => false

theorem eqZ1_ok {t : Ty} (hp : plain1 t = true) {a b : D t} {ca cb : CV} (ha : Can t a [ca]) (hb : Can t b [cb]) : eq1 (ktT1 t) ca cb = some (eqZ1 t a b) ∧ conf1 (ktT1 t) ca = true := by
  cases t <;> simp only [plain1, Bool.false_eq_true] at hp <;> (unfold Can at ha hb; cases ha; cases hb; simp [eq1, eqZ1, ktT1, conf1])
theorem eqZR_ok : ∀ {r : Ty} (_ : plainR r = true) {a b : D r} {la lb : List CV}, Can r a la → Can r b lb → eqL (ktRow r) la lb = some (eqZR r a b) ∧ confL (ktRow r) la = true := by
  intro r
  induction r with
  | one t =>
    intro hp a b la lb ha hb
    unfold Can at ha hb
    obtain ⟨ca, rfl, ha⟩ := ha
    obtain ⟨cb, rfl, hb⟩ := hb
    have := eqZ1_ok hp ha hb
    simp [ktRow, eqL, eqZR, confL, this.1, this.2]
  | cons t r iht ihr =>
    intro hp a b la lb ha hb
    simp only [plainR, Bool.and_eq_true] at hp
    unfold Can at ha hb
    obtain ⟨ca, la', rfl, ha1, ha2⟩ := ha
    obtain ⟨cb, lb', rfl, hb1, hb2⟩ := hb
    have h1 := eqZ1_ok hp.1 ha1 hb1
    have h2 := ihr hp.2 ha2 hb2
    simp [ktRow, eqL, eqZR, confL, h1.1, h1.2, h2.1, h2.2]
  | _ => intro hp; cases hp
theorem eqZ_ok {k : Ty} (hp : plainK k = true) {a b : D k} {ca cb : CV} (ha : Can k a [ca]) (hb : Can k b [cb]) : keyEq (ktT k) ca cb = eqZ k a b ∧ conf (ktT k) ca = true := by
  cases k <;> simp only [plainK, plain1, Bool.false_eq_true] at hp
  case agg r =>
    unfold Can at ha hb
    obtain ⟨la, e, ha⟩ := ha
    cases e
    obtain ⟨lb, e, hb⟩ := hb
    cases e
    have := eqZR_ok hp ha hb
    simp [ktT, keyEq, conf, eqZ, this.1, this.2]
  all_goals (unfold Can at ha hb; cases ha; cases hb; simp [eq1, eqZ, ktT, ktT1, keyEq, conf, conf1])

theorem look_ok {k v : Ty} (hp : plainK k = true) {x : D k} {cx : CV} (hx : Can k x [cx]) {zv : D v} {z : CV} (hz : Can v zv [z]) : ∀ {m : List (D k × D v)} {ks vs : List CV}, CanAll (fun x c => Can k x.1 [c]) m ks → CanAll (fun x c => Can v x.2 [c]) m vs →
    ∃ c, look (ktT k) z ks vs cx = (c, (alGet (eqZ k) zv x m).2) ∧ Can v (alGet (eqZ k) zv x m).1 [c]
  | [], ks, vs, h1, h2 => by
    unfold CanAll at h1 h2
    subst h1; subst h2
    exact ⟨z, rfl, hz⟩
  | p :: m, ks, vs, h1, h2 => by
    obtain ⟨ck, ks', rfl, g1, h1⟩ := h1
    obtain ⟨cv, vs', rfl, g2, h2⟩ := h2
    have he := (eqZ_ok hp hx g1).1
    obtain ⟨c, q1, q2⟩ := look_ok hp hx hz h1 h2
    unfold alGet
    cases hb : eqZ k x p.1 with
    | true =>
      refine ⟨cv, ?_, by simpa using g2⟩
      simp [look, kIdx, he, hb]
    | false =>
      refine ⟨c, ?_, by simpa using q2⟩
      simp only [Bool.false_eq_true, if_false]
      rw [← q1]
      simp only [look, kIdx, he, hb, Bool.false_eq_true, if_false]
      cases kIdx (ktT k) cx ks' <;> simp
theorem insert_ok {k v : Ty} (hp : plainK k = true) {x : D k} {cx : CV} (hx : Can k x [cx]) {y : D v} {cy : CV} (hy : Can v y [cy]) : ∀ {m : List (D k × D v)} {ks vs : List CV}, CanAll (fun x c => Can k x.1 [c]) m ks → CanAll (fun x c => Can v x.2 [c]) m vs →
    CanAll (fun x c => Can k x.1 [c]) (alPut (eqZ k) x y m) (insertK (ktT k) ks cx) ∧ CanAll (fun x c => Can v x.2 [c]) (alPut (eqZ k) x y m) (insertV (ktT k) ks vs cx cy)
  | [], ks, vs, h1, h2 => by
    unfold CanAll at h1 h2
    subst h1; subst h2
    exact ⟨⟨cx, [], rfl, hx, rfl⟩, ⟨cy, [], rfl, hy, rfl⟩⟩
  | p :: m, ks, vs, h1, h2 => by
    obtain ⟨ck, ks', rfl, g1, h1⟩ := h1
    obtain ⟨cv, vs', rfl, g2, h2⟩ := h2
    have he := (eqZ_ok hp hx g1).1
    obtain ⟨q1, q2⟩ := insert_ok hp hx hy h1 h2
    unfold alPut
    cases hb : eqZ k x p.1 with
    | true =>
      simp only [if_true]
      rw [hb] at he
      exact ⟨⟨ck, ks', by simp [insertK, kIdx, he], g1, h1⟩, ⟨cy, vs', by simp [insertV, kIdx, he], hy, h2⟩⟩
    | false =>
      simp only [Bool.false_eq_true, if_false]
      rw [hb] at he
      refine ⟨⟨ck, insertK (ktT k) ks' cx, ?_, g1, q1⟩, ⟨cv, insertV (ktT k) ks' vs' cx cy, ?_, g2, q2⟩⟩
      · simp only [insertK, kIdx, he, Bool.false_eq_true, if_false]
        cases kIdx (ktT k) cx ks' <;> simp
      · simp only [insertV, kIdx, he, Bool.false_eq_true, if_false]
        cases kIdx (ktT k) cx ks' <;> simp
theorem keys_conf {k v : Ty} (hp : plainK k = true) : ∀ {m : List (D k × D v)} {ks : List CV}, CanAll (fun x c => Can k x.1 [c]) m ks → ks.all (conf (ktT k)) = true
  | [], ks, h => by unfold CanAll at h; subst h; rfl
  | p :: m, ks, h => by
    obtain ⟨c, ks', rfl, h1, h2⟩ := h
    simp [(eqZ_ok hp h1 h1).2]
    simpa using keys_conf hp h2
end WB
