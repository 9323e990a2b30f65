/-
  THE OWN LAYER, TD: each operation that yields a value, over plain data.
-/
import Derived.Test.YtpkoilfecgmogaaCoreTc
namespace WB
open Go Go.RowKit

def pickD {A B : Type} : Dyn A Bool → Dyn A B → Dyn A B → Dyn A B
  | .tot c, .tot f, .tot g => .tot fun ρ => if c ρ then f ρ else g ρ
  | c, f, g => .par fun ρ => (c.val ρ).bind fun b => if b then f.val ρ else g.val ρ
theorem pickD_val {A B : Type} {c : Dyn A Bool} {f g : Dyn A B} {a : A} {x : B} (h : (pickD c f g).val a = some x) : ∃ b, c.val a = some b ∧ (if b then f.val a else g.val a) = some x := by
  cases c <;> cases f <;> cases g
  · rename_i c f g
    refine ⟨c a, rfl, ?_⟩
    simp only [pickD, Dyn.val] at h
    rw [← h]
    cases c a <;> rfl
  all_goals exact Option.bind_eq_some_iff.1 h

/-- A row as so many parts alike. -/
def arrT (q : Ty) (size : Nat) : (n : Nat) → (r : Ty) → Option (D r → List (D q))
  | 0, _ => some fun _ => []
  | n + 1, r => match takeR r size, dropR r size with
    | some f, some g => if h : f.1 = q then match arrT q size n g.1 with
        | some k => some fun x => (h ▸ f.2 x) :: k (g.2 x)
        | none => none
      else none
    | _, _ => none
theorem arrT_can {q : Ty} {size : Nat} : ∀ {n : Nat} {r : Ty} {f : D r → List (D q)} {x : D r} {l : List CV}, arrT q size n r = some f → Can r x l → (f x).length = n ∧ ∀ {j : Nat} {a : D q}, (f x)[j]? = some a → Can q a ((l.drop (j * size)).take size) ∧ j * size + size ≤ l.length := by
  intro n
  induction n with
  | zero => intro r f x l h hc; cases h; exact ⟨rfl, fun h => by simp at h⟩
  | succ n ih =>
    intro r f x l h hc
    simp only [arrT] at h
    split at h <;> try (cases h; done)
    rename_i p g hp hg
    split at h <;> try (cases h; done)
    rename_i he
    split at h <;> try (cases h; done)
    rename_i k hk
    cases h
    subst he
    obtain ⟨h1, h2⟩ := takeR_can hp hc
    obtain ⟨h3, h4⟩ := dropR_can hg hc
    obtain ⟨h5, h6⟩ := ih hk h3
    refine ⟨by simp [h5], fun {j a} hj => ?_⟩
    cases j with
    | zero =>
      simp only [List.getElem?_cons_zero, Option.some.injEq] at hj
      subst hj
      exact ⟨by simpa using h1, by simpa using h2⟩
    | succ j =>
      simp only [List.getElem?_cons_succ] at hj
      obtain ⟨g1, g2⟩ := h6 hj
      simp only [List.drop_drop, List.length_drop] at g1 g2
      have e : size + j * size = (j + 1) * size := by rw [Nat.succ_mul]; omega
      rw [e] at g1
      exact ⟨g1, by rw [← e]; omega⟩

/-- Is a constant a type's zero. -/
def zeroOk : (t : Ty) → List CV → Bool
  | .int k, [.int k' n] => k' = k && n == 0
  | .bool, [.bool b] => !b
  | .str, [.str s] => s.isEmpty
  | .err, [.nilif] => true
  | .nsl, [.sl (some true) []] => true
  | .nmap, [.map (some true) [] []] => true
  | .sl _, [.sl (some true) []] => true
  | .map _ _, [.map (some true) [] []] => true
  | .agg r, [.agg l] => zeroOk r l
  | .nil, [] => true
  | .one t, [c] => zeroOk t [c]
  | .cons t r, c :: l => zeroOk t [c] && zeroOk r l
  | _, _ => false
theorem zeroOk_can : ∀ {t : Ty} {cs : List CV}, zeroOk t cs = true → Can t (zeroT t) cs := by
  intro t
  induction t with
  | int k =>
    intro cs h
    unfold zeroOk at h
    split at h <;> try (cases h; done)
    all_goals first | (rename_i e; cases e; done) | skip
    rename_i e
    cases e
    simp only [Bool.and_eq_true, decide_eq_true_eq, beq_iff_eq] at h
    obtain ⟨rfl, rfl⟩ := h
    unfold Can; rfl
  | bool =>
    intro cs h
    unfold zeroOk at h
    split at h <;> try (cases h; done)
    all_goals first | (rename_i e; cases e; done) | skip
    simp only [Bool.not_eq_true'] at h
    subst h
    unfold Can; rfl
  | str =>
    intro cs h
    unfold zeroOk at h
    split at h <;> try (cases h; done)
    all_goals first | (rename_i e; cases e; done) | skip
    simp only [List.isEmpty_iff] at h
    subst h
    unfold Can; rfl
  | err =>
    intro cs h
    unfold zeroOk at h
    split at h <;> try (cases h; done)
    all_goals first | (rename_i e; cases e; done) | skip
    unfold Can; rfl
  | nsl =>
    intro cs h
    unfold zeroOk at h
    split at h <;> try (cases h; done)
    all_goals first | (rename_i e; cases e; done) | skip
    unfold Can; rfl
  | nmap =>
    intro cs h
    unfold zeroOk at h
    split at h <;> try (cases h; done)
    all_goals first | (rename_i e; cases e; done) | skip
    unfold Can; rfl
  | sl e _ =>
    intro cs h
    unfold zeroOk at h
    split at h <;> try (cases h; done)
    all_goals first | (rename_i e; cases e; done) | skip
    unfold Can; exact ⟨_, _, rfl, rfl⟩
  | map k v _ _ =>
    intro cs h
    unfold zeroOk at h
    split at h <;> try (cases h; done)
    all_goals first | (rename_i e; cases e; done) | skip
    unfold Can; exact ⟨_, _, _, rfl, rfl, rfl⟩
  | agg r ih =>
    intro cs h
    unfold zeroOk at h
    split at h <;> try (cases h; done)
    all_goals first | (rename_i e; cases e; done) | skip
    rename_i e
    cases e
    unfold Can; exact ⟨_, rfl, ih h⟩
  | nil =>
    intro cs h
    unfold zeroOk at h
    split at h <;> try (cases h; done)
    all_goals first | (rename_i e; cases e; done) | skip
    unfold Can; rfl
  | one t ih =>
    intro cs h
    unfold zeroOk at h
    split at h <;> try (cases h; done)
    all_goals first | (rename_i e; cases e; done) | skip
    rename_i e
    cases e
    unfold Can; exact ⟨_, rfl, ih h⟩
  | cons t r iht ihr =>
    intro cs h
    unfold zeroOk at h
    split at h <;> try (cases h; done)
    all_goals first | (rename_i e; cases e; done) | skip
    rename_i e
    cases e
    simp only [Bool.and_eq_true] at h
    unfold Can; exact ⟨_, _, rfl, iht h.1, ihr h.2⟩
  | tup r _ => intro cs h; unfold zeroOk at h; cases h
  | clo f r _ => intro cs h; unfold zeroOk at h; cases h

def kt1B : KT → Ty → Bool
  | .int k, .int k' => k = k'
  | .str, .str => true
  | .bool, .bool => true
  | _, _ => false
def ktRB : List KT → Ty → Bool
  | [k], .one t => kt1B k t
  | k :: ks, .cons t r => kt1B k t && ktRB ks r
  | _, _ => false
def ktB : KT → Ty → Bool
  | .struct ks, .agg r => ktRB ks r
  | k, t => kt1B k t
theorem kt1B_ok {k : KT} {t : Ty} (h : kt1B k t = true) : k = ktT1 t := by
  cases k <;> cases t <;> simp_all [kt1B, ktT1]
theorem ktRB_ok : ∀ {ks : List KT} {r : Ty}, ktRB ks r = true → ks = ktRow r := by
  intro ks
  induction ks with
  | nil => intro r h; cases r <;> cases h
  | cons k ks ih =>
    intro r h
    cases r <;> try (cases ks <;> cases h; done)
    · cases ks with
      | nil => simp only [ktRow]; rw [kt1B_ok h]
      | cons _ _ => cases h
    · cases ks with
      | nil => simp only [ktRB, Bool.and_eq_true] at h; simp only [ktRow]; rw [kt1B_ok h.1, ← ih h.2]
      | cons k' ks' => simp only [ktRB, Bool.and_eq_true] at h; simp only [ktRow]; rw [kt1B_ok h.1, ← ih h.2]
theorem ktB_ok {k : KT} {t : Ty} (h : ktB k t = true) : k = ktT t := by
  cases k <;> cases t <;> first
    | (simp only [ktB] at h; simp only [ktT]; rw [ktRB_ok h]; done)
    | (simp_all [ktB, kt1B, ktT, ktT1]; done)

section
variable (G : Nat → List CV) (Γ : TC) (msk : List Nat)

def objT (id : Nat) : Option (Σ k : EK, HS Γ → DK k) := if msk.contains id then none else get Γ (.o id)

def cellsT (id : Nat) : Nat → Nat → Option (Σ r : Ty, HS Γ → D r)
  | 0, off => match get Γ (.c id off) with
    | some ⟨.v t, f⟩ => some ⟨.one t, f⟩
    | _ => none
  | n + 1, off => match get Γ (.c id off), cellsT id n (off + 1) with
    | some ⟨.v t, f⟩, some q => some ⟨.cons t q.1, fun ρ => (f ρ, q.2 ρ)⟩
    | _, _ => none

def partsT (r : Σ r : Ty, Dyn (HS Γ) (D r)) : List (Nat × Nat × SO) → Option (Σ r : Ty, Dyn (HS Γ) (D r))
  | [] => some r
  | p :: ps => match rdV Γ p.2.2 with
    | some q => match putR (rowOf q.1) r.1 p.1 with
      | some g => if q.1.val = true ∧ lenR (rowOf q.1) = some p.2.1 then partsT ⟨g.1, (r.2.both q.2).map fun _ z => g.2 z.1 (rowD q.1 z.2)⟩ ps else none
      | none => none
    | none => none

def mmT (mx : Bool) (k : IntKind) (acc : Dyn (HS Γ) Int) : List SO → Option (Dyn (HS Γ) Int)
  | [] => some acc
  | x :: xs => match rdV Γ x with
    | some ⟨.int k', d⟩ => if k' = k then mmT mx k (match mx with
        | true => (acc.both d).map fun _ p => max p.1 p.2
        | false => (acc.both d).map fun _ p => min p.1 p.2) xs else none
    | _ => none

def capsT : List SO → Option (Σ r : Ty, Dyn (HS Γ) (D r))
  | [] => some ⟨.nil, .tot fun _ => ()⟩
  | [x] => match rdV Γ x with
    | some q => some ⟨.one q.1, q.2⟩
    | none => none
  | x :: y :: xs => match rdV Γ x, capsT (y :: xs) with
    | some q, some p => some ⟨.cons q.1 p.1, q.2.both p.2⟩
    | _, _ => none

/-- A slice's or a text's bounds. -/
def boundsT {A : Type} (len : A → Int) (da : Dyn (HS Γ) A) (lo hi : Option SO) : Option (Dyn (HS Γ) (A × Int × Int)) :=
  match lo, hi with
  | none, none => some (da.map fun _ a => (a, 0, len a))
  | some l, none => match rdV Γ l with
    | some ⟨.int _, dl⟩ => some ((da.both dl).map fun _ p => (p.1, p.2, len p.1))
    | _ => none
  | none, some h => match rdV Γ h with
    | some ⟨.int _, dh⟩ => some ((da.both dh).map fun _ p => (p.1, 0, p.2))
    | _ => none
  | some l, some h => match rdV Γ l, rdV Γ h with
    | some ⟨.int _, dl⟩, some ⟨.int _, dh⟩ => some ((da.both (dl.both dh)).map fun _ p => (p.1, p.2.1, p.2.2))
    | _, _ => none

def loadT (sz : Option Nat) (q : Σ k : EK, Dyn (HS Γ) (DK k)) : Option (Σ k : EK, Dyn (HS Γ) (DK k)) :=
  match q with
  | ⟨.rp _ r, d⟩ => match sz with
    | none => match nthR r 0 with
      | some p => some ⟨.v p.1, d.map fun _ x => p.2 x⟩
      | none => none
    | some n => match takeR r n with
      | some p => some ⟨.v (.agg p.1), d.map fun _ x => p.2 x⟩
      | none => none
  | ⟨.ptr id o, d⟩ => match objT Γ msk id with
    | some ⟨.box nb, _⟩ => match sz with
      | none => if o < nb then match get Γ (.c id o) with
        | some p => some ⟨p.1, d.map fun ρ _ => p.2 ρ⟩
        | none => none
        else none
      | some (n + 1) => if o + n < nb then match cellsT Γ id n o with
        | some p => some ⟨.v (.agg p.1), d.map fun ρ _ => p.2 ρ⟩
        | none => none
        else none
      | some 0 => none
    | _ => none
  | ⟨.eptr id size o, d⟩ => match objT Γ msk id with
    | some ⟨.arr _ size' t, xs⟩ => if size = size' ∧ t.val = true then match sz with
      | none => match nthR (rowOf t) o with
        | some p => some ⟨.v p.1, (d.map fun ρ i => (xs ρ)[i]?).comp (.par fun x => x.map fun y => p.2 (rowD t y))⟩
        | none => none
      | some n => if n = 0 then none else match subR (rowOf t) o n with
        | some p => some ⟨.v (.agg p.1), (d.map fun ρ i => (xs ρ)[i]?).comp (.par fun x => x.map fun y => p.2 (rowD t y))⟩
        | none => none
      else none
    | _ => none
  | _ => none

def lenT (kd : Nat) (x : SO) : Option (Dyn (HS Γ) Int) :=
  match kd, rdK G Γ x with
  | 0, some ⟨.v .str, d⟩ => some (d.map fun _ s => ((s : List UInt8).length : Int))
  | 1, some ⟨.v (.sl _), d⟩ => some (d.map fun _ s => (s.length : Int))
  | 1, some ⟨.v .nsl, d⟩ => some (d.map fun _ _ => 0)
  | 1, some ⟨.own id, d⟩ => match objT Γ msk id with
    | some ⟨.arr _ _ _, xs⟩ => some (d.map fun ρ _ => ((xs ρ).length : Int))
    | _ => none
  | 2, some ⟨.v (.map _ _), d⟩ => some (d.map fun _ s => (s.length : Int))
  | 2, some ⟨.mp id, d⟩ => match objT Γ msk id with
    | some ⟨.mob _ _ _, xs⟩ => some (d.map fun ρ _ => ((xs ρ).length : Int))
    | _ => none
  | _, _ => none

def lookF (kq : Σ t : Ty, Dyn (HS Γ) (D t)) (ok : Bool) (k v : Ty) (dm : Dyn (HS Γ) (List (D k × D v))) : Option (Σ k : EK, Dyn (HS Γ) (DK k)) :=
  match coeT kq.1 k with
  | some f => if plainK k = true then
      match ok with
      | true => some ⟨.v (.tup (.cons v (.one .bool))), (dm.both kq.2).map fun _ p => alGet (eqZ k) (zeroT v) (f p.2) p.1⟩
      | false => some ⟨.v v, (dm.both kq.2).map fun _ p => (alGet (eqZ k) (zeroT v) (f p.2) p.1).1⟩
    else none
  | none => none
def lookT (mt : TypeId) (kt : KT) (z : CV) (ok : Bool) (x key : SO) : Option (Σ k : EK, Dyn (HS Γ) (DK k)) :=
  match rdV Γ key with
  | some kq => match rdK G Γ x with
    | some ⟨.v (.map k v), d⟩ => if zeroOk v [z] = true ∧ ktB kt k = true then lookF Γ kq ok k v d else none
    | some ⟨.mp id, d⟩ => match objT Γ msk id with
      | some ⟨.mob mt' k v, m⟩ => if mt' = mt then lookF Γ kq ok k v (d.map fun ρ _ => m ρ) else none
      | _ => none
    | _ => none
  | none => none

def valK : SOp → Option (Σ k : EK, Dyn (HS Γ) (DK k))
  | .mov x => rdK G Γ x
  | .pick c a b => match rdV Γ c, rdV Γ a, rdV Γ b with
    | some ⟨.bool, dc⟩, some qa, some qb => match coeT qb.1 qa.1 with
      | some f => some ⟨.v qa.1, pickD dc qa.2 (qb.2.map fun _ y => f y)⟩
      | none => match coeT qa.1 qb.1 with
        | some f => some ⟨.v qb.1, pickD dc (qa.2.map fun _ y => f y) qb.2⟩
        | none => none
    | _, _, _ => none
  | .bin op x y => match rdV Γ x, rdV Γ y with
    | some p, some q => match binT op p.1 q.1 with
      | some b => some ⟨.v b.1, (p.2.both q.2).comp b.2⟩
      | none => none
    | _, _ => none
  | .eqs neg ts x y => match rdV Γ x, rdV Γ y with
    | some ⟨.agg r, d⟩, some ⟨.agg s, e⟩ => match eqRT r s ts with
      | some f => match neg with
        | true => some ⟨.v .bool, (d.both e).map fun _ p => !(f p.1 p.2)⟩
        | false => some ⟨.v .bool, (d.both e).map fun _ p => f p.1 p.2⟩
      | none => none
    | _, _ => none
  | .beq neg x y => match rdV Γ x, rdV Γ y with
    | some ⟨.bool, d⟩, some ⟨.bool, e⟩ => match neg with
      | true => some ⟨.v .bool, (d.both e).map fun _ p => !(p.1 == p.2)⟩
      | false => some ⟨.v .bool, (d.both e).map fun _ p => p.1 == p.2⟩
    | _, _ => none
  | .isnil kd neg x => match kd, rdV Γ x with
    | 3, some ⟨.err, d⟩ => match neg with
      | true => some ⟨.v .bool, d.map fun _ b => !(b : Bool)⟩
      | false => some ⟨.v .bool, d.map fun _ b => b⟩
    | 1, some ⟨.nsl, d⟩ => some ⟨.v .bool, d.map fun _ _ => !neg⟩
    | _, _ => none
  | .un op x => match op, rdV Γ x with
    | .neg, some ⟨.int k, d⟩ => some ⟨.v (.int k), d.map fun _ n => k.wrap (0 - n)⟩
    | .xor, some ⟨.int k, d⟩ => some ⟨.v (.int k), d.map fun _ n => bitZ .xor k (if k.signed then -1 else k.max) n⟩
    | .not, some ⟨.bool, d⟩ => some ⟨.v .bool, d.map fun _ b => !(b : Bool)⟩
    | _, _ => none
  | .cvi k x => match rdV Γ x with
    | some ⟨.int _, d⟩ => some ⟨.v (.int k), d.map fun _ n => k.wrap n⟩
    | _ => none
  | .cvrune x => match rdV Γ x with
    | some ⟨.int _, d⟩ => some ⟨.v .str, d.map fun _ n => (Utf8.encode n).data.toList⟩
    | _ => none
  | .bytes _ x => match rdV Γ x with
    | some ⟨.str, d⟩ => some ⟨.v (.sl (.int .u8)), d.comp (.par fun s => if s.length ≤ 70368744177664 then some (s.map fun b => (b.toNat : Int)) else none)⟩
    | _ => none
  | .cvid x => match rdV Γ x with
    | some ⟨.str, d⟩ => some ⟨.v .str, d⟩
    | _ => none
  | .build z parts => match constR z with
    | some q => match partsT Γ ⟨q.1, .tot fun _ => q.2⟩ parts with
      | some r => some ⟨.v (.agg r.1), r.2⟩
      | none => none
    | none => none
  | .field off sz x => match rdV Γ x with
    | some ⟨.agg r, d⟩ => match sz with
      | none => match nthR r off with
        | some p => some ⟨.v p.1, d.map fun _ x => p.2 x⟩
        | none => none
      | some n => match subR r off n with
        | some p => if 0 < n then some ⟨.v (.agg p.1), d.map fun _ x => p.2 x⟩ else none
        | none => none
    | _ => none
  | .ext x i => match rdK G Γ x with
    | some ⟨.v (.tup r), d⟩ => match nthR r i with
      | some p => some ⟨.v p.1, d.map fun _ x => p.2 x⟩
      | none => none
    | some ⟨.ent id k v, d⟩ => match i with
      | 0 => some ⟨.v v, d.map fun _ x => x.2⟩
      | 1 => some ⟨.stamp id k, d.map fun _ x => x.1⟩
      | _ => none
    | _ => none
  | .minmax mx xs => match xs with
    | [] => none
    | x :: xs => match rdV Γ x with
      | some ⟨.int k, d⟩ => match mmT Γ mx k d xs with
        | some e => some ⟨.v (.int k), e⟩
        | none => none
      | _ => none
  | .fnv f caps => match capsT Γ caps with
    | some q => some ⟨.v (.clo f q.1), q.2⟩
    | none => none
  | .faddr off x => match rdK G Γ x with
    | some ⟨.rp ex r, d⟩ => match dropR r off with
      | some p => some ⟨.rp ex p.1, d.map fun _ x => p.2 x⟩
      | none => none
    | some ⟨.ptr id o, d⟩ => some ⟨.ptr id (o + off), d⟩
    | some ⟨.eptr id s o, d⟩ => some ⟨.eptr id s (o + off), d⟩
    | _ => none
  | .iaddr size x i => match rdK G Γ x, rdV Γ i with
    | some ⟨.v (.sl e), d⟩, some ⟨.int _, di⟩ => if e.val = true ∧ lenR (rowOf e) = some size then some ⟨.rp true (rowOf e), (d.both di).comp (.par fun p => (lAt p.1 p.2).map fun y => rowD e y)⟩ else none
    | some ⟨.own id, d⟩, some ⟨.int _, di⟩ => match objT Γ msk id with
      | some ⟨.arr _ sz _, xs⟩ => if size = sz then some ⟨.eptr id size 0, ((d.both di).map fun ρ p => if 0 ≤ (p.2 : Int) ∧ (p.2 : Int) < ((xs ρ).length : Int) then some (p.2 : Int).toNat else none).comp (.par fun x => x)⟩ else none
      | _ => none
    | _, _ => none
  | .aaddr len size x i => match rdK G Γ x, rdV Γ i with
    | some ⟨.rp true r, d⟩, some ⟨.int _, di⟩ => match takeR r size with
      | some q => match arrT q.1 size len r with
        | some f => if lenR r = some (len * size) then some ⟨.rp false q.1, (d.both di).comp (.par fun p => lAt (f p.1) p.2)⟩ else none
        | none => none
      | none => none
    | _, _ => none
  | .sidx x i => match rdV Γ x, rdV Γ i with
    | some ⟨.str, d⟩, some ⟨.int _, di⟩ => some ⟨.v (.int .u8), (d.both di).comp (.par fun p => sAt p.1 p.2)⟩
    | _, _ => none
  | .aidx len size sz x i => match rdV Γ x, rdV Γ i with
    | some ⟨.agg r, d⟩, some ⟨.int _, di⟩ => match sz with
      | none => match takeR r 1 with
        | some q => match nthR q.1 0 with
          | some p => match arrT q.1 1 len r with
            | some f => if size = 1 then some ⟨.v p.1, (d.both di).comp (.par fun z => (lAt (f z.1) z.2).map fun y => p.2 y)⟩ else none
            | none => none
          | none => none
        | none => none
      | some n => match takeR r size with
        | some q => match arrT q.1 size len r with
          | some f => if n = size ∧ 0 < size then some ⟨.v (.agg q.1), (d.both di).comp (.par fun z => lAt (f z.1) z.2)⟩ else none
          | none => none
        | none => none
    | _, _ => none
  | .load sz x => match rdK G Γ x with
    | some q => loadT Γ msk sz q
    | none => none
  | .len kd x => match lenT G Γ msk kd x with
    | some d => some ⟨.v (.int .i64), d⟩
    | none => none
  | .sslice x lo hi => match rdV Γ x with
    | some ⟨.str, d⟩ => match boundsT Γ (fun s => ((s : List UInt8).length : Int)) d lo hi with
      | some e => some ⟨.v .str, e.comp (.par fun p => lSub p.1 p.2.1 p.2.2)⟩
      | none => none
    | _ => none
  | .slice size x lo hi => match rdV Γ x with
    | some ⟨.sl e, d⟩ => if e.val = true ∧ lenR (rowOf e) = some size then match boundsT Γ (fun s => (s.length : Int)) d lo hi with
      | some g => some ⟨.v (.sl e), g.comp (.par fun p => lSub p.1 p.2.1 p.2.2)⟩
      | none => none
      else none
    | _ => none
  | .lookup mt kt z ok x k => lookT G Γ msk mt kt z ok x k
  | _ => none
end
end WB
