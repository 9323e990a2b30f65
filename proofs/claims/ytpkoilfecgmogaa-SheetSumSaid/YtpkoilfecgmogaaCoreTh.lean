/-
  THE OWN LAYER, TH: calls, effects, guards: a line over plain data.
-/
import Derived.Test.YtpkoilfecgmogaaCoreTg
namespace WB
open Go Go.RowKit

/-- A function over plain data. -/
structure Sig where
  a : Ty
  r : Ty
  fn : D a → Option (D r)

/-- What a program's typed reading hangs on: its tables, its functions, the elements of its slices, its maps. -/
structure TP where
  G : Nat → List CV
  T : FuncId → Option Sig
  TT : Nat → Option Ty
  TM : Nat → Option (Ty × Ty)

structure TOk (X : TP) (E : Env) : Prop where
  G : E.G = X.G
  fn : ∀ f s, X.T f = some s → s.r.val = true ∧ s.r.ok = true ∧ ∀ x l y, Can s.a x l → s.fn x = some y → E.fn f l = some (.val (enc s.r y))

def mlT : Ty → Bool
  | .int _ | .bool | .str => true
  | .agg r | .tup r => mlT r
  | .nil => true
  | .one t => mlT t
  | .cons t r => mlT t && mlT r
  | _ => false
theorem mlT_can : ∀ {t : Ty} {x : D t} {cs : List CV}, mlT t = true → Can t x cs → memlessL cs = true := by
  intro t
  induction t with
  | int k => intro x cs _ h; unfold Can at h; subst h; rfl
  | bool => intro x cs _ h; unfold Can at h; subst h; rfl
  | str => intro x cs _ h; unfold Can at h; subst h; rfl
  | nil => intro x cs _ h; unfold Can at h; subst h; rfl
  | agg r ih => intro x cs hm h; unfold Can at h; obtain ⟨l, rfl, h⟩ := h; simp [memlessL, memless, ih hm h]
  | tup r ih => intro x cs hm h; unfold Can at h; obtain ⟨l, rfl, h⟩ := h; simp [memlessL, memless, ih hm h]
  | one t ih => intro x cs hm h; unfold Can at h; obtain ⟨c, rfl, h⟩ := h; exact ih hm h
  | cons t r iht ihr =>
    intro x cs hm h
    simp only [mlT, Bool.and_eq_true] at hm
    unfold Can at h
    obtain ⟨c, l, rfl, h1, h2⟩ := h
    have := iht hm.1 h1
    simp only [memlessL, Bool.and_true] at this
    simp [memlessL, this, ihr hm.2 h2]
  | _ => intro x cs hm; cases hm

/-- Two rows, one behind the other. -/
def appR : (r s : Ty) → Σ q : Ty, D r → D s → D q
  | .one t, .nil => ⟨.one t, fun x _ => x⟩
  | .one t, s => ⟨.cons t s, fun x y => (x, y)⟩
  | .cons t r, s => ⟨.cons t (appR r s).1, fun x y => (x.1, (appR r s).2 x.2 y)⟩
  | _, s => ⟨s, fun _ y => y⟩
theorem appR_can : ∀ {r s : Ty} {n : Nat} {x : D r} {y : D s} {l m : List CV}, lenR r = some n → Can r x l → Can s y m → Can (appR r s).1 ((appR r s).2 x y) (l ++ m) := by
  intro r
  induction r with
  | nil => intro s n x y l m _ h k; unfold Can at h; subst h; exact k
  | one t _ =>
    intro s n x y l m _ h k
    unfold Can at h
    obtain ⟨c, rfl, h⟩ := h
    cases s
    case nil =>
      unfold Can at k; subst k
      change Can (.one t) x [c]
      unfold Can; exact ⟨c, rfl, h⟩
    all_goals
      change Can (.cons t _) (x, y) (c :: m)
      unfold Can
      exact ⟨c, m, rfl, h, k⟩
  | cons t r _ ihr =>
    intro s n x y l m hn h k
    simp only [lenR, Option.map_eq_some_iff] at hn
    obtain ⟨n', hn, _⟩ := hn
    unfold Can at h
    obtain ⟨c, l', rfl, h1, h2⟩ := h
    change Can (.cons t (appR r s).1) (x.1, (appR r s).2 x.2 y) (c :: (l' ++ m))
    unfold Can
    exact ⟨c, l' ++ m, rfl, h1, ihr hn h2 k⟩
  | _ => intro s n x y l m hn; cases hn

structure OpD (Γ : TC) : Type 1 where
  Γ' : TC
  B : Type
  d : Dyn (HS Γ) B
  up : HS Γ → B → HS Γ'

section
variable (X : TP) (Γ : TC) (msk : List Nat)

/-- An operand as plain data, of the call's own slices and maps what they hold; and whether it is closed already. -/
def rdC : SO → Option (Bool × Σ t : Ty, Dyn (HS Γ) (D t))
  | .t i => match get Γ (.s i) with
    | some ⟨.v t, f⟩ => some (true, ⟨t, .tot f⟩)
    | some ⟨.opt (.v t), f⟩ => some (true, ⟨t, .par f⟩)
    | some ⟨.own id, _⟩ => match objT Γ msk id with
      | some ⟨.arr _ _ t, xs⟩ => some (false, ⟨.sl t, .tot xs⟩)
      | _ => none
    | some ⟨.mp id, _⟩ => match objT Γ msk id with
      | some ⟨.mob _ k v, xs⟩ => some (false, ⟨.map k v, .tot xs⟩)
      | _ => none
    | _ => none
  | .k c => match constT c with
    | some q => some (true, ⟨q.1, .tot fun _ => q.2⟩)
    | none => none
  | .g _ => none

def argsT : List SO → Option (Bool × Σ r : Ty, Dyn (HS Γ) (D r))
  | [] => some (true, ⟨.nil, .tot fun _ => ()⟩)
  | [x] => match rdC Γ msk x with
    | some q => some (q.1, ⟨.one q.2.1, q.2.2⟩)
    | none => none
  | x :: y :: xs => match rdC Γ msk x, argsT (y :: xs) with
    | some q, some p => some (q.1 && p.1, ⟨.cons q.2.1 p.2.1, q.2.2.both p.2.2⟩)
    | _, _ => none

def callT : SOp → Option (Σ k : EK, Dyn (HS Γ) (DK k))
  | .call f args => match X.T f with
    | some s => match argsT Γ msk args with
      | some q => match coeT q.2.1 s.a with
        | some g => if (q.1 || mlT s.r) = true then some ⟨.v s.r, (q.2.2.map fun _ x => g x).comp (.par s.fn)⟩ else none
        | none => none
      | none => none
    | none => none
  | .callv f args => match rdV Γ f with
    | some ⟨.clo g r, d⟩ => match X.T g with
      | some s => match argsT Γ msk args with
        | some q => match lenR q.2.1, coeT (appR q.2.1 r).1 s.a with
          | some _, some h => if (q.1 || mlT s.r) = true then some ⟨.v s.r, ((q.2.2.both d).map fun _ x => h ((appR q.2.1 r).2 x.1 x.2)).comp (.par s.fn)⟩ else none
          | _, _ => none
        | none => none
      | none => none
    | _ => none
  | _ => none

/-- Elements as a list. -/
def listT (t : Ty) : List SO → Option (Dyn (HS Γ) (List (D t)))
  | [] => some (.tot fun _ => [])
  | x :: xs => match rdV Γ x, listT t xs with
    | some q, some e => match coeT q.1 t with
      | some g => some ((q.2.both e).map fun _ p => g p.1 :: p.2)
      | none => none
    | _, _ => none

def opNew (d : Nat) : SOp → Option (OpD Γ)
  | .alloc z => match constR z with
    | some q => match pushR d 0 q.1 Γ with
      | some p => some ⟨(.s d, .ptr d 0) :: (.o d, .box z.length) :: p.1, Unit, .tot fun _ => (), fun ρ _ => ((), (), p.2 ρ q.2)⟩
      | none => none
    | none => none
  | .box x => match rdV Γ x with
    | some ⟨.agg r, e⟩ => match lenR r, pushR d 0 r Γ with
      | some n, some p => some ⟨(.s d, .ptr d 0) :: (.o d, .box n) :: p.1, D r, e, fun ρ y => ((), (), p.2 ρ y)⟩
      | _, _ => none
    | some ⟨t, e⟩ => if oneT t = true then some ⟨(.s d, .ptr d 0) :: (.o d, .box 1) :: (.c d 0, .v t) :: Γ, D t, e, fun ρ y => ((), (), y, ρ)⟩ else none
    | none => none
  | .mksl e size parts => match X.TT e with
    | some t => match listT Γ t parts with
      | some l => if t.val = true ∧ lenR (rowOf t) = some size then some ⟨(.s d, .own d) :: (.o d, .arr e size t) :: Γ, List (D t), l, fun ρ y => ((), y, ρ)⟩ else none
      | none => none
    | none => none
  | .mkmap mt kt z => match X.TM mt with
    | some (k, v) => if zeroOk v [z] = true ∧ ktB kt k = true ∧ plainK k = true then some ⟨(.s d, .mp d) :: (.o d, .mob mt k v) :: Γ, Unit, .tot fun _ => (), fun ρ _ => ((), [], ρ)⟩ else none
    | none => none
  | .make e size bytes z x y => match X.TT e, rdV Γ x, rdV Γ y with
    | some t, some ⟨.int _, dx⟩, some ⟨.int _, dy⟩ => if zeroOk t [z] = true then some ⟨(.s d, .own d) :: (.o d, .arr e size t) :: Γ, List (D t), (dx.both dy).comp (.par fun p => if 0 ≤ p.1 ∧ p.1 ≤ p.2 ∧ p.2 * (bytes : Int) ≤ 140737488355328 ∧ p.2 ≤ 4611686018427387904 then some (List.replicate p.1.toNat (zeroT t)) else none), fun ρ y => ((), y, ρ)⟩ else none
    | _, _, _ => none
  | .siter x => match rdV Γ x with
    | some ⟨.str, e⟩ => some ⟨(.s d, .iter d) :: (.o d, .sit) :: Γ, List UInt8, e, fun ρ y => ((), (y, 0), ρ)⟩
    | _ => none
  | _ => none

/-- An own slice's elements, or a closed one's. -/
def newsT (t : Ty) (x : SO) : Option (Dyn (HS Γ) (List (D t))) :=
  match rdC Γ [] x with
  | some (_, ⟨u, e⟩) => match coeT u (.sl t) with
    | some g => some (e.map fun _ y => g y)
    | none => none
  | none => none

/-- One element's cells turn. -/
def putT (t : Ty) (o n : Nat) (u : Ty) : Option (D t → D u → D t) :=
  match t with
  | .agg r => match lenR (rowOf u), putR (rowOf u) r o with
    | some m, some q => if h : q.1 = r then if m = n ∧ u.val = true then some fun x y => h ▸ q.2 x (rowD u y) else none else none
    | _, _ => none
  | t => if n = 1 ∧ o = 0 ∧ oneT u = true then match coeT u t with
      | some g => some fun _ y => g y
      | none => none
    else none

def opEff (d : Option Nat) : SOp → Option (OpD Γ)
  | .store n a x => match rdK X.G Γ a with
    | some ⟨.ptr id o, .tot _⟩ => match get Γ (.o id) with
      | some ⟨.box nb, _⟩ => match rdK X.G Γ x with
        | some ⟨.v (.agg r), e⟩ => match lenR r, pushR id o r Γ with
          | some m, some p => if m = n ∧ o + n ≤ nb ∧ oneR r = true then some ⟨p.1, D r, e, fun ρ y => p.2 ρ y⟩ else none
          | _, _ => none
        | some ⟨.v t, e⟩ => if n = 1 ∧ o < nb ∧ oneT t = true then some ⟨(.c id o, .v t) :: Γ, D t, e, fun ρ y => (y, ρ)⟩ else none
        | some ⟨.own i, .tot _⟩ => if n = 1 ∧ o < nb then some ⟨(.c id o, .own i) :: Γ, Unit, .tot fun _ => (), fun ρ _ => ((), ρ)⟩ else none
        | some ⟨.mp i, .tot _⟩ => if n = 1 ∧ o < nb then some ⟨(.c id o, .mp i) :: Γ, Unit, .tot fun _ => (), fun ρ _ => ((), ρ)⟩ else none
        | _ => none
      | _ => none
    | some ⟨.eptr id size o, di⟩ => match get Γ (.o id) with
      | some ⟨.arr e sz t, xs⟩ => match rdV Γ x with
        | some ⟨u, dx⟩ => match putT t o n u with
          | some g => if size = sz ∧ 0 < n ∧ t.val = true ∧ lenR (rowOf t) = some sz ∧ oneR (rowOf u) = true then some ⟨(.o id, .arr e sz t) :: Γ, List (D t), ((di.both dx).map fun ρ p => ((xs ρ)[p.1]?).map fun el => (xs ρ).set p.1 (g el p.2)).comp (.par fun y => y), fun ρ y => (y, ρ)⟩ else none
          | none => none
        | none => none
      | _ => none
    | _ => none
  | .append e size bytes x y => match rdK X.G Γ x with
    | some ⟨.own id, .tot _⟩ => match get Γ (.o id) with
      | some ⟨.arr e' size' t, xs⟩ => match newsT Γ t y, d with
        | some l, some d => if e' = e ∧ size' = size ∧ t.val = true ∧ lenR (rowOf t) = some size ∧ oneR (rowOf t) = true then some ⟨(.s d, .own id) :: (.o id, .arr e size t) :: killT [id] Γ, List (D t), (l.map fun ρ ys => if (((xs ρ).length : Int) + (ys.length : Int)) * (bytes : Int) ≤ 140737488355328 ∧ ((xs ρ).length : Int) + (ys.length : Int) ≤ 4611686018427387904 then some (xs ρ ++ ys) else none).comp (.par fun y => y), fun ρ y => ((), y, killP [id] ρ)⟩ else none
        | _, _ => none
      | _ => none
    | some ⟨.v .nsl, .tot _⟩ => match X.TT e with
      | some t => match newsT Γ t y, d with
        | some l, some d => if t.val = true ∧ lenR (rowOf t) = some size ∧ oneR (rowOf t) = true then some ⟨(.s d, .own d) :: (.o d, .arr e size t) :: killT [d] Γ, List (D t), l.comp (.par fun ys => if (ys.length : Int) * (bytes : Int) ≤ 140737488355328 ∧ (ys.length : Int) ≤ 4611686018427387904 then some ys else none), fun ρ y => ((), y, killP [d] ρ)⟩ else none
        | _, _ => none
      | none => none
    | _ => none
  | .mapent mt x k => match rdK X.G Γ x, rdV Γ k, d with
    | some ⟨.mp id, .tot _⟩, some q, some d => match get Γ (.o id) with
      | some ⟨.mob mt' kt vt, m⟩ => match coeT q.1 kt with
        | some g => if mt' = mt ∧ plainK kt = true then some ⟨(.s d, .ent id kt vt) :: (.o id, .mob mt kt vt) :: Γ, D kt × D vt, q.2.map fun ρ k => (g k, (alGet (eqZ kt) (zeroT vt) (g k) (m ρ)).1), fun ρ p => (p, alPut (eqZ kt) p.1 p.2 (m ρ), ρ)⟩ else none
        | none => none
      | _ => none
    | _, _, _ => none
  | .entst x s v => match rdK X.G Γ x, rdK X.G Γ s, rdV Γ v with
    | some ⟨.mp id, .tot _⟩, some ⟨.stamp id' kt, .tot fs⟩, some q => match get Γ (.o id) with
      | some ⟨.mob mt kt' vt, m⟩ => match coeT q.1 vt with
        | some g => if h : kt = kt' then if id = id' ∧ plainK kt' = true then some ⟨(.o id, .mob mt kt' vt) :: Γ, List (D kt' × D vt), (q.2.map fun ρ v => if (alGet (eqZ kt') (zeroT vt) (h ▸ fs ρ) (m ρ)).2 = true then some (alPut (eqZ kt') (h ▸ fs ρ) (g v) (m ρ)) else none).comp (.par fun y => y), fun ρ y => (y, ρ)⟩ else none else none
        | none => none
      | _ => none
    | _, _, _ => none
  | .mapupd mt x k v => match rdK X.G Γ x, rdV Γ k, rdV Γ v with
    | some ⟨.mp id, .tot _⟩, some q, some p => match get Γ (.o id) with
      | some ⟨.mob mt' kt vt, m⟩ => match coeT q.1 kt, coeT p.1 vt with
        | some g, some f => if mt' = mt ∧ plainK kt = true then some ⟨(.o id, .mob mt kt vt) :: Γ, List (D kt × D vt), (q.2.both p.2).map fun ρ z => alPut (eqZ kt) (g z.1) (f z.2) (m ρ), fun ρ y => (y, ρ)⟩ else none
        | _, _ => none
      | _ => none
    | _, _, _ => none
  | _ => none

/-- A value under a guard. -/
def gD {A B : Type} (f : A → Bool) (want : Bool) : Dyn A B → Dyn A (Option B)
  | .tot g => .tot fun ρ => if f ρ = want then some (g ρ) else none
  | .par g => .par fun ρ => if f ρ = want then (g ρ).map some else some none
def gO {A B : Type} (f : A → Option Bool) (want : Bool) : Dyn A B → Dyn A (Option B)
  | .tot g => .tot fun ρ => if f ρ = some want then some (g ρ) else none
  | .par g => .par fun ρ => if f ρ = some want then (g ρ).map some else some none

def softK (op : SOp) : Option (Σ k : EK, Dyn (HS Γ) (DK k)) :=
  match op.cls with
  | .val | .grow => valK X.G Γ msk op
  | .call => callT X Γ msk op
  | _ => none

def opL (l : SL) : Option (OpD Γ) :=
  match l.guard with
  | none => match l.op.cls with
    | .new => match l.dst with
      | some d => match get Γ (.o d) with
        | some ⟨.gone, _⟩ => opNew X Γ d l.op
        | _ => none
      | none => none
    | .eff => opEff X Γ l.dst l.op
    | _ => match softK X Γ msk l.op with
      | some q => match l.dst with
        | some d => some ⟨(.s d, q.1) :: Γ, DK q.1, q.2, fun ρ x => (x, ρ)⟩
        | none => some ⟨Γ, DK q.1, q.2, fun ρ _ => ρ⟩
      | none => none
  | some (g, want) => match softK X Γ msk l.op, l.dst with
    | some q, some d => match get Γ (.s g) with
      | some ⟨.v .bool, f⟩ => some ⟨(.s d, .opt q.1) :: Γ, Option (DK q.1), gD f want q.2, fun ρ x => (x, ρ)⟩
      | some ⟨.opt (.v .bool), f⟩ => some ⟨(.s d, .opt q.1) :: Γ, Option (DK q.1), gO f want q.2, fun ρ x => (x, ρ)⟩
      | _ => none
    | _, _ => none
end
end WB
