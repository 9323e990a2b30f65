/-
 OWN TEXTS, MERGED (wip/merge.py): CoreTh, CoreTi, CoreTj, CoreTk, CoreTl, CoreTm, CoreTn, CoreTo, CoreTq, CoreBl, CoreLb, CoreMc. No condition of their own.
-/
import Derived.Test.YtlglbkbfmhelcaaGreatDoorK3
import Derived.Lib.FrozenHead
import Derived.Lib.LaidTab
import Derived.Lib.ItoaNum
import Derived.Lib.TrimByte
import Derived.Lib.AppendIntMem
import Derived.Lib.Bytealg
import Derived.Lib.SlMapMerge
import Derived.Maps.Own
import Derived.StringKeys
set_option linter.unusedVariables false
set_option linter.unusedSimpArgs false
namespace WB
open Go Go.RowKit
structure Sig where
 a : Ty
 r : Ty
 fn : D a → Option (D r)
structure TP where
 G : Nat → List CV
 T : FuncId → Option Sig
 TT : Nat → Option Ty
 TM : Nat → Option (Ty × Ty)
 cp : FuncId → Bool := fun _ => false
 TN : FuncId → Option Sig := fun _ => none
structure TOk (X : TP) (E : Env) : Prop where
 G : E.G = X.G
 cp : E.cp = X.cp
 fn : ∀ f s, X.T f = some s → s.r.val = true ∧ s.r.ok = true ∧ ∀ x l y, Can s.a x l → s.fn x = some y → E.fn f l = some (.val (enc s.r y))
 nw : ∀ f a e size t fn, X.TN f = some ⟨a, .nw e size t, fn⟩ → t.val = true ∧ ∀ x l ys, Can a x l → fn x = some ys → ∃ es, E.fn f l = some (.new (.arr e size es)) ∧ CanAll (fun x c => Can t x [c]) ys es
def mlT : Ty → Bool
 | .int _ | .bool | .str => true
 | .agg r | .tup r => mlT r
 | .nil => true
 | .one t => mlT t
 | .cons t r => mlT t && mlT r
 | _ => false
theorem mlT_can : ∀ {t : Ty} {x : D t} {cs : List CV}, mlT t = true → Can t x cs → memlessL cs = true := by
 intro t
 induction t with
 | int k => intro x cs _ h; unfold Can at h; subst h; rfl
 | bool => intro x cs _ h; unfold Can at h; subst h; rfl
 | str => intro x cs _ h; unfold Can at h; subst h; rfl
 | nil => intro x cs _ h; unfold Can at h; subst h; rfl
 | agg r ih => intro x cs hm h; unfold Can at h; obtain ⟨l, rfl, h⟩ := h; simp [memlessL, memless, ih hm h]
 | tup r ih => intro x cs hm h; unfold Can at h; obtain ⟨l, rfl, h⟩ := h; simp [memlessL, memless, ih hm h]
 | one t ih => intro x cs hm h; unfold Can at h; obtain ⟨c, rfl, h⟩ := h; exact ih hm h
 | cons t r iht ihr =>
  intro x cs hm h
  simp only [mlT, Bool.and_eq_true] at hm
  unfold Can at h
  obtain ⟨c, l, rfl, h1, h2⟩ := h
  have := iht hm.1 h1
  simp only [memlessL, Bool.and_true] at this
  simp [memlessL, this, ihr hm.2 h2]
 | _ => intro x cs hm; cases hm
def appR : (r s : Ty) → Σ q : Ty, D r → D s → D q
 | .one t, .nil => ⟨.one t, fun x _ => x⟩
 | .one t, s => ⟨.cons t s, fun x y => (x, y)⟩
 | .cons t r, s => ⟨.cons t (appR r s).1, fun x y => (x.1, (appR r s).2 x.2 y)⟩
 | _, s => ⟨s, fun _ y => y⟩
theorem appR_can : ∀ {r s : Ty} {n : Nat} {x : D r} {y : D s} {l m : List CV}, lenR r = some n → Can r x l → Can s y m → Can (appR r s).1 ((appR r s).2 x y) (l ++ m) := by
 intro r
 induction r with
 | nil => intro s n x y l m _ h k; unfold Can at h; subst h; exact k
 | one t _ =>
  intro s n x y l m _ h k
  unfold Can at h
  obtain ⟨c, rfl, h⟩ := h
  cases s
  case nil =>
   unfold Can at k; subst k
   change Can (.one t) x [c]
   unfold Can; exact ⟨c, rfl, h⟩
  all_goals
   change Can (.cons t _) (x, y) (c :: m)
   unfold Can
   exact ⟨c, m, rfl, h, k⟩
 | cons t r _ ihr =>
  intro s n x y l m hn h k
  simp only [lenR, Option.map_eq_some_iff] at hn
  obtain ⟨n', hn, _⟩ := hn
  unfold Can at h
  obtain ⟨c, l', rfl, h1, h2⟩ := h
  change Can (.cons t (appR r s).1) (x.1, (appR r s).2 x.2 y) (c :: (l' ++ m))
  unfold Can
  exact ⟨c, l' ++ m, rfl, h1, ihr hn h2 k⟩
 | _ => intro s n x y l m hn; cases hn
def mcopyP {V : Type} (m y : List (List UInt8 × V)) : Option (List (List UInt8 × V)) :=
 if m.isEmpty = true ∧ (y.all fun p => decide (p.1.length ≤ 9223372036854775807)) = true ∧ y.length ≤ 9223372036854775807 then some y else none
structure OpD (Γ : TC) : Type 1 where
 Γ' : TC
 B : Type
 d : Dyn (HS Γ) B
 up : HS Γ → B → HS Γ'
section
variable (X : TP) (Γ : TC) (msk : List Nat)
def rdC : SO → Option (Bool × Σ t : Ty, Dyn (HS Γ) (D t))
 | .t i => match get Γ (.s i) with
  | some ⟨.v t, f⟩ => some (true, ⟨t, .tot f⟩)
  | some ⟨.opt (.v t), f⟩ => some (true, ⟨t, .par f⟩)
  | some ⟨.own id, _⟩ => match objT Γ msk id with
   | some ⟨.arr _ _ t, xs⟩ => some (false, ⟨.sl t, .tot xs⟩)
   | _ => none
  | some ⟨.mp id, _⟩ => match objT Γ msk id with
   | some ⟨.mob _ k v, xs⟩ => some (false, ⟨.map k v, .tot xs⟩)
   | _ => none
  | _ => none
 | .k c => match constT c with
  | some q => some (true, ⟨q.1, .tot fun _ => q.2⟩)
  | none => none
 | .g _ => none
def argsT : List SO → Option (Bool × Σ r : Ty, Dyn (HS Γ) (D r))
 | [] => some (true, ⟨.nil, .tot fun _ => ()⟩)
 | [x] => match rdC Γ msk x with
  | some q => some (q.1, ⟨.one q.2.1, q.2.2⟩)
  | none => none
 | x :: y :: xs => match rdC Γ msk x, argsT (y :: xs) with
  | some q, some p => some (q.1 && p.1, ⟨.cons q.2.1 p.2.1, q.2.2.both p.2.2⟩)
  | _, _ => none
def callF (a Rt : Ty) (fl : Bool) : (t : Ty) → Option (D t → D a → Option (D Rt))
 | .nfn => some fun _ _ => none
 | .clo g r => match X.T g with
  | some s => match coeT (appR a r).1 s.a, coeT s.r Rt with
   | some h, some k => if (fl || mlT s.r) = true then some fun x y => (s.fn (h ((appR a r).2 y x))).map k else none
   | _, _ => none
  | none => none
 | .falt g r l => match X.T g with
  | some s => match coeT (appR a r).1 s.a, coeT s.r Rt, callF a Rt fl l with
   | some h, some k, some F => if (fl || mlT s.r) = true then some fun x y => match x with
     | .inl c => (s.fn (h ((appR a r).2 y c))).map k
     | .inr z => F z y
    else none
   | _, _, _ => none
  | none => none
 | _ => none
def callT : SOp → Option (Σ k : EK, Dyn (HS Γ) (DK k))
 | .call f args => match X.T f with
  | some s => match argsT Γ msk args with
   | some q => match coeT q.2.1 s.a with
    | some g => if (q.1 || mlT s.r) = true then some ⟨.v s.r, (q.2.2.map fun _ x => g x).comp (.par s.fn)⟩ else none
    | none => none
   | none => none
  | none => none
 | .callv f args => match rdV Γ f with
  | some ⟨.clo g r, d⟩ => match X.T g with
   | some s => match argsT Γ msk args with
    | some q => match lenR q.2.1, coeT (appR q.2.1 r).1 s.a with
     | some _, some h => if (q.1 || mlT s.r) = true then some ⟨.v s.r, ((q.2.2.both d).map fun _ x => h ((appR q.2.1 r).2 x.1 x.2)).comp (.par s.fn)⟩ else none
     | _, _ => none
    | none => none
   | none => none
  | some ⟨.falt g r l, d⟩ => match X.T g with
   | some s => match argsT Γ msk args with
    | some q => match lenR q.2.1, callF X q.2.1 s.r q.1 (.falt g r l) with
     | some _, some F => some ⟨.v s.r, (q.2.2.both d).comp (.par fun x => F x.2 x.1)⟩
     | _, _ => none
    | none => none
   | none => none
  | _ => none
 | _ => none
def listT (t : Ty) : List SO → Option (Dyn (HS Γ) (List (D t)))
 | [] => some (.tot fun _ => [])
 | x :: xs => match rdV Γ x, listT t xs with
  | some q, some e => match coeT q.1 t with
   | some g => some ((q.2.both e).map fun _ p => g p.1 :: p.2)
   | none => none
  | _, _ => none
def opNew (d : Nat) : SOp → Option (OpD Γ)
 | .alloc z => match constR z with
  | some q => match pushR d 0 q.1 Γ with
   | some p => some ⟨(.s d, .ptr d 0) :: (.o d, .box z.length) :: p.1, Unit, .tot fun _ => (), fun ρ _ => ((), (), p.2 ρ q.2)⟩
   | none => none
  | none => none
 | .box x => match rdV Γ x with
  | some ⟨.agg r, e⟩ => match lenR r, pushR d 0 r Γ with
   | some n, some p => some ⟨(.s d, .ptr d 0) :: (.o d, .box n) :: p.1, D r, e, fun ρ y => ((), (), p.2 ρ y)⟩
   | _, _ => none
  | some ⟨t, e⟩ => if oneT t = true then some ⟨(.s d, .ptr d 0) :: (.o d, .box 1) :: (.c d 0, .v t) :: Γ, D t, e, fun ρ y => ((), (), y, ρ)⟩ else none
  | none => none
 | .mksl e size parts => match X.TT e with
  | some t => match listT Γ t parts with
   | some l => if t.val = true ∧ lenR (rowOf t) = some size then some ⟨(.s d, .own d) :: (.o d, .arr e size t) :: Γ, List (D t), l, fun ρ y => ((), y, ρ)⟩ else none
   | none => none
  | none => none
 | .mkmap mt kt z => match X.TM mt with
  | some (k, v) => if zeroOk v [z] = true ∧ ktB kt k = true ∧ plainK k = true then some ⟨(.s d, .mp d) :: (.o d, .mob mt k v) :: Γ, Unit, .tot fun _ => (), fun ρ _ => ((), [], ρ)⟩ else none
  | none => none
 | .make e size bytes z x y => match X.TT e, rdV Γ x, rdV Γ y with
  | some t, some ⟨.int _, dx⟩, some ⟨.int _, dy⟩ => if zeroOk t [z] = true then some ⟨(.s d, .own d) :: (.o d, .arr e size t) :: Γ, List (D t), (dx.both dy).comp (.par fun p => if 0 ≤ p.1 ∧ p.1 ≤ p.2 ∧ p.2 * (bytes : Int) ≤ 140737488355328 ∧ p.2 ≤ 4611686018427387904 then some (List.replicate p.1.toNat (zeroT t)) else none), fun ρ y => ((), y, ρ)⟩ else none
  | _, _, _ => none
 | .siter x => match rdV Γ x with
  | some ⟨.str, e⟩ => some ⟨(.s d, .iter d) :: (.o d, .sit) :: Γ, List UInt8, e, fun ρ y => ((), (y, 0), ρ)⟩
  | _ => none
 | _ => none
def newsT (t : Ty) (x : SO) : Option (Dyn (HS Γ) (List (D t))) :=
 match rdC Γ [] x with
 | some (_, ⟨u, e⟩) => match coeT u (.sl t) with
  | some g => some (e.map fun _ y => g y)
  | none => none
 | none => none
def putT (t : Ty) (o n : Nat) (u : Ty) : Option (D t → D u → D t) :=
 match t with
 | .agg r => match lenR (rowOf u), putR (rowOf u) r o with
  | some m, some q => if h : q.1 = r then if m = n ∧ u.val = true then some fun x y => h ▸ q.2 x (rowD u y) else none else none
  | _, _ => none
 | t => if n = 1 ∧ o = 0 ∧ oneT u = true then match coeT u t with
   | some g => some fun _ y => g y
   | none => none
  else none
def setI (id : Nat) (t : Ty) (o : Nat) : (n j : Nat) → Option (Σ Γ' : TC, HS Γ → Nat → D t → HS Γ')
 | 0, _ => some ⟨Γ, fun ρ _ _ => ρ⟩
 | n + 1, j => match get Γ (.c id (o + j)), setI id t o n (j + 1) with
  | some ⟨.v u, f⟩, some p => if h : u = t then some ⟨(.c id (o + j), .v t) :: p.1, fun ρ i y => (if i = j then y else (h ▸ f ρ : D t), p.2 ρ i y)⟩ else none
  | _, _ => none
def opEff (d : Option Nat) : SOp → Option (OpD Γ)
 | .store n a x => match rdK X.G Γ a with
  | some ⟨.ptr id o, .tot _⟩ => match get Γ (.o id) with
   | some ⟨.box nb, _⟩ => match rdK X.G Γ x with
    | some ⟨.v (.agg r), e⟩ => match lenR r, pushR id o r Γ with
     | some m, some p => if m = n ∧ o + n ≤ nb ∧ oneR r = true then some ⟨p.1, D r, e, fun ρ y => p.2 ρ y⟩ else none
     | _, _ => none
    | some ⟨.v t, e⟩ => if n = 1 ∧ o < nb ∧ oneT t = true then some ⟨(.c id o, .v t) :: Γ, D t, e, fun ρ y => (y, ρ)⟩ else none
    | some ⟨.own i, .tot _⟩ => if n = 1 ∧ o < nb then some ⟨(.c id o, .own i) :: Γ, Unit, .tot fun _ => (), fun ρ _ => ((), ρ)⟩ else none
    | some ⟨.mp i, .tot _⟩ => if n = 1 ∧ o < nb then some ⟨(.c id o, .mp i) :: Γ, Unit, .tot fun _ => (), fun ρ _ => ((), ρ)⟩ else none
    | _ => none
   | _ => none
  | some ⟨.aptr id len o, di⟩ => match get Γ (.o id) with
   | some ⟨.box nb, _⟩ => match rdV Γ x with
    | some ⟨t, e⟩ => match setI Γ id t o len 0 with
     | some p => if n = 1 ∧ o + len ≤ nb ∧ oneT t = true then some ⟨p.1, Nat × D t, di.both e, fun ρ z => p.2 ρ z.1 z.2⟩ else none
     | none => none
    | none => none
   | _ => none
  | some ⟨.eptr id size o, di⟩ => match get Γ (.o id) with
   | some ⟨.arr e sz t, xs⟩ => match rdV Γ x with
    | some ⟨u, dx⟩ => match putT t o n u with
     | some g => if size = sz ∧ 0 < n ∧ t.val = true ∧ lenR (rowOf t) = some sz ∧ oneR (rowOf u) = true then some ⟨(.o id, .arr e sz t) :: Γ, List (D t), ((di.both dx).map fun ρ p => ((xs ρ)[p.1]?).map fun el => (xs ρ).set p.1 (g el p.2)).comp (.par fun y => y), fun ρ y => (y, ρ)⟩ else none
     | none => none
    | none => none
   | _ => none
  | some ⟨.v (.pt (.one .bool)), da⟩ => match rdV Γ x with
   | some ⟨.bool, dx⟩ => if n = 1 then some ⟨Γ, Unit, (da.both dx).comp (.par fun p => if (show Bool from p.1) = (show Bool from p.2) then some () else none), fun ρ _ => ρ⟩ else none
   | _ => none
  | _ => none
 | .append e size bytes x y => match rdK X.G Γ x with
  | some ⟨.own id, .tot _⟩ => match get Γ (.o id) with
   | some ⟨.arr e' size' t, xs⟩ => match newsT Γ t y, d with
    | some l, some d => if e' = e ∧ size' = size ∧ t.val = true ∧ lenR (rowOf t) = some size ∧ oneR (rowOf t) = true then some ⟨(.s d, .own id) :: (.o id, .arr e size t) :: killT [id] Γ, List (D t), (l.map fun ρ ys => if (((xs ρ).length : Int) + (ys.length : Int)) * (bytes : Int) ≤ 140737488355328 ∧ ((xs ρ).length : Int) + (ys.length : Int) ≤ 4611686018427387904 then some (xs ρ ++ ys) else none).comp (.par fun y => y), fun ρ y => ((), y, killP [id] ρ)⟩ else none
    | _, _ => none
   | _ => none
  | some ⟨.v .nsl, .tot _⟩ => match X.TT e with
   | some t => match newsT Γ t y, d with
    | some l, some d => if t.val = true ∧ lenR (rowOf t) = some size ∧ oneR (rowOf t) = true then some ⟨(.s d, .own d) :: (.o d, .arr e size t) :: killT [d] Γ, List (D t), l.comp (.par fun ys => if (ys.length : Int) * (bytes : Int) ≤ 140737488355328 ∧ (ys.length : Int) ≤ 4611686018427387904 then some ys else none), fun ρ y => ((), y, killP [d] ρ)⟩ else none
    | _, _ => none
   | none => none
  | _ => none
 | .mapent mt x k => match rdK X.G Γ x, rdV Γ k, d with
  | some ⟨.mp id, .tot _⟩, some q, some d => match get Γ (.o id) with
   | some ⟨.mob mt' kt vt, m⟩ => match coeT q.1 kt with
    | some g => if mt' = mt ∧ plainK kt = true then some ⟨(.s d, .ent id kt vt) :: (.o id, .mob mt kt vt) :: Γ, D kt × D vt, q.2.map fun ρ k => (g k, (alGet (eqZ kt) (zeroT vt) (g k) (m ρ)).1), fun ρ p => (p, alPut (eqZ kt) p.1 p.2 (m ρ), ρ)⟩ else none
    | none => none
   | _ => none
  | _, _, _ => none
 | .entst x s v => match rdK X.G Γ x, rdK X.G Γ s, rdV Γ v with
  | some ⟨.mp id, .tot _⟩, some ⟨.stamp id' kt, .tot fs⟩, some q => match get Γ (.o id) with
   | some ⟨.mob mt kt' vt, m⟩ => match coeT q.1 vt with
    | some g => if h : kt = kt' then if id = id' ∧ plainK kt' = true then some ⟨(.o id, .mob mt kt' vt) :: Γ, List (D kt' × D vt), (q.2.map fun ρ v => if (alGet (eqZ kt') (zeroT vt) (h ▸ fs ρ) (m ρ)).2 = true then some (alPut (eqZ kt') (h ▸ fs ρ) (g v) (m ρ)) else none).comp (.par fun y => y), fun ρ y => (y, ρ)⟩ else none else none
    | none => none
   | _ => none
  | _, _, _ => none
 | .mapupd mt x k v => match rdK X.G Γ x, rdV Γ k, rdV Γ v with
  | some ⟨.mp id, .tot _⟩, some q, some p => match get Γ (.o id) with
   | some ⟨.mob mt' kt vt, m⟩ => match coeT q.1 kt, coeT p.1 vt with
    | some g, some f => if mt' = mt ∧ plainK kt = true then some ⟨(.o id, .mob mt kt vt) :: Γ, List (D kt × D vt), (q.2.both p.2).map fun ρ z => alPut (eqZ kt) (g z.1) (f z.2) (m ρ), fun ρ y => (y, ρ)⟩ else none
    | _, _ => none
   | _ => none
  | _, _, _ => none
 | _ => none
def opCopy (d : Option Nat) : SOp → Option (OpD Γ)
 | .mcopy f x y => if X.cp f = true then match rdK X.G Γ x, rdV Γ y, d with
  | some ⟨.mp id, .tot _⟩, some ⟨.map .str ut, q⟩, some d => match get Γ (.o id) with
   | some ⟨.mob mt .str vt, m⟩ => match coeT (.map .str ut) (.map .str vt) with
    | some g => some ⟨(.s d, .v (.tup .nil)) :: (.o id, .mob mt .str vt) :: Γ, List (List UInt8 × D vt), (q.map fun ρ y => mcopyP (m ρ) (g y)).comp (.par fun y => y), fun ρ y => ((), y, ρ)⟩
    | none => none
   | _ => none
  | _, _, _ => none
 else none
 | _ => none
def gD {A B : Type} (f : A → Bool) (want : Bool) : Dyn A B → Dyn A (Option B)
 | .tot g => .tot fun ρ => if f ρ = want then some (g ρ) else none
 | .par g => .par fun ρ => if f ρ = want then (g ρ).map some else some none
def gO {A B : Type} (f : A → Option Bool) (want : Bool) : Dyn A B → Dyn A (Option B)
 | .tot g => .tot fun ρ => if f ρ = some want then some (g ρ) else none
 | .par g => .par fun ρ => if f ρ = some want then (g ρ).map some else some none
def softK (op : SOp) : Option (Σ k : EK, Dyn (HS Γ) (DK k)) :=
 match op.cls with
 | .val | .grow => valK X.G Γ msk op
 | .call => callT X Γ msk op
 | _ => none
def opCallN (d : Nat) : SOp → Option (OpD Γ)
 | .call f args => match X.TN f with
  | some ⟨a, .nw e size t, fn⟩ => match get Γ (.o d) with
   | some ⟨.gone, _⟩ => match argsT Γ msk args with
    | some q => match coeT q.2.1 a with
     | some g => if (q.1 || mlT t) = true then some ⟨(.s d, .own d) :: (.o d, .arr e size t) :: Γ, List (D t), (q.2.2.map fun _ x => g x).comp (.par fn), fun ρ y => ((), y, ρ)⟩ else none
     | none => none
    | none => none
   | _ => none
  | _ => none
 | _ => none
def opL (l : SL) : Option (OpD Γ) :=
 match l.guard with
 | none => match l.op.cls with
  | .new => match l.dst with
   | some d => match get Γ (.o d) with
    | some ⟨.gone, _⟩ => opNew X Γ d l.op
    | _ => none
   | none => none
  | .eff => opEff X Γ l.dst l.op
  | .copy => opCopy X Γ l.dst l.op
  | _ => match softK X Γ (hid l.op msk) l.op with
   | some q => match l.dst with
    | some d => some ⟨(.s d, q.1) :: Γ, DK q.1, q.2, fun ρ x => (x, ρ)⟩
    | none => some ⟨Γ, DK q.1, q.2, fun ρ _ => ρ⟩
   | none => match l.dst with
    | some d => opCallN X Γ (hid l.op msk) d l.op
    | none => none
 | some (g, want) => match softK X Γ (hid l.op msk) l.op, l.dst with
  | some q, some d => match get Γ (.s g) with
   | some ⟨.v .bool, f⟩ => some ⟨(.s d, .opt q.1) :: Γ, Option (DK q.1), gD f want q.2, fun ρ x => (x, ρ)⟩
   | some ⟨.opt (.v .bool), f⟩ => some ⟨(.s d, .opt q.1) :: Γ, Option (DK q.1), gO f want q.2, fun ρ x => (x, ρ)⟩
   | _ => none
  | _, _ => none
end
end WB
namespace WB
open Go Go.RowKit
section
variable {X : TP} {E : Env} {Γ : TC} {msk : List Nat} {ρ : HS Γ} {st : St} {rd : Nat → Ob}
theorem rdC_ok {x : SO} {fl : Bool} {q : Σ t : Ty, Dyn (HS Γ) (D t)} (h : rdC Γ msk x = some (fl, q)) (hr : Rep Γ ρ st) (hrd : ∀ id, msk.contains id = false → rd id = st.ob id) {a : D q.1} (ha : q.2.val ρ = some a) {G : Nat → List CV} :
  ∃ c, close rd (so G st.fr x) = some c ∧ Can q.1 a [c] ∧ (fl = true → isC (so G st.fr x) = true) ∧
   (so G st.fr x = .c c ∨ (∃ id e size es, so G st.fr x = .osl id ∧ rd id = .arr e size es ∧ c = .sl none es) ∨ ∃ nl ks vs, c = .map nl ks vs) := by
 cases x with
 | t i =>
  simp only [rdC] at h
  split at h
  ·rename_i t f hg
   cases h
   cases ha
   obtain ⟨c, e, hc⟩ := hr.s i _ hg
   have e' : so G st.fr (.t i) = .c c := e
   exact ⟨c, by rw [e']; rfl, hc, fun _ => by rw [e']; rfl, .inl e'⟩
  ·rename_i t f hg
   cases h
   have := hr.s i _ hg
   have ha' : f ρ = some a := ha
   unfold RS at this
   simp only [ha'] at this
   unfold RS at this
   obtain ⟨c, e, hc⟩ := this
   have e' : so G st.fr (.t i) = .c c := e
   exact ⟨c, by rw [e']; rfl, hc, fun _ => by rw [e']; rfl, .inl e'⟩
  ·rename_i id f hg
   split at h <;> try (cases h; done)
   rename_i e' size t xs ho
   cases h
   cases ha
   obtain ⟨es, e, hes⟩ := objT_ok ho hr hrd
   have e2 : so G st.fr (.t i) = .osl id := hr.s i _ hg
   exact ⟨.sl none es, by rw [e2]; simp only [close, e], by unfold Can; exact ⟨_, _, rfl, hes⟩, (fun hh => by cases hh), .inr (.inl ⟨id, _, _, es, e2, e, rfl⟩)⟩
  ·rename_i id f hg
   split at h <;> try (cases h; done)
   rename_i mt k v xs ho
   cases h
   cases ha
   obtain ⟨z, ks, vs, e, _, hk, hv⟩ := objT_ok ho hr hrd
   have e2 : so G st.fr (.t i) = .omap id := hr.s i _ hg
   exact ⟨.map none ks vs, by rw [e2]; simp only [close, e], by unfold Can; exact ⟨_, _, _, rfl, hk, hv⟩, (fun hh => by cases hh), .inr (.inr ⟨_, _, _, rfl⟩)⟩
  ·cases h
 | k c =>
  simp only [rdC] at h
  split at h <;> try (cases h; done)
  rename_i p hp
  cases h
  cases ha
  exact ⟨c, rfl, constT_can hp, fun _ => rfl, .inl rfl⟩
 | g i => cases h
theorem argsT_ok (hr : Rep Γ ρ st) (hrd : ∀ id, msk.contains id = false → rd id = st.ob id) {G : Nat → List CV} : ∀ {xs : List SO} {fl : Bool} {q : Σ r : Ty, Dyn (HS Γ) (D r)} {a : D q.1}, argsT Γ msk xs = some (fl, q) → q.2.val ρ = some a →
  ∃ l, allM (fun x => close rd (so G st.fr x)) xs = some l ∧ Can q.1 a l ∧ (fl = true → (xs.all fun x => isC (so G st.fr x)) = true)
 | [], fl, q, a, h, ha => by
  simp only [argsT, Option.some.injEq] at h
  cases h
  exact ⟨[], rfl, by unfold Can; rfl, fun _ => rfl⟩
 | [x], fl, q, a, h, ha => by
  simp only [argsT] at h
  split at h <;> try (cases h; done)
  rename_i p hp
  cases h
  obtain ⟨c, h1, h2, h3, _⟩ := rdC_ok (G := G) (fl := p.1) (q := p.2) hp hr hrd ha
  exact ⟨[c], by simp [allM, h1], by unfold Can; exact ⟨c, rfl, h2⟩, fun hh => by simp [h3 hh]⟩
 | x :: y :: xs, fl, q, a, h, ha => by
  simp only [argsT] at h
  split at h <;> try (cases h; done)
  rename_i p p' hp hp'
  cases h
  obtain ⟨g1, g2⟩ := Dyn.both_val ha
  obtain ⟨c, h1, h2, h3, _⟩ := rdC_ok (G := G) (fl := p.1) (q := p.2) hp hr hrd g1
  obtain ⟨l, h4, h5, h6⟩ := argsT_ok hr hrd (G := G) (fl := p'.1) (q := p'.2) hp' g2
  refine ⟨c :: l, ?_, by unfold Can; exact ⟨c, l, rfl, h2, h5⟩, fun hh => ?_⟩
  ·have e : allM (fun x => close rd (so G st.fr x)) (x :: y :: xs) = (close rd (so G st.fr x)).bind fun b => (allM (fun x => close rd (so G st.fr x)) (y :: xs)).map fun bs => b :: bs := rfl
   rw [e, h1, h4]; rfl
  ·simp only [Bool.and_eq_true] at hh
   have := h6 hh.2
   rw [List.all_cons, h3 hh.1, this]; rfl
theorem enc_ml {t : Ty} {x : D t} (hv : t.val = true) (ho : t.ok = true) (hm : mlT t = true) : memless (enc t x) = true := by
 have := mlT_can hm (Can.enc x hv ho)
 simpa [memlessL] using this
theorem callF_ok (hT : TOk X E) {a Rt : Ty} {fl : Bool} {n : Nat} (hn : lenR a = some n) : ∀ {t : Ty} {F : D t → D a → Option (D Rt)} {x : D t} {y : D a} {z : D Rt} {c : CV} {l : List CV}, callF X a Rt fl t = some F → F x y = some z → Can t x [c] → Can a y l →
  ∃ g caps s v, c = .fn g caps ∧ E.fn g (l ++ caps) = some (.val (enc (Sig.r s) v)) ∧ Can Rt z [enc s.r v] ∧ (fl || memless (enc s.r v)) = true := by
 have one : ∀ {g : Nat} {r : Ty} {s : Sig} {h : D (appR a r).1 → D s.a} {k : D s.r → D Rt} {c : D r} {y : D a} {z : D Rt} {caps l : List CV}, X.T g = some s → coeT (appR a r).1 s.a = some h → coeT s.r Rt = some k → (fl || mlT s.r) = true → (s.fn (h ((appR a r).2 y c))).map k = some z → Can r c caps → Can a y l →
   ∃ v, E.fn g (l ++ caps) = some (.val (enc s.r v)) ∧ Can Rt z [enc s.r v] ∧ (fl || memless (enc s.r v)) = true := by
  intro g r s h k c y z caps l hs hh hk hf hz hc hy
  obtain ⟨v, h1, h2⟩ := Option.map_eq_some_iff.1 hz
  obtain ⟨s1, s2, s3⟩ := hT.fn g s hs
  refine ⟨v, s3 _ _ v (coeT_can _ _ hh (appR_can hn hy hc)) h1, h2 ▸ coeT_can _ _ hk (Can.enc v s1 s2), ?_⟩
  cases fl with
  | true => rfl
  | false =>
   simp only [Bool.false_or] at hf ⊢
   exact enc_ml s1 s2 hf
 intro t
 induction t with
 | clo g r _ =>
  intro F x y z c l h hz hx hy
  simp only [callF] at h
  split at h <;> try (cases h; done)
  rename_i s hs
  split at h <;> try (cases h; done)
  rename_i hh kk h1 h2
  split at h <;> try (cases h; done)
  rename_i hf
  cases h
  unfold Can at hx
  obtain ⟨caps, e, hx⟩ := hx
  cases e
  obtain ⟨v, g1, g2, g3⟩ := one hs h1 h2 hf hz hx hy
  exact ⟨g, caps, s, v, rfl, g1, g2, g3⟩
 | falt g r l' _ ihl =>
  intro F x y z c l h hz hx hy
  simp only [callF] at h
  split at h <;> try (cases h; done)
  rename_i s hs
  split at h <;> try (cases h; done)
  rename_i hh kk FF h1 h2 h3
  split at h <;> try (cases h; done)
  rename_i hf
  cases h
  cases x with
  | inl w =>
   unfold Can at hx
   obtain ⟨caps, e, hx⟩ := hx
   cases e
   obtain ⟨v, g1, g2, g3⟩ := one hs h1 h2 hf hz hx hy
   exact ⟨g, caps, s, v, rfl, g1, g2, g3⟩
  | inr w =>
   unfold Can at hx
   exact ihl h3 hz hx.2 hy
 | nfn =>
  intro F x y z c l h hz
  simp only [callF, Option.some.injEq] at h
  subst h
  cases hz
 | _ => intro F x y z c l h; cases h
theorem callT_ok (hT : TOk X E) (hr : Rep Γ ρ st) (hrd : ∀ id, msk.contains id = false → rd id = st.ob id) {op : SOp} {q : Σ k : EK, Dyn (HS Γ) (DK k)} {y : DK q.1} (hcls : op.cls = .call) (h : callT X Γ msk op = some q) (hy : q.2.val ρ = some y) (d : Option Nat) :
  ∃ v, evalOp E rd st d op = some (st.set d (.c v)) ∧ RS q.1 y (.c v) := by
 cases op <;> try (cases h; done)
 case call f args =>
  simp only [callT] at h
  split at h <;> try (cases h; done)
  rename_i s hs
  split at h <;> try (cases h; done)
  rename_i p hp
  split at h <;> try (cases h; done)
  rename_i g hg
  split at h <;> try (cases h; done)
  rename_i hc
  cases h
  try dsimp only at hy
  obtain ⟨z, h1, h2⟩ := Dyn.comp_val hy
  obtain ⟨a, h3, h4⟩ := Dyn.map_val h1
  subst h4
  obtain ⟨l, h5, h6, h7⟩ := argsT_ok hr hrd (G := E.G) (fl := p.1) (q := p.2) hp h3
  obtain ⟨s1, s2, s3⟩ := hT.fn f s hs
  have h8 := s3 _ l y (coeT_can _ _ hg h6) h2
  refine ⟨enc s.r y, ?_, _, rfl, Can.enc y s1 s2⟩
  have hm : ((args.all fun x => isC (so E.G st.fr x)) || (Res.val (enc s.r y)).memless) = true := by
   cases hp1 : p.1 with
   | true => rw [h7 hp1]; rfl
   | false =>
    rw [hp1] at hc
    simp only [Bool.false_or] at hc
    simp [Res.memless, enc_ml s1 s2 hc]
  simp only [evalOp, SOp.cls, callOp, h5, Option.bind_some, List.append_nil, h8, hm, if_true, setRes]
 case callv f args =>
  simp only [callT] at h
  split at h <;> try (cases h; done)
  case h_2 =>
   rename_i g r lt e he
   split at h <;> try (cases h; done)
   rename_i s hs
   split at h <;> try (cases h; done)
   rename_i p hp
   split at h <;> try (cases h; done)
   rename_i n F hn hF
   cases h
   try dsimp only at hy
   obtain ⟨z, h1, h2⟩ := Dyn.comp_val hy
   obtain ⟨h3, h3'⟩ := Dyn.both_val h1
   obtain ⟨l, h5, h6, h7⟩ := argsT_ok hr hrd (G := E.G) (fl := p.1) (q := p.2) hp h3
   obtain ⟨c, e1, e2⟩ := rdV_ok (G := E.G) he hr h3'
   obtain ⟨g', caps, s', v, e3, h8, h9, h10⟩ := callF_ok hT hn hF h2 e2 h6
   subst e3
   refine ⟨enc s'.r v, ?_, _, rfl, h9⟩
   have hm : ((args.all fun x => isC (so E.G st.fr x)) || (Res.val (enc s'.r v)).memless) = true := by
    cases hp1 : p.1 with
    | true => rw [h7 hp1]; rfl
    | false =>
     rw [hp1] at h10
     simp only [Bool.false_or] at h10
     simp [Res.memless, h10]
   simp only [evalOp, SOp.cls, e1, callOp, h5, Option.bind_some, h8, hm, if_true, setRes]
  rename_i g r e he
  split at h <;> try (cases h; done)
  rename_i s hs
  split at h <;> try (cases h; done)
  rename_i p hp
  split at h <;> try (cases h; done)
  rename_i n k hn hk
  split at h <;> try (cases h; done)
  rename_i hc
  cases h
  try dsimp only at hy
  obtain ⟨z, h1, h2⟩ := Dyn.comp_val hy
  obtain ⟨a, h3, h4⟩ := Dyn.map_val h1
  obtain ⟨h3, h3'⟩ := Dyn.both_val h3
  subst h4
  obtain ⟨l, h5, h6, h7⟩ := argsT_ok hr hrd (G := E.G) (fl := p.1) (q := p.2) hp h3
  obtain ⟨c, e1, e2⟩ := rdV_ok (G := E.G) he hr h3'
  unfold Can at e2
  obtain ⟨caps, e3, e2⟩ := e2
  cases e3
  obtain ⟨s1, s2, s3⟩ := hT.fn g s hs
  have h8 := s3 _ (l ++ caps) y (coeT_can _ _ hk (appR_can hn h6 e2)) h2
  refine ⟨enc s.r y, ?_, _, rfl, Can.enc y s1 s2⟩
  have hm : ((args.all fun x => isC (so E.G st.fr x)) || (Res.val (enc s.r y)).memless) = true := by
   cases hp1 : p.1 with
   | true => rw [h7 hp1]; rfl
   | false =>
    rw [hp1] at hc
    simp only [Bool.false_or] at hc
    simp [Res.memless, enc_ml s1 s2 hc]
  simp only [evalOp, SOp.cls, e1, callOp, h5, Option.bind_some, h8, hm, if_true, setRes]
theorem softK_ok (hT : TOk X E) (hr : Rep Γ ρ st) (hrd : ∀ id, msk.contains id = false → rd id = st.ob id) {op : SOp} {q : Σ k : EK, Dyn (HS Γ) (DK k)} {y : DK q.1} (h : softK X Γ msk op = some q) (hy : q.2.val ρ = some y) (d : Option Nat) :
  ∃ sv, evalOp E rd st d op = some (st.set d sv) ∧ RS q.1 y sv := by
 unfold softK at h
 split at h
 ·rename_i hcls
  obtain ⟨sv, h1, h2⟩ := val_ok hr hrd h hy
  rw [← hT.G] at h1
  exact ⟨sv, by simp only [evalOp, hcls, h1, Option.map_some], h2⟩
 ·rename_i hcls
  obtain ⟨sv, h1, h2⟩ := val_ok hr hrd h hy
  rw [← hT.G] at h1
  exact ⟨sv, by simp only [evalOp, hcls, h1, Option.map_some], h2⟩
 ·rename_i hcls
  obtain ⟨v, h1, h2⟩ := callT_ok hT hr hrd hcls h hy d
  exact ⟨.c v, h1, h2⟩
 ·cases h
theorem listT_ok (hr : Rep Γ ρ st) {G : Nat → List CV} {t : Ty} : ∀ {xs : List SO} {e : Dyn (HS Γ) (List (D t))} {ys : List (D t)}, listT Γ t xs = some e → e.val ρ = some ys → ∃ l, allM (fun x => closed (so G st.fr x)) xs = some l ∧ CanAll (fun x c => Can t x [c]) ys l
 | [], e, ys, h, hy => by
  simp only [listT, Option.some.injEq] at h
  subst h
  cases hy
  exact ⟨[], rfl, rfl⟩
 | x :: xs, e, ys, h, hy => by
  simp only [listT] at h
  split at h <;> try (cases h; done)
  rename_i q e' hq he'
  split at h <;> try (cases h; done)
  rename_i g hg
  cases h
  obtain ⟨p, h1, h2⟩ := Dyn.map_val hy
  obtain ⟨h3, h4⟩ := Dyn.both_val h1
  obtain ⟨c, h5, h6⟩ := rdV_ok (G := G) hq hr h3
  obtain ⟨l, h7, h8⟩ := listT_ok hr (G := G) he' h4
  subst h2
  refine ⟨c :: l, ?_, c, l, rfl, coeT_can _ _ hg h6, h8⟩
  have e : allM (fun x => closed (so G st.fr x)) (x :: xs) = (closed (so G st.fr x)).bind fun b => (allM (fun x => closed (so G st.fr x)) xs).map fun bs => b :: bs := rfl
  rw [e, h5, h7]; rfl
theorem opNew_ok (hr : Rep Γ ρ st) {d : Nat} {op : SOp} {o : OpD Γ} {b : o.B} (h : opNew X Γ d op = some o) (hb : o.d.val ρ = some b) : ∃ v ob, newOp (so X.G st.fr) d op = some (v, ob) ∧ Rep o.Γ' (o.up ρ b) { fr := upd st.fr d v, ob := upd st.ob d ob } := by
 cases op <;> try (cases h; done)
 case alloc z =>
  simp only [opNew] at h
  split at h <;> try (cases h; done)
  rename_i q hq
  split at h <;> try (cases h; done)
  rename_i p hp
  cases h
  have hc := constR_can hq
  obtain ⟨h1, h2⟩ := pushR_ok (ρ := ρ) hp hc
  refine ⟨.ptr d 0, .box (z.map .c), rfl, Rep.newObj hr h1 ⟨z.map .c, rfl, by simp, fun j q' hj hq' => ?_⟩ rfl⟩
  rcases h2 j q' hq' with ⟨_, c, h3, h4⟩ | ⟨h3, _⟩
  ·exact ⟨.c c, by simpa using h3, h4⟩
  ·omega
 case box x =>
  simp only [opNew] at h
  split at h <;> try (cases h; done)
  ·rename_i r e he
   split at h <;> try (cases h; done)
   rename_i n p hn hp
   cases h
   try dsimp only at hb
   obtain ⟨c, e1, e2⟩ := rdV_ok (G := X.G) he hr hb
   unfold Can at e2
   obtain ⟨l, e3, e2⟩ := e2
   cases e3
   have hl := lenR_can hn e2
   obtain ⟨h1, h2⟩ := pushR_ok (ρ := ρ) hp e2
   refine ⟨.ptr d 0, .box (l.map .c), by simp only [newOp, e1], Rep.newObj hr h1 ⟨l.map .c, rfl, by simp [hl], fun j q' hj hq' => ?_⟩ rfl⟩
   rcases h2 j q' hq' with ⟨_, c, h3, h4⟩ | ⟨h3, _⟩
   ·exact ⟨.c c, by have h3' : l[j]? = some c := by simpa using h3
                    simp [h3'], h4⟩
   ·omega
  ·rename_i t e hne he
   split at h <;> try (cases h; done)
   rename_i h1
   cases h
   try dsimp only at hb
   obtain ⟨c, e1, e2⟩ := rdV_ok (G := X.G) he hr hb
   have hn : newOp (so X.G st.fr) d (.box x) = some (.ptr d 0, .box [.c c]) := by
    simp only [newOp, e1]
    have := oneT_can h1 e2
    cases c <;> first | rfl | (simp [oneC] at this)
   refine ⟨_, _, hn, ?_⟩
   have hx : ExtC d Γ ρ ((.c d 0, .v t) :: Γ) (b, ρ) := fun p q hq => by
    by_cases hp : Key.c d 0 = p
    ·exact .inl ⟨0, hp.symm⟩
    ·obtain ⟨f, hf, e⟩ := get_ne hp hq
     exact .inr ⟨f, hf, e _⟩
   refine Rep.newObj hr hx ⟨[.c c], rfl, rfl, fun j q' hj hq' => ?_⟩ rfl
   have hj0 : j = 0 := by omega
   subst hj0
   rw [get_eq] at hq'
   cases hq'
   exact ⟨.c c, rfl, c, rfl, e2⟩
 case mksl e size parts =>
  simp only [opNew] at h
  split at h <;> try (cases h; done)
  rename_i t ht
  split at h <;> try (cases h; done)
  rename_i l hl
  split at h <;> try (cases h; done)
  rename_i hv
  cases h
  obtain ⟨cs, h1, h2⟩ := listT_ok hr (G := X.G) hl hb
  have hall : (cs.all fun v => cellsN v == size) = true := by
   rw [List.all_eq_true]
   intro c hc
   obtain ⟨i, hi⟩ := List.getElem?_of_mem hc
   obtain ⟨a, _, h7⟩ := h2.getB hi
   simp [(cellsN_row hv.1 hv.2 h7).2]
  refine ⟨.osl d, .arr e size cs, ?_, Rep.newObj hr (ExtC.refl d) ⟨cs, rfl, h2⟩ rfl⟩
  simp only [newOp]
  rw [h1, Option.bind_some, if_pos hall]
 case mkmap mt kt z =>
  simp only [opNew] at h
  split at h <;> try (cases h; done)
  rename_i k v hm
  split at h <;> try (cases h; done)
  rename_i hh
  cases h
  have hk := ktB_ok hh.2.1
  subst hk
  exact ⟨.omap d, .map mt (ktT k) z [] [], rfl, Rep.newObj hr (ExtC.refl d) ⟨z, [], [], rfl, zeroOk_can hh.1, rfl, rfl⟩ rfl⟩
 case make e size bytes z x y =>
  simp only [opNew] at h
  split at h <;> try (cases h; done)
  rename_i t k dx k' dy ht hx hy
  split at h <;> try (cases h; done)
  rename_i hz
  cases h
  obtain ⟨p, h1, h2⟩ := Dyn.comp_val hb
  obtain ⟨h3, h4⟩ := Dyn.both_val h1
  obtain ⟨c1, e1, g1⟩ := rdV_ok (G := X.G) hx hr h3
  obtain ⟨c2, e2, g2⟩ := rdV_ok (G := X.G) hy hr h4
  unfold Can at g1 g2
  cases g1
  cases g2
  simp only [Dyn.val] at h2
  split at h2 <;> try (cases h2; done)
  rename_i hc
  cases h2
  refine ⟨.osl d, .arr e size (List.replicate p.1.toNat z), ?_, Rep.newObj hr (ExtC.refl d) ⟨_, rfl, CanAll.replicate (R := fun x c => Can t x [c]) (zeroOk_can hz) _⟩ rfl⟩
  simp only [newOp, e1, e2]
  rw [if_pos hc]
 case siter x =>
  simp only [opNew] at h
  split at h <;> try (cases h; done)
  rename_i e he
  cases h
  obtain ⟨c, e1, e2⟩ := rdV_ok (G := X.G) he hr hb
  unfold Can at e2
  cases e2
  exact ⟨.iter d, .siter b 0, by simp only [newOp, e1], Rep.newObj hr (ExtC.refl d) rfl rfl⟩
theorem newsT_ok (hr : Rep Γ ρ st) {G : Nat → List CV} {t : Ty} {x : SO} {l : Dyn (HS Γ) (List (D t))} {ys : List (D t)} (h : newsT Γ t x = some l) (hy : l.val ρ = some ys) : ∃ es, newsOf st (so G st.fr x) = some es ∧ CanAll (fun x c => Can t x [c]) ys es := by
 unfold newsT at h
 split at h <;> try (cases h; done)
 rename_i fl u e he
 split at h <;> try (cases h; done)
 rename_i g hg
 cases h
 obtain ⟨y, h1, h2⟩ := Dyn.map_val hy
 obtain ⟨c, h3, h4, _, h5⟩ := rdC_ok (msk := []) (rd := st.ob) (G := G) he hr (fun _ _ => rfl) h1
 have h6 := coeT_can _ _ hg h4
 unfold Can at h6
 obtain ⟨nl, es, e1, h6⟩ := h6
 cases e1
 refine ⟨es, ?_, h2 ▸ h6⟩
 rcases h5 with h5 | ⟨id, e', size, es', h5, h7, h8⟩ | ⟨nl', ks, vs, h5⟩
 ·rw [h5]; rfl
 ·cases h8
  rw [h5]
  simp only [newsOf, h7]
 ·cases h5
theorem cells_all {t : Ty} {n : Nat} {xs : List (D t)} {es : List CV} (hv : t.val = true) (hl : lenR (rowOf t) = some n) (ho : oneR (rowOf t) = true) (h : CanAll (fun x c => Can t x [c]) xs es) : (es.all (fun v => cellsN v == n) && es.all fun v => v.cells.all oneC) = true := by
 rw [Bool.and_eq_true, List.all_eq_true, List.all_eq_true]
 refine ⟨fun c hc => ?_, fun c hc => ?_⟩
 ·obtain ⟨i, hi⟩ := List.getElem?_of_mem hc
  obtain ⟨a, _, h7⟩ := h.getB hi
  simp [(cellsN_row hv hl h7).2]
 ·obtain ⟨i, hi⟩ := List.getElem?_of_mem hc
  obtain ⟨a, _, h7⟩ := h.getB hi
  exact oneR_can ho (rowOf_can hv h7)
theorem putT_ok {t u : Ty} {o n : Nat} {g : D t → D u → D t} (h : putT t o n u = some g) {x : D t} {y : D u} {c c' : CV} (hv : t.val = true) (hx : Can t x [c]) (hy : Can u y [c']) :
  cellsN c' = n ∧ o + n ≤ cellsN c ∧ Can t (g x y) [putC c o n c'] := by
 have single : ∀ {f : D u → D t}, n = 1 ∧ o = 0 ∧ oneT u = true → coeT u t = some f → (∀ l, c ≠ .agg l) → cellsN c' = n ∧ o + n ≤ cellsN c ∧ Can t (f y) [putC c o n c'] := by
  intro f ⟨h1, h2, h3⟩ hf hna
  have ho := oneT_can h3 hy
  have h4 : cellsN c' = 1 := by cases c' <;> first | rfl | (simp [oneC] at ho)
  have h5 : cellsN c = 1 := by cases c <;> first | rfl | (exact absurd rfl (hna _))
  have h6 : putC c o n c' = c' := by cases c <;> first | rfl | (exact absurd rfl (hna _))
  rw [h6]
  exact ⟨by omega, by omega, coeT_can _ _ hf hy⟩
 cases t
 case agg r =>
  simp only [putT] at h
  split at h <;> try (cases h; done)
  rename_i m q hm hq
  split at h <;> try (cases h; done)
  rename_i he
  split at h <;> try (cases h; done)
  rename_i hn
  cases h
  obtain ⟨r', f⟩ := q
  simp only at he
  subst he
  unfold Can at hx
  obtain ⟨l, e, hx⟩ := hx
  cases e
  obtain ⟨g1, g2⟩ := putR_can hq hx (rowOf_can hn.2 hy)
  obtain ⟨n1, n2⟩ := cellsN_row hn.2 hm hy
  rw [n1] at g1 g2
  rw [hn.1] at n2 g1 g2
  refine ⟨n2, g2, ?_⟩
  unfold Can
  exact ⟨_, rfl, g1⟩
 case falt f0 r0 l0 =>
  simp only [putT] at h
  split at h <;> try (cases h; done)
  rename_i hh
  split at h <;> try (cases h; done)
  rename_i f hf
  have hg := Option.some.inj h
  rw [← hg]
  refine single hh hf fun l hl => ?_
  subst hl
  obtain ⟨c1, e, _, e2⟩ := isFn_fn (t := .falt f0 r0 l0) hv hx
  cases e
  exact (e2 _).1 rfl
 all_goals (try (cases hv; done))
 all_goals
  simp only [putT] at h
  split at h <;> try (cases h; done)
  rename_i hh
  split at h <;> try (cases h; done)
  rename_i f hf
  have hg := Option.some.inj h
  rw [← hg]
  refine single hh hf fun l hl => ?_
  subst hl
  unfold Can at hx
  first
   | (cases hx; done)
   | (obtain ⟨_, e, _⟩ := hx; cases e; done)
   | (obtain ⟨_, _, e, _⟩ := hx; cases e; done)
   | (obtain ⟨_, _, _, e, _⟩ := hx; cases e; done)
   | (cases x <;> cases hx; done)
theorem alGet_key {α β : Type} {eq : α → α → Bool} {z : β} {x : α} {y : β} : ∀ {m : List (α × β)}, (alGet eq z x m).2 = true → (alPut eq x y m).map (·.1) = m.map (·.1)
 | [], h => by cases h
 | p :: m, h => by
  unfold alGet at h
  unfold alPut
  split
  ·rfl
  ·rename_i hp
   rw [if_neg hp] at h
   simp [alGet_key h]
theorem CanAll.fst {α β γ : Type} {R : α → γ → Prop} : ∀ {m m' : List (α × β)} {ks : List γ}, m.map (·.1) = m'.map (·.1) → CanAll (fun x c => R x.1 c) m ks → CanAll (fun x c => R x.1 c) m' ks
 | [], [], _, _, h => h
 | [], _ :: _, _, e, _ => by cases e
 | _ :: _, [], _, e, _ => by cases e
 | p :: m, p' :: m', ks, e, h => by
  simp only [List.map_cons, List.cons.injEq] at e
  obtain ⟨c, ks', rfl, h1, h2⟩ := h
  exact ⟨c, ks', rfl, (by show R p'.1 c; rw [← e.1]; exact h1), CanAll.fst e.2 h2⟩
theorem cell_turn {id nb off : Nat} {fo : HS Γ → DK (.box nb)} {cs : List SV} {k : EK} {x : DK k} {sv : SV} (hr : Rep Γ ρ st) (ho : get Γ (.o id) = some ⟨.box nb, fo⟩) (hl : cs.length = nb) (hcs : ∀ j q, j < nb → get Γ (.c id j) = some q → ∃ sv, cs[j]? = some sv ∧ RS q.1 (q.2 ρ) sv)
  (hoff : off < nb) (hs : RS k x sv) : Rep ((.c id off, k) :: Γ) (x, ρ) { st with ob := upd st.ob id (.box (cs.set off sv)) } := by
 refine Rep.turnCells hr (Γc := (.c id off, k) :: Γ) (ρc := (x, ρ)) (fun p q hq => ?_) ho (cs := cs.set off sv) (by simp [hl]) fun j q hj hq => ?_
 ·by_cases hp : Key.c id off = p
  ·exact .inl ⟨off, hp.symm⟩
  ·obtain ⟨f, hf, e⟩ := get_ne hp hq
   exact .inr ⟨f, hf, e _⟩
 ·by_cases hjo : off = j
  ·subst hjo
   rw [get_eq] at hq
   cases hq
   exact ⟨sv, by simp [List.getElem?_set]; omega, hs⟩
  ·obtain ⟨f, hf, e'⟩ := get_ne (by simpa using hjo) hq
   obtain ⟨sv', h6, h7⟩ := hcs j _ hj hf
   exact ⟨sv', by simp [hjo, h6], (e' _) ▸ h7⟩
theorem Rep.newObjS {d id : Nat} {k ko : EK} {x : DK k} {y : DK ko} {v : SV} {o : Ob} (h : Rep Γ ρ st) (ho : RO Γ ρ id ko y o) (hs : RS k x v) :
  Rep ((.s d, k) :: (.o id, ko) :: Γ) (x, y, ρ) { fr := upd st.fr d v, ob := upd st.ob id o } := by
 have h1 := Rep.turnObj h ho
 have h2 := Rep.set h1 (d := d) hs
 exact h2
theorem le_bytes {n : Nat} {i : Int} (e : (n : Int) = i) (h : i ≤ 140737488355328) : n ≤ 140737488355328 := by omega
theorem le_many {n : Nat} {i : Int} (e : (n : Int) = i) (h : i ≤ 4611686018427387904) : n ≤ 4611686018427387904 := by omega
theorem setI_ok {id : Nat} {t : Ty} {o nb : Nat} {cs : List SV} (hcs : ∀ j q, j < nb → get Γ (.c id j) = some q → ∃ sv, cs[j]? = some sv ∧ RS q.1 (q.2 ρ) sv) {i : Nat} {y : D t} {c : CV} (hc : Can t y [c]) : ∀ {n j : Nat} {p : Σ Γ' : TC, HS Γ → Nat → D t → HS Γ'}, setI Γ id t o n j = some p → o + j + n ≤ nb →
  ExtC id Γ ρ p.1 (p.2 ρ i y) ∧ ∀ j' q, get p.1 (.c id j') = some q → (o + j ≤ j' ∧ j' < o + j + n ∧ ∃ sv, (if j' = o + i then some (.c c) else cs[j']?) = some sv ∧ RS q.1 (q.2 (p.2 ρ i y)) sv) ∨ ((j' < o + j ∨ o + j + n ≤ j') ∧ ∃ f, get Γ (.c id j') = some ⟨q.1, f⟩ ∧ q.2 (p.2 ρ i y) = f ρ)
 | 0, j, p, h, _ => by
  simp only [setI, Option.some.injEq] at h
  subst h
  exact ⟨ExtC.refl id, fun j' q hq => .inr ⟨by omega, q.2, hq, rfl⟩⟩
 | n + 1, j, p, h, hb => by
  simp only [setI] at h
  split at h <;> try (cases h; done)
  rename_i u f p' hf hp'
  split at h <;> try (cases h; done)
  rename_i hu
  subst hu
  cases h
  obtain ⟨g1, g2⟩ := setI_ok hcs hc hp' (by omega)
  refine ⟨fun k q hq => ?_, fun j' q hq => ?_⟩
  ·by_cases hk : Key.c id (o + j) = k
   ·exact .inl ⟨_, hk.symm⟩
   ·obtain ⟨f', hf', e⟩ := get_ne hk hq
    rcases g1 _ _ hf' with hh | ⟨f2, hf2, e2⟩
    ·exact .inl hh
    ·exact .inr ⟨f2, hf2, (e _).trans e2⟩
  ·by_cases hj : j' = o + j
   ·subst hj
    rw [get_eq] at hq
    cases hq
    refine .inl ⟨by omega, by omega, ?_⟩
    by_cases hi : i = j
    ·subst hi
     refine ⟨.c c, by simp, c, rfl, ?_⟩
     simpa using hc
    ·obtain ⟨sv, h1, h2⟩ := hcs (o + j) _ (by omega) hf
     refine ⟨sv, by rw [if_neg (by omega)]; exact h1, ?_⟩
     simp only [hi, if_false]
     exact h2
   ·obtain ⟨f', hf', e⟩ := get_ne (by simpa using Ne.symm hj) hq
    rcases g2 j' _ hf' with ⟨k1, k2, sv, k3, k4⟩ | ⟨k1, f2, k2, k3⟩
    ·exact .inl ⟨by omega, by omega, sv, k3, (e _) ▸ k4⟩
    ·exact .inr ⟨by omega, f2, k2, (e _).trans k3⟩
theorem opEff_ok (hr : Rep Γ ρ st) {d : Option Nat} {op : SOp} {o : OpD Γ} {b : o.B} (h : opEff X Γ d op = some o) (hb : o.d.val ρ = some b) : ∃ st', effOp d (so X.G st.fr) st op = some st' ∧ Rep o.Γ' (o.up ρ b) st' := by
 cases op <;> try (cases h; done)
 case store n a x =>
  simp only [opEff] at h
  split at h <;> try (cases h; done)
  ·rename_i id off fa ha
   have ha' : so X.G st.fr a = .ptr id off := rdK_ok ha hr (a := fa ρ) rfl
   split at h <;> try (cases h; done)
   rename_i nb fo ho
   obtain ⟨cs, e, hl, hcs⟩ := hr.o id _ ho
   split at h <;> try (cases h; done)
   ·rename_i r ex hx
    split at h <;> try (cases h; done)
    rename_i m p hm hp
    split at h <;> try (cases h; done)
    rename_i hh
    cases h
    obtain ⟨c, e1, e2⟩ := rdK_ok hx hr hb
    unfold Can at e2
    obtain ⟨l, e3, e2⟩ := e2
    cases e3
    have hlen := lenR_can hm e2
    obtain ⟨h1, h2⟩ := pushR_ok (ρ := ρ) hp e2
    refine ⟨_, ?_, Rep.turnCells hr h1 ho (cs := setCells cs off (l.map .c)) ?_ fun j q hj hq => ?_⟩
    ·simp only [effOp, ha', e, e1]
     rw [if_pos ⟨by omega, by omega, oneR_can hh.2.2 e2⟩]
    ·simp [setCells]; omega
    ·rcases h2 j q hq with ⟨h3, c, h4, h5⟩ | ⟨h3, f, h4, h5⟩
     ·have hjl := (List.getElem?_eq_some_iff.1 h4).1
      refine ⟨.c c, ?_, h5⟩
      simp only [setCells]
      rw [List.append_assoc, List.getElem?_append_right (by simp; omega), List.getElem?_append_left (by simp; omega)]
      have : j - (cs.take off).length = j - off := by simp; omega
      rw [this, List.getElem?_map, h4]; rfl
     ·obtain ⟨sv, h6, h7⟩ := hcs j _ hj h4
      refine ⟨sv, ?_, h5 ▸ h7⟩
      simp only [setCells]
      rcases h3 with h3 | h3
      ·rw [List.append_assoc, List.getElem?_append_left (by simp; omega), List.getElem?_take_of_lt h3, h6]
      ·rw [List.getElem?_append_right (by simp; omega), List.getElem?_drop]
       have : off + (l.map SV.c).length + (j - (cs.take off ++ l.map SV.c).length) = j := by simp; omega
       rw [this, h6]
   ·rename_i t ex hna hx
    split at h <;> try (cases h; done)
    rename_i hh
    cases h
    obtain ⟨c, e1, e2⟩ := rdK_ok hx hr hb
    have ho1 := oneT_can hh.2.2 e2
    refine ⟨_, ?_, cell_turn hr ho hl hcs hh.2.1 (k := .v t) (x := b) (sv := .c c) ⟨c, rfl, e2⟩⟩
    simp only [effOp, ha', e, e1]
    cases c <;> first
     | (simp [oneC] at ho1; done)
     | (exact if_pos ⟨hh.1, by omega, ho1⟩)
   ·rename_i i fx hx
    split at h <;> try (cases h; done)
    rename_i hh
    cases h
    have e1 : so X.G st.fr x = .osl i := rdK_ok hx hr (a := fx ρ) rfl
    refine ⟨_, ?_, cell_turn hr ho hl hcs hh.2 (k := .own i) (x := ()) (sv := .osl i) rfl⟩
    simp only [effOp, ha', e, e1]
    exact if_pos ⟨hh.1, by omega, rfl⟩
   ·rename_i i fx hx
    split at h <;> try (cases h; done)
    rename_i hh
    cases h
    have e1 : so X.G st.fr x = .omap i := rdK_ok hx hr (a := fx ρ) rfl
    refine ⟨_, ?_, cell_turn hr ho hl hcs hh.2 (k := .mp i) (x := ()) (sv := .omap i) rfl⟩
    simp only [effOp, ha', e, e1]
    exact if_pos ⟨hh.1, by omega, rfl⟩
  ·rename_i id len off di ha
   split at h <;> try (cases h; done)
   rename_i nb fo ho
   obtain ⟨cs, e, hl, hcs⟩ := hr.o id _ ho
   split at h <;> try (cases h; done)
   rename_i t ex hx
   split at h <;> try (cases h; done)
   rename_i p hp
   split at h <;> try (cases h; done)
   rename_i hh
   obtain ⟨hn, hbd, hone⟩ := hh
   cases h
   obtain ⟨h3, h4⟩ := Dyn.both_val hb
   obtain ⟨ha', hi⟩ := rdK_ok ha hr h3
   have hlt : off + b.1 < cs.length := by
    have : b.1 < len := hi
    rw [hl]
    exact Nat.lt_of_lt_of_le (Nat.add_lt_add_left this off) hbd
   obtain ⟨c, e1, e2⟩ := rdV_ok (G := X.G) hx hr h4
   have ho1 := oneT_can hone e2
   obtain ⟨h1, h2⟩ := setI_ok (i := b.1) hcs e2 hp (by omega)
   refine ⟨_, ?_, Rep.turnCells hr h1 ho (cs := cs.set (off + b.1) (.c c)) (by simpa using hl) fun j q hj hq => ?_⟩
   ·simp only [effOp, ha', e, e1]
    cases c <;> first
     | (simp [oneC] at ho1; done)
     | (exact if_pos ⟨hn, hlt, ho1⟩)
   ·rcases h2 j q hq with ⟨_, _, sv, h6, h7⟩ | ⟨h5, f, h6, h7⟩
    ·refine ⟨sv, ?_, h7⟩
     rw [← h6, List.getElem?_set]
     by_cases hji : j = off + b.1
     ·subst hji
      rw [if_pos rfl, if_pos hlt, if_pos rfl]
     ·rw [if_neg (Ne.symm hji), if_neg hji]
    ·obtain ⟨sv, h8, h9⟩ := hcs j _ hj h6
     refine ⟨sv, ?_, h7 ▸ h9⟩
     rw [List.getElem?_set_ne (by have : b.1 < len := hi; omega)]
     exact h8
  ·rename_i id size off di ha
   split at h <;> try (cases h; done)
   rename_i e' sz t xs ho
   split at h <;> try (cases h; done)
   rename_i u dx hx
   split at h <;> try (cases h; done)
   rename_i g hg
   split at h <;> try (cases h; done)
   rename_i hh
   obtain ⟨hsz, hn, hv, hlt, hone⟩ := hh
   cases h
   obtain ⟨w, h1, h2⟩ := Dyn.comp_val hb
   obtain ⟨p, h3, h4⟩ := Dyn.map_val h1
   obtain ⟨h5, h6⟩ := Dyn.both_val h3
   have h2' : w = some b := h2
   rw [h2'] at h4
   obtain ⟨el, h7, h8⟩ := Option.map_eq_some_iff.1 h4.symm
   have ha' : so X.G st.fr a = .eptr id p.1 size off := rdK_ok ha hr h5
   obtain ⟨c, e1, e2⟩ := rdV_ok (G := X.G) hx hr h6
   obtain ⟨es, e, hes⟩ := hr.o id _ ho
   obtain ⟨c0, h9, h10⟩ := hes.get h7
   obtain ⟨g1, g2, g3⟩ := putT_ok hg hv h10 e2
   have hob : c.cells.all oneC = true := by
    unfold putT at hg
    cases hu : u.val with
    | true => exact oneR_can hone (rowOf_can hu e2)
    | false =>
     exfalso
     split at hg
     ·split at hg <;> try (cases hg; done)
      split at hg <;> try (cases hg; done)
      split at hg <;> try (cases hg; done)
      rename_i hh
      rw [hu] at hh
      cases hh.2
     ·split at hg <;> try (cases hg; done)
      rename_i hh
      have := hh.2.2
      cases u <;> first | (cases hu; done) | (cases this; done) | (simp only [Ty.val] at hu; simp only [oneT] at this; rw [hu] at this; cases this; done)
   refine ⟨_, ?_, Rep.turnObj hr (k := .arr e' sz t) (y := b) ⟨es.set p.1 (putC c0 off n c), rfl, h8 ▸ hes.set p.1 g3⟩⟩
   simp only [effOp, ha', e, e1]
   rw [if_pos ⟨hsz, hn, g1, hob⟩, h9, Option.bind_some, if_pos g2]
  ·rename_i da ha
   split at h <;> try (cases h; done)
   rename_i dx hx
   split at h <;> try (cases h; done)
   rename_i hn
   cases h
   obtain ⟨p, h1, h2⟩ := Dyn.comp_val hb
   obtain ⟨h3, h4⟩ := Dyn.both_val h1
   obtain ⟨c, e1, e2⟩ := rdK_ok ha hr h3
   unfold Can at e2
   obtain ⟨l, e3, e2⟩ := e2
   cases e3
   unfold Can at e2
   obtain ⟨c', rfl, e2⟩ := e2
   unfold Can at e2
   cases e2
   obtain ⟨c2, g1, g2⟩ := rdV_ok (G := X.G) hx hr h4
   unfold Can at g2
   cases g2
   simp only [Dyn.val, Option.ite_none_right_eq_some] at h2
   obtain ⟨h5, _⟩ := h2
   refine ⟨st, ?_, hr⟩
   simp only [effOp, e1, g1]
   exact if_pos ⟨hn, h5⟩
 case append e size bytes x y =>
  simp only [opEff] at h
  split at h <;> try (cases h; done)
  ·rename_i id fx hx
   split at h <;> try (cases h; done)
   rename_i e' size' t xs ho
   split at h <;> try (cases h; done)
   rename_i l d' hl
   split at h <;> try (cases h; done)
   rename_i hh
   obtain ⟨he, hs, hv, hlr, hone⟩ := hh
   cases h
   have hx' : so X.G st.fr x = .osl id := rdK_ok hx hr (a := fx ρ) rfl
   obtain ⟨w, h1, h2⟩ := Dyn.comp_val hb
   obtain ⟨ys, h3, h4⟩ := Dyn.map_val h1
   have h2' : w = some b := h2
   rw [h2'] at h4
   split at h4 <;> try (cases h4; done)
   rename_i hc
   cases h4
   obtain ⟨news, h5, h6⟩ := newsT_ok hr (G := X.G) hl h3
   obtain ⟨es, e0, hes⟩ := hr.o id _ ho
   have hall := cells_all hv hlr hone h6
   have hl1 := hes.length
   have hl2 := h6.length
   refine ⟨_, ?_, Rep.newObjS (hr.kill [id]) (k := .own id) (ko := .arr e size t) (x := ()) (y := xs ρ ++ ys) (v := .osl id) (o := .arr e size (es ++ news)) ⟨_, rfl, hes.append h6⟩ rfl⟩
   simp only [effOp, h5, hall, if_true, hx', e0]
   rw [if_pos ⟨he, hs, by rw [hl1, hl2]; exact le_bytes (by rw [Int.natCast_mul, Int.natCast_add]) hc.1, by rw [hl1, hl2]; exact le_many (by rw [Int.natCast_add]) hc.2⟩]
   rfl
  ·rename_i fx hx
   split at h <;> try (cases h; done)
   rename_i t ht
   split at h <;> try (cases h; done)
   rename_i l d' hl
   split at h <;> try (cases h; done)
   rename_i hh
   obtain ⟨hv, hlr, hone⟩ := hh
   cases h
   obtain ⟨c, hx', hcx⟩ := rdK_ok hx hr (a := fx ρ) rfl
   unfold Can at hcx
   cases hcx
   obtain ⟨ys, h1, h2⟩ := Dyn.comp_val hb
   simp only [Dyn.val] at h2
   split at h2 <;> try (cases h2; done)
   rename_i hc
   cases h2
   obtain ⟨news, h5, h6⟩ := newsT_ok hr (G := X.G) hl h1
   have hall := cells_all hv hlr hone h6
   have hl2 := h6.length
   refine ⟨_, ?_, Rep.newObjS (hr.kill [d']) (k := .own d') (ko := .arr e size t) (x := ()) (y := b) (v := .osl d') (o := .arr e size news) ⟨_, rfl, h6⟩ rfl⟩
   simp only [effOp, h5, hall, if_true, hx']
   rw [if_pos ⟨by rw [hl2]; exact le_bytes (by rw [Int.natCast_mul]) hc.1, by rw [hl2]; exact le_many rfl hc.2⟩]
 case mapent mt x k =>
  simp only [opEff] at h
  split at h <;> try (cases h; done)
  rename_i id fx q d' hx hk
  split at h <;> try (cases h; done)
  rename_i mt' kt vt m ho
  split at h <;> try (cases h; done)
  rename_i g hg
  split at h <;> try (cases h; done)
  rename_i hh
  obtain ⟨hm, hp⟩ := hh
  cases h
  have hx' : so X.G st.fr x = .omap id := rdK_ok hx hr (a := fx ρ) rfl
  dsimp only at hb
  obtain ⟨y, h1, h2⟩ := Dyn.map_val hb
  obtain ⟨ck, e1, e2⟩ := rdV_ok (G := X.G) hk hr h1
  have e3 := coeT_can _ _ hg e2
  obtain ⟨z, ks, vs, e0, hz, hks, hvs⟩ := hr.o id _ ho
  obtain ⟨cv, l1, l2⟩ := look_ok hp e3 hz hks hvs
  obtain ⟨i1, i2⟩ := insert_ok hp e3 l2 hks hvs
  subst h2
  refine ⟨_, ?_, Rep.newObjS hr (k := .ent id kt vt) (ko := .mob mt kt vt) (x := _) (y := _) (v := .ent id ck cv) (o := .map mt (ktT kt) z (insertK (ktT kt) ks ck) (insertV (ktT kt) ks vs ck cv)) ⟨z, _, _, rfl, hz, i1, i2⟩ ⟨ck, cv, rfl, e3, l2⟩⟩
  simp only [effOp, hx', e1, e0]
  rw [if_pos ⟨hm, (eqZ_ok hp e3 e3).2, by rw [hks.length, hvs.length]⟩]
  simp only [l1, St.set, hm]
 case entst x s v =>
  simp only [opEff] at h
  split at h <;> try (cases h; done)
  rename_i id fx id' kt fs q hx hs hv
  split at h <;> try (cases h; done)
  rename_i mt kt' vt m ho
  split at h <;> try (cases h; done)
  rename_i g hg
  split at h <;> try (cases h; done)
  rename_i hk
  subst hk
  split at h <;> try (cases h; done)
  rename_i hh
  obtain ⟨hid, hp⟩ := hh
  subst hid
  cases h
  have hx' : so X.G st.fr x = .omap id := rdK_ok hx hr (a := fx ρ) rfl
  obtain ⟨ck, hs', hck⟩ := rdK_ok hs hr (a := fs ρ) rfl
  obtain ⟨w, h1, h2⟩ := Dyn.comp_val hb
  obtain ⟨y, h3, h4⟩ := Dyn.map_val h1
  have h2' : w = some b := h2
  rw [h2'] at h4
  split at h4 <;> try (cases h4; done)
  rename_i hkey
  cases h4
  obtain ⟨cv, e1, e2⟩ := rdV_ok (G := X.G) hv hr h3
  have e3 := coeT_can _ _ hg e2
  obtain ⟨z, ks, vs, e0, hz, hks, hvs⟩ := hr.o id _ ho
  obtain ⟨i1, i2⟩ := insert_ok hp hck e3 hks hvs
  refine ⟨_, ?_, Rep.turnObj hr (k := .mob mt kt vt) (y := alPut (eqZ kt) (fs ρ) (g y) (m ρ)) ⟨z, ks, insertV (ktT kt) ks vs ck cv, rfl, hz, CanAll.fst (R := fun k c => Can kt k [c]) (alGet_key hkey).symm hks, i2⟩⟩
  simp only [effOp, hx', hs', e1, e0, if_true]
 case mapupd mt x k v =>
  simp only [opEff] at h
  split at h <;> try (cases h; done)
  rename_i id fx q p hx hk hv
  split at h <;> try (cases h; done)
  rename_i mt' kt vt m ho
  split at h <;> try (cases h; done)
  rename_i g f hg hf
  split at h <;> try (cases h; done)
  rename_i hh
  obtain ⟨hm, hp⟩ := hh
  cases h
  have hx' : so X.G st.fr x = .omap id := rdK_ok hx hr (a := fx ρ) rfl
  dsimp only at hb
  obtain ⟨y, h1, h2⟩ := Dyn.map_val hb
  obtain ⟨h3, h4⟩ := Dyn.both_val h1
  obtain ⟨ck, e1, e2⟩ := rdV_ok (G := X.G) hk hr h3
  obtain ⟨cv, e1', e2'⟩ := rdV_ok (G := X.G) hv hr h4
  have e3 := coeT_can _ _ hg e2
  have e3' := coeT_can _ _ hf e2'
  obtain ⟨z, ks, vs, e0, hz, hks, hvs⟩ := hr.o id _ ho
  obtain ⟨i1, i2⟩ := insert_ok hp e3 e3' hks hvs
  refine ⟨_, ?_, Rep.turnObj hr (k := .mob mt kt vt) (y := b) ⟨z, insertK (ktT kt) ks ck, insertV (ktT kt) ks vs ck cv, rfl, hz, h2 ▸ i1, h2 ▸ i2⟩⟩
  simp only [effOp, hx', e1, e1', e0]
  rw [if_pos ⟨hm, (eqZ_ok hp e3 e3).2⟩, hm]
theorem opCopy_ok (hT : TOk X E) (hr : Rep Γ ρ st) {d : Option Nat} {op : SOp} {o : OpD Γ} {b : o.B} (h : opCopy X Γ d op = some o) (hb : o.d.val ρ = some b) (rd : Nat → Ob) : ∃ st', evalOp E rd st d op = some st' ∧ Rep o.Γ' (o.up ρ b) st' := by
 unfold opCopy at h
 split at h <;> try (cases h; done)
 rename_i f x y
 split at h <;> try (cases h; done)
 rename_i hcp
 split at h <;> try (cases h; done)
 rename_i id fx ut q d hx hy
 split at h <;> try (cases h; done)
 rename_i mt vt m ho
 split at h <;> try (cases h; done)
 rename_i g hg
 cases h
 have hx' : so X.G st.fr x = .omap id := rdK_ok hx hr (a := fx ρ) rfl
 obtain ⟨w, h1, h2⟩ := Dyn.comp_val hb
 obtain ⟨yv, h3, h4⟩ := Dyn.map_val h1
 have h2' : w = some b := h2
 rw [h2'] at h4
 have h5 : mcopyP (m ρ) (g yv) = some b := h4.symm
 unfold mcopyP at h5
 split at h5 <;> try (cases h5; done)
 rename_i hcond
 obtain ⟨c1, c2, c3⟩ := hcond
 simp only [Option.some.injEq] at h5
 obtain ⟨cv, e1, e2⟩ := rdV_ok (G := X.G) hy hr h3
 have e3 := coeT_can _ _ hg e2
 obtain ⟨z, ks, vs, e0, hz, hks, hvs⟩ := hr.o id _ ho
 have hm : m ρ = [] := List.isEmpty_iff.1 c1
 replace hks : CanAll (fun (x : List UInt8 × D vt) c => Can .str x.1 [c]) (m ρ) ks := hks
 replace hvs : CanAll (fun (x : List UInt8 × D vt) c => Can vt x.2 [c]) (m ρ) vs := hvs
 rw [hm] at hks hvs
 unfold CanAll at hks hvs
 subst hks; subst hvs
 unfold Can at e3
 obtain ⟨nl, ks, us, e4, k1, k2⟩ := e3
 cases e4
 have key : ∀ (l : List (List UInt8 × D vt)) (ks : List CV), CanAll (fun x c => Can .str x.1 [c]) l ks → (l.all fun p => decide (p.1.length ≤ 9223372036854775807)) = true → ks.all strK = true := by
  intro l
  induction l with
  | nil => intro ks h _; unfold CanAll at h; subst h; rfl
  | cons p l ih =>
   intro ks h hl
   obtain ⟨c, ks', rfl, q1, q2⟩ := h
   simp only [List.all_cons, Bool.and_eq_true] at hl ⊢
   unfold Can at q1
   cases q1
   exact ⟨hl.1, ih ks' q2 hl.2⟩
 have kl : ks.length ≤ 9223372036854775807 := by rw [k1.length]; exact c3
 subst h5
 refine ⟨_, ?_, Rep.set (Rep.turnObj hr (k := .mob mt .str vt) (y := g yv) ⟨z, ks, us, rfl, hz, k1, k2⟩) (k := .v (.tup .nil)) (x := ()) ⟨.tup [], rfl, by unfold Can; exact ⟨[], rfl, by unfold Can; rfl⟩⟩⟩
 have hcp' : E.cp f = true := by rw [hT.cp]; exact hcp
 have e0' : st.ob id = .map mt .str z [] [] := e0
 show copyOp E (so E.G st.fr) st (some d) f x y = _
 unfold copyOp
 rw [if_pos hcp', hT.G, hx', e1]
 dsimp only
 rw [e0']
 dsimp only
 rw [if_pos ⟨key _ _ k1 c2, kl⟩]
 rfl
end
end WB
namespace WB
open Go Go.RowKit
def Seen (st st' : St) : Prop := ∀ {P : Program} {G : Nat → List CV} {w0 : World} {M0 : Nat → Prop} {n : Nat} {a : Act} {w : World} {z : Cz}, SR P G w0 M0 n st a w z → ∃ z', SR P G w0 M0 n st' a w z'
theorem Seen.refl (st : St) : Seen st st := fun h => ⟨_, h⟩
theorem Seen.trans {s t u : St} (h : Seen s t) (k : Seen t u) : Seen s u := fun hs => by
 obtain ⟨z', h1⟩ := h hs
 exact k h1
theorem Seen.kill (st : St) (ids : List Nat) : Seen st (WB.kill ids st) := fun h => ⟨_, h.killed ids⟩
section
variable {P : Program} {G : Nat → List CV} {w0 : World} {M0 : Nat → Prop} {n : Nat} {st : St} {a : Act} {w : World} {z : Cz}
theorem SR.reslot (h : SR P G w0 M0 n st a w z) {i : Nat} {sv : SV} (hs : RelS w (mutb M0 z st.ob) z st.ob sv (a.tmps.getD i undef)) : SR P G w0 M0 n { st with fr := upd st.fr i sv } a w z := by
 refine ⟨h.size, h.defers, h.below, h.outer, h.glob, fun j => ?_, h.ob, h.lo, h.apart⟩
 show RelS w _ z st.ob (upd st.fr i sv j) _
 by_cases hj : j = i
 ·subst hj; rw [upd_same]; exact hs
 ·rw [upd_ne _ _ hj]; exact h.fr j
theorem SR.reob (h : SR P G w0 M0 n st a w z) {b : Nat} {o : Ob} (hl : st.ob b ≠ .none) (hl' : o ≠ .none) (ho : RelO P w (mutb M0 z st.ob) w0.heap.size z st.ob b (z.σ b) o) : SR P G w0 M0 n { st with ob := upd st.ob b o } a w z := by
 have live : ∀ id, upd st.ob b o id ≠ .none ↔ st.ob id ≠ .none := by
  intro id
  by_cases hid : id = b
  ·subst hid; simp [upd_same, hl, hl']
  ·rw [upd_ne _ _ hid]
 have hm : ∀ g, mutb M0 z (upd st.ob b o) g → mutb M0 z st.ob g := fun g hg => hg.imp id fun ⟨id, h1, h2⟩ => ⟨id, (live id).1 h1, h2⟩
 have hk : Keeps w (mutb M0 z st.ob) w (mutb M0 z (upd st.ob b o)) := ⟨Nat.le_refl _, fun _ _ _ => rfl, fun g _ hg => hm g hg⟩
 have hz : ∀ s, KeepsZ st.ob z (upd st.ob b o) z s := fun s => ⟨fun id _ hh => (live id).2 hh, fun _ _ _ => rfl, fun _ _ _ _ _ hh => hh⟩
 refine ⟨h.size, h.defers, h.below, h.outer, h.glob, fun i => RelS.keep hk (hz _) (h.fr i), fun id => ?_, fun id g h1 h2 => h.lo id g ((live id).1 h1) h2, fun i j g hij h1 h2 => h.apart i j g hij ((live i).1 h1) ((live j).1 h2)⟩
 show RelO P w _ _ z (upd st.ob b o) id (z.σ id) (upd st.ob b o id)
 by_cases hid : id = b
 ·subst hid
  rw [upd_same]
  exact RelO.keep hk (fun _ _ => rfl) (fun _ _ _ _ => hz _) (fun _ _ hh => hh) ho
 ·rw [upd_ne _ _ hid]
  exact RelO.keep hk (fun _ _ => rfl) (fun _ _ _ _ => hz _) (fun _ _ hh => hh) (h.ob id)
theorem SR.newNil (h : SR P G w0 M0 n st a w z) {id e size : Nat} (hn : st.ob id = .none) : SR P G w0 M0 n { st with ob := upd st.ob id (.arr e size []) } a w (z.new id (.slice none 0 0)) := by
 have hk := keeps_new (M0 := M0) (z := z) (d := id) (v := .slice none 0 0) (o := .arr e size []) (w := w) (w' := w) hn (Below.refl _ _) (fun g hg => by cases hg)
 refine ⟨h.size, h.defers, h.below, h.outer, h.glob, fun i => RelS.keep hk (keepsZ_new hn _) (h.fr i), fun i => ?_, fun i g h1 h2 => ?_, fun i j g hij h1 h2 h3 h4 => ?_⟩
 ·show RelO P w _ _ _ (upd st.ob id _) i _ (upd st.ob id _ i)
  by_cases hi : i = id
  ·subst hi
   rw [upd_same]
   have : (z.new i (.slice none 0 0)).σ i = .slice none 0 0 := by simp [Cz.new, upd]
   rw [this]
   exact ⟨[], ⟨by simp, .inl ⟨rfl, rfl⟩⟩, rfl⟩
  ·rw [upd_ne _ _ hi]
   have e1 : (z.new id (.slice none 0 0)).σ i = z.σ i := by simp [Cz.new, upd, hi]
   rw [e1]
   by_cases hl : st.ob i = .none
   ·rw [hl]; trivial
   ·exact RelO.keep hk (fun g hg => rfl) (fun _ _ _ _ => keepsZ_new hn _) (fun k b hh => by simpa [Cz.new, hi] using hh) (h.ob i)
 ·by_cases hi : i = id
  ·subst hi
   simp only [Cz.new, upd_same] at h2
   cases h2
  ·simp only [upd_ne _ _ hi] at h1
   simp only [Cz.new, upd_ne _ _ hi] at h2
   exact h.lo i g h1 h2
 ·by_cases hi : i = id
  ·subst hi
   simp only [Cz.new, upd_same] at h3
   cases h3
  ·by_cases hj : j = id
   ·subst hj
    simp only [Cz.new, upd_same] at h4
    cases h4
   ·simp only [upd_ne _ _ hi] at h1
    simp only [upd_ne _ _ hj] at h2
    simp only [Cz.new, upd_ne _ _ hi] at h3
    simp only [Cz.new, upd_ne _ _ hj] at h4
    exact h.apart i j g hij h1 h2 h3 h4
theorem frz_rel (h : SR P G w0 M0 n st a w z) {id et sz : Nat} {es : List CV} (hob : st.ob id = .arr et sz es) {v : Value} (hv : RelS w (mutb M0 z st.ob) z st.ob (.osl id) v) : RelC w (mutb M0 z (kill [id] st).ob) (.sl none es) v := by
 have hless : ∀ g, mutb M0 z (kill [id] st).ob g → mutb M0 z st.ob g := fun g hg => hg.imp _root_.id own_kill
 have hk : Keeps w (mutb M0 z st.ob) w (mutb M0 z (kill [id] st).ob) := ⟨Nat.le_refl _, fun _ _ _ => rfl, fun g _ hg => hless g hg⟩
 obtain ⟨hlive, e⟩ := hv
 have hout : ∀ g, blk (z.σ id) = some g → ¬ mutb M0 z (kill [id] st).ob g := fun g hb hm => by
  rcases hm with hm | ⟨id', hl', hb'⟩
  ·have := h.outer g hm
   have := (h.lo id g hlive hb).1
   omega
  ·have hl2 := kill_ob_live.1 hl'
   have hne : id ≠ id' := fun e => hl2.1 (by simp [e])
   exact h.apart id id' g hne hlive hl2.2 hb hb'
 have ho := h.ob id
 rw [hob] at ho
 obtain ⟨xs, hown, hf⟩ := ho
 unfold RelC
 rcases hown.2 with ⟨e1, e2⟩ | ⟨g, cap, cur, e1, e2, e3, e4, e5, e6, e7⟩
 ·refine ⟨none, 0, 0, by rw [e, e1], e2.symm, Nat.le_refl _, (fun hh => by cases hh), (fun hh => by cases hh), fun _ => rfl, fun hne => ?_⟩
  exact absurd (List.eq_nil_of_length_eq_zero e2) hne
 ·refine ⟨some ⟨g, 0, none⟩, es.length, cap, by rw [e, e1], rfl, e4, (fun hh => by cases hh), (fun hh => by cases hh), (fun hh => by cases hh), fun _ => ⟨⟨g, 0, none⟩, sz, rfl, heap_lt e3, hout g (by rw [e1]; rfl), ?_⟩⟩
  refine RelE_of_get fun k el hel => ?_
  obtain ⟨u, g1, g2, g3⟩ := RelF_get hf hel
  refine ⟨u, RelC.keep hk _ _ g1, g2, fun j u' hu => ?_⟩
  rw [addr_add, cell_of_row w g _ cur et (0, 0) e3]
  have h8 := g3 j u' hu
  rw [← e7, List.getElem?_take] at h8
  split at h8
  ·simpa using h8
  ·cases h8
theorem RelSs_c {ob : Nat → Ob} {M : Nat → Prop} : ∀ {cvs : List CV} {vs : List Value}, RelSs w M z ob (cvs.map .c) vs → RelL w M cvs vs
 | [], vs, h => h
 | c :: cvs, vs, h => by
  obtain ⟨v, vs', rfl, h1, h2⟩ := h
  exact RelL.cons h1 (RelSs_c h2)
theorem frzb_rel (h : SR P G w0 M0 n st a w z) {id : Nat} {cvs : List CV} (hob : st.ob id = .box (cvs.map .c)) {v : Value} (hv : RelS w (mutb M0 z st.ob) z st.ob (.ptr id 0) v) : RelC w (mutb M0 z (kill [id] st).ob) (.wp cvs) v := by
 have hless : ∀ g, mutb M0 z (kill [id] st).ob g → mutb M0 z st.ob g := fun g hg => hg.imp _root_.id own_kill
 have hk : Keeps w (mutb M0 z st.ob) w (mutb M0 z (kill [id] st).ob) := ⟨Nat.le_refl _, fun _ _ _ => rfl, fun g _ hg => hless g hg⟩
 obtain ⟨hlive, g0, e0, e⟩ := hv
 have hout : ∀ g, blk (z.σ id) = some g → ¬ mutb M0 z (kill [id] st).ob g := fun g hb hm => by
  rcases hm with hm | ⟨id', hl', hb'⟩
  ·have := h.outer g hm
   have := (h.lo id g hlive hb).1
   omega
  ·have hl2 := kill_ob_live.1 hl'
   have hne : id ≠ id' := fun e => hl2.1 (by simp [e])
   exact h.apart id id' g hne hlive hl2.2 hb hb'
 have ho := h.ob id
 rw [hob] at ho
 obtain ⟨g, ty, vs, e1, e2, e3⟩ := ho
 rw [e0] at e1
 cases e1
 unfold RelC
 exact ⟨g0, ty, vs, e, e2, hout g0 (by rw [e0]; rfl), RelL.keep hk _ _ (RelSs_c e3)⟩
theorem frzm_rel (h : SR P G w0 M0 n st a w z) {id : Nat} {mt : TypeId} {kt : KT} {zc : CV} {ks vs : List CV} (hob : st.ob id = .map mt kt zc ks vs) {v : Value} (hv : RelS w (mutb M0 z st.ob) z st.ob (.omap id) v) : RelC w (mutb M0 z (kill [id] st).ob) (.map none ks vs) v := by
 have hless : ∀ g, mutb M0 z (kill [id] st).ob g → mutb M0 z st.ob g := fun g hg => hg.imp _root_.id own_kill
 have hk : Keeps w (mutb M0 z st.ob) w (mutb M0 z (kill [id] st).ob) := ⟨Nat.le_refl _, fun _ _ _ => rfl, fun g _ hg => hless g hg⟩
 obtain ⟨hlive, e⟩ := hv
 have hout : ∀ g, blk (z.σ id) = some g → ¬ mutb M0 z (kill [id] st).ob g := fun g hb hm => by
  rcases hm with hm | ⟨id', hl', hb'⟩
  ·have := h.outer g hm
   have := (h.lo id g hlive hb).1
   omega
  ·have hl2 := kill_ob_live.1 hl'
   have hne : id ≠ id' := fun e => hl2.1 (by simp [e])
   exact h.apart id id' g hne hlive hl2.2 hb hb'
 obtain ⟨hmt, ks', vs', r, ens, clk, hmp, e1, hh, h1, h2, h3, h4, h5, h6, _⟩ := map_form h hob
 obtain ⟨ens', hp, h1', h2'⟩ := rel_turn hmp h1 h2
 unfold RelC
 refine ⟨some r, by rw [e, e1], (fun hh => by cases hh), (fun hh => by cases hh), (fun hh => by cases hh), fun b hb => ?_⟩
 cases hb
 exact ⟨hout r (by rw [e1]; rfl), ens, ens', clk, hh, ⟨nodup_val h3 h1 h4, h5, h6⟩, hp, RelL.keep hk _ _ h1', RelL.keep hk _ _ h2'⟩
end
theorem nil_of {w : World} {M : Nat → Prop} {v : Value} (h : RelC w M (.sl (some true) []) v) : v = .slice none 0 0 := by
 unfold RelC at h
 obtain ⟨a, m, c, rfl, h1, _, h2, _, h3, _⟩ := h
 have := h2 rfl
 subst this
 have hm : m = 0 := by simpa using h1
 subst hm
 rw [h3 rfl]
theorem Seen.own {st : St} {i id e size : Nat} (hi : st.fr i = .c (.sl (some true) [])) (hn : st.ob id = .none) : Seen st { fr := upd st.fr i (.osl id), ob := upd st.ob id (.arr e size []) } := fun {P G w0 M0 n a w z} h => by
 have h1 := h.newNil (e := e) (size := size) hn
 refine ⟨_, h1.reslot (i := i) (sv := .osl id) ⟨by simp [upd], ?_⟩⟩
 have hr := h.fr i
 rw [hi] at hr
 rw [nil_of hr]
 simp [Cz.new, upd]
theorem RelSs.set {P : Program} {w : World} {M : Nat → Prop} {z : Cz} {ob : Nat → Ob} : ∀ {cs : List SV} {vs : List Value} (j : Nat) {s : SV}, RelSs w M z ob cs vs → (∀ v, vs[j]? = some v → RelS w M z ob s v) → RelSs w M z ob (cs.set j s) vs
 | [], _, _, _, h, _ => by simpa using h
 | c :: cs, vs, 0, s, h, k => by
  obtain ⟨v, vs', rfl, _, h2⟩ := h
  exact ⟨v, vs', rfl, k v rfl, h2⟩
 | c :: cs, vs, j + 1, s, h, k => by
  obtain ⟨v, vs', rfl, h1, h2⟩ := h
  exact ⟨v, vs', rfl, h1, RelSs.set (P := P) j h2 (fun u hu => k u (by simpa using hu))⟩
theorem Seen.ownc {st : St} {b j id e size : Nat} {cs : List SV} (hb : st.ob b = .box cs) (hj : cs[j]? = some (.c (.sl (some true) []))) (hn : st.ob id = .none) : Seen st { fr := st.fr, ob := upd (upd st.ob id (.arr e size [])) b (.box (cs.set j (.osl id))) } := fun {P G w0 M0 n a w z} h => by
 have hne : b ≠ id := fun e => by rw [e, hn] at hb; cases hb
 have h1 := h.newNil (e := e) (size := size) hn
 have ho := h1.ob b
 simp only [upd_ne _ _ hne, hb] at ho
 have ho0 := h.ob b
 rw [hb] at ho0
 obtain ⟨g, ty, vs, e1, e2, e3⟩ := ho
 obtain ⟨g', ty', vs', e1', e2', e3'⟩ := ho0
 have hσ : (z.new id (.slice none 0 0)).σ b = z.σ b := by simp [Cz.new, upd, hne]
 rw [hσ, e1'] at e1
 cases e1
 rw [e2'] at e2
 cases e2
 refine ⟨_, h1.reob (b := b) (o := .box (cs.set j (.osl id))) ?_ (by simp) ⟨g, ty, vs, by rw [hσ, e1'], e2', RelSs.set (P := P) j e3 fun v hv => ⟨by simp [upd], ?_⟩⟩⟩
 ·simp only [upd_ne _ _ hne, hb]; simp
 ·obtain ⟨v', h3, h4⟩ := RelSs.get e3' hj
  rw [hv] at h3
  cases h3
  rw [nil_of h4]
  simp [Cz.new, upd]
theorem Seen.frz {st : St} {i id e size : Nat} {es : List CV} (hi : st.fr i = .osl id) (ho : st.ob id = .arr e size es) : Seen st { fr := upd (WB.kill [id] st).fr i (.c (.sl none es)), ob := (WB.kill [id] st).ob } := fun {P G w0 M0 n a w z} h => by
 have hr := h.fr i
 rw [hi] at hr
 exact ⟨z, (h.killed [id]).reslot (frz_rel h ho hr)⟩
theorem Seen.frzb {st : St} {i id : Nat} {cvs : List CV} (hi : st.fr i = .ptr id 0) (ho : st.ob id = .box (cvs.map .c)) : Seen st { fr := upd (WB.kill [id] st).fr i (.c (.wp cvs)), ob := (WB.kill [id] st).ob } := fun {P G w0 M0 n a w z} h => by
 have hr := h.fr i
 rw [hi] at hr
 exact ⟨z, (h.killed [id]).reslot (frzb_rel h ho hr)⟩
theorem Seen.frzm {st : St} {i id : Nat} {mt : TypeId} {kt : KT} {zc : CV} {ks vs : List CV} (hi : st.fr i = .omap id) (ho : st.ob id = .map mt kt zc ks vs) : Seen st { fr := upd (WB.kill [id] st).fr i (.c (.map none ks vs)), ob := (WB.kill [id] st).ob } := fun {P G w0 M0 n a w z} h => by
 have hr := h.fr i
 rw [hi] at hr
 exact ⟨z, (h.killed [id]).reslot (frzm_rel h ho hr)⟩
theorem Seen.frzc {st : St} {b j id e size : Nat} {cs : List SV} {es : List CV} (hb : st.ob b = .box cs) (hj : cs[j]? = some (.osl id)) (ho : st.ob id = .arr e size es) : Seen st { fr := (WB.kill [id] st).fr, ob := upd (WB.kill [id] st).ob b (.box ((cs.map (killSV [id])).set j (.c (.sl none es)))) } := fun {P G w0 M0 n a w z} h => by
 have hne : b ≠ id := fun e => by rw [e, ho] at hb; cases hb
 have h1 := h.killed [id]
 have hkb : (WB.kill [id] st).ob b = .box (cs.map (killSV [id])) := by simp [WB.kill, hne, hb, killOb]
 have o1 := h1.ob b
 rw [hkb] at o1
 have o0 := h.ob b
 rw [hb] at o0
 obtain ⟨g, ty, vs, e1, e2, e3⟩ := o1
 obtain ⟨g', ty', vs', e1', e2', e3'⟩ := o0
 rw [e1'] at e1
 cases e1
 rw [e2'] at e2
 cases e2
 refine ⟨z, h1.reob (b := b) (by rw [hkb]; simp) (by simp) ⟨g, ty, vs, e1', e2', RelSs.set (P := P) j e3 fun v hv => ?_⟩⟩
 obtain ⟨v', h3, h4⟩ := RelSs.get e3' hj
 rw [hv] at h3
 cases h3
 exact frz_rel h ho h4
end WB
namespace WB
open Go Go.RowKit
def runS (E : Env) : List SL → (St → Prop) → St → Prop
 | [], Q, st => ∃ s, Seen st s ∧ Q s
 | l :: ls, Q, st => ∃ s, Seen st s ∧ ∃ s', evalL E none l s = some s' ∧ runS E ls Q s'
theorem runS_of {E : Env} : ∀ {ls : List SL} {Q : St → Prop} {st st' : St}, evalLs E none ls st = some st' → Q st' → runS E ls Q st
 | [], Q, st, st', h, hq => by cases h; exact ⟨_, Seen.refl _, hq⟩
 | l :: ls, Q, st, st', h, hq => by
  simp only [evalLs] at h
  obtain ⟨s, h1, h2⟩ := Option.bind_eq_some_iff.1 h
  exact ⟨st, Seen.refl st, s, h1, runS_of h2 hq⟩
theorem runS_mono {E : Env} : ∀ {ls : List SL} {Q Q' : St → Prop} {st : St}, (∀ s, Q s → Q' s) → runS E ls Q st → runS E ls Q' st
 | [], _, _, _, h, ⟨s, h1, h2⟩ => ⟨s, h1, h s h2⟩
 | _ :: _, _, _, _, h, ⟨s, h1, s', h2, h3⟩ => ⟨s, h1, s', h2, runS_mono h h3⟩
theorem runS_seen {E : Env} {ls : List SL} {Q : St → Prop} {st s : St} (h : Seen st s) (hr : runS E ls Q s) : runS E ls Q st := by
 cases ls with
 | nil => obtain ⟨s', h1, h2⟩ := hr; exact ⟨s', h.trans h1, h2⟩
 | cons l ls => obtain ⟨s', h1, h2⟩ := hr; exact ⟨s', h.trans h1, h2⟩
def pwpS (E : Env) : SCode → (Ex → St → Prop) → St → Prop
 | .skip, Q, st => ∃ s, Seen st s ∧ Q .normal s
 | .reg true D ls, Q, st => ∃ s, Seen st s ∧ ∃ st', evalReg E true D ls s = some st' ∧ Q .normal st'
 | .reg false D ls, Q, st => ∃ s, Seen st s ∧ runS E ls (Q .normal) (if D.isEmpty then s else kill D s)
 | .seq a b, Q, st => ∃ s, Seen st s ∧ pwpS E a (fun e s' => match e with | .normal => pwpS E b Q s' | e => Q e s') s
 | .cond c x y, Q, st => ∃ s, Seen st s ∧ ∃ b, so E.G s.fr c = .c (.bool b) ∧ (b = true → pwpS E x Q s) ∧ (b = false → pwpS E y Q s)
 | .block id c, Q, st => ∃ s, Seen st s ∧ pwpS E c (fun e s' => match e with | .exit i => if i = id then Q .normal s' else Q (.exit i) s' | e => Q e s') s
 | .loop c, Q, st => ∃ s, Seen st s ∧ ∃ (R : Nat → St → Prop), (∃ m, R m s) ∧ ∀ m s, R m s → pwpS E c (fun e s' => match e with | .normal => ∃ k, k < m ∧ R k s' | e => Q e s') s
 | .exit id, Q, st => ∃ s, Seen st s ∧ Q (.exit id) s
 | .ret, Q, st => ∃ s, Seen st s ∧ Q .ret s
 | .bad, _, _ => False
theorem pwpS_seen {E : Env} {c : SCode} {Q : Ex → St → Prop} {st s : St} (h : Seen st s) (hp : pwpS E c Q s) : pwpS E c Q st := by
 cases c
 case reg draw D ls =>
  cases draw <;> (obtain ⟨s', h1, h2⟩ := hp; exact ⟨s', h.trans h1, h2⟩)
 all_goals first | (exact hp.elim) | (obtain ⟨s', h1, h2⟩ := hp; exact ⟨s', h.trans h1, h2⟩)
theorem pwpS_reg {E : Env} {draw : Bool} {D : List Nat} {ls : List SL} {Q : Ex → St → Prop} {st st' : St} (h : evalReg E draw D ls st = some st') (hq : Q .normal st') : pwpS E (.reg draw D ls) Q st := by
 cases draw with
 | true => exact ⟨st, Seen.refl st, st', h, hq⟩
 | false => exact ⟨st, Seen.refl st, runS_of (by simpa [evalReg] using h) hq⟩
theorem pwpS_mono {E : Env} : ∀ (c : SCode) {Q Q' : Ex → St → Prop} {st : St}, (∀ e s, Q e s → Q' e s) → pwpS E c Q st → pwpS E c Q' st
 | .skip, Q, Q', st, h, ⟨s, hs, hp⟩ => ⟨s, hs, h _ _ hp⟩
 | .reg true _ _, Q, Q', st, h, ⟨s, hs, s', h1, h2⟩ => ⟨s, hs, s', h1, h _ _ h2⟩
 | .reg false _ _, Q, Q', st, h, ⟨s, hs, h1⟩ => ⟨s, hs, runS_mono (h .normal) h1⟩
 | .seq a b, Q, Q', st, h, ⟨s, hs, hp⟩ => by
  refine ⟨s, hs, pwpS_mono a (fun e s hs => ?_) hp⟩
  cases e with
  | normal => exact pwpS_mono b h hs
  | exit i => exact h _ _ hs
  | ret => exact h _ _ hs
 | .cond c x y, Q, Q', st, h, ⟨s, hs, b, h1, h2, h3⟩ => ⟨s, hs, b, h1, fun hb => pwpS_mono x h (h2 hb), fun hb => pwpS_mono y h (h3 hb)⟩
 | .block id c, Q, Q', st, h, ⟨s, hs, hp⟩ => by
  refine ⟨s, hs, pwpS_mono c (fun e s hs => ?_) hp⟩
  cases e with
  | normal => exact h _ _ hs
  | exit i =>
   simp only at hs ⊢
   split <;> rename_i hi
   ·rw [if_pos hi] at hs; exact h _ _ hs
   ·rw [if_neg hi] at hs; exact h _ _ hs
  | ret => exact h _ _ hs
 | .loop c, Q, Q', st, h, ⟨s, hs, R, h1, h2⟩ => by
  refine ⟨s, hs, R, h1, fun m s hs => pwpS_mono c (fun e s' hs' => ?_) (h2 m s hs)⟩
  cases e with
  | normal => exact hs'
  | exit i => exact h _ _ hs'
  | ret => exact h _ _ hs'
 | .exit i, Q, Q', st, h, ⟨s, hs, hp⟩ => ⟨s, hs, h _ _ hp⟩
 | .ret, Q, Q', st, h, ⟨s, hs, hp⟩ => ⟨s, hs, h _ _ hp⟩
 | .bad, Q, Q', st, h, hp => hp.elim
section
variable {P : Program} {E : Env} {w0 : World} {M0 : Nat → Prop} {n : Nat}
theorem runS_sound (hE : EOk P E) {ops : Array Oper} {all : List SL} (hc : allM (compL P n ops) ops.toList = some all) {Q : St → Prop} {K : Exit → Act → World → Prop} (hK : ∀ s a w z, Q s → SR P E.G w0 M0 n s a w z → K .normal a w) : ∀ {ls pre : List SL} {st : St} {a : Act} {w : World} {z : Cz}, all = pre ++ ls → SR P E.G w0 M0 n st a w z → runS E ls Q st → wpOps P ops K (List.range' pre.length ls.length) a w
 | [], pre, st, a, w, z, he, h, hr => by
  obtain ⟨s, h1, h2⟩ := hr
  obtain ⟨z', h'⟩ := h1 h
  exact hK _ _ _ _ h2 h'
 | l :: ls, pre, st, a, w, z, he, h, hr => by
  obtain ⟨s, h1, s', h2, h3⟩ := hr
  obtain ⟨z', h'⟩ := h1 h
  have hlen := allM_length hc
  have hl : all[pre.length]? = some l := by rw [he]; simp
  have hi : pre.length < ops.toList.length := by rw [← hlen]; exact (List.getElem?_eq_some_iff.1 hl).1
  have ho : ops.toList[pre.length]? = some (ops.toList[pre.length]) := List.getElem?_eq_getElem hi
  obtain ⟨l', g1, g2⟩ := allM_get hc ho
  rw [hl] at g1
  simp only [Option.some.injEq] at g1
  subst g1
  have ho' : ops[pre.length]? = some (ops.toList[pre.length]) := by rw [← Array.getElem?_toList]; exact ho
  rw [List.length_cons, List.range'_succ]
  refine evalL_sound hE h' ho' g2 h2 fun a' w' z'' hS => ?_
  have := runS_sound hE hc hK (ls := ls) (pre := pre ++ [l]) (by rw [he]; simp) hS h3
  simpa using this
theorem code_soundS (hE : EOk P E) : ∀ (c : Code) {sc : SCode} {Q : Ex → St → Prop} {st : St} {a : Act} {w : World} {z : Cz}, compC P n c = some sc → SR P E.G w0 M0 n st a w z → pwpS E sc Q st → c.wp P (Post P E w0 M0 n Q) a w
 | .skip, sc, Q, st, a, w, z, hc, h, hp => by
  simp only [compC, Option.some.injEq] at hc; subst hc
  obtain ⟨s, hs, hp⟩ := hp
  obtain ⟨z', h'⟩ := hs h
  exact wp_skip ⟨.normal, s, z', rfl, hp, h'⟩
 | .region id ops draw, sc, Q, st, a, w, z, hc, h, hp => by
  have hc' := hc
  simp only [compC] at hc'
  have : sc = .bad ∨ ∃ dr D l, sc = .reg dr D l := by
   split at hc'
   ·split at hc'
    ·split at hc'
     ·cases hc'; exact .inr ⟨_, _, _, rfl⟩
     ·cases hc'; exact .inl rfl
    ·cases hc'; exact .inr ⟨_, _, _, rfl⟩
   ·cases hc'; exact .inl rfl
  rcases this with rfl | ⟨dr, D, l, rfl⟩
  ·exact hp.elim
  cases dr with
  | true =>
   obtain ⟨s, hs, hp⟩ := hp
   obtain ⟨z', h'⟩ := hs h
   exact reg_sound hE hc h' hp
  | false =>
   obtain ⟨s, hs, hp⟩ := hp
   obtain ⟨z', h'⟩ := hs h
   simp only [compC] at hc
   split at hc
   case h_2 => cases hc
   rename_i ls hls
   split at hc
   ·split at hc <;> cases hc
   ·cases hc
    have start : ∃ z'', SR P E.G w0 M0 n (if (newDsts P ops.toList l).isEmpty then s else kill (newDsts P ops.toList l) s) a w z'' := by
     split
     ·exact ⟨z', h'⟩
     ·exact ⟨z', h'.killed _⟩
    obtain ⟨z'', h''⟩ := start
    have hdr : draw = false := by simpa using ‹¬ draw = true›
    subst hdr
    refine wp_region ?_
    have hlen := allM_length hls
    rw [List.range_eq_range', ← Array.length_toList, ← hlen]
    exact runS_sound hE hls (fun s' a' w' z3 hq hS => ⟨.normal, s', z3, rfl, hq, hS⟩) (pre := []) rfl h'' hp
 | .seq x y, sc, Q, st, a, w, z, hc, h, hp => by
  simp only [compC, Option.bind_eq_some_iff, Option.map_eq_some_iff] at hc
  obtain ⟨sx, hx, sy, hy, rfl⟩ := hc
  obtain ⟨s, hs, hp⟩ := hp
  obtain ⟨z', h'⟩ := hs h
  refine wp_seq (wp_mono (code_soundS hE x hx h' hp) fun e a' w' hpost => ?_)
  obtain ⟨e', st', z', he, hq, hS⟩ := hpost
  subst he
  cases e' with
  | normal => exact code_soundS hE y hy hS hq
  | exit i => exact ⟨.exit i, st', z', rfl, hq, hS⟩
  | ret => exact ⟨.ret, st', z', rfl, hq, hS⟩
 | .cond c x y, sc, Q, st, a, w, z, hc, h, hp => by
  simp only [compC, Option.bind_eq_some_iff, Option.map_eq_some_iff] at hc
  obtain ⟨so', hso, sx, hx, sy, hy, rfl⟩ := hc
  obtain ⟨s, hs, b, h1, h2, h3⟩ := hp
  obtain ⟨z', h'⟩ := hs h
  have hr := h'.ctx.c hso h1
  have hb := of_bool hr
  exact wp_cond_split hb (fun hh => code_soundS hE x hx h' (h2 hh)) (fun hh => code_soundS hE y hy h' (h3 hh))
 | .block id c, sc, Q, st, a, w, z, hc, h, hp => by
  simp only [compC, Option.map_eq_some_iff] at hc
  obtain ⟨sx, hx, rfl⟩ := hc
  obtain ⟨s, hs, hp⟩ := hp
  obtain ⟨z', h'⟩ := hs h
  refine wp_block (wp_mono (code_soundS hE c hx h' hp) fun e a' w' hpost => ?_)
  obtain ⟨e', st', z', he, hq, hS⟩ := hpost
  subst he
  cases e' with
  | normal => exact ⟨.normal, st', z', rfl, hq, hS⟩
  | exit i =>
   simp only at hq
   show (if i = id then _ else _)
   split at hq
   ·rename_i hi
    rw [if_pos hi]
    exact ⟨.normal, st', z', rfl, hq, hS⟩
   ·rename_i hi
    rw [if_neg hi]
    exact ⟨.exit i, st', z', rfl, hq, hS⟩
  | ret => exact ⟨.ret, st', z', rfl, hq, hS⟩
 | .loop c, sc, Q, st, a, w, z, hc, h, hp => by
  simp only [compC, Option.map_eq_some_iff] at hc
  obtain ⟨sx, hx, rfl⟩ := hc
  obtain ⟨s0, hs0, R, ⟨m, hm⟩, hr⟩ := hp
  obtain ⟨z0', h'⟩ := hs0 h
  refine wp_loop_ghost (fun k a w => ∃ s z, R k s ∧ SR P E.G w0 M0 n s a w z) m ⟨s0, z0', hm, h'⟩ fun k a' w' hI => ?_
  obtain ⟨s, z', hR, hS⟩ := hI
  refine wp_mono (code_soundS hE c hx hS (hr k s hR)) fun e a'' w'' hpost => ?_
  obtain ⟨e', st', z'', he, hq, hS'⟩ := hpost
  subst he
  cases e' with
  | normal =>
   obtain ⟨k', hk', hR'⟩ := hq
   exact ⟨k', hk', st', z'', hR', hS'⟩
  | exit i => exact ⟨.exit i, st', z'', rfl, hq, hS'⟩
  | ret => exact ⟨.ret, st', z'', rfl, hq, hS'⟩
 | .exit i, sc, Q, st, a, w, z, hc, h, hp => by
  simp only [compC, Option.some.injEq] at hc; subst hc
  obtain ⟨s, hs, hp⟩ := hp
  obtain ⟨z', h'⟩ := hs h
  exact wp_exit ⟨.exit i, s, z', rfl, hp, h'⟩
 | .label l, sc, Q, st, a, w, z, hc, h, hp => by
  simp only [compC, Option.some.injEq] at hc; subst hc
  obtain ⟨s, hs, hp⟩ := hp
  obtain ⟨z', h'⟩ := hs h
  exact wp_label ⟨.normal, s, z', rfl, hp, h'⟩
 | .scope c, sc, Q, st, a, w, z, hc, h, hp => by
  simp only [compC] at hc
  refine wp_scope_straight (wp_mono (code_soundS hE c hc h hp) fun e a' w' hpost => ?_)
  obtain ⟨e', st', z', he, hq, hS⟩ := hpost
  subst he
  cases e' <;> exact ⟨_, st', z', rfl, hq, hS⟩
 | .ret, sc, Q, st, a, w, z, hc, h, hp => by
  simp only [compC, Option.some.injEq] at hc; subst hc
  obtain ⟨s, hs, hp⟩ := hp
  obtain ⟨z', h'⟩ := hs h
  exact wp_ret ⟨.ret, s, z', rfl, hp, h'⟩
 | .goto _, sc, Q, st, a, w, z, hc, h, hp => by cases hc; exact hp.elim
 | .rangeFunc _ _ _ _, sc, Q, st, a, w, z, hc, h, hp => by cases hc; exact hp.elim
 | .refuse _, sc, Q, st, a, w, z, hc, h, hp => by cases hc; exact hp.elim
def finT (rs : List SRes) (t : Ty) (y : D t) (e : Ex) (st : St) : Prop :=
 match e with
 | .exit _ => False
 | _ => ∃ c, resOf st rs = some c ∧ Can t y [c]
theorem fn_okT (hE : EOk P E) {f : FuncId} {m : Model} (hc : compF P f = some m) {l : List CV} {t : Ty} {y : D t} (hl : l.length ≤ m.n) (h : pwpS E m.code (finT m.res t y) (init l)) : hasBody P f = true ∧ CallsTo P E.G f l (.val (enc t y)) := by
 unfold compF at hc
 split at hc <;> try (cases hc; done)
 rename_i hb
 refine ⟨hb, ?_⟩
 simp only [Option.bind_eq_some_iff, Option.map_eq_some_iff] at hc
 obtain ⟨fn, hf, b, hbody, c, hcode, rs, hrs, rfl⟩ := hc
 intro w M vs hM hG hL
 refine calls_of_wp hf hbody (wp_mono (code_soundS hE b hcode (init_rel hM hG hl hL) h) fun e a' w' hpost => ?_)
 obtain ⟨e', st', z', he, hq, hS⟩ := hpost
 subst he
 have fin_ : (∃ c, resOf st' rs = some c ∧ Can t y [c]) → a'.defers = [] ∧ ∃ v, (results fn a'.tmps).run P w' = .ok v w' ∧ ∃ u, Ending.returned v = .returned u ∧ Below w.heap.size w w' ∧ RelR P w' M w.heap.size u (.val (enc t y)) := fun ⟨c, hr, hcan⟩ => by
  obtain ⟨v, h1, h2⟩ := res_run hS hrs hr
  exact ⟨hS.defers, v, h1, v, rfl, hS.below, RelC.enc hcan h2⟩
 cases e' with
 | normal => exact fin_ hq
 | exit i => exact hq.elim
 | ret => exact fin_ hq
end
end WB
namespace WB
open Go Go.RowKit
inductive Gh where
 | own (i id e size : Nat)
 | ownc (b j id e size : Nat)
 | frz (i : Nat)
 | frzc (b j : Nat)
 | frzb (i : Nat)
structure GhD (Γ : TC) where
 Γ' : TC
 up : HS Γ → HS Γ'
def ghT (X : TP) (Γ : TC) : Gh → Option (GhD Γ)
 | .own i id e size => match get (killT [id] Γ) (.s i), X.TT e with
  | some ⟨.v .nsl, _⟩, some t => some ⟨(.s i, .own id) :: (.o id, .arr e size t) :: killT [id] Γ, fun ρ => ((), [], killP [id] ρ)⟩
  | _, _ => none
 | .ownc b j id e size => match X.TT e with
  | some t => match get ((.o id, .arr e size t) :: killT [id] Γ) (.o b), get ((.o id, .arr e size t) :: killT [id] Γ) (.c b j) with
   | some ⟨.box n, _⟩, some ⟨.v .nsl, _⟩ => if j < n ∧ b ≠ id then some ⟨(.c b j, .own id) :: (.o id, .arr e size t) :: killT [id] Γ, fun ρ => ((), [], killP [id] ρ)⟩ else none
   | _, _ => none
  | none => none
 | .frz i => match get Γ (.s i) with
  | some ⟨.own id, _⟩ => match get Γ (.o id) with
   | some ⟨.arr _ _ t, xs⟩ => some ⟨(.s i, .v (.sl t)) :: killT [id] Γ, fun ρ => (xs ρ, killP [id] ρ)⟩
   | _ => none
  | some ⟨.mp id, _⟩ => match get Γ (.o id) with
   | some ⟨.mob _ k v, xs⟩ => some ⟨(.s i, .v (.map k v)) :: killT [id] Γ, fun ρ => (xs ρ, killP [id] ρ)⟩
   | _ => none
  | _ => none
 | .frzc b j => match get Γ (.o b), get Γ (.c b j) with
  | some ⟨.box n, _⟩, some ⟨.own id, _⟩ => match get Γ (.o id), get (killT [id] Γ) (.o b) with
   | some ⟨.arr _ _ t, xs⟩, some ⟨.box n', _⟩ => if j < n ∧ j < n' then some ⟨(.c b j, .v (.sl t)) :: killT [id] Γ, fun ρ => (xs ρ, killP [id] ρ)⟩ else none
   | _, _ => none
  | _, _ => none
 | .frzb i => match get Γ (.s i) with
  | some ⟨.ptr id 0, _⟩ => match get Γ (.o id) with
   | some ⟨.box (n + 1), _⟩ => match cellsT Γ id n 0 with
    | some p => some ⟨(.s i, .v (.pt p.1)) :: killT [id] Γ, fun ρ => (p.2 ρ, killP [id] ρ)⟩
    | none => none
   | _ => none
  | _ => none
theorem allM_closed : ∀ {cs : List SV} {l : List CV}, allM closed cs = some l → cs = l.map .c
 | [], l, h => by cases h; rfl
 | s :: cs, l, h => by
  simp only [allM] at h
  obtain ⟨c, h1, h2⟩ := Option.bind_eq_some_iff.1 h
  obtain ⟨l', h3, h4⟩ := Option.map_eq_some_iff.1 h2
  subst h4
  have : s = .c c := by
   cases s <;> first | (cases h1; rfl) | cases h1
  rw [this, allM_closed h3]
  rfl
theorem ghT_ok {X : TP} {Γ : TC} {ρ : HS Γ} {st : St} {g : Gh} {q : GhD Γ} (h : ghT X Γ g = some q) (hr : Rep Γ ρ st) : ∃ st', Seen st st' ∧ Rep q.Γ' (q.up ρ) st' := by
 cases g with
 | own i id e size =>
  simp only [ghT] at h
  split at h <;> try (cases h; done)
  rename_i f t hg ht
  cases h
  have hk := hr.kill [id]
  obtain ⟨c, e1, e2⟩ := hk.s i _ hg
  unfold Can at e2
  cases e2
  refine ⟨_, Seen.trans (Seen.kill st [id]) (Seen.own (i := i) (id := id) (e := e) (size := size) e1 (by simp [WB.kill])), Rep.newObjS hk (k := .own id) (ko := .arr e size t) (x := ()) (y := []) (v := .osl id) ⟨[], rfl, rfl⟩ rfl⟩
 | ownc b j id e size =>
  simp only [ghT] at h
  split at h <;> try (cases h; done)
  rename_i t ht
  split at h <;> try (cases h; done)
  rename_i n fb f hb hg
  split at h <;> try (cases h; done)
  rename_i hh
  cases h
  have hk := hr.kill [id]
  have hk1 := Rep.turnObj hk (id := id) (k := .arr e size t) (y := []) (o := .arr e size []) ⟨[], rfl, rfl⟩
  obtain ⟨cs, e1, e2, e3⟩ := hk1.o b _ hb
  obtain ⟨sv, e4, c, e5, e6⟩ := e3 j _ hh.1 hg
  unfold Can at e6
  cases e6
  subst e5
  have e1' : (WB.kill [id] st).ob b = .box cs := by simpa [upd, hh.2] using e1
  refine ⟨_, Seen.trans (Seen.kill st [id]) (Seen.ownc (b := b) (j := j) (id := id) (e := e) (size := size) e1' e4 (by simp [WB.kill])), cell_turn hk1 hb e2 e3 hh.1 (k := .own id) (x := ()) (sv := .osl id) rfl⟩
 | frz i =>
  simp only [ghT] at h
  split at h <;> try (cases h; done)
  ·rename_i id f hg
   split at h <;> try (cases h; done)
   rename_i e size t xs ho
   cases h
   have h1 : st.fr i = .osl id := hr.s i _ hg
   obtain ⟨es, h2, h3⟩ := hr.o id _ ho
   exact ⟨_, Seen.frz h1 h2, Rep.set (hr.kill [id]) (d := i) (k := .v (.sl t)) (x := xs ρ) ⟨_, rfl, by unfold Can; exact ⟨_, _, rfl, h3⟩⟩⟩
  ·rename_i id f hg
   split at h <;> try (cases h; done)
   rename_i mt k v xs ho
   cases h
   have h1 : st.fr i = .omap id := hr.s i _ hg
   obtain ⟨z, ks, vs, h2, _, h3, h4⟩ := hr.o id _ ho
   exact ⟨_, Seen.frzm h1 h2, Rep.set (hr.kill [id]) (d := i) (k := .v (.map k v)) (x := xs ρ) ⟨_, rfl, by unfold Can; exact ⟨_, _, _, rfl, h3, h4⟩⟩⟩
 | frzc b j =>
  simp only [ghT] at h
  split at h <;> try (cases h; done)
  rename_i n fb id f hb hg
  split at h <;> try (cases h; done)
  rename_i e size t xs n' fb' ho hb'
  split at h <;> try (cases h; done)
  rename_i hh
  cases h
  obtain ⟨cs, e1, e2, e3⟩ := hr.o b _ hb
  obtain ⟨sv, e4, e5⟩ := e3 j _ hh.1 hg
  have e5' : sv = .osl id := e5
  subst e5'
  obtain ⟨es, h2, h3⟩ := hr.o id _ ho
  have hk := hr.kill [id]
  obtain ⟨cs', k1, k2, k3⟩ := hk.o b _ hb'
  have hne : b ≠ id := fun e => by rw [e, h2] at e1; cases e1
  have hcs : cs' = cs.map (killSV [id]) := by
   have : (WB.kill [id] st).ob b = .box (cs.map (killSV [id])) := by simp [WB.kill, hne, e1, killOb]
   rw [this] at k1
   cases k1; rfl
  subst hcs
  exact ⟨_, Seen.frzc e1 e4 h2, cell_turn hk hb' k2 k3 hh.2 (k := .v (.sl t)) (x := xs ρ) ⟨_, rfl, by unfold Can; exact ⟨_, _, rfl, h3⟩⟩⟩
 | frzb i =>
  simp only [ghT] at h
  split at h <;> try (cases h; done)
  rename_i id f hg
  split at h <;> try (cases h; done)
  rename_i n fo ho
  split at h <;> try (cases h; done)
  rename_i p hp
  cases h
  have h1 : st.fr i = .ptr id 0 := hr.s i _ hg
  obtain ⟨cs, h2, h3, h4⟩ := hr.o id _ ho
  obtain ⟨cvs, h5, h6, _⟩ := cellsT_ok h4 hp (by omega)
  rw [List.drop_zero, List.take_of_length_le (by omega)] at h5
  have h7 : st.ob id = .box (cvs.map .c) := by rw [h2, allM_closed h5]
  exact ⟨_, Seen.frzb h1 h7, Rep.set (hr.kill [id]) (d := i) (k := .v (.pt p.1)) (x := p.2 ρ) ⟨_, rfl, by unfold Can; exact ⟨_, rfl, h6⟩⟩⟩
def coeK : (k k' : EK) → Option (DK k → DK k')
 | .v t, .v t' => coeT t t'
 | k, k' => if h : k = k' then some fun x => h ▸ x else none
theorem coeK_eq {k k' : EK} {f : DK k → DK k'} (h : (if h : k = k' then some (fun x => h ▸ x : DK k → DK k') else none) = some f) : ∃ e : k = k', ∀ x, f x = e ▸ x := by
 split at h <;> try (cases h; done)
 rename_i e
 subst e
 cases h
 exact ⟨rfl, fun _ => rfl⟩
theorem coeK_ok {k k' : EK} {f : DK k → DK k'} (h : coeK k k' = some f) {x : DK k} {sv : SV} (hs : RS k x sv) : RS k' (f x) sv := by
 unfold coeK at h
 split at h
 ·obtain ⟨c, e, hc⟩ := hs
  exact ⟨c, e, coeT_can _ _ h hc⟩
 ·obtain ⟨e, hf⟩ := coeK_eq h
  subst e
  rw [hf]; exact hs
theorem coeK_ro {k k' : EK} {f : DK k → DK k'} (h : coeK k k' = some f) {Γ Γ' : TC} {ρ : HS Γ} {ρ' : HS Γ'} {id : Nat} {x : DK k} {ob : Ob} (ho : RO Γ ρ id k x ob)
  (hc : ∀ j q, get Γ' (.c id j) = some q → ∃ p g, get Γ (.c id j) = some p ∧ coeK p.1 q.1 = some g ∧ q.2 ρ' = g (p.2 ρ)) : RO Γ' ρ' id k' (f x) ob := by
 unfold coeK at h
 split at h
 ·exact ho.elim
 ·obtain ⟨e, hf⟩ := coeK_eq h
  subst e
  rw [hf]
  cases k <;> try exact ho
  obtain ⟨cs, e, hl, hh⟩ := ho
  refine ⟨cs, e, hl, fun j q hj hq => ?_⟩
  obtain ⟨p, g, h1, h2, h3⟩ := hc j q hq
  obtain ⟨sv, h4, h5⟩ := hh j p hj h1
  exact ⟨sv, h4, h3 ▸ coeK_ok h2 h5⟩
def coeC (Γ : TC) : (Γ' : TC) → Option (HS Γ → HS Γ')
 | [] => some fun _ => ()
 | e :: Γ' => match get Γ e.1, coeC Γ Γ' with
  | some q, some f => match coeK q.1 e.2 with
   | some g => some fun ρ => (g (q.2 ρ), f ρ)
   | none => none
  | _, _ => none
theorem coeC_get {Γ : TC} {ρ : HS Γ} : ∀ {Γ' : TC} {f : HS Γ → HS Γ'}, coeC Γ Γ' = some f → ∀ p q, get Γ' p = some q → ∃ r g, get Γ p = some r ∧ coeK r.1 q.1 = some g ∧ q.2 (f ρ) = g (r.2 ρ)
 | [], f, h, p, q, hq => by cases hq
 | e :: Γ', f, h, p, q, hq => by
  simp only [coeC] at h
  split at h <;> try (cases h; done)
  rename_i r f' hr hf'
  split at h <;> try (cases h; done)
  rename_i g hg
  cases h
  obtain ⟨key, k⟩ := e
  by_cases hk : key = p
  ·subst hk
   rw [get_eq] at hq
   cases hq
   exact ⟨r, g, hr, hg, rfl⟩
  ·obtain ⟨f2, h2, h3⟩ := get_ne hk hq
   obtain ⟨r2, g2, h4, h5, h6⟩ := coeC_get (ρ := ρ) hf' p _ h2
   exact ⟨r2, g2, h4, h5, (h3 _).trans h6⟩
theorem coeC_ok {Γ Γ' : TC} {ρ : HS Γ} {st : St} {f : HS Γ → HS Γ'} (h : coeC Γ Γ' = some f) (hr : Rep Γ ρ st) : Rep Γ' (f ρ) st := by
 refine ⟨fun i q hq => ?_, fun id q hq => ?_⟩
 ·obtain ⟨r, g, h1, h2, h3⟩ := coeC_get (ρ := ρ) h _ q hq
  rw [h3]
  exact coeK_ok h2 (hr.s i r h1)
 ·obtain ⟨r, g, h1, h2, h3⟩ := coeC_get (ρ := ρ) h _ q hq
  rw [h3]
  exact coeK_ro h2 (hr.o id r h1) fun j q' hq' => coeC_get (ρ := ρ) h _ q' hq'
def iterN {S T : Type} (b : S → Option (S ⊕ T)) : Nat → S → Option T
 | 0, _ => none
 | n + 1, s => (b s).bind fun o => match o with
  | .inl s' => iterN b n s'
  | .inr t => some t
open Classical in
noncomputable def iter {S T : Type} (b : S → Option (S ⊕ T)) (s : S) : Option T :=
 if h : ∃ t n, iterN b n s = some t then some (choose h) else none
theorem iterN_mono {S T : Type} {b : S → Option (S ⊕ T)} : ∀ {n m : Nat} {s : S} {t : T}, n ≤ m → iterN b n s = some t → iterN b m s = some t
 | 0, _, _, _, _, h => by cases h
 | n + 1, 0, _, _, hnm, _ => by omega
 | n + 1, m + 1, s, t, hnm, h => by
  simp only [iterN] at h ⊢
  obtain ⟨o, h1, h2⟩ := Option.bind_eq_some_iff.1 h
  rw [h1, Option.bind_some]
  cases o with
  | inl s' => exact iterN_mono (by omega) h2
  | inr t' => exact h2
theorem iter_some {S T : Type} {b : S → Option (S ⊕ T)} {s : S} {t : T} : iter b s = some t ↔ ∃ n, iterN b n s = some t := by
 unfold iter
 constructor
 ·intro h
  split at h <;> try (cases h; done)
  rename_i hh
  cases h
  exact Classical.choose_spec hh
 ·rintro ⟨n, h⟩
  have hh : ∃ t n, iterN b n s = some t := ⟨t, n, h⟩
  rw [dif_pos hh]
  obtain ⟨m, hm⟩ := Classical.choose_spec hh
  have h1 := iterN_mono (Nat.le_max_left n m) h
  have h2 := iterN_mono (Nat.le_max_right n m) hm
  rw [h1] at h2
  rw [Option.some.inj h2]
theorem iter_eq {S T : Type} (b : S → Option (S ⊕ T)) (s : S) : iter b s = (b s).bind fun o => match o with
  | .inl s' => iter b s'
  | .inr t => some t := by
 cases hb : b s with
 | none =>
  rw [Option.bind_none]
  cases h : iter b s with
  | none => rfl
  | some t =>
   obtain ⟨n, hn⟩ := iter_some.1 h
   cases n with
   | zero => cases hn
   | succ n => simp [iterN, hb] at hn
 | some o =>
  rw [Option.bind_some]
  cases o with
  | inr t => exact iter_some.2 ⟨1, by simp [iterN, hb]⟩
  | inl s' =>
   simp only
   apply Option.ext
   intro t
   rw [iter_some, iter_some]
   constructor
   ·rintro ⟨n, hn⟩
    cases n with
    | zero => cases hn
    | succ n =>
     refine ⟨n, ?_⟩
     simpa [iterN, hb] using hn
   ·rintro ⟨n, hn⟩
    exact ⟨n + 1, by simpa [iterN, hb] using hn⟩
abbrev XC := List (Nat × TC)
@[reducible] def KE (A : Type) : XC → Type
 | [] => Unit
 | e :: xs => (HS e.2 → Option A) × KE A xs
structure DKn (A : Type) (xs : XC) (Γn : TC) (R : Type) where
 n : HS Γn → Option A
 e : KE A xs
 r : R → Option A
def findE (A : Type) : (xs : XC) → Nat → Option (Σ Γ : TC, KE A xs → HS Γ → Option A)
 | [], _ => none
 | e :: xs, i => if e.1 = i then some ⟨e.2, fun k => k.1⟩ else match findE A xs i with
  | some q => some ⟨q.1, fun k => q.2 k.2⟩
  | none => none
def selX (xs : XC) : List Nat → Option XC
 | [] => some []
 | i :: is => match xs.find? (fun e => e.1 == i), selX xs is with
  | some e, some ys => some ((i, e.2) :: ys)
  | _, _ => none
def selE (A : Type) (xs : XC) : (ys : XC) → Option (KE A xs → KE A ys)
 | [] => some fun _ => ()
 | e :: ys => match findE A xs e.1, selE A xs ys with
  | some q, some g => if h : q.1 = e.2 then some fun k => (h ▸ q.2 k, g k) else none
  | _, _ => none
@[reducible] def OutX (R : Type) : XC → Bool → Type
 | [], true => R
 | [], false => Empty
 | [e], false => HS e.2
 | [e], true => HS e.2 ⊕ R
 | e :: xs, rt => HS e.2 ⊕ OutX R xs rt
def keX {R B : Type} : (xs : XC) → (rt : Bool) → (OutX R xs rt → B) → KE B xs
 | [], _, _ => ()
 | [_], false, f => (fun ρ => some (f ρ), ())
 | [_], true, f => (fun ρ => some (f (.inl ρ)), ())
 | _ :: e :: xs, rt, f => (fun ρ => some (f (.inl ρ)), keX (e :: xs) rt (fun o => f (.inr o)))
def rtX {R B : Type} : (xs : XC) → (rt : Bool) → (OutX R xs rt → B) → R → Option B
 | [], true, f => fun r => some (f r)
 | [], false, _ => fun _ => none
 | [_], false, _ => fun _ => none
 | [_], true, f => fun r => some (f (.inr r))
 | _ :: e :: xs, rt, f => rtX (e :: xs) rt (fun o => f (.inr o))
def elX {R A : Type} : (xs : XC) → (rt : Bool) → KE A xs → (R → Option A) → OutX R xs rt → Option A
 | [], true, _, kr => fun o => kr o
 | [], false, _, _ => fun o => nomatch o
 | [_], false, k, _ => fun o => k.1 o
 | [_], true, k, kr => fun o => match o with
  | .inl ρ => k.1 ρ
  | .inr r => kr r
 | _ :: e :: xs, rt, k, kr => fun o => match o with
  | .inl ρ => k.1 ρ
  | .inr o => elX (e :: xs) rt k.2 kr o
end WB
namespace WB
open Go Go.RowKit
inductive GL where
 | g (g : Gh)
 | l (l : SL)
def linesG : List GL → List SL
 | [] => []
 | .g _ :: gs => linesG gs
 | .l l :: gs => l :: linesG gs
inductive AC where
 | skip
 | reg (draw : Bool) (D : List Nat) (ls : List SL)
 | rg (D : List Nat) (gs : List GL)
 | sq (a b : AC)
 | seq (Γ : TC) (a b : AC)
 | join (Γ : TC) (ex : List Nat) (rt : Bool) (a b : AC)
 | cond (c : SO) (x y : AC)
 | block (id : Nat) (b : AC)
 | loop (Γ : TC) (ex : List Nat) (rt : Bool) (b : AC)
 | exit (id : Nat)
 | ret
 | gh (g : Gh) (c : AC)
 | raw (c : SCode)
def erase : AC → SCode
 | .skip => .skip
 | .reg draw D ls => .reg draw D ls
 | .rg D gs => .reg false D (linesG gs)
 | .sq a b | .seq _ a b | .join _ _ _ a b => .seq (erase a) (erase b)
 | .cond c x y => .cond c (erase x) (erase y)
 | .block id b => .block id (erase b)
 | .loop _ _ _ b => .loop (erase b)
 | .exit id => .exit id
 | .ret => .ret
 | .gh _ c => erase c
 | .raw c => c
structure LsD (A : Type) (Γ : TC) where
 Γ' : TC
 run : HS Γ → (HS Γ' → Option A) → Option A
def denLs (A : Type) (X : TP) (msk : List Nat) : (ls : List SL) → (Γ : TC) → Option (LsD A Γ)
 | [], Γ => some ⟨Γ, fun ρ K => K ρ⟩
 | l :: ls, Γ => match opL X Γ msk l with
  | some o => match denLs A X msk ls o.Γ' with
   | some q => some ⟨q.Γ', fun ρ K => o.d.app ρ fun b => q.run (o.up ρ b) K⟩
   | none => none
  | none => none
def denReg (A : Type) (X : TP) (draw : Bool) (D : List Nat) (ls : List SL) (Γ : TC) : Option (LsD A Γ) :=
 match D with
 | [] => denLs A X [] ls Γ
 | d :: ds => match denLs A X (if draw then d :: ds else []) ls (killT (d :: ds) Γ) with
  | some q => some ⟨q.Γ', fun ρ K => q.run (killP (d :: ds) ρ) K⟩
  | none => none
def denLsG (A : Type) (X : TP) : (gs : List GL) → (Γ : TC) → Option (LsD A Γ)
 | [], Γ => some ⟨Γ, fun ρ K => K ρ⟩
 | .l l :: gs, Γ => match opL X Γ [] l with
  | some o => match denLsG A X gs o.Γ' with
   | some q => some ⟨q.Γ', fun ρ K => o.d.app ρ fun b => q.run (o.up ρ b) K⟩
   | none => none
  | none => none
 | .g g :: gs, Γ => match ghT X Γ g with
  | some p => match denLsG A X gs p.Γ' with
   | some q => some ⟨q.Γ', fun ρ K => q.run (p.up ρ) K⟩
   | none => none
  | none => none
def denRegG (A : Type) (X : TP) (D : List Nat) (gs : List GL) (Γ : TC) : Option (LsD A Γ) :=
 match D with
 | [] => denLsG A X gs Γ
 | d :: ds => match denLsG A X gs (killT (d :: ds) Γ) with
  | some q => some ⟨q.Γ', fun ρ K => q.run (killP (d :: ds) ρ) K⟩
  | none => none
def denS (A : Type) (X : TP) : AC → (Γ : TC) → Option (LsD A Γ)
 | .skip, Γ => some ⟨Γ, fun ρ K => K ρ⟩
 | .reg draw D ls, Γ => denReg A X draw D ls Γ
 | .rg D gs, Γ => denRegG A X D gs Γ
 | .sq a b, Γ => match denS A X a Γ with
  | some p => match denS A X b p.Γ' with
   | some q => some ⟨q.Γ', fun ρ K => p.run ρ fun ρ' => q.run ρ' K⟩
   | none => none
  | none => none
 | .gh g c, Γ => match ghT X Γ g with
  | some p => match denS A X c p.Γ' with
   | some q => some ⟨q.Γ', fun ρ K => q.run (p.up ρ) K⟩
   | none => none
  | none => none
 | _, _ => none
def resT1 (X : TP) (Γ : TC) : SRes → Option (Σ t : Ty, Dyn (HS Γ) (D t))
 | .tmp t => match rdC Γ [] (.t t) with
  | some q => some q.2
  | none => none
 | .cell a sz => match rdK X.G Γ (.t a) with
  | some k => match loadT Γ [] sz k with
   | some ⟨.v t, d⟩ => some ⟨t, d⟩
   | some ⟨.own id, .tot _⟩ => match get Γ (.o id) with
    | some ⟨.arr _ _ t, xs⟩ => some ⟨.sl t, .tot xs⟩
    | _ => none
   | _ => none
  | none => none
def resRow (X : TP) (Γ : TC) : List SRes → Option (Σ r : Ty, Dyn (HS Γ) (D r))
 | [] => some ⟨.nil, .tot fun _ => ()⟩
 | [x] => match resT1 X Γ x with
  | some q => some ⟨.one q.1, q.2⟩
  | none => none
 | x :: y :: xs => match resT1 X Γ x, resRow X Γ (y :: xs) with
  | some q, some p => some ⟨.cons q.1 p.1, q.2.both p.2⟩
  | _, _ => none
def resT (X : TP) (Γ : TC) : List SRes → Option (Σ t : Ty, Dyn (HS Γ) (D t))
 | [x] => resT1 X Γ x
 | xs => match resRow X Γ xs with
  | some q => some ⟨.tup q.1, q.2⟩
  | none => none
def retN (Γ : TC) : (rs : List SRes) → (Rt : Ty) → Option (HS Γ → D Rt)
 | [.tmp i], .nw e size t => match get Γ (.s i) with
  | some ⟨.own id, _⟩ => match get Γ (.o id) with
   | some ⟨.arr e' size' t', xs⟩ => if h : t' = t then (if e' = e ∧ size' = size then some fun ρ => (h ▸ xs ρ : List (D t)) else none) else none
   | _ => none
  | some ⟨.v .nsl, _⟩ => some fun _ => ([] : List (D t))
  | _ => none
 | _, _ => none
noncomputable def den (X : TP) (rs : List SRes) (Rt : Ty) : AC → (A : Type) → (xs : XC) → (Γn Γ : TC) → Option (HS Γ → DKn A xs Γn (D Rt) → Option A)
 | .skip, A, xs, Γn, Γ => match coeC Γ Γn with
  | some f => some fun ρ k => k.n (f ρ)
  | none => none
 | .reg draw D ls, A, xs, Γn, Γ => match denReg A X draw D ls Γ with
  | some q => match coeC q.Γ' Γn with
   | some f => some fun ρ k => q.run ρ fun ρ' => k.n (f ρ')
   | none => none
  | none => none
 | .rg D gs, A, xs, Γn, Γ => match denRegG A X D gs Γ with
  | some q => match coeC q.Γ' Γn with
   | some f => some fun ρ k => q.run ρ fun ρ' => k.n (f ρ')
   | none => none
  | none => none
 | .sq a b, A, xs, Γn, Γ => match denS A X a Γ with
  | some q => match den X rs Rt b A xs Γn q.Γ' with
   | some db => some fun ρ k => q.run ρ fun ρ' => db ρ' k
   | none => none
  | none => none
 | .seq Γm a b, A, xs, Γn, Γ => match den X rs Rt a A xs Γm Γ, den X rs Rt b A xs Γn Γm with
  | some da, some db => some fun ρ k => da ρ ⟨fun ρm => db ρm k, k.e, k.r⟩
  | _, _ => none
 | .join Γm ex rt a b, A, xs, Γn, Γ => match selX xs ex with
  | some ys => match selE A xs ys, den X rs Rt a (OutX (D Rt) ((0, Γm) :: ys) rt) ys Γm Γ, den X rs Rt b A xs Γn Γm with
   | some g, some da, some db => some fun ρ k => (da ρ ⟨(keX ((0, Γm) :: ys) rt (fun o => o)).1, (keX ((0, Γm) :: ys) rt (fun o => o)).2, rtX ((0, Γm) :: ys) rt (fun o => o)⟩).bind (elX ((0, Γm) :: ys) rt (fun ρm => db ρm k, g k.e) k.r)
   | _, _, _ => none
  | none => none
 | .cond c x y, A, xs, Γn, Γ => match rdV Γ c, den X rs Rt x A xs Γn Γ, den X rs Rt y A xs Γn Γ with
  | some ⟨.bool, d⟩, some dx, some dy => some fun ρ k => d.app ρ fun b => if b = true then dx ρ k else dy ρ k
  | _, _, _ => none
 | .block id b, A, xs, Γn, Γ => match den X rs Rt b A ((id, Γn) :: xs) Γn Γ with
  | some db => some fun ρ k => db ρ ⟨k.n, (k.n, k.e), k.r⟩
  | none => none
 | .loop Γh ex rt b, A, xs, _, Γ => match selX xs ex with
  | some ys => match selE A xs ys, coeC Γ Γh, den X rs Rt b (HS Γh ⊕ OutX (D Rt) ys rt) ys Γh Γh with
   | some g, some f, some db => some fun ρ k => (iter (fun ρ => db ρ ⟨fun ρ' => some (.inl ρ'), keX ys rt Sum.inr, rtX ys rt Sum.inr⟩) (f ρ)).bind (elX ys rt (g k.e) k.r)
   | _, _, _ => none
  | none => none
 | .exit i, A, xs, _, Γ => match findE A xs i with
  | some q => match coeC Γ q.1 with
   | some f => some fun ρ k => q.2 k.e (f ρ)
   | none => none
  | none => none
 | .ret, A, xs, Γn, Γ => match retN Γ rs Rt with
  | some g => some fun ρ k => k.r (g ρ)
  | none => match resT X Γ rs with
   | some q => match coeT q.1 Rt with
    | some g => some fun ρ k => q.2.app ρ fun v => k.r (g v)
    | none => none
   | none => none
 | .raw _, _, _, _, _ => some fun _ _ => none
 | .gh g c, A, xs, Γn, Γ => match ghT X Γ g with
  | some p => match den X rs Rt c A xs Γn p.Γ' with
   | some dc => some fun ρ k => dc (p.up ρ) k
   | none => none
  | none => none
end WB
namespace WB
open Go Go.RowKit
section
variable {X : TP} {E : Env}
theorem CanAll_ml {t : Ty} (hm : mlT t = true) : ∀ {ys : List (D t)} {es : List CV}, CanAll (fun x c => Can t x [c]) ys es → memlessL es = true
 | [], es, h => by unfold CanAll at h; subst h; rfl
 | y :: ys, es, h => by
  obtain ⟨c, es', rfl, h1, h2⟩ := h
  have := mlT_can hm h1
  simp only [memlessL, Bool.and_true] at this
  simp [memlessL, this, CanAll_ml hm h2]
theorem opCallN_ok (hT : TOk X E) {Γ : TC} {msk : List Nat} {ρ : HS Γ} {st : St} (hr : Rep Γ ρ st) {rd : Nat → Ob} (hrd : ∀ id, msk.contains id = false → rd id = st.ob id) {d : Nat} {op : SOp} {o : OpD Γ} (h : opCallN X Γ msk d op = some o) {b : o.B} (hb : o.d.val ρ = some b) :
  ∃ st', evalOp E rd st (some d) op = some st' ∧ Rep o.Γ' (o.up ρ b) st' := by
 cases op <;> try (cases h; done)
 case call f args =>
  simp only [opCallN] at h
  split at h <;> try (cases h; done)
  rename_i a e size t fn hs
  split at h <;> try (cases h; done)
  rename_i f0 hg
  split at h <;> try (cases h; done)
  rename_i p hp
  split at h <;> try (cases h; done)
  rename_i g hg'
  split at h <;> try (cases h; done)
  rename_i hc
  cases h
  try dsimp only at hb
  obtain ⟨z, h1, h2⟩ := Dyn.comp_val hb
  obtain ⟨y, h3, h4⟩ := Dyn.map_val h1
  subst h4
  obtain ⟨l, h5, h6, h7⟩ := argsT_ok hr hrd (G := E.G) (fl := p.1) (q := p.2) hp h3
  obtain ⟨_, s3⟩ := hT.nw f a e size t fn hs
  obtain ⟨es, h8, h9⟩ := s3 _ l b (coeT_can _ _ hg' h6) h2
  have hn : st.ob d = .none := hr.o d _ hg
  have hm : ((args.all fun x => isC (so E.G st.fr x)) || (Res.new (.arr e size es)).memless) = true := by
   cases hp1 : p.1 with
   | true => rw [h7 hp1]; rfl
   | false =>
    rw [hp1] at hc
    simp only [Bool.false_or] at hc
    simp [Res.memless, CanAll_ml hc h9]
  refine ⟨_, ?_, Rep.newObjS hr (k := .own d) (ko := .arr e size t) (x := ()) (y := b) (v := .osl d) ⟨es, rfl, h9⟩ rfl⟩
  simp only [evalOp, SOp.cls, callOp, h5, Option.bind_some, List.append_nil, h8, hm, if_true, setRes, addNew, hn, Option.getD_some, refOf]
theorem opL_ok (hT : TOk X E) {Γ : TC} {msk : List Nat} {ρ : HS Γ} {st : St} (hr : Rep Γ ρ st) {D : Option (List Nat)} {l : SL} (hD : ∀ id, (hid l.op msk).contains id = false → mask (D.map (hid l.op)) st.ob id = st.ob id) {o : OpD Γ} (h : opL X Γ msk l = some o) {b : o.B} (hb : o.d.val ρ = some b) :
  ∃ st', evalL E D l st = some st' ∧ Rep o.Γ' (o.up ρ b) st' := by
 obtain ⟨dst, op, guard⟩ := l
 cases guard with
 | none =>
  simp only [opL] at h
  split at h
  ·rename_i hcls
   split at h <;> try (cases h; done)
   rename_i d
   split at h <;> try (cases h; done)
   rename_i f hg
   obtain ⟨v, ob, h1, h2⟩ := opNew_ok hr h hb
   have hn : st.ob d = .none := hr.o d _ hg
   rw [← hT.G] at h1
   exact ⟨_, by simp [evalL, evalOp, hcls, h1, addNew, hn], h2⟩
  ·rename_i hcls
   obtain ⟨st', h1, h2⟩ := opEff_ok hr h hb
   rw [← hT.G] at h1
   exact ⟨st', by simp only [evalL, evalOp, hcls, h1], h2⟩
  ·obtain ⟨st', h1, h2⟩ := opCopy_ok hT hr h hb (mask (D.map (hid op)) st.ob)
   exact ⟨st', h1, h2⟩
  ·split at h
   ·rename_i q hq
    split at h
    ·rename_i d
     cases h
     obtain ⟨sv, h1, h2⟩ := softK_ok hT hr hD hq hb (some d)
     exact ⟨_, by simp only [evalL, h1], Rep.set hr h2⟩
    ·cases h
     obtain ⟨sv, h1, h2⟩ := softK_ok hT hr hD hq hb none
     exact ⟨st, by simp only [evalL, h1, St.set], hr⟩
   ·split at h <;> try (cases h; done)
    rename_i d
    obtain ⟨st', h1, h2⟩ := opCallN_ok hT hr hD h hb
    exact ⟨st', by simp only [evalL, h1], h2⟩
 | some g =>
  obtain ⟨g, want⟩ := g
  simp only [opL] at h
  split at h <;> try (cases h; done)
  rename_i q d hq
  split at h <;> try (cases h; done)
  ·rename_i f hg
   cases h
   obtain ⟨c, e1, e2⟩ := hr.s g _ hg
   unfold Can at e2
   cases e2
   by_cases hw : f ρ = want
   ·have : ∃ y, q.2.val ρ = some y ∧ b = some y := by
     cases hd : q.2 with
     | tot k => rw [hd] at hb; simp only [gD, Dyn.val, hw, if_true, Option.some.injEq] at hb; exact ⟨_, rfl, hb.symm⟩
     | par k =>
      rw [hd] at hb
      simp only [gD, Dyn.val, hw, if_true] at hb
      obtain ⟨y, h1, h2⟩ := Option.map_eq_some_iff.1 hb
      exact ⟨y, h1, h2.symm⟩
    obtain ⟨y, hy, rfl⟩ := this
    obtain ⟨sv, h1, h2⟩ := softK_ok hT hr hD hq hy (some d)
    refine ⟨_, by simp only [evalL, e1, hw, if_true]; exact h1, Rep.set hr ?_⟩
    exact h2
   ·have : b = none := by
     cases hd : q.2 with
     | tot k => rw [hd] at hb; simp only [gD, Dyn.val, hw, if_false, Option.some.injEq] at hb; exact hb.symm
     | par k => rw [hd] at hb; simp only [gD, Dyn.val, hw, if_false, Option.some.injEq] at hb; exact hb.symm
    subst this
    exact ⟨st.set (some d) skipped, by simp only [evalL, e1, hw, if_false], Rep.set hr (k := .opt q.1) (x := none) rfl⟩
  ·rename_i f hg
   cases h
   have hs := hr.s g _ hg
   unfold RS at hs
   by_cases hw : f ρ = some want
   ·simp only [hw] at hs
    obtain ⟨c, e1, e2⟩ := hs
    unfold Can at e2
    cases e2
    have : ∃ y, q.2.val ρ = some y ∧ b = some y := by
     cases hd : q.2 with
     | tot k => rw [hd] at hb; simp only [gO, Dyn.val, hw, if_true, Option.some.injEq] at hb; exact ⟨_, rfl, hb.symm⟩
     | par k =>
      rw [hd] at hb
      simp only [gO, Dyn.val, hw, if_true] at hb
      obtain ⟨y, h1, h2⟩ := Option.map_eq_some_iff.1 hb
      exact ⟨y, h1, h2.symm⟩
    obtain ⟨y, hy, rfl⟩ := this
    obtain ⟨sv, h1, h2⟩ := softK_ok hT hr hD hq hy (some d)
    refine ⟨_, by simp only [evalL, e1, if_true]; exact h1, Rep.set hr ?_⟩
    exact h2
   ·have : b = none := by
     cases hd : q.2 with
     | tot k => rw [hd] at hb; simp only [gO, Dyn.val, hw, if_false, Option.some.injEq] at hb; exact hb.symm
     | par k => rw [hd] at hb; simp only [gO, Dyn.val, hw, if_false, Option.some.injEq] at hb; exact hb.symm
    subst this
    cases hf : f ρ with
    | none =>
     simp only [hf] at hs
     exact ⟨st.set (some d) skipped, by simp only [evalL, hs, skipped], Rep.set hr (k := .opt q.1) (x := none) rfl⟩
    | some b' =>
     simp only [hf] at hs
     obtain ⟨c, e1, e2⟩ := hs
     unfold Can at e2
     cases e2
     have hne : b' ≠ want := fun e => hw (by rw [hf, e])
     exact ⟨st.set (some d) skipped, by simp only [evalL, e1, hne, if_false], Rep.set hr (k := .opt q.1) (x := none) rfl⟩
theorem denLs_ok (hT : TOk X E) {A : Type} {msk : List Nat} {D : Option (List Nat)} (hD : ∀ (op : SOp) (ob : Nat → Ob) id, (hid op msk).contains id = false → mask (D.map (hid op)) ob id = ob id) : ∀ {ls : List SL} {Γ : TC} {q : LsD A Γ} {ρ : HS Γ} {st : St} {K : HS q.Γ' → Option A} {r : A},
  denLs A X msk ls Γ = some q → Rep Γ ρ st → q.run ρ K = some r → ∃ st', evalLs E D ls st = some st' ∧ ∃ ρ', Rep q.Γ' ρ' st' ∧ K ρ' = some r
 | [], Γ, q, ρ, st, K, r, h, hr, hk => by
  simp only [denLs, Option.some.injEq] at h
  subst h
  exact ⟨st, rfl, ρ, hr, hk⟩
 | l :: ls, Γ, q, ρ, st, K, r, h, hr, hk => by
  simp only [denLs] at h
  split at h <;> try (cases h; done)
  rename_i o ho
  split at h <;> try (cases h; done)
  rename_i p hp
  cases h
  have hk' : o.d.app ρ (fun b => p.run (o.up ρ b) K) = some r := hk
  obtain ⟨b, h1, h2⟩ := Dyn.app_some hk'
  obtain ⟨st1, h3, h4⟩ := opL_ok hT hr (hD l.op st.ob) ho h1
  obtain ⟨st2, h5, h6⟩ := denLs_ok hT hD hp h4 h2
  exact ⟨st2, by simp [evalLs, h3, h5], h6⟩
theorem denReg_ok (hT : TOk X E) {A : Type} {draw : Bool} {D : List Nat} {ls : List SL} {Γ : TC} {q : LsD A Γ} {ρ : HS Γ} {st : St} {K : HS q.Γ' → Option A} {r : A} (h : denReg A X draw D ls Γ = some q) (hr : Rep Γ ρ st) (hk : q.run ρ K = some r) :
  ∃ st', evalReg E draw D ls st = some st' ∧ ∃ ρ', Rep q.Γ' ρ' st' ∧ K ρ' = some r := by
 cases D with
 | nil =>
  simp only [denReg] at h
  obtain ⟨st', h1, h2⟩ := denLs_ok hT (D := if draw then some [] else none) (fun op ob id _ => by cases draw <;> simp [mask, hid]) h hr hk
  exact ⟨st', by simpa [evalReg] using h1, h2⟩
 | cons d ds =>
  simp only [denReg] at h
  split at h <;> try (cases h; done)
  rename_i p hp
  cases h
  obtain ⟨st', h1, h2⟩ := denLs_ok hT (D := if draw then some (d :: ds) else none) (fun op ob id hh => by
   cases draw
   ·rfl
   ·simp only [if_true] at hh ⊢
    simp only [Option.map_some, mask, hh, Bool.false_eq_true, if_false]) hp (hr.kill (d :: ds)) hk
  exact ⟨st', by simpa [evalReg] using h1, h2⟩
theorem denLsG_ok (hT : TOk X E) {A : Type} : ∀ {gs : List GL} {Γ : TC} {q : LsD A Γ} {ρ : HS Γ} {st : St} {K : HS q.Γ' → Option A} {r : A} {Q : St → Prop},
  denLsG A X gs Γ = some q → Rep Γ ρ st → q.run ρ K = some r → (∀ st' ρ', Rep q.Γ' ρ' st' → K ρ' = some r → Q st') → runS E (linesG gs) Q st
 | [], Γ, q, ρ, st, K, r, Q, h, hr, hk, hQ => by
  simp only [denLsG, Option.some.injEq] at h
  subst h
  exact ⟨st, Seen.refl st, hQ _ _ hr hk⟩
 | .l l :: gs, Γ, q, ρ, st, K, r, Q, h, hr, hk, hQ => by
  simp only [denLsG] at h
  split at h <;> try (cases h; done)
  rename_i o ho
  split at h <;> try (cases h; done)
  rename_i p hp
  cases h
  have hk' : o.d.app ρ (fun b => p.run (o.up ρ b) K) = some r := hk
  obtain ⟨b, h1, h2⟩ := Dyn.app_some hk'
  obtain ⟨st1, h3, h4⟩ := opL_ok hT hr (D := none) (fun _ _ => rfl) ho h1
  exact ⟨st, Seen.refl st, st1, h3, denLsG_ok (gs := gs) hT hp h4 h2 hQ⟩
 | .g g :: gs, Γ, q, ρ, st, K, r, Q, h, hr, hk, hQ => by
  simp only [denLsG] at h
  split at h <;> try (cases h; done)
  rename_i p hp
  split at h <;> try (cases h; done)
  rename_i p' hp'
  cases h
  obtain ⟨st', h1, h2⟩ := ghT_ok hp hr
  exact runS_seen h1 (denLsG_ok (gs := gs) hT hp' h2 hk hQ)
theorem denRegG_ok (hT : TOk X E) {A : Type} {D : List Nat} {gs : List GL} {Γ : TC} {q : LsD A Γ} {ρ : HS Γ} {st : St} {K : HS q.Γ' → Option A} {r : A} {Q : Ex → St → Prop} (h : denRegG A X D gs Γ = some q) (hr : Rep Γ ρ st) (hk : q.run ρ K = some r)
  (hQ : ∀ st' ρ', Rep q.Γ' ρ' st' → K ρ' = some r → Q .normal st') : pwpS E (.reg false D (linesG gs)) Q st := by
 cases D with
 | nil =>
  simp only [denRegG] at h
  exact ⟨st, Seen.refl st, denLsG_ok hT h hr hk hQ⟩
 | cons d ds =>
  simp only [denRegG] at h
  split at h <;> try (cases h; done)
  rename_i p hp
  cases h
  exact ⟨st, Seen.refl st, denLsG_ok hT hp (hr.kill (d :: ds)) hk hQ⟩
theorem denS_ok (hT : TOk X E) {A : Type} {Q : Ex → St → Prop} : ∀ {c : AC} {Γ : TC} {q : LsD A Γ} {ρ : HS Γ} {st : St} {K : HS q.Γ' → Option A} {r : A}, denS A X c Γ = some q → Rep Γ ρ st → q.run ρ K = some r →
  (∀ st' ρ', Rep q.Γ' ρ' st' → K ρ' = some r → Q .normal st') → pwpS E (erase c) Q st := by
 intro c
 induction c generalizing Q with
 | skip =>
  intro Γ q ρ st K r h hr hk hQ
  simp only [denS, Option.some.injEq] at h
  subst h
  exact ⟨st, Seen.refl st, hQ _ _ hr hk⟩
 | reg draw D ls =>
  intro Γ q ρ st K r h hr hk hQ
  obtain ⟨st', h1, ρ', h2, h3⟩ := denReg_ok hT (K := K) h hr hk
  exact pwpS_reg h1 (hQ _ _ h2 h3)
 | rg D gs =>
  intro Γ q ρ st K r h hr hk hQ
  exact denRegG_ok hT (K := K) h hr hk hQ
 | sq a b iha ihb =>
  intro Γ q ρ st K r h hr hk hQ
  simp only [denS] at h
  split at h <;> try (cases h; done)
  rename_i p hp
  split at h <;> try (cases h; done)
  rename_i p' hp'
  cases h
  exact ⟨st, Seen.refl st, iha hp hr hk fun st' ρ' h1 h2 => ihb hp' h1 h2 hQ⟩
 | gh g c ih =>
  intro Γ q ρ st K r h hr hk hQ
  simp only [denS] at h
  split at h <;> try (cases h; done)
  rename_i p hp
  split at h <;> try (cases h; done)
  rename_i p' hp'
  cases h
  obtain ⟨st', h1, h2⟩ := ghT_ok hp hr
  exact pwpS_seen h1 (ih hp' h2 hk hQ)
 | _ => intro Γ q ρ st K r h; cases h
theorem resT1_ok {Γ : TC} {ρ : HS Γ} {st : St} (hr : Rep Γ ρ st) {x : SRes} {q : Σ t : Ty, Dyn (HS Γ) (D t)} {y : D q.1} (h : resT1 X Γ x = some q) (hy : q.2.val ρ = some y) : ∃ c, oneRes st x = some c ∧ Can q.1 y [c] := by
 cases x with
 | tmp t =>
  simp only [resT1] at h
  split at h <;> try (cases h; done)
  rename_i p hp
  cases h
  obtain ⟨c, h1, h2, _⟩ := rdC_ok (msk := []) (rd := st.ob) (G := X.G) (fl := p.1) (q := p.2) hp hr (fun _ _ => rfl) hy
  exact ⟨c, h1, h2⟩
 | cell a sz =>
  simp only [resT1] at h
  split at h <;> try (cases h; done)
  rename_i k hk
  split at h <;> try (cases h; done)
  ·rename_i t d hd
   cases h
   obtain ⟨sv, h1, c, h2, h3⟩ := loadT_ok (msk := []) (rd := st.ob) (sv := so X.G st.fr (.t a)) hr (fun _ _ => rfl) hd hy (fun x hx => rdK_ok hk hr hx)
   subst h2
   refine ⟨c, ?_, h3⟩
   have h1' : loadV st.ob sz (st.fr a) = some (.c c) := h1
   simp [oneRes, h1', close]
  ·rename_i id f hd
   split at h <;> try (cases h; done)
   rename_i e size t xs ho
   cases h
   cases hy
   obtain ⟨sv, h1, h2⟩ := loadT_ok (msk := []) (rd := st.ob) (sv := so X.G st.fr (.t a)) (y := f ρ) hr (fun _ _ => rfl) hd rfl (fun x hx => rdK_ok hk hr hx)
   have h2' : sv = .osl id := h2
   subst h2'
   obtain ⟨es, h3, h4⟩ := hr.o id _ ho
   refine ⟨.sl none es, ?_, by unfold Can; exact ⟨_, _, rfl, h4⟩⟩
   have h1' : loadV st.ob sz (st.fr a) = some (.osl id) := h1
   simp [oneRes, h1', close, h3]
theorem resRow_ok {Γ : TC} {ρ : HS Γ} {st : St} (hr : Rep Γ ρ st) : ∀ {xs : List SRes} {q : Σ t : Ty, Dyn (HS Γ) (D t)} {y : D q.1}, resRow X Γ xs = some q → q.2.val ρ = some y → ∃ l, allM (oneRes st) xs = some l ∧ Can q.1 y l
 | [], q, y, h, hy => by
  simp only [resRow, Option.some.injEq] at h
  subst h
  exact ⟨[], rfl, by unfold Can; rfl⟩
 | [x], q, y, h, hy => by
  simp only [resRow] at h
  split at h <;> try (cases h; done)
  rename_i p hp
  cases h
  obtain ⟨c, h1, h2⟩ := resT1_ok hr hp hy
  exact ⟨[c], by simp [allM, h1], by unfold Can; exact ⟨c, rfl, h2⟩⟩
 | x :: z :: xs, q, y, h, hy => by
  simp only [resRow] at h
  split at h <;> try (cases h; done)
  rename_i p p' hp hp'
  cases h
  obtain ⟨g1, g2⟩ := Dyn.both_val hy
  obtain ⟨c, h1, h2⟩ := resT1_ok hr hp g1
  obtain ⟨l, h3, h4⟩ := resRow_ok hr hp' g2
  refine ⟨c :: l, ?_, by unfold Can; exact ⟨c, l, rfl, h2, h4⟩⟩
  have e : allM (oneRes st) (x :: z :: xs) = (oneRes st x).bind fun b => (allM (oneRes st) (z :: xs)).map fun bs => b :: bs := rfl
  rw [e, h1, h3]; rfl
theorem resT_ok {Γ : TC} {ρ : HS Γ} {st : St} (hr : Rep Γ ρ st) {xs : List SRes} {q : Σ t : Ty, Dyn (HS Γ) (D t)} {y : D q.1} (h : resT X Γ xs = some q) (hy : q.2.val ρ = some y) : ∃ c, resOf st xs = some c ∧ Can q.1 y [c] := by
 match xs, h with
 | [x], h =>
  obtain ⟨c, h1, h2⟩ := resT1_ok hr h hy
  exact ⟨c, by simp [resOf, allM, h1, packRes], h2⟩
 | [], h =>
  simp only [resT] at h
  split at h <;> try (cases h; done)
  rename_i p hp
  cases h
  obtain ⟨l, h1, h2⟩ := resRow_ok hr hp hy
  simp only [allM, Option.some.injEq] at h1
  subst h1
  exact ⟨.tup [], rfl, by unfold Can; exact ⟨[], rfl, h2⟩⟩
 | x :: z :: xs, h =>
  simp only [resT] at h
  split at h <;> try (cases h; done)
  rename_i p hp
  cases h
  obtain ⟨l, h1, h2⟩ := resRow_ok hr hp hy
  have hlen := allM_length h1
  refine ⟨.tup l, ?_, by unfold Can; exact ⟨l, rfl, h2⟩⟩
  simp only [resOf, h1, Option.map_some]
  match l, hlen with
  | c :: d :: l, _ => rfl
theorem keX_head {R A B : Type} {e : Nat × TC} {ys : XC} {rt : Bool} {f : OutX R (e :: ys) rt → B} {ρ : HS e.2} {b : B} {ke : KE A (e :: ys)} {kr : R → Option A} {r : A} (h : (keX (e :: ys) rt f).1 ρ = some b)
  (hk : ∀ o, f o = b → elX (e :: ys) rt ke kr o = some r) : ke.1 ρ = some r := by
 cases ys with
 | nil =>
  cases rt with
  | false => exact hk ρ (Option.some.inj h)
  | true => exact hk (.inl ρ) (Option.some.inj h)
 | cons e' ys => exact hk (.inl ρ) (Option.some.inj h)
theorem keX_find {R A B : Type} : ∀ {ys : XC} {rt : Bool} {f : OutX R ys rt → B} {i : Nat} {Γi : TC} {s : KE B ys → HS Γi → Option B} {ρ : HS Γi} {b : B} {ke : KE A ys} {kr : R → Option A} {r : A}, findE B ys i = some ⟨Γi, s⟩ → s (keX ys rt f) ρ = some b →
  (∀ o, f o = b → elX ys rt ke kr o = some r) → ∃ s', findE A ys i = some ⟨Γi, s'⟩ ∧ s' ke ρ = some r
 | [], rt, f, i, Γi, s, ρ, b, ke, kr, r, h, _, _ => by cases h
 | e :: ys, rt, f, i, Γi, s, ρ, b, ke, kr, r, h, hs, hk => by
  simp only [findE] at h ⊢
  split at h
  ·rename_i hi
   cases h
   rw [if_pos hi]
   exact ⟨_, rfl, keX_head hs hk⟩
  ·rename_i hi
   rw [if_neg hi]
   split at h <;> try (cases h; done)
   rename_i q hq
   cases h
   cases ys with
   | nil => cases hq
   | cons e' ys =>
    obtain ⟨s', h1, h2⟩ := keX_find (A := A) (f := fun o => f (.inr o)) (ke := ke.2) (kr := kr) (r := r) hq hs (fun o ho => hk (.inr o) ho)
    rw [h1]
    exact ⟨_, rfl, h2⟩
theorem keX_tail {R A B : Type} {e : Nat × TC} {ys : XC} {rt : Bool} {f : OutX R (e :: ys) rt → B} {i : Nat} {Γi : TC} {s : KE B ys → HS Γi → Option B} {ρ : HS Γi} {b : B} {ke : KE A (e :: ys)} {kr : R → Option A} {r : A} (h : findE B ys i = some ⟨Γi, s⟩) (hs : s (keX (e :: ys) rt f).2 ρ = some b)
  (hk : ∀ o, f o = b → elX (e :: ys) rt ke kr o = some r) : ∃ s', findE A ys i = some ⟨Γi, s'⟩ ∧ s' ke.2 ρ = some r := by
 cases ys with
 | nil => cases h
 | cons e' ys => exact keX_find (A := A) (f := fun o => f (.inr o)) (ke := ke.2) (kr := kr) (r := r) h hs (fun o ho => hk (.inr o) ho)
theorem rtX_ok {R A B : Type} : ∀ {ys : XC} {rt : Bool} {f : OutX R ys rt → B} {v : R} {b : B} {ke : KE A ys} {kr : R → Option A} {r : A}, rtX ys rt f v = some b → (∀ o, f o = b → elX ys rt ke kr o = some r) → kr v = some r
 | [], true, f, v, b, ke, kr, r, h, hk => hk v (Option.some.inj h)
 | [], false, f, v, b, ke, kr, r, h, hk => by cases h
 | [e], false, f, v, b, ke, kr, r, h, hk => by cases h
 | [e], true, f, v, b, ke, kr, r, h, hk => hk (.inr v) (Option.some.inj h)
 | e :: e' :: ys, rt, f, v, b, ke, kr, r, h, hk => rtX_ok (f := fun o => f (.inr o)) (ke := ke.2) h (fun o ho => hk (.inr o) ho)
theorem selE_ok {A : Type} {xs : XC} : ∀ {ys : XC} {g : KE A xs → KE A ys} {i : Nat} {Γi : TC} {s : KE A ys → HS Γi → Option A} {ke : KE A xs} {ρ : HS Γi} {r : A}, selE A xs ys = some g → findE A ys i = some ⟨Γi, s⟩ → s (g ke) ρ = some r → ∃ s', findE A xs i = some ⟨Γi, s'⟩ ∧ s' ke ρ = some r
 | [], g, i, Γi, s, ke, ρ, r, _, h, _ => by cases h
 | e :: ys, g, i, Γi, s, ke, ρ, r, hg, h, hs => by
  simp only [selE] at hg
  split at hg <;> try (cases hg; done)
  rename_i q g' hq hg'
  split at hg <;> try (cases hg; done)
  rename_i he
  cases hg
  obtain ⟨Γq, f⟩ := q
  simp only at he
  subst he
  simp only [findE] at h
  split at h
  ·rename_i hi
   subst hi
   cases h
   exact ⟨f, hq, hs⟩
  ·split at h <;> try (cases h; done)
   rename_i q' hq'
   cases h
   exact selE_ok hg' hq' hs
def RetOk (st : St) (rs : List SRes) : (Rt : Ty) → D Rt → Prop
 | .nw e size t, ys => ∃ es, finN rs (.arr e size es) .ret st ∧ CanAll (fun x c => Can t x [c]) ys es
 | Rt, v => ∃ c, resOf st rs = some c ∧ Can Rt v [c]
theorem RetOk.val {st : St} {rs : List SRes} {Rt : Ty} {v : D Rt} {c : CV} (h : resOf st rs = some c) (hc : Can Rt v [c]) : RetOk st rs Rt v := by
 cases Rt <;> first | exact ⟨c, h, hc⟩ | (unfold Can at hc; exact hc.elim)
theorem RetOk.of {st : St} {rs : List SRes} {Rt : Ty} {v : D Rt} (hv : Rt.val = true) (h : RetOk st rs Rt v) : ∃ c, resOf st rs = some c ∧ Can Rt v [c] := by
 cases Rt <;> first | exact h | cases hv
theorem retN_ok {Γ : TC} {rs : List SRes} {Rt : Ty} {g : HS Γ → D Rt} {ρ : HS Γ} {st : St} (h : retN Γ rs Rt = some g) (hr : Rep Γ ρ st) : RetOk st rs Rt (g ρ) := by
 unfold retN at h
 split at h <;> try (cases h; done)
 rename_i i e size t
 split at h <;> try (cases h; done)
 ·rename_i id f hg
  split at h <;> try (cases h; done)
  rename_i e' size' t' xs ho
  split at h <;> try (cases h; done)
  rename_i ht
  split at h <;> try (cases h; done)
  rename_i he
  subst ht
  obtain ⟨rfl, rfl⟩ := he
  cases h
  have h1 : st.fr i = .osl id := hr.s i _ hg
  obtain ⟨es, h2, h3⟩ := hr.o id _ ho
  exact ⟨es, ⟨i, rfl, .inl ⟨id, .inl h1, h2, rfl⟩⟩, h3⟩
 ·rename_i f hg
  cases h
  obtain ⟨c, e1, e2⟩ := hr.s i _ hg
  unfold Can at e2
  cases e2
  exact ⟨[], ⟨i, rfl, .inr ⟨e1, _, _, rfl⟩⟩, rfl⟩
def PostT {A : Type} {xs : XC} {Γn : TC} (rs : List SRes) (Rt : Ty) (k : DKn A xs Γn (D Rt)) (r : A) : Ex → St → Prop
 | .normal, st => ∃ ρ, Rep Γn ρ st ∧ k.n ρ = some r
 | .exit i, st => ∃ Γi s ρ, findE A xs i = some ⟨Γi, s⟩ ∧ Rep Γi ρ st ∧ s k.e ρ = some r
 | .ret, st => ∃ v, RetOk st rs Rt v ∧ k.r v = some r
theorem den_ok (hT : TOk X E) {rs : List SRes} {Rt : Ty} : ∀ (c : AC) {A : Type} {xs : XC} {Γn Γ : TC} {d : HS Γ → DKn A xs Γn (D Rt) → Option A} {ρ : HS Γ} {k : DKn A xs Γn (D Rt)} {st : St} {r : A},
  den X rs Rt c A xs Γn Γ = some d → Rep Γ ρ st → d ρ k = some r → pwpS E (erase c) (PostT rs Rt k r) st := by
 intro c
 induction c with
 | skip =>
  intro A xs Γn Γ d ρ k st r h hr hd
  simp only [den] at h
  split at h <;> try (cases h; done)
  rename_i f hf
  cases h
  exact ⟨st, Seen.refl st, _, coeC_ok hf hr, hd⟩
 | reg draw D ls =>
  intro A xs Γn Γ d ρ k st r h hr hd
  simp only [den] at h
  split at h <;> try (cases h; done)
  rename_i q hq
  split at h <;> try (cases h; done)
  rename_i f hf
  cases h
  obtain ⟨st', h1, ρ', h2, h3⟩ := denReg_ok hT hq hr hd
  exact pwpS_reg h1 ⟨_, coeC_ok hf h2, h3⟩
 | rg D gs =>
  intro A xs Γn Γ d ρ k st r h hr hd
  simp only [den] at h
  split at h <;> try (cases h; done)
  rename_i q hq
  split at h <;> try (cases h; done)
  rename_i f hf
  cases h
  exact denRegG_ok hT hq hr hd fun st' ρ' h2 h3 => ⟨_, coeC_ok hf h2, h3⟩
 | sq a b iha ihb =>
  intro A xs Γn Γ d ρ k st r h hr hd
  simp only [den] at h
  split at h <;> try (cases h; done)
  rename_i q hq
  split at h <;> try (cases h; done)
  rename_i db hdb
  cases h
  exact ⟨st, Seen.refl st, denS_ok hT hq hr hd fun st' ρ' h1 h2 => ihb hdb h1 h2⟩
 | seq Γm a b iha ihb =>
  intro A xs Γn Γ d ρ k st r h hr hd
  simp only [den] at h
  split at h <;> try (cases h; done)
  rename_i da db hda hdb
  cases h
  refine ⟨st, Seen.refl st, pwpS_mono _ (fun e s hp => ?_) (iha hda hr hd)⟩
  cases e with
  | normal =>
   obtain ⟨ρ', h1, h2⟩ := hp
   exact ihb hdb h1 h2
  | exit i => exact hp
  | ret => exact hp
 | join Γm ex rt a b iha ihb =>
  intro A xs Γn Γ d ρ k st r h hr hd
  simp only [den] at h
  split at h <;> try (cases h; done)
  rename_i ys hys
  split at h <;> try (cases h; done)
  rename_i g da db hg hda hdb
  cases h
  obtain ⟨o, h1, h2⟩ := Option.bind_eq_some_iff.1 hd
  refine ⟨st, Seen.refl st, pwpS_mono _ (fun e s hp => ?_) (iha hda hr h1)⟩
  have hk : ∀ o', o' = o → elX ((0, Γm) :: ys) rt (fun ρm => db ρm k, g k.e) k.r o' = some r := fun o' ho => ho ▸ h2
  cases e with
  | normal =>
   obtain ⟨ρ', h3, h4⟩ := hp
   exact ihb hdb h3 (keX_head (ke := (fun ρm => db ρm k, g k.e)) h4 hk)
  | exit i =>
   obtain ⟨Γi, s', ρ', h3, h4, h5⟩ := hp
   obtain ⟨s2, h6, h7⟩ := keX_tail (A := A) (ke := (fun ρm => db ρm k, g k.e)) h3 h5 hk
   obtain ⟨s3, h8, h9⟩ := selE_ok hg h6 h7
   exact ⟨Γi, s3, ρ', h8, h4, h9⟩
  | ret =>
   obtain ⟨v, h3, h5⟩ := hp
   exact ⟨v, h3, rtX_ok (ke := (fun ρm => db ρm k, g k.e)) h5 hk⟩
 | cond c x y ihx ihy =>
  intro A xs Γn Γ d ρ k st r h hr hd
  simp only [den] at h
  split at h <;> try (cases h; done)
  rename_i e dx dy he hdx hdy
  cases h
  obtain ⟨b, h1, h2⟩ := Dyn.app_some hd
  obtain ⟨cv, e1, e2⟩ := rdV_ok (G := X.G) he hr h1
  unfold Can at e2
  cases e2
  refine ⟨st, Seen.refl st, b, by rw [hT.G]; exact e1, fun hb => ?_, fun hb => ?_⟩
  ·rw [if_pos hb] at h2
   exact ihx hdx hr h2
  ·rw [if_neg (by simp [hb])] at h2
   exact ihy hdy hr h2
 | block id b ih =>
  intro A xs Γn Γ d ρ k st r h hr hd
  simp only [den] at h
  split at h <;> try (cases h; done)
  rename_i db hdb
  cases h
  refine ⟨st, Seen.refl st, pwpS_mono _ (fun e s hp => ?_) (ih hdb hr hd)⟩
  cases e with
  | normal => exact hp
  | exit i =>
   obtain ⟨Γi, s', ρ', h3, h4, h5⟩ := hp
   simp only [findE] at h3
   by_cases hi : i = id
   ·subst hi
    simp only [if_true, Option.some.injEq, Sigma.mk.injEq] at h3
    obtain ⟨rfl, h3⟩ := h3
    cases eq_of_heq h3
    simp only [if_true]
    exact ⟨ρ', h4, h5⟩
   ·simp only [if_neg hi]
    rw [if_neg (fun e => hi e.symm)] at h3
    split at h3 <;> try (cases h3; done)
    rename_i q hq
    cases h3
    exact ⟨_, _, ρ', hq, h4, h5⟩
  | ret => exact hp
 | loop Γh ex rt b ih =>
  intro A xs Γn Γ d ρ k st r h hr hd
  simp only [den] at h
  split at h <;> try (cases h; done)
  rename_i ys hys
  split at h <;> try (cases h; done)
  rename_i g f db hg hf hdb
  cases h
  obtain ⟨o, h1, h2⟩ := Option.bind_eq_some_iff.1 hd
  obtain ⟨n, hn⟩ := iter_some.1 h1
  refine ⟨st, Seen.refl st, fun m s => ∃ ρ, Rep Γh ρ s ∧ iterN (fun ρ => db ρ ⟨fun ρ' => some (.inl ρ'), keX ys rt Sum.inr, rtX ys rt Sum.inr⟩) m ρ = some o, ⟨n, f ρ, coeC_ok hf hr, hn⟩, fun m s hR => ?_⟩
  obtain ⟨ρ1, hr1, hi⟩ := hR
  cases m with
  | zero => cases hi
  | succ m =>
   simp only [iterN] at hi
   obtain ⟨w, h3, h4⟩ := Option.bind_eq_some_iff.1 hi
   refine pwpS_mono _ (fun e s' hp => ?_) (ih hdb hr1 h3)
   have hk : ∀ o', Sum.inr o' = w → elX ys rt (g k.e) k.r o' = some r := fun o' ho => by
    subst ho
    simp only [Option.some.injEq] at h4
    rw [h4]; exact h2
   cases e with
   | normal =>
    obtain ⟨ρ', h5, h6⟩ := hp
    cases h6
    exact ⟨m, by omega, ρ', h5, h4⟩
   | exit i =>
    obtain ⟨Γi, s2, ρ', h5, h6, h7⟩ := hp
    obtain ⟨s3, h8, h9⟩ := keX_find (A := A) (ke := g k.e) h5 h7 hk
    obtain ⟨s4, h10, h11⟩ := selE_ok hg h8 h9
    exact ⟨Γi, s4, ρ', h10, h6, h11⟩
   | ret =>
    obtain ⟨v, h5, h7⟩ := hp
    exact ⟨v, h5, rtX_ok (ke := g k.e) h7 hk⟩
 | exit i =>
  intro A xs Γn Γ d ρ k st r h hr hd
  simp only [den] at h
  split at h <;> try (cases h; done)
  rename_i q hq
  split at h <;> try (cases h; done)
  rename_i f hf
  cases h
  exact ⟨st, Seen.refl st, q.1, q.2, _, hq, coeC_ok hf hr, hd⟩
 | ret =>
  intro A xs Γn Γ d ρ k st r h hr hd
  simp only [den] at h
  split at h
  ·rename_i g hg
   cases h
   exact ⟨st, Seen.refl st, _, retN_ok hg hr, hd⟩
  ·split at h <;> try (cases h; done)
   rename_i q hq
   split at h <;> try (cases h; done)
   rename_i g hg
   cases h
   obtain ⟨v, h1, h2⟩ := Dyn.app_some hd
   obtain ⟨c, h3, h4⟩ := resT_ok hr hq h1
   exact ⟨st, Seen.refl st, _, RetOk.val h3 (coeT_can _ _ hg h4), h2⟩
 | raw c =>
  intro A xs Γn Γ d ρ k st r h hr hd
  simp only [den, Option.some.injEq] at h
  subst h
  cases hd
 | gh g c ih =>
  intro A xs Γn Γ d ρ k st r h hr hd
  simp only [den] at h
  split at h <;> try (cases h; done)
  rename_i p hp
  split at h <;> try (cases h; done)
  rename_i dc hdc
  cases h
  obtain ⟨st', h1, h2⟩ := ghT_ok hp hr
  exact pwpS_seen h1 (ih hdc h2 hd)
end
end WB
namespace WB
open Go Go.RowKit
structure AF where
 n : Nat
 code : AC
 res : List SRes
@[reducible] def slotsT : Ty → Nat → TC
 | .one t, i => [(.s i, .v t)]
 | .cons t r, i => (.s i, .v t) :: slotsT r (i + 1)
 | _, _ => []
def slotsP : (a : Ty) → (i : Nat) → D a → HS (slotsT a i)
 | .one _, _, x => (x, ())
 | .cons _ r, i, x => (x.1, slotsP r (i + 1) x.2)
 | .int _, _, _ | .bool, _, _ | .str, _, _ | .err, _, _ | .clo _ _, _, _ | .falt _ _ _, _, _ | .nfn, _, _ | .pt _, _, _ | .nw _ _ _, _, _ | .nsl, _, _ | .nmap, _, _ | .agg _, _, _ | .tup _, _, _ | .sl _, _, _ | .map _ _, _, _ | .nil, _, _ => ()
theorem slots_get : ∀ {a : Ty} {i : Nat} {x : D a} {l : List CV} {p : Key} {q : Σ k : EK, HS (slotsT a i) → DK k}, Can a x l → get (slotsT a i) p = some q → ∃ j c, p = .s (i + j) ∧ l[j]? = some c ∧ RS q.1 (q.2 (slotsP a i x)) (.c c)
 | .one t, i, x, l, p, q, hc, hg => by
  unfold Can at hc
  obtain ⟨c, rfl, hc⟩ := hc
  by_cases hp : Key.s i = p
  ·subst hp
   have hg' : get ((Key.s i, EK.v t) :: []) (Key.s i) = some q := hg
   rw [get_eq] at hg'
   cases hg'
   exact ⟨0, c, rfl, rfl, c, rfl, hc⟩
  ·obtain ⟨f, hf, _⟩ := get_ne hp hg
   cases hf
 | .cons t r, i, x, l, p, q, hc, hg => by
  unfold Can at hc
  obtain ⟨c, l', rfl, h1, h2⟩ := hc
  by_cases hp : Key.s i = p
  ·subst hp
   have hg' : get ((Key.s i, EK.v t) :: slotsT r (i + 1)) (Key.s i) = some q := hg
   rw [get_eq] at hg'
   cases hg'
   exact ⟨0, c, rfl, rfl, c, rfl, h1⟩
  ·obtain ⟨f, hf, hx⟩ := get_ne hp hg
   obtain ⟨j, c', h3, h4, h5⟩ := slots_get (i := i + 1) h2 hf
   refine ⟨j + 1, c', by rw [h3]; congr 1; omega, by simpa using h4, ?_⟩
   have e := hx (slotsP (.cons t r) i x)
   rw [e]; exact h5
 | .int _, _, _, _, _, _, _, hg => by cases hg
 | .bool, _, _, _, _, _, _, hg => by cases hg
 | .str, _, _, _, _, _, _, hg => by cases hg
 | .err, _, _, _, _, _, _, hg => by cases hg
 | .clo _ _, _, _, _, _, _, _, hg => by cases hg
 | .falt _ _ _, _, _, _, _, _, _, hg => by cases hg
 | .nfn, _, _, _, _, _, _, hg => by cases hg
 | .pt _, _, _, _, _, _, _, hg => by cases hg
 | .nw _ _ _, _, _, _, _, _, _, hg => by cases hg
 | .nsl, _, _, _, _, _, _, hg => by cases hg
 | .nmap, _, _, _, _, _, _, hg => by cases hg
 | .agg _, _, _, _, _, _, _, hg => by cases hg
 | .tup _, _, _, _, _, _, _, hg => by cases hg
 | .sl _, _, _, _, _, _, _, hg => by cases hg
 | .map _ _, _, _, _, _, _, _, hg => by cases hg
 | .nil, _, _, _, _, _, _, hg => by cases hg
theorem init_rep {a : Ty} {x : D a} {l : List CV} (hc : Can a x l) : Rep (slotsT a 0) (slotsP a 0 x) (init l) := by
 refine ⟨fun i q hq => ?_, fun id q hq => ?_⟩
 ·obtain ⟨j, c, h1, h2, h3⟩ := slots_get hc hq
  simp only [Nat.zero_add, Key.s.injEq] at h1
  subst h1
  simp only [init, h2]
  exact h3
 ·obtain ⟨j, c, h1, _⟩ := slots_get hc hq
  cases h1
def kN : (rs : List SRes) → (Rt : Ty) → Option (D Rt)
 | [], .tup .nil => some ()
 | _, _ => none
theorem kN_some {rs : List SRes} {Rt : Ty} {y : D Rt} (h : kN rs Rt = some y) (st : St) : ∃ c, resOf st rs = some c ∧ Can Rt y [c] := by
 unfold kN at h
 split at h
 ·exact ⟨.tup [], rfl, by unfold Can; exact ⟨[], rfl, by unfold Can; rfl⟩⟩
 ·cases h
noncomputable def funT (X : TP) (a Rt : Ty) (m : AF) : Option (D a → Option (D Rt)) :=
 match den X m.res Rt m.code (D Rt) [] [] (slotsT a 0) with
 | some d => some fun x => d (slotsP a 0 x) ⟨fun _ => kN m.res Rt, (), fun y => some y⟩
 | none => none
theorem funT_ok {P : Program} {X : TP} {E : Env} (hE : EOk P E) (hT : TOk X E) {a Rt : Ty} {m : AF} {g : D a → Option (D Rt)} (h : funT X a Rt m = some g) {f : FuncId} (hc : compF P f = some ⟨m.n, erase m.code, m.res⟩) {k : Nat} (hl : lenR a = some k) (hk : k ≤ m.n)
  {x : D a} {l : List CV} {y : D Rt} (hx : Can a x l) (hy : g x = some y) (hv : (Rt.val && Rt.ok) = true := by rfl) : hasBody P f = true ∧ CallsTo P E.G f l (.val (enc Rt y)) := by
 simp only [Bool.and_eq_true] at hv
 unfold funT at h
 split at h <;> try (cases h; done)
 rename_i d hd
 cases h
 refine fn_okT hE hc (by rw [lenR_can hl hx]; exact hk) (pwpS_mono _ (fun e st hp => ?_) (den_ok hT m.code hd (init_rep hx) hy))
 cases e with
 | normal =>
  obtain ⟨ρ, _, h2⟩ := hp
  exact kN_some h2 st
 | exit i =>
  obtain ⟨Γi, s, ρ, h1, _⟩ := hp
  cases h1
 | ret =>
  obtain ⟨v, h1, h3⟩ := hp
  cases h3
  exact RetOk.of hv.1 h1
theorem RelF.plain {w : World} {M : Nat → Prop} {size : Nat} {t : Ty} : ∀ {ys : List (D t)} {es : List CV} {xs : List Value}, CanAll (fun x c => Can t x [c]) ys es → RelF w M size es xs → RelF w M size (ys.map (enc t)) xs
 | [], es, xs, h, hr => by unfold CanAll at h; subst h; exact hr
 | y :: ys, es, xs, h, hr => by
  obtain ⟨c, es', rfl, h1, h2⟩ := h
  obtain ⟨v, xs', e, g1, g2, g3⟩ := hr
  exact ⟨v, xs', e, g1, RelC.enc h1 g2, RelF.plain h2 g3⟩
structure TB where
 G : Nat → List CV
 TT : Nat → Option Ty
 TM : Nat → Option (Ty × Ty)
 cp : FuncId → Bool := fun _ => false
def lookS : List (FuncId × Sig) → FuncId → Option Sig
 | [], _ => none
 | e :: L, f => if e.1 = f then some e.2 else lookS L f
def Ty.isNw : Ty → Bool
 | .nw _ _ _ => true
 | _ => false
def tp (B : TB) (L : List (FuncId × Sig)) : TP := ⟨B.G, fun f => match lookS L f with
 | some s => match s.r.isNw with
  | true => none
  | false => some s
 | none => none, B.TT, B.TM, B.cp, fun f => match lookS L f with
 | some s => match s.r.isNw with
  | true => some s
  | false => none
 | none => none⟩
theorem tp_T {B : TB} {L : List (FuncId × Sig)} {f : FuncId} {s : Sig} : (tp B L).T f = some s ↔ lookS L f = some s ∧ s.r.isNw = false := by
 show (match lookS L f with
  | some s => match s.r.isNw with
   | true => none
   | false => some s
  | none => none) = some s ↔ _
 cases h : lookS L f with
 | none => simp
 | some s' => cases h2 : s'.r.isNw with
  | true =>
   simp only [h2, Option.some.injEq]
   exact ⟨fun e => (by cases e), fun e => by rw [e.1] at h2; rw [h2] at e; cases e.2⟩
  | false =>
   simp only [h2, Option.some.injEq]
   exact ⟨fun e => ⟨e, e ▸ h2⟩, fun e => e.1⟩
theorem tp_N {B : TB} {L : List (FuncId × Sig)} {f : FuncId} {s : Sig} : (tp B L).TN f = some s ↔ lookS L f = some s ∧ s.r.isNw = true := by
 show (match lookS L f with
  | some s => match s.r.isNw with
   | true => some s
   | false => none
  | none => none) = some s ↔ _
 cases h : lookS L f with
 | none => simp
 | some s' => cases h2 : s'.r.isNw with
  | false =>
   simp only [h2, Option.some.injEq]
   exact ⟨fun e => (by cases e), fun e => by rw [e.1] at h2; rw [h2] at e; cases e.2⟩
  | true =>
   simp only [h2, Option.some.injEq]
   exact ⟨fun e => ⟨e, e ▸ h2⟩, fun e => e.1⟩
open Classical in
noncomputable def envT (X : TP) : Env := { G := X.G, cp := X.cp, fn := fun f l => match X.T f with
 | some s => if h : ∃ x, Can s.a x l then (s.fn (choose h)).map fun y => .val (enc s.r y) else none
 | none => match X.TN f with
  | some ⟨a, .nw e size t, fn⟩ => if h : ∃ x, Can a x l then (fn (choose h)).map fun y => .new (.arr e size (y.map (enc t))) else none
  | _ => none }
theorem envT_fn {X : TP} {f : FuncId} {s : Sig} (hs : X.T f = some s) {x : D s.a} {l : List CV} {y : D s.r} (hx : Can s.a x l) (hy : s.fn x = some y) : (envT X).fn f l = some (.val (enc s.r y)) := by
 have hh : ∃ x, Can s.a x l := ⟨x, hx⟩
 simp only [envT, hs, dif_pos hh]
 rw [Can.uniq s.a (Classical.choose_spec hh) hx, hy]; rfl
theorem envT_nw {X : TP} {f : FuncId} {a : Ty} {e size : Nat} {t : Ty} {fn : D a → Option (D (.nw e size t))} (h0 : X.T f = none) (hs : X.TN f = some ⟨a, .nw e size t, fn⟩) {x : D a} {l : List CV} {y : List (D t)} (hx : Can a x l) (hy : fn x = some y) : (envT X).fn f l = some (.new (.arr e size (y.map (enc t)))) := by
 have hh : ∃ x, Can a x l := ⟨x, hx⟩
 simp only [envT, h0, hs, dif_pos hh]
 rw [Can.uniq a (Classical.choose_spec hh) hx, hy]; rfl
theorem envT_some {X : TP} {f : FuncId} {l : List CV} {r : Res} (h : (envT X).fn f l = some r) :
  (∃ s x y, X.T f = some s ∧ Can s.a x l ∧ s.fn x = some y ∧ r = .val (enc s.r y)) ∨
  (X.T f = none ∧ ∃ (a : Ty) (e size : Nat) (t : Ty) (fn : D a → Option (D (.nw e size t))) (x : D a) (y : List (D t)), X.TN f = some ⟨a, .nw e size t, fn⟩ ∧ Can a x l ∧ fn x = some y ∧ r = .new (.arr e size (y.map (enc t)))) := by
 simp only [envT] at h
 split at h
 ·rename_i s hs
  split at h <;> try (cases h; done)
  rename_i hh
  obtain ⟨y, h1, h2⟩ := Option.map_eq_some_iff.1 h
  exact .inl ⟨s, _, y, hs, Classical.choose_spec hh, h1, h2.symm⟩
 ·rename_i h0
  split at h <;> try (cases h; done)
  rename_i a e size t fn hs
  split at h <;> try (cases h; done)
  rename_i hh
  obtain ⟨y, h1, h2⟩ := Option.map_eq_some_iff.1 h
  exact .inr ⟨h0, a, e, size, t, fn, _, y, hs, Classical.choose_spec hh, h1, h2.symm⟩
structure GoodT (P : Program) (B : TB) (L : List (FuncId × Sig)) : Prop where
 E : EOk P (envT (tp B L))
 T : TOk (tp B L) (envT (tp B L))
theorem GoodT.nil (P : Program) (B : TB) (hcp : CpOk P B.cp := by intro f h; cases h) : GoodT P B [] := by
 refine ⟨⟨fun f l r h => ?_, hcp⟩, rfl, rfl, fun f s h => ?_, fun f a e size t fn h => ?_⟩
 ·rcases envT_some h with ⟨s, x, y, h1, _⟩ | ⟨_, _, _, _, _, _, _, _, h1, _⟩ <;> cases h1
 ·cases h
 ·cases h
def SigOk (P : Program) (G : Nat → List CV) (f : FuncId) : Sig → Prop
 | ⟨a, .nw e size t, fn⟩ => (t.val && t.ok) = true ∧ ∀ x l (y : List (D t)), Can a x l → fn x = some y → hasBody P f = true ∧ CallsTo P G f l (.new (.arr e size (y.map (enc t))))
 | s => (s.r.val && s.r.ok) = true ∧ ∀ x l y, Can s.a x l → s.fn x = some y → hasBody P f = true ∧ CallsTo P G f l (.val (enc s.r y))
theorem SigOk.val {P : Program} {G : Nat → List CV} {f : FuncId} {s : Sig} (h : SigOk P G f s) (hn : s.r.isNw = false) : (s.r.val && s.r.ok) = true ∧ ∀ x l y, Can s.a x l → s.fn x = some y → hasBody P f = true ∧ CallsTo P G f l (.val (enc s.r y)) := by
 obtain ⟨a, r, fn⟩ := s
 cases r <;> first | exact h | cases hn
theorem SigOk.mk {P : Program} {G : Nat → List CV} {f : FuncId} {s : Sig} (hv : (s.r.val && s.r.ok) = true) (h : ∀ x l y, Can s.a x l → s.fn x = some y → hasBody P f = true ∧ CallsTo P G f l (.val (enc s.r y))) : SigOk P G f s := by
 obtain ⟨a, r, fn⟩ := s
 cases r <;> first | exact ⟨hv, h⟩ | cases hv
theorem CanAll.encs {t : Ty} (hv : t.val = true) (ho : t.ok = true) : ∀ (ys : List (D t)), CanAll (fun x c => Can t x [c]) ys (ys.map (enc t))
 | [] => rfl
 | y :: ys => ⟨_, _, rfl, Can.enc y hv ho, CanAll.encs hv ho ys⟩
theorem isNw_T {B : TB} {L : List (FuncId × Sig)} {f : FuncId} {s : Sig} (h : (tp B L).TN f = some s) : (tp B L).T f = none := by
 obtain ⟨h1, h2⟩ := tp_N.1 h
 cases hT : (tp B L).T f with
 | none => rfl
 | some s' =>
  obtain ⟨h3, h4⟩ := tp_T.1 hT
  rw [h1] at h3
  cases h3
  rw [h2] at h4
  cases h4
theorem GoodT.addS {P : Program} {B : TB} {L : List (FuncId × Sig)} (h : GoodT P B L) (f : FuncId) (s : Sig) (hs : SigOk P B.G f s) : GoodT P B ((f, s) :: L) := by
 have key : ∀ g s', lookS ((f, s) :: L) g = some s' → (g = f ∧ s' = s) ∨ lookS L g = some s' := fun g s' hg => by
  unfold lookS at hg
  by_cases e : f = g
  ·simp only [e, if_true, Option.some.injEq] at hg
   exact .inl ⟨e.symm, hg.symm⟩
  ·simp only [e, if_false] at hg
   exact .inr hg
 refine ⟨⟨fun g l r hr => ?_, h.E.2⟩, rfl, rfl, fun g s' hs' => ?_, fun g a e size t fn hs' => ?_⟩
 ·rcases envT_some hr with ⟨s', x, y, h1, h2, h3, rfl⟩ | ⟨h0, a, e, size, t, fn, x, y, h1, h2, h3, rfl⟩
  ·obtain ⟨g1, g2⟩ := tp_T.1 h1
   rcases key g s' g1 with ⟨rfl, rfl⟩ | g3
   ·exact (hs.val g2).2 x l y h2 h3
   ·exact h.E.1 g l _ (envT_fn (X := tp B L) (tp_T.2 ⟨g3, g2⟩) h2 h3)
  ·obtain ⟨g1, g2⟩ := tp_N.1 h1
   rcases key g _ g1 with ⟨rfl, e1⟩ | g3
   ·subst e1
    exact hs.2 x l y h2 h3
   ·have h4 : (tp B L).TN g = some ⟨a, .nw e size t, fn⟩ := tp_N.2 ⟨g3, g2⟩
    exact h.E.1 g l _ (envT_nw (X := tp B L) (isNw_T h4) h4 h2 h3)
 ·obtain ⟨g1, g2⟩ := tp_T.1 hs'
  refine ⟨?_, ?_, fun x l y hx hy => envT_fn hs' hx hy⟩ <;>
  ·rcases key g s' g1 with ⟨rfl, rfl⟩ | g3
   ·have := (hs.val g2).1
    simp only [Bool.and_eq_true] at this
    first | exact this.1 | exact this.2
   ·first | exact (h.T.fn g s' (tp_T.2 ⟨g3, g2⟩)).1 | exact (h.T.fn g s' (tp_T.2 ⟨g3, g2⟩)).2.1
 ·obtain ⟨g1, g2⟩ := tp_N.1 hs'
  rcases key g _ g1 with ⟨rfl, e1⟩ | g3
  ·subst e1
   have hto := hs.1
   simp only [Bool.and_eq_true] at hto
   exact ⟨hto.1, fun x l ys hx hy => ⟨_, envT_nw (isNw_T hs') hs' hx hy, CanAll.encs hto.1 hto.2 ys⟩⟩
  ·have h4 : (tp B L).TN g = some ⟨a, .nw e size t, fn⟩ := tp_N.2 ⟨g3, g2⟩
   obtain ⟨k1, k2⟩ := h.T.nw g a e size t fn h4
   refine ⟨k1, fun x l ys hx hy => ⟨_, envT_nw (isNw_T hs') hs' hx hy, ?_⟩⟩
   obtain ⟨es, k3, k4⟩ := k2 x l ys hx hy
   have k5 := envT_nw (X := tp B L) (isNw_T h4) h4 hx hy
   rw [k5] at k3
   cases k3
   exact k4
theorem GoodT.addM {P : Program} {B : TB} {L : List (FuncId × Sig)} (h : GoodT P B L) (f : FuncId) (s : Sig) (hv : (s.r.val && s.r.ok) = true) (hf : ∀ x l y, Can s.a x l → s.fn x = some y → hasBody P f = true ∧ CallsTo P B.G f l (.val (enc s.r y))) : GoodT P B ((f, s) :: L) :=
 h.addS f s (SigOk.mk hv hf)
theorem GoodT.add {P : Program} {B : TB} {L : List (FuncId × Sig)} (h : GoodT P B L) (f : FuncId) (s : Sig) (m : AF) (hc : compF P f = some ⟨m.n, erase m.code, m.res⟩) (hg : funT (tp B L) s.a s.r m = some s.fn) {k : Nat} (hl : lenR s.a = some k) (hk : Nat.ble k m.n = true) (hv : (s.r.val && s.r.ok) = true) : GoodT P B ((f, s) :: L) :=
 h.addM f s hv fun _ _ _ hx hy => funT_ok h.E h.T hg hc hl (Nat.le_of_ble_eq_true hk) hx hy hv
theorem GoodT.call {P : Program} {B : TB} {L : List (FuncId × Sig)} (h : GoodT P B L) {f : FuncId} {s : Sig} (hs : lookS L f = some s) {x : D s.a} {l : List CV} {y : D s.r} (hx : Can s.a x l) (hy : s.fn x = some y) (hn : s.r.isNw = false := by rfl) : CallsTo P B.G f l (.val (enc s.r y)) :=
 (h.E.1 f l _ (envT_fn (X := tp B L) (tp_T.2 ⟨hs, hn⟩) hx hy)).2
end WB
namespace WB
open Go Go.RowKit
def m (i j : Nat) : SL := ⟨some i, .mov (.t j), none⟩
def mg (i j g : Nat) (b : Bool) : SL := ⟨some i, .mov (.t j), some (g, b)⟩
def mk' (i : Nat) (c : CV) : SL := ⟨some i, .mov (.k c), none⟩
def l' (i : Nat) (o : SOp) : SL := ⟨some i, o, none⟩
def lg (i : Nat) (o : SOp) (g : Nat) (b : Bool) : SL := ⟨some i, o, some (g, b)⟩
def ln (o : SOp) : SL := ⟨none, o, none⟩
def fo (i : Nat) (off x : Nat) : SL := ⟨some i, .faddr off (.t x), none⟩
def ld (i x : Nat) : SL := ⟨some i, .load none (.t x), none⟩
def st' (a x : Nat) : SL := ⟨none, .store 1 (.t a) (.t x), none⟩
def ex (i x j : Nat) : SL := ⟨some i, .ext (.t x) j, none⟩
def rf (l : List SL) : AC := .reg false [] l
def rs (l : List SL) : SCode := .reg false [] l
def K (k : IntKind) (n : Int) : SO := .k (.int k n)
def sS (i : Nat) : Key × EK := (.s i, .v .str)
def sI (i : Nat) : Key × EK := (.s i, .v (.int .i64))
def sB (i : Nat) : Key × EK := (.s i, .v .bool)
def cI (i j : Nat) : Key × EK := (.c i j, .v (.int .i64))
theorem GoodT.addF {P : Program} {B : TB} {L : List (FuncId × Sig)} (h : GoodT P B L) (f : FuncId) (s : Sig) (m : AF) {k : Nat} (hl : lenR s.a = some k) (hk : Nat.ble k m.n = true) (hv : (s.r.val && s.r.ok) = true) (hc : compF P f = some ⟨m.n, erase m.code, m.res⟩) (hg : funT (tp B L) s.a s.r m = some s.fn) : GoodT P B ((f, s) :: L) :=
 GoodT.add h f s m hc hg hl hk hv
end WB
namespace WB
open Go Go.RowKit
section
variable {E : Env} {fW b : Nat}
end
def MB (M0 : Nat → Prop) (b : Nat) (v : Value) (g : Nat) : Prop := M0 g ∨ g = b ∨ v.ownBlock = some g
section
variable {P : Program} {G : Nat → List CV} {w0 : World} {M0 : Nat → Prop} {n : Nat} {st : St} {a : Act} {w : World} {z : Cz}
structure SRB (P : Program) (G : Nat → List CV) (T e : TypeId) (w0 : World) (M0 : Nat → Prop) (n b : Nat) (s : List UInt8) (st : St) (a : Act) (w : World) (z : Cz) : Prop where
 ex : ∃ (w1 : World) (p v : Value), SR P G w1 (MB M0 b v) n st a w z ∧ Below w0.heap.size w0 w1 ∧ w1.heap[b]? = some (.cells #[p, v] T (0, 0)) ∧ (p = .pointer none ∨ p = .pointer (some ⟨b, 0, none⟩)) ∧
  w1.ownsRowF w0.heap.size e 1 v s.length (Lib.byteCells s) ∧ v.ownBlock ≠ some b
 base : w0.heap.size ≤ b
 outer : ∀ g, M0 g → g < w0.heap.size
 glob : GOk G w0 M0
variable {E : Env} {T e : TypeId} {b : Nat} {s : List UInt8}
theorem SRB.plain (hE : EOk P E) {c : Code} {sc : SCode} {Q : Ex → St → Prop} (hc : compC P n c = some sc) (h : SRB P E.G T e w0 M0 n b s st a w z) (hp : pwp E sc Q st) :
  c.wp P (fun x a' w' => ∃ x' st' z', exOf x' = x ∧ Q x' st' ∧ SRB P E.G T e w0 M0 n b s st' a' w' z') a w := by
 obtain ⟨⟨w1, p, v, hS, h1, h2, h3, h4, h5⟩, h6, h7, hgl⟩ := h
 refine wp_mono (code_sound hE c hc hS hp) fun x a' w' hpost => ?_
 obtain ⟨x', st', z', hx, hq, hS'⟩ := hpost
 exact ⟨x', st', z', hx, hq, ⟨⟨w1, p, v, hS', h1, h2, h3, h4, h5⟩, h6, h7, hgl⟩⟩
end
end WB
namespace WB
open Go Go.RowKit
theorem RelL.ints {w : World} {M : Nat → Prop} {k : IntKind} : ∀ {zs : List Int} {vs : List Value}, RelL w M (zs.map fun z => .int k z) vs → vs = zs.map fun z => Value.int k z
 | [], vs, h => by unfold RelL at h; exact h
 | z :: zs, vs, h => by
  simp only [List.map_cons] at h
  unfold RelL at h
  obtain ⟨v, vs', rfl, h1, h2⟩ := h
  unfold RelC at h1
  rw [h1, RelL.ints h2]; rfl
theorem GOk.tab {P : Program} {G : Nat → List CV} {w : World} {M : Nat → Prop} (h : GOk G w M) {name : String} {k : IntKind} {zs : List Int} {g : Nat} (hg : P.globalNamed name = some g) (hG : G g = zs.map fun z => .int k z) (hz : zs ≠ []) : Lib.TabIs P w name k zs := by
 obtain ⟨h1, cs, t, fr, h2, h3⟩ := h g (by rw [hG]; simpa using hz)
 rw [hG] at h1 h3
 unfold RelC at h1
 obtain ⟨ad, vs, e, _, _, hl, hc⟩ := h1
 cases e
 have hv := RelL.ints hl
 subst hv
 unfold Lib.TabIs World.var?
 rw [hg]
 simp only [Option.bind_some, h2, Option.some.injEq]
 apply Array.ext_getElem?
 intro i
 by_cases hi : i < zs.length
 ·have := hc i (.int k zs[i]) (by simp [hi])
  have e2 : (({ block := g, off := 0, spot := none } : Addr).add i) = { block := g, off := i, spot := none } := by
   unfold Addr.add
   by_cases h0 : i = 0 <;> simp [h0]
  rw [e2] at this
  simp only [World.cell?, h2] at this
  rw [show (cs[i]? = some (Value.int k zs[i])) from by simpa using this]
  simp [hi]
 ·rw [Array.getElem?_eq_none (by simp at h3; omega), Array.getElem?_eq_none (by simp; omega)]
def strconv_FormatInt : Int × Int → Option (List UInt8) := fun x => if x.2 = 10 ∧ -9223372036854775808 ≤ x.1 ∧ x.1 ≤ 9223372036854775807 then some (Lib.itoa x.1) else none
theorem strconv_FormatInt_ok {P : Program} {B : TB} {f g : Nat} (hb : hasBody P f = true) (hg : P.globalNamed "internal/strconv.uint64pow10" = some g) (hG : B.G g = Lib.pow10Tab.map fun z => .int .u64 z)
  (hc : ∀ (n : Int) (_ : -9223372036854775808 ≤ n) (_ : n ≤ 9223372036854775807) (w : World) (_ : Lib.TabIs P w "internal/strconv.uint64pow10" .u64 Lib.pow10Tab), Calls P f #[.int .i64 n, .int .i64 10] w fun e w' => e = .returned (.string ⟨(Lib.itoa n).toArray⟩) ∧ ∃ k os, w' = Sort.grow (w.drewN k) os)
  {x : D (.cons (.int .i64) (.one (.int .i64)))} {l : List CV} {y : D .str} (hx : Can (.cons (.int .i64) (.one (.int .i64))) x l) (hy : strconv_FormatInt x = some y) : hasBody P f = true ∧ CallsTo P B.G f l (.val (enc .str y)) := by
 refine ⟨hb, fun w M vs hM hGk hL => ?_⟩
 obtain ⟨n, b⟩ := x
 simp only [strconv_FormatInt] at hy
 split at hy
 ·rename_i h
  obtain ⟨rfl, h0, h1⟩ := h
  cases hy
  unfold Can at hx
  obtain ⟨c, l', rfl, h2, h3⟩ := hx
  unfold Can at h2 h3
  obtain ⟨c', rfl, h3⟩ := h3
  unfold Can at h3
  cases h2; cases h3
  unfold RelL RelC at hL
  obtain ⟨v, vs', rfl, rfl, hL⟩ := hL
  unfold RelL RelC at hL
  obtain ⟨v, vs', rfl, rfl, hL⟩ := hL
  unfold RelL at hL
  subst hL
  refine (hc n h0 h1 w (hGk.tab hg hG (by simp [Lib.pow10Tab]))).mono fun e w' he => ?_
  obtain ⟨rfl, k, os, rfl⟩ := he
  refine ⟨_, rfl, Lib.below_grow _ _ (Nat.le_refl _) _ _, ?_⟩
  simp [RelR, enc, encL, RelC]
 ·cases hy
def strconv_FormatUint : Int × Int → Option (List UInt8) := fun x => if x.2 = 10 ∧ 0 ≤ x.1 ∧ x.1 < 18446744073709551616 then some (Lib.itoa x.1) else none
theorem strconv_FormatUint_ok {P : Program} {B : TB} {f g : Nat} (hb : hasBody P f = true) (hg : P.globalNamed "internal/strconv.uint64pow10" = some g) (hG : B.G g = Lib.pow10Tab.map fun z => .int .u64 z)
  (hc : ∀ (n : Nat) (_ : n < 18446744073709551616) (w : World) (_ : Lib.TabIs P w "internal/strconv.uint64pow10" .u64 Lib.pow10Tab), Calls P f #[.int .u64 (n : Int), .int .i64 10] w fun e w' => e = .returned (.string ⟨(Lib.itoa (n : Int)).toArray⟩) ∧ ∃ k os, w' = Sort.grow (w.drewN k) os)
  {x : D (.cons (.int .u64) (.one (.int .i64)))} {l : List CV} {y : D .str} (hx : Can (.cons (.int .u64) (.one (.int .i64))) x l) (hy : strconv_FormatUint x = some y) : hasBody P f = true ∧ CallsTo P B.G f l (.val (enc .str y)) := by
 refine ⟨hb, fun w M vs hM hGk hL => ?_⟩
 obtain ⟨n, b⟩ := x
 simp only [strconv_FormatUint] at hy
 split at hy
 ·rename_i h
  obtain ⟨rfl, h0, h1⟩ := h
  obtain ⟨m, rfl⟩ := Int.eq_ofNat_of_zero_le h0
  cases hy
  unfold Can at hx
  obtain ⟨c, l', rfl, h2, h3⟩ := hx
  unfold Can at h2 h3
  obtain ⟨c', rfl, h3⟩ := h3
  unfold Can at h3
  cases h2; cases h3
  unfold RelL RelC at hL
  obtain ⟨v, vs', rfl, rfl, hL⟩ := hL
  unfold RelL RelC at hL
  obtain ⟨v, vs', rfl, rfl, hL⟩ := hL
  unfold RelL at hL
  subst hL
  refine (hc m (by omega) w (hGk.tab hg hG (by simp [Lib.pow10Tab]))).mono fun e w' he => ?_
  obtain ⟨rfl, k, os, rfl⟩ := he
  refine ⟨_, rfl, Lib.below_grow _ _ (Nat.le_refl _) _ _, ?_⟩
  simp [RelR, enc, encL, RelC]
 ·cases hy
theorem rel_str2 {w : World} {M : Nat → Prop} {x : D (.cons .str (.one .str))} {l : List CV} {vs : List Value} (hx : Can (.cons .str (.one .str)) x l) (hL : RelL w M l vs) : vs = [.string ⟨⟨x.1⟩⟩, .string ⟨⟨x.2⟩⟩] := by
 obtain ⟨s, b⟩ := x
 unfold Can at hx
 obtain ⟨c1, l', rfl, h2, h3⟩ := hx
 unfold Can at h2 h3
 obtain ⟨c', rfl, h3⟩ := h3
 unfold Can at h3
 cases h2; cases h3
 unfold RelL RelC at hL
 obtain ⟨v, vs', rfl, rfl, hL⟩ := hL
 unfold RelL RelC at hL
 obtain ⟨v, vs', rfl, rfl, hL⟩ := hL
 unfold RelL at hL
 subst hL
 rfl
def internal_stringslite_Index : List UInt8 × List UInt8 → Option Int := fun x => match x.2 with
 | [c] => some (Lib.indexByte x.1 c)
 | _ => none
theorem internal_stringslite_Index_ok {P : Program} {B : TB} {f : Nat} (hb : hasBody P f = true)
  (hc : ∀ (s : ByteArray) (c : UInt8) (w : World), Calls P f #[.string s, .string ⟨#[c]⟩] w fun e w' => e = .returned (.int .i64 (Lib.indexByte s.data.toList c)) ∧ w' = w)
  {x : D (.cons .str (.one .str))} {l : List CV} {y : D (.int .i64)} (hx : Can (.cons .str (.one .str)) x l) (hy : internal_stringslite_Index x = some y) : hasBody P f = true ∧ CallsTo P B.G f l (.val (enc (.int .i64) y)) := by
 refine ⟨hb, fun w M vs hM hGk hL => ?_⟩
 rw [rel_str2 hx hL]
 obtain ⟨s, b⟩ := x
 simp only [internal_stringslite_Index] at hy
 split at hy <;> try (cases hy; done)
 rename_i c
 cases hy
 refine (hc ⟨⟨s⟩⟩ c w).mono fun e w' he => ?_
 obtain ⟨rfl, rfl⟩ := he
 refine ⟨_, rfl, Below.refl _ _, ?_⟩
 simp [RelR, enc, encL, RelC]
theorem laid_mem {P : Program} {w : World} : ∀ {l : List (String × DataW Unit)} {ps : List MemPlace}, DataW.LaidVars P w l ps → ∀ {name : String} {d : DataW Unit}, (name, d) ∈ l → ∃ g t cs fuel p, P.globalNamed name = some g ∧ (P.globals[g]?).map (·.type) = some t ∧ w.var? P name = some cs ∧ DataW.trod (fun _ => ()) P w 0 (fun _ => true) false fuel t cs.toList = some (d, p)
 | [], _, _, _, _, hm => by cases hm
 | (n, d) :: l, ps, h, name, d', hm => by
  obtain ⟨g, t, cs, fuel, p, q, h1, h2, h3, h4, h5, h6⟩ := h
  rcases List.mem_cons.1 hm with e | hm
  ·cases e
   exact ⟨g, t, cs, fuel, p, h1, h2, h3, h4⟩
  ·exact laid_mem h5 hm
theorem tabIs_of_mem {P : Program} {W : World} {l : List (String × DataW Unit)} {name : String} {k : IntKind} {zs : List Int} {g : Nat} {t e : TypeId} {n : Nat} (hm : (name, Lib.tabData k zs) ∈ l)
  (hg : P.globalNamed name = some g) (hty : (P.globals[g]?).map (·.type) = some t) (ht : P.underlying t = some (.array n e)) (he : P.underlying e = some (.int k)) (hce : P.cellsOf e = 1) (hct : P.cellsOf t = n)
  (h : laidMet P l W) : Lib.TabIs P W name k zs := by
 obtain ⟨ps, h1, _, _⟩ := h
 obtain ⟨g', t', cs, fuel, p, hg', ht', hvar, hd⟩ := laid_mem h1 hm
 obtain rfl := Option.some.inj (hg.symm.trans hg')
 obtain rfl := Option.some.inj (hty.symm.trans ht')
 unfold Lib.TabIs
 rw [hvar, ← Lib.cells_of_tab ht he hce hct hd]
def TabCells (w : World) (g : Nat) (vs : List Value) : Prop := ∃ t fr, w.heap[g]? = some (.cells ⟨vs⟩ t fr)
theorem tab_cells {P : Program} {w : World} {name : String} {g : Nat} {vs : List Value} (hg : P.globalNamed name = some g) (h : w.var? P name = some ⟨vs⟩) : TabCells w g vs := by
 unfold World.var? at h
 rw [hg] at h
 simp only [Option.bind_some] at h
 split at h <;> try (cases h; done)
 rename_i cs t fr hh
 cases h
 exact ⟨t, fr, hh⟩
theorem GOk.one {w : World} {g : Nat} {cvs : List CV} {vs : List Value} (h : TabCells w g vs) (hr : RelL w (fun _ => False) cvs vs) :
  RelC w (fun _ => False) (.rp cvs) (.pointer (some ⟨g, 0, none⟩)) ∧ ∃ cs t fr, w.heap[g]? = some (.cells cs t fr) ∧ cs.size = cvs.length := by
 obtain ⟨t, fr, hh⟩ := h
 refine ⟨?_, ⟨vs⟩, t, fr, hh, by simp [hr.length]⟩
 unfold RelC
 refine ⟨⟨g, 0, none⟩, vs, rfl, heap_lt hh, fun hh => hh, hr, fun j u hu => ?_⟩
 have e2 : (({ block := g, off := 0, spot := none } : Addr).add j) = { block := g, off := j, spot := none } := by
  unfold Addr.add
  by_cases h0 : j = 0 <;> simp [h0]
 rw [e2]
 simp only [World.cell?, hh]
 simpa using hu
theorem relL_intsK {w : World} {M : Nat → Prop} {k : IntKind} : ∀ (zs : List Int), RelL w M (zs.map fun z => .int k z) (zs.map fun z => Value.int k z)
 | [] => RelL.nil
 | z :: zs => RelL.cons (by unfold RelC; rfl) (relL_intsK zs)
theorem GOk.ints {P : Program} {w : World} {name : String} {g : Nat} {k : IntKind} {zs : List Int} (hg : P.globalNamed name = some g) (h : Lib.TabIs P w name k zs) :
  RelC w (fun _ => False) (.rp (zs.map fun z => .int k z)) (.pointer (some ⟨g, 0, none⟩)) ∧ ∃ cs t fr, w.heap[g]? = some (.cells cs t fr) ∧ cs.size = (zs.map fun z => CV.int k z).length :=
 GOk.one (tab_cells hg h) (relL_intsK zs)
end WB
namespace WB
open Go Go.RowKit Go.Maps
open Go.WideElems (Fit rd rg)
open Go.MapKept (Stamped)
open Go.WideMaps (keyOf_string_mk)
end WB

