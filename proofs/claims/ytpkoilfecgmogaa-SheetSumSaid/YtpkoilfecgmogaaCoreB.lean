/-
  THE OWN LAYER, B: abstract states, a small language of operations, and what each of them does to an abstract state. Nothing of a program stands here.
-/
import Derived.Test.YtpkoilfecgmogaaCoreA
namespace WB
open Go Go.RowKit

/-- What a slot holds: a closed value, or a reference to one of the call's own objects. -/
inductive SV where
  | c (v : CV)
  | ptr (id off : Nat)
  | eptr (id i size off : Nat)
  | osl (id : Nat)
  | omap (id : Nat)
  | iter (id : Nat)
  | stamp (id : Nat) (key : CV)
  | ent (id : Nat) (key val : CV)
  | undef

/-- The shape of a map's keys. -/
inductive KT where
  | int (k : IntKind)
  | str
  | bool
  | struct (fs : List KT)

/-- An object of the call's own. -/
inductive Ob where
  | none
  | box (cs : List SV)
  | arr (e size : Nat) (es : List CV)
  | map (mt : TypeId) (kt : KT) (z : CV) (ks vs : List CV)
  | siter (s : List UInt8) (pos : Nat)

structure St where
  fr : Nat → SV
  ob : Nat → Ob

def upd {α : Type} (f : Nat → α) (i : Nat) (v : α) : Nat → α := fun j => if j = i then v else f j
theorem upd_same {α : Type} (f : Nat → α) (i : Nat) (v : α) : upd f i v i = v := by simp [upd]
theorem upd_ne {α : Type} (f : Nat → α) {i j : Nat} (v : α) (h : j ≠ i) : upd f i v j = f j := by simp [upd, h]
theorem upd_apply {α : Type} (f : Nat → α) (i j : Nat) (v : α) : upd f i v j = if j = i then v else f j := rfl

def St.set (st : St) (d : Option Nat) (v : SV) : St :=
  match d with
  | some d => { st with fr := upd st.fr d v }
  | none => st

/-- Which object a slot's value refers to. -/
def SV.ref : SV → Option Nat
  | .ptr id _ | .eptr id _ _ _ | .osl id | .omap id | .iter id | .stamp id _ | .ent id _ _ => some id
  | .c _ | .undef => none

def killSV (D : List Nat) : SV → SV
  | .c v => .c v
  | .ptr id o => if D.contains id then .undef else .ptr id o
  | .eptr id i s o => if D.contains id then .undef else .eptr id i s o
  | .osl id => if D.contains id then .undef else .osl id
  | .omap id => if D.contains id then .undef else .omap id
  | .iter id => if D.contains id then .undef else .iter id
  | .stamp id k => if D.contains id then .undef else .stamp id k
  | .ent id k v => if D.contains id then .undef else .ent id k v
  | .undef => .undef
def killOb (D : List Nat) : Ob → Ob
  | .box cs => .box (cs.map (killSV D))
  | o => o
def kill (D : List Nat) (st : St) : St :=
  { fr := fun i => killSV D (st.fr i), ob := fun i => if D.contains i then .none else killOb D (st.ob i) }

/-- Operands. -/
inductive SO where
  | t (i : Nat)
  | k (v : CV)
  | g (i : Nat)

inductive SOp where
  | mov (x : SO)
  | pick (c a b : SO)
  | bin (op : BinOp) (x y : SO)
  | eqs (neg : Bool) (ts : List KT) (x y : SO)
  | beq (neg : Bool) (x y : SO)
  | isnil (kd : Nat) (neg : Bool) (x : SO)
  | un (op : UnOp) (x : SO)
  | cvi (k : IntKind) (x : SO)
  | cvrune (x : SO)
  | cvbs (x : SO)
  | cvid (x : SO)
  | build (z : List CV) (parts : List (Nat × Nat × SO))
  | field (off : Nat) (sz : Option Nat) (x : SO)
  | ext (x : SO) (i : Nat)
  | minmax (mx : Bool) (xs : List SO)
  | fnv (f : FuncId) (caps : List SO)
  | faddr (off : Nat) (x : SO)
  | iaddr (size : Nat) (x i : SO)
  | aaddr (len size : Nat) (x i : SO)
  | sidx (x i : SO)
  | aidx (len size : Nat) (sz : Option Nat) (x i : SO)
  | load (sz : Option Nat) (x : SO)
  | len (kd : Nat) (x : SO)
  | sslice (x : SO) (lo hi : Option SO)
  | slice (size : Nat) (x : SO) (lo hi : Option SO)
  | lookup (mt : TypeId) (kt : KT) (z : CV) (ok : Bool) (x k : SO)
  | call (f : FuncId) (args : List SO)
  | callv (f : SO) (args : List SO)
  | alloc (z : List CV)
  | box (x : SO)
  | mksl (e size : Nat) (parts : List SO)
  | mkmap (mt : TypeId) (kt : KT) (z : CV)
  | make (e size bytes : Nat) (z : CV) (x y : SO)
  | bytes (e : Nat) (x : SO)
  | siter (x : SO)
  | store (n : Nat) (a x : SO)
  | append (e size bytes : Nat) (x y : SO)
  | mapent (mt : TypeId) (x k : SO)
  | entst (x s v : SO)
  | mapupd (mt : TypeId) (x k v : SO)
  | snext (x : SO)

/-- One operation: where it writes, under which guard (a slot, and what it must hold). -/
structure SL where
  dst : Option Nat
  op : SOp
  guard : Option (Nat × Bool)

def wb8 (n : Int) : Int := IntKind.wrap .u8 n

/-! ### Closed operations -/

def cmpB (op : BinOp) (a b : Int) : Option Bool :=
  match op with
  | .eql => some (a == b)
  | .neq => some (a != b)
  | .lss => some (decide (a < b))
  | .leq => some (decide (a ≤ b))
  | .gtr => some (decide (a > b))
  | .geq => some (decide (a ≥ b))
  | _ => none

def bitsI (op : BinOp) (k : IntKind) (x y : Int) : Option Int :=
  match op with
  | .and => some (k.wrap (BitVec.ofInt k.bits x &&& BitVec.ofInt k.bits y).toNat)
  | .or => some (k.wrap (BitVec.ofInt k.bits x ||| BitVec.ofInt k.bits y).toNat)
  | .xor => some (k.wrap (BitVec.ofInt k.bits x ^^^ BitVec.ofInt k.bits y).toNat)
  | .andNot => some (k.wrap (BitVec.ofInt k.bits x &&& ~~~(BitVec.ofInt k.bits y)).toNat)
  | _ => none

def binI (op : BinOp) (k : IntKind) (a b : Int) : Option CV :=
  match op with
  | .add => some (.int k (k.wrap (a + b)))
  | .sub => some (.int k (k.wrap (a - b)))
  | .mul => some (.int k (k.wrap (a * b)))
  | .quo => if b = 0 then none else some (.int k (k.wrap (a.tdiv b)))
  | .rem => if b = 0 then none else some (.int k (a.tmod b))
  | .and | .or | .xor | .andNot => (bitsI op k a b).map (.int k)
  | .shl | .shr => none
  | op => (cmpB op a b).map .bool

def sLess : List UInt8 → List UInt8 → Bool := Op.bytesLess

def binS (op : BinOp) (a b : List UInt8) : Option CV :=
  match op with
  | .add => if a.length + b.length ≤ 4611686018427387904 then some (.str (a ++ b)) else none
  | .eql => some (.bool (a == b))
  | .neq => some (.bool (!(a == b)))
  | .lss => some (.bool (sLess a b))
  | .leq => some (.bool (sLess a b || a == b))
  | .gtr => some (.bool (!(sLess a b || a == b)))
  | .geq => some (.bool (!(sLess a b)))
  | _ => none

def binC (op : BinOp) : CV → CV → Option CV
  | .int k a, .int k' b =>
    match op with
    | .shl => if b < 0 then none else some (.int k (k.wrap (a * 2 ^ (min b.toNat k.bits))))
    | .shr => if b < 0 then none else some (.int k (a.fdiv (2 ^ (min b.toNat k.bits))))
    | op => if k = k' then binI op k a b else none
  | .str a, .str b => binS op a b
  | _, _ => none

def unC (op : UnOp) : CV → Option CV
  | .int k n => match op with
    | .neg => some (.int k (k.wrap (0 - n)))
    | .xor => (bitsI .xor k (if k.signed then -1 else k.max) n).map (.int k)
    | _ => none
  | .bool b => match op with
    | .not => some (.bool !b)
    | _ => none
  | _ => none

/-- Equality of two cells of plain kinds. -/
def eq1 : KT → CV → CV → Option Bool
  | .int _, .int k a, .int k' b => if k = k' then some (a == b) else none
  | .str, .str a, .str b => some (a == b)
  | .bool, .bool a, .bool b => some (a == b)
  | _, _, _ => none
def eqL : List KT → List CV → List CV → Option Bool
  | [], [], [] => some true
  | t :: ts, a :: as, b :: bs => (eq1 t a b).bind fun x => (eqL ts as bs).map fun y => x && y
  | _, _, _ => none
def eqA (ts : List KT) : CV → CV → Option Bool
  | .agg as, .agg bs => eqL ts as bs
  | _, _ => none

def cellsN : CV → Nat
  | .agg cs => cs.length
  | _ => 1

def partC (cs : List CV) (off : Nat) : Option Nat → Option CV
  | some n => if off + n ≤ cs.length then some (.agg ((cs.drop off).take n)) else none
  | none => cs[off]?

def fillC : List CV → List (Nat × Nat × CV) → Option (List CV)
  | cs, [] => some cs
  | cs, (off, size, v) :: rest =>
    if cellsN v = size ∧ off + size ≤ cs.length then fillC (cs.take off ++ v.cells ++ cs.drop (off + size)) rest else none

def minmaxC (mx : Bool) : CV → CV → Option CV
  | .int k a, .int k' b => if k = k' then some (.int k (if mx then max a b else min a b)) else none
  | _, _ => none

def idxOf (n : Int) (len : Nat) : Option Nat := if 0 ≤ n ∧ n < len then some n.toNat else none

/-- Keys of plain kinds: do they fit, and are they one. -/
def conf1 : KT → CV → Bool
  | .int k, .int k' _ => k == k'
  | .str, .str _ => true
  | .bool, .bool _ => true
  | _, _ => false
def confL : List KT → List CV → Bool
  | [], [] => true
  | f :: fs, c :: cs => conf1 f c && confL fs cs
  | _, _ => false
def conf : KT → CV → Bool
  | .struct fs, .agg cs => confL fs cs
  | kt, c => conf1 kt c
def keyEq : KT → CV → CV → Bool
  | .struct ts, .agg as, .agg bs => (eqL ts as bs).getD false
  | kt, a, b => (eq1 kt a b).getD false

def kIdx (kt : KT) (k : CV) : List CV → Option Nat
  | [] => none
  | c :: cs => if keyEq kt k c then some 0 else (kIdx kt k cs).map (· + 1)

def look (kt : KT) (z : CV) (ks vs : List CV) (k : CV) : CV × Bool :=
  match kIdx kt k ks with
  | some i => (vs.getD i z, true)
  | none => (z, false)
def insertK (kt : KT) (ks : List CV) (k : CV) : List CV :=
  match kIdx kt k ks with
  | some _ => ks
  | none => ks ++ [k]
def insertV (kt : KT) (ks vs : List CV) (k v : CV) : List CV :=
  match kIdx kt k ks with
  | some i => vs.set i v
  | none => vs ++ [v]

/-! ### Operations -/

section
variable (rd : Nat → Ob) (ρ : SO → SV)

def closed : SV → Option CV
  | .c v => some v
  | _ => none

/-- A slot's value as plain data: of the call's own slices and maps what they hold. -/
def close : SV → Option CV
  | .c v => some v
  | .osl id => match rd id with
    | .arr _ _ es => some (.sl none es)
    | _ => none
  | .omap id => match rd id with
    | .map _ _ _ ks vs => some (.map none ks vs)
    | _ => none
  | _ => none

def allM {α β : Type} (f : α → Option β) : List α → Option (List β)
  | [] => some []
  | a :: as => (f a).bind fun b => (allM f as).map fun bs => b :: bs

def loadV (sz : Option Nat) : SV → Option SV
  | .c (.rp cs) => match sz with
    | none => (cs[0]?).map .c
    | some n => (partC cs 0 (some n)).map .c
  | .ptr id o => match rd id with
    | .box cs => match sz with
      | none => cs[o]?
      | some n => if o + n ≤ cs.length then (allM closed ((cs.drop o).take n)).map (fun l => .c (.agg l)) else none
    | _ => none
  | .eptr id i size o => match rd id with
    | .arr _ sz' es => if size = sz' then (es[i]?).bind fun e => (partC e.cells o sz).map .c else none
    | _ => none
  | _ => none

/-- Lengths: of a text (0), of a slice (1), of a map (2). -/
def lenV : Nat → SV → Option Int
  | 0, .c (.str s) => some s.length
  | 1, .c (.sl _ es) => some es.length
  | 1, .osl id => match rd id with
    | .arr _ _ es => some es.length
    | _ => none
  | 2, .c (.map _ ks _) => some ks.length
  | 2, .omap id => match rd id with
    | .map _ _ _ ks _ => some ks.length
    | _ => none
  | _, _ => none

def iaddrV (size : Nat) : SV → SV → Option SV
  | .c (.sl _ es), .c (.int _ n) => (idxOf n es.length).bind fun i => (es[i]?).bind fun e => if cellsN e = size then some (.c (.rp e.cells)) else none
  | .osl id, .c (.int _ n) => match rd id with
    | .arr _ sz es => if size = sz then (idxOf n es.length).map fun i => .eptr id i size 0 else none
    | _ => none
  | _, _ => none

def aaddrV (len size : Nat) : SV → SV → Option SV
  | .c (.rp cs), .c (.int _ n) => if cs.length = len * size then (idxOf n len).map fun i => .c (.rp (cs.drop (i * size))) else none
  | .ptr id o, .c (.int _ n) => (idxOf n len).map fun i => .ptr id (o + i * size)
  | _, _ => none

def bound (dflt : Nat) : Option SV → Option Nat
  | none => some dflt
  | some (.c (.int _ n)) => if 0 ≤ n then some n.toNat else none
  | some _ => none

def lookV (mt : TypeId) (kt : KT) (z : CV) (ok : Bool) : SV → SV → Option CV
  | .c (.map _ ks vs), .c k =>
    if conf kt k && ks.all (conf kt) then
      let (v, b) := look kt z ks vs k
      some (if ok then .tup [v, .bool b] else v)
    else none
  | .omap id, .c k => match rd id with
    | .map mt' kt' z' ks vs =>
      if mt' = mt ∧ conf kt' k = true then
        let (v, b) := look kt' z' ks vs k
        some (if ok then .tup [v, .bool b] else v)
      else none
    | _ => none
  | _, _ => none

/-- Operations that yield a value and turn nothing (calls apart). -/
def valOp : SOp → Option SV
  | .mov x => some (ρ x)
  | .pick c a b => match ρ c with
    | .c (.bool t) => some (if t then ρ a else ρ b)
    | _ => none
  | .bin op x y => match ρ x, ρ y with
    | .c a, .c b => (binC op a b).map .c
    | _, _ => none
  | .eqs neg ts x y => match ρ x, ρ y with
    | .c a, .c b => (eqA ts a b).map fun r => .c (.bool (if neg then !r else r))
    | _, _ => none
  | .beq neg x y => match ρ x, ρ y with
    | .c (.bool a), .c (.bool b) => some (.c (.bool (if neg then !(a == b) else a == b)))
    | _, _ => none
  | .isnil kd neg x => match kd, ρ x with
    | 1, .c (.sl (some b) _) => some (.c (.bool (if neg then !b else b)))
    | 2, .c (.map (some b) _ _) => some (.c (.bool (if neg then !b else b)))
    | 3, .c .nilif => some (.c (.bool (!neg)))
    | 3, .c .ifc => some (.c (.bool neg))
    | _, _ => none
  | .un op x => match ρ x with
    | .c a => (unC op a).map .c
    | _ => none
  | .cvi k x => match ρ x with
    | .c (.int _ n) => some (.c (.int k (k.wrap n)))
    | _ => none
  | .cvrune x => match ρ x with
    | .c (.int _ n) => some (.c (.str (Utf8.encode n).data.toList))
    | _ => none
  | .cvbs _ => none
  | .bytes _ x => match ρ x with
    | .c (.str s) => if s.length ≤ 70368744177664 then some (.c (.sl (some false) (s.map fun b => .int .u8 b.toNat))) else none
    | _ => none
  | .cvid x => match ρ x with
    | .c (.str s) => some (.c (.str s))
    | _ => none
  | .build z parts => (allM (fun p => (closed (ρ p.2.2)).map fun v => (p.1, p.2.1, v)) parts).bind fun ps => (fillC z ps).map fun cs => .c (.agg cs)
  | .field off sz x => match ρ x with
    | .c (.agg cs) => (partC cs off sz).map .c
    | _ => none
  | .ext x i => match ρ x with
    | .c (.tup l) => (l[i]?).map .c
    | .ent id k v => if i = 0 then some (.c v) else if i = 1 then some (.stamp id k) else none
    | _ => none
  | .minmax mx xs => (allM (fun x => closed (ρ x)) xs).bind fun l => match l with
    | [] => none
    | a :: as => (as.foldlM (minmaxC mx) a).map .c
  | .fnv f caps => (allM (fun x => closed (ρ x)) caps).map fun l => .c (.fn f l)
  | .faddr off x => match ρ x with
    | .c (.rp cs) => if off ≤ cs.length then some (.c (.rp (cs.drop off))) else none
    | .ptr id o => some (.ptr id (o + off))
    | .eptr id i s o => some (.eptr id i s (o + off))
    | _ => none
  | .iaddr size x i => iaddrV rd size (ρ x) (ρ i)
  | .aaddr len size x i => aaddrV len size (ρ x) (ρ i)
  | .sidx x i => match ρ x, ρ i with
    | .c (.str s), .c (.int _ n) => (idxOf n s.length).bind fun j => (s[j]?).map fun b => .c (.int .u8 b.toNat)
    | _, _ => none
  | .aidx len size sz x i => match ρ x, ρ i with
    | .c (.agg cs), .c (.int _ n) => (idxOf n len).bind fun j => (partC cs (j * size) sz).map .c
    | _, _ => none
  | .load sz x => loadV rd sz (ρ x)
  | .len kd x => (lenV rd kd (ρ x)).map fun n => .c (.int .i64 n)
  | .sslice x lo hi => match ρ x with
    | .c (.str s) => (bound s.length (hi.map ρ)).bind fun h => (bound 0 (lo.map ρ)).bind fun l => if l ≤ h ∧ h ≤ s.length then some (.c (.str ((s.take h).drop l))) else none
    | _ => none
  | .slice size x lo hi => match ρ x with
    | .c (.sl nl es) => (bound es.length (hi.map ρ)).bind fun h => (bound 0 (lo.map ρ)).bind fun l => if (l ≤ h ∧ h ≤ es.length) ∧ (es.all fun e => cellsN e == size) = true then some (.c (.sl nl ((es.take h).drop l))) else none
    | _ => none
  | .lookup mt kt z ok x k => (lookV rd mt kt z ok (ρ x) (ρ k)).map .c
  | _ => none

/-- Operations that make one new object. -/
def newOp (d : Nat) : SOp → Option (SV × Ob)
  | .alloc z => some (.ptr d 0, .box (z.map .c))
  | .box x => match ρ x with
    | .c (.agg cs) => some (.ptr d 0, .box (cs.map .c))
    | .undef => none
    | v => some (.ptr d 0, .box [v])
  | .mksl e size parts => (allM (fun x => closed (ρ x)) parts).bind fun l =>
      if l.all (fun v => cellsN v == size) then some (.osl d, .arr e size l) else none
  | .mkmap mt kt z => some (.omap d, .map mt kt z [] [])
  | .make e size bytes z x y => match ρ x, ρ y with
    | .c (.int _ n), .c (.int _ m) => if 0 ≤ n ∧ n ≤ m ∧ m * bytes ≤ 140737488355328 ∧ m ≤ 4611686018427387904 then some (.osl d, .arr e size (List.replicate n.toNat z)) else none
    | _, _ => none
  | .siter x => match ρ x with
    | .c (.str s) => some (.iter d, .siter s 0)
    | _ => none
  | _ => none

end

/-- Is it the value of one cell. -/
def oneC : CV → Bool
  | .agg _ | .tup _ => false
  | _ => true
def oneS : SV → Bool
  | .c v => oneC v
  | .ent .. | .undef => false
  | _ => true

def setCells (cs : List SV) (o : Nat) (vs : List SV) : List SV := cs.take o ++ vs ++ cs.drop (o + vs.length)

def mapOb (st : St) (id : Nat) : Option (TypeId × KT × CV × List CV × List CV) :=
  match st.ob id with
  | .map mt kt z ks vs => some (mt, kt, z, ks, vs)
  | _ => none

/-- The elements that an append brings. -/
def newsOf (st : St) : SV → Option (List CV)
  | .c (.sl _ es) => some es
  | .osl id => match st.ob id with
    | .arr _ _ es => some es
    | _ => none
  | _ => none

/-- An element with some of its cells turned. -/
def putC (el : CV) (o n : Nat) (v : CV) : CV :=
  match el with
  | .agg l => .agg (l.take o ++ v.cells ++ l.drop (o + n))
  | _ => v

/-- Operations that turn what is there. -/
def effOp (d : Option Nat) (ρ : SO → SV) (st : St) : SOp → Option St
  | .store n a x => match ρ a with
    | .ptr id o => match st.ob id with
      | .box cs =>
        match ρ x with
        | .c (.agg l) => if l.length = n ∧ o + n ≤ cs.length ∧ l.all oneC = true then some { st with ob := upd st.ob id (.box (setCells cs o (l.map .c))) } else none
        | v => if n = 1 ∧ o < cs.length ∧ oneS v = true then some { st with ob := upd st.ob id (.box (cs.set o v)) } else none
      | _ => none
    | .eptr id i size o => match st.ob id, ρ x with
      | .arr e sz es, .c v => if size = sz ∧ 0 < n ∧ cellsN v = n ∧ v.cells.all oneC = true then (es[i]?).bind fun el =>
          if o + n ≤ cellsN el then
            some { st with ob := upd st.ob id (.arr e sz (es.set i (putC el o n v))) }
          else none
        else none
      | _, _ => none
    | _ => none
  | .append e size bytes x y =>
    match newsOf st (ρ y) with
    | none => none
    | some news =>
      if (news.all (fun v => cellsN v == size) && news.all fun v => v.cells.all oneC) = true then
        match ρ x with
        | .c (.sl (some true) _) =>
          if news.length * bytes ≤ 140737488355328 ∧ news.length ≤ 4611686018427387904 then
            match d with
            | some d =>
              let st' := kill [d] st
              some { fr := upd st'.fr d (.osl d), ob := upd st'.ob d (.arr e size news) }
            | none => none
          else none
        | .osl id => match st.ob id with
          | .arr e' size' es =>
            if e' = e ∧ size' = size ∧ (es.length + news.length) * bytes ≤ 140737488355328 ∧ es.length + news.length ≤ 4611686018427387904 then
              let st' := kill [id] st
              some (St.set { st' with ob := upd st'.ob id (.arr e size (es ++ news)) } d (.osl id))
            else none
          | _ => none
        | _ => none
      else none
  | .mapent mt x k => match ρ x, ρ k with
    | .omap id, .c k => match st.ob id with
      | .map mt' kt z ks vs =>
        if mt' = mt ∧ conf kt k = true ∧ ks.length = vs.length then
          some (St.set { st with ob := upd st.ob id (.map mt' kt z (insertK kt ks k) (insertV kt ks vs k (look kt z ks vs k).1)) } d (.ent id k (look kt z ks vs k).1))
        else none
      | _ => none
    | _, _ => none
  | .entst x s v => match ρ x, ρ s, ρ v with
    | .omap id, .stamp id' k, .c v => match st.ob id with
      | .map mt kt z ks vs => if id = id' then some { st with ob := upd st.ob id (.map mt kt z ks (insertV kt ks vs k v)) } else none
      | _ => none
    | _, _, _ => none
  | .mapupd mt x k v => match ρ x, ρ k, ρ v with
    | .omap id, .c k, .c v => match st.ob id with
      | .map mt' kt z ks vs => if mt' = mt ∧ conf kt k = true then some { st with ob := upd st.ob id (.map mt' kt z (insertK kt ks k) (insertV kt ks vs k v)) } else none
      | _ => none
    | _, _, _ => none
  | _ => none

/-- What a call comes to: a closed value, or a new object. -/
inductive Res where
  | val (v : CV)
  | new (o : Ob)


def isNeq : BinOp → Bool
  | .neq => true
  | _ => false

structure Env where
  G : Nat → List CV
  fn : FuncId → List CV → Option Res

def so (G : Nat → List CV) (fr : Nat → SV) : SO → SV
  | .t i => fr i
  | .k v => .c v
  | .g i => match G i with
    | [] => .undef
    | cs => .c (.rp cs)

mutual
def memless : CV → Bool
  | .int _ _ | .bool _ | .str _ | .nilif => true
  | .agg cs | .tup cs => memlessL cs
  | .sl _ _ | .map _ _ _ | .rp _ | .fn _ _ | .ifc => false
def memlessL : List CV → Bool
  | [] => true
  | c :: cs => memless c && memlessL cs
end
def Res.memless : Res → Bool
  | .val v => WB.memless v
  | .new (.arr _ _ es) => memlessL es
  | .new (.map _ _ _ ks vs) => memlessL ks && memlessL vs
  | .new _ => false

def refOf (d : Nat) : Ob → SV
  | .arr .. => .osl d
  | .map .. => .omap d
  | .siter .. => .iter d
  | _ => .ptr d 0

def addNew (st : St) (d : Option Nat) (v : SV) (o : Ob) : Option St :=
  match d with
  | some d => match st.ob d with
    | .none => some { fr := upd st.fr d v, ob := upd st.ob d o }
    | _ => none
  | none => none
def setRes (st : St) (d : Option Nat) : Res → Option St
  | .val v => some (st.set d (.c v))
  | .new o => addNew st d (refOf (d.getD 0) o) o

inductive Cls where
  | val | grow | new | eff | call
def SOp.cls : SOp → Cls
  | .call .. | .callv .. => .call
  | .bytes .. => .grow
  | .alloc .. | .box .. | .mksl .. | .mkmap .. | .make .. | .siter .. => .new
  | .store .. | .append .. | .mapent .. | .entst .. | .mapupd .. | .snext .. => .eff
  | _ => .val

/-- Is a value closed already (no object of the call's own). -/
def isC : SV → Bool
  | .c _ => true
  | _ => false

def callOp (E : Env) (rd : Nat → Ob) (ρ : SO → SV) (st : St) (d : Option Nat) (f : FuncId) (args : List SO) (caps : List CV) : Option St :=
  (allM (fun x => close rd (ρ x)) args).bind fun l => (E.fn f (l ++ caps)).bind fun r =>
    if (args.all fun x => isC (ρ x)) || r.memless then setRes st d r else none

/-- One operation; 'rd': how objects are read by operations that only read. -/
def evalOp (E : Env) (rd : Nat → Ob) (st : St) (d : Option Nat) (op : SOp) : Option St :=
  let ρ := so E.G st.fr
  match op.cls with
  | .val | .grow => (valOp rd ρ op).map fun v => st.set d v
  | .new => (newOp ρ (d.getD 0) op).bind fun (v, o) => addNew st d v o
  | .eff => effOp d ρ st op
  | .call => match op with
    | .call f args => callOp E rd ρ st d f args []
    | .callv f args => match ρ f with
      | .c (.fn f caps) => callOp E rd ρ st d f args caps
      | _ => none
    | _ => none

def skipped : SV := .c (.tup [])

def mask (D : Option (List Nat)) (ob : Nat → Ob) : Nat → Ob :=
  match D with
  | none => ob
  | some D => fun i => if D.contains i then .none else ob i

def evalL (E : Env) (D : Option (List Nat)) (l : SL) (st : St) : Option St :=
  match l.guard with
  | none => evalOp E (mask D st.ob) st l.dst l.op
  | some (g, want) => match st.fr g with
    | .c (.bool b) => if b = want then evalOp E (mask D st.ob) st l.dst l.op else some (st.set l.dst skipped)
    | .c (.tup []) => some (st.set l.dst skipped)
    | _ => none

def evalLs (E : Env) (D : Option (List Nat)) : List SL → St → Option St
  | [], st => some st
  | l :: ls, st => (evalL E D l st).bind (evalLs E D ls)

inductive SCode where
  | skip
  | reg (draw : Bool) (D : List Nat) (ls : List SL)
  | seq (a b : SCode)
  | cond (c : SO) (x y : SCode)
  | block (id : Nat) (b : SCode)
  | loop (b : SCode)
  | exit (id : Nat)
  | ret

inductive Ex where
  | normal
  | exit (id : Nat)
  | ret

def evalReg (E : Env) (draw : Bool) (D : List Nat) (ls : List SL) (st : St) : Option St :=
  evalLs E (if draw then some D else none) ls (if D.isEmpty then st else kill D st)

/-- The weakest precondition over abstract states. -/
def pwp (E : Env) : SCode → (Ex → St → Prop) → St → Prop
  | .skip, Q, st => Q .normal st
  | .reg draw D ls, Q, st => ∃ st', evalReg E draw D ls st = some st' ∧ Q .normal st'
  | .seq a b, Q, st => pwp E a (fun e st' => match e with | .normal => pwp E b Q st' | e => Q e st') st
  | .cond c x y, Q, st => ∃ b, so E.G st.fr c = .c (.bool b) ∧ (b = true → pwp E x Q st) ∧ (b = false → pwp E y Q st)
  | .block id c, Q, st => pwp E c (fun e st' => match e with | .exit i => if i = id then Q .normal st' else Q (.exit i) st' | e => Q e st') st
  | .loop c, Q, st => ∃ (R : Nat → St → Prop), (∃ m, R m st) ∧ ∀ m s, R m s → pwp E c (fun e s' => match e with | .normal => ∃ k, k < m ∧ R k s' | e => Q e s') s
  | .exit id, Q, st => Q (.exit id) st
  | .ret, Q, st => Q .ret st

mutual
def cvOf : Value → Option CV
  | .int k n => some (.int k n)
  | .bool b => some (.bool b)
  | .string s => some (.str s.data.toList)
  | .slice none 0 0 => some (.sl (some true) [])
  | .map none => some (.map (some true) [] [])
  | .nilIface => some .nilif
  | .agg ⟨cs⟩ => (cvOfL cs).map .agg
  | _ => none
def cvOfL : List Value → Option (List CV)
  | [] => some []
  | v :: vs => (cvOf v).bind fun c => (cvOfL vs).map fun cs => c :: cs
end

def ktOf1 (P : Program) (t : TypeId) : Option KT :=
  match P.underlying t with
  | some (.int k) => some (.int k)
  | some .string => some .str
  | some .bool => some .bool
  | _ => none
/-- The plain kinds of a struct's fields, one cell each, in order. -/
def ktFields (P : Program) : Nat → List Field → Option (List KT)
  | _, [] => some []
  | i, f :: fs => if f.offset = i ∧ f.name ≠ "_" then (ktOf1 P f.type).bind fun k => (ktFields P (i + 1) fs).map fun ks => k :: ks else none
def ktOf (P : Program) (t : TypeId) : Option KT :=
  match P.underlying t with
  | some (.struct fs) => if P.stoodInHeld t then none else (ktFields P 0 fs.toList).map .struct
  | _ => ktOf1 P t

/-- A map type's keys, and the zero of its elements. -/
def mapTy (P : Program) (t : TypeId) : Option (KT × CV) :=
  match P.underlying t with
  | some (.map k e) => (ktOf P k).bind fun kt => (P.info? e).bind fun i => (i.zero).bind fun z => (cvOf z).map fun c => (kt, c)
  | _ => none

end WB
