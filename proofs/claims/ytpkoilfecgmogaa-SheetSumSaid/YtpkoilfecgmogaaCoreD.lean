/-
  THE OWN LAYER, D: the model's operations as the layer's, and that those that yield a value yield what the layer says.
-/
import Derived.Test.YtpkoilfecgmogaaCoreC
namespace WB
open Go Go.RowKit

mutual
theorem cvOf_rel (w : World) (M : Nat → Prop) : ∀ (v : Value) (c : CV), cvOf v = some c → RelC w M c v
  | .int k n, c, h => by simp only [cvOf, Option.some.injEq] at h; subst h; unfold RelC; rfl
  | .bool b, c, h => by simp only [cvOf, Option.some.injEq] at h; subst h; unfold RelC; rfl
  | .string s, c, h => by simp only [cvOf, Option.some.injEq] at h; subst h; unfold RelC; rfl
  | .slice none 0 0, c, h => by
    simp only [cvOf, Option.some.injEq] at h; subst h; unfold RelC
    exact ⟨none, 0, 0, rfl, rfl, Nat.le_refl _, fun _ => rfl, (by intro hh; cases hh), fun _ => rfl, fun hh => absurd rfl hh⟩
  | .map none, c, h => by
    simp only [cvOf, Option.some.injEq] at h; subst h; unfold RelC
    exact ⟨none, rfl, fun _ => rfl, (by intro hh; cases hh), fun _ => ⟨rfl, rfl⟩, fun b hb => by cases hb⟩
  | .nilIface, c, h => by simp only [cvOf, Option.some.injEq] at h; subst h; unfold RelC; rfl
  | .agg ⟨cs⟩, c, h => by
    simp only [cvOf, Option.map_eq_some_iff] at h
    obtain ⟨l, hl, rfl⟩ := h
    unfold RelC
    exact ⟨cs, rfl, cvOfL_rel w M cs l hl⟩
theorem cvOfL_rel (w : World) (M : Nat → Prop) : ∀ (vs : List Value) (cs : List CV), cvOfL vs = some cs → RelL w M cs vs
  | [], cs, h => by simp only [cvOfL, Option.some.injEq] at h; subst h; exact RelL.nil
  | v :: vs, cs, h => by
    simp only [cvOfL, Option.bind_eq_some_iff, Option.map_eq_some_iff] at h
    obtain ⟨c, hc, l, hl, rfl⟩ := h
    exact RelL.cons (cvOf_rel w M v c hc) (cvOfL_rel w M vs l hl)
end

def compO : Operand → Option SO
  | .tmp t => some (.t t)
  | .const v => (cvOf v).map .k
  | .global g => some (.g g)
  | .func f => some (.k (.fn f []))

/-- How a variable of a type is loaded: as one cell, or as so many. -/
def szOf (P : Program) (t : TypeId) : Option (Option Nat) :=
  match P.underlying t, P.info? t with
  | some (.struct _), some i | some (.array _ _), some i => some (some i.size)
  | some _, some i => if i.size = 1 then some none else none
  | _, _ => none

def partsOf (P : Program) (t : TypeId) (parts : List (Nat × Operand)) : Option (List (Nat × Nat × SO)) :=
  match P.underlying t with
  | some (.struct fs) => if !(fs.toList.all fun f => (P.info? f.type).isSome) then none else allM (fun p => (fs[p.1]?).bind fun f => (P.info? f.type).bind fun i => (compO p.2).map fun x => (f.offset, i.size, x)) parts
  | some (.array _ e) => (P.info? e).bind fun i => allM (fun p => (compO p.2).map fun x => (p.1 * i.size, i.size, x)) parts
  | _ => none

def nilKind : TypeDesc → Operand → Option Nat
  | .slice _, .const (.slice none 0 0) => some 1
  | .map _ _, .const (.map none) => some 2
  | .interface _, .const .nilIface => some 3
  | _, _ => none

def seqParts : Nat → List (Nat × Operand) → Option (List SO)
  | _, [] => some []
  | i, (j, x) :: ps => if i = j then (compO x).bind fun a => (seqParts (i + 1) ps).map fun l => a :: l else none

def hasBody (P : Program) (f : FuncId) : Bool :=
  match P.funcs[f]? with
  | some fn => fn.body.isSome && !(fn.name == "runtime.NumGoroutine")
  | none => false

def compBin (P : Program) (op : BinOp) (t : TypeId) (x y : Operand) : Option SOp :=
  match op with
  | .eql | .neq =>
    match P.underlying t with
    | some (.int _) | some .string => (compO x).bind fun a => (compO y).map fun b => .bin op a b
    | some .bool => (compO x).bind fun a => (compO y).map fun b => .beq (isNeq op) a b
    | some (.struct fs) => if P.stoodInHeld t || P.eqGuardType P.depth t then none else
      (ktFields P 0 fs.toList).bind fun ts => (compO x).bind fun a => (compO y).map fun b => .eqs (isNeq op) ts a b
    | some d => (nilKind d y).bind fun kd => (compO x).map fun a => .isnil kd (isNeq op) a
    | _ => none
  | _ =>
    match P.underlying t with
    | some (.int _) | some .string => (compO x).bind fun a => (compO y).map fun b => .bin op a b
    | _ => none

def compConv (P : Program) (src dst : TypeId) (x : Operand) : Option SOp :=
  match P.underlying src, P.underlying dst with
  | some (.int _), some (.int k) => (compO x).map (.cvi k)
  | some (.int _), some .string => (compO x).map .cvrune
  | some .string, some .string => (compO x).map .cvid
  | some .string, some (.slice e) => match P.underlying e with
    | some (.int .u8) => (compO x).map (.bytes e)
    | _ => none
  | some (.slice e), some .string => match P.underlying e with
    | some (.int .u8) => (compO x).map .cvbs
    | _ => none
  | _, _ => none

def optO : Option Operand → Option (Option SO)
  | none => some none
  | some x => (compO x).map some

def compCall (P : Program) (c : Call) : Option SOp :=
  match c.callee with
  | .builtin .len => match (c.argTypes[0]?).bind P.underlying, c.args.toList with
    | some .string, [x] => (compO x).map (.len 0)
    | some (.slice _), [x] => (compO x).map (.len 1)
    | some (.map _ _), [x] => (compO x).map (.len 2)
    | some (.array n _), [_] => some (.mov (.k (.int .i64 n)))
    | _, _ => none
  | .builtin .min => (allM compO c.args.toList).map (.minmax false)
  | .builtin .max => (allM compO c.args.toList).map (.minmax true)
  | .builtin .append => match c.args.toList, c.argTypes.toList with
    | [x, y], [t, u] => match P.underlying t, P.underlying u with
      | some (.slice e), some (.slice _) => (P.info? e).bind fun i => (i.zero).bind fun zv => (compO x).bind fun a => (compO y).bind fun b =>
          if t = u ∧ 0 < i.size ∧ zv.cells.size = i.size then some (.append e i.size i.bytes a b) else none
      | _, _ => none
    | _, _ => none
  | .value (.func f) => if hasBody P f then (allM compO c.args.toList).map (.call f) else none
  | .value (.tmp t) => (allM compO c.args.toList).map (.callv (.t t))
  | _ => none

def compOp (P : Program) (o : Oper) : Option SOp :=
  match o.op with
  | .move x | .assign x => (compO x).map .mov
  | .pick c a b => (compO c).bind fun c => (compO a).bind fun a => (compO b).map fun b => .pick c a b
  | .alloc t => (P.info? t).bind fun i => (i.zero).bind fun z => (cvOf z).map fun c => .alloc c.cells
  | .box _ x => (compO x).map .box
  | .build t parts => (P.info? t).bind fun i => (i.zero).bind fun z => (cvOf z).bind fun c => (partsOf P t parts.toList).map fun ps => .build c.cells ps
  | .buildSlice t len parts => match P.underlying t with
    | some (.slice e) => (P.info? e).bind fun i => (i.zero).bind fun z => (cvOf z).bind fun c => (seqParts 0 parts.toList).bind fun xs =>
        if xs.length = len ∧ 0 < i.size ∧ cellsN c = i.size ∧ len * i.size ≤ 16777216 then some (.mksl e i.size xs) else none
    | _ => none
  | .load t x => (szOf P t).bind fun s => (compO x).map fun a => .load s a
  | .store t a x => (P.info? t).bind fun i => (compO a).bind fun a => (compO x).map fun x => .store i.size a x
  | .binOp op t x y _ => compBin P op t x y
  | .unOp op _ x => (compO x).map (.un op)
  | .convert src dst x => compConv P src dst x
  | .makeFunc (.func f) first captured => if first.isEmpty && hasBody P f then (allM compO captured.toList).map (.fnv f) else none
  | .makeMap t none => (mapTy P t).map fun p => .mkmap t p.1 p.2
  | .makeSlice t x y => match P.underlying t with
    | some (.slice e) => (P.info? e).bind fun i => (i.zero).bind fun z => (cvOf z).bind fun c => (compO x).bind fun a => (compO y).bind fun b =>
        if 0 < i.size ∧ cellsN c = i.size then some (.make e i.size i.bytes c a b) else none
    | _ => none
  | .slice t x lo hi none => match P.underlying t with
    | some .string => (compO x).bind fun a => (optO lo).bind fun l => (optO hi).map fun h => .sslice a l h
    | some (.slice e) => (P.info? e).bind fun i => (compO x).bind fun a => (optO lo).bind fun l => (optO hi).map fun h => .slice i.size a l h
    | _ => none
  | .fieldAddr t x f => match P.underlying t with
    | some (.struct fs) => (fs[f]?).bind fun fd => (P.info? fd.type).bind fun i => if i.size = 0 then none else (compO x).map fun a => .faddr fd.offset a
    | _ => none
  | .field t x f => match P.underlying t with
    | some (.struct fs) => (fs[f]?).bind fun fd => (szOf P fd.type).bind fun s => (compO x).map fun a => .field fd.offset s a
    | _ => none
  | .indexAddr t x ix => match P.underlying t with
    | some (.slice e) => (P.info? e).bind fun i => if i.size = 0 then none else (compO x).bind fun a => (compO ix).map fun b => .iaddr i.size a b
    | some (.array n e) => (P.info? e).bind fun i => if i.size = 0 then none else (compO x).bind fun a => (compO ix).map fun b => .aaddr n i.size a b
    | _ => none
  | .index t x ix => match P.underlying t with
    | some .string => (compO x).bind fun a => (compO ix).map fun b => .sidx a b
    | some (.array n e) => (P.info? e).bind fun i => (szOf P e).bind fun s => (compO x).bind fun a => (compO ix).map fun b => .aidx n i.size s a b
    | _ => none
  | .lookup t x k ok => (mapTy P t).bind fun p => (compO x).bind fun a => (compO k).map fun b => .lookup t p.1 p.2 ok a b
  | .mapUpdate t m k x => match P.underlying t with
    | some (.map _ _) => (compO m).bind fun a => (compO k).bind fun b => (compO x).map fun c => .mapupd t a b c
    | _ => none
  | .mapEntry t m k => match P.underlying t with
    | some (.map _ _) => (compO m).bind fun a => (compO k).map fun b => .mapent t a b
    | _ => none
  | .entryStore _ m s x => (compO m).bind fun a => (compO s).bind fun b => (compO x).map fun c => .entst a b c
  | .range t x => match P.underlying t with
    | some .string => (compO x).map .siter
    | _ => none
  | .next it true => (compO it).map .snext
  | .extract t i => (compO t).map fun a => .ext a i
  | .call c => compCall P c
  | _ => none
end WB
