/-
  Own texts. No condition of their own.
-/
import Derived.WalkKit
import Derived.Deep.Draws
import Derived.Lib.FrozenHead
import Derived.Lib.Strings
set_option linter.unusedVariables false
set_option linter.unusedSimpArgs false
open Go.IntKind (i64 u64 u8 u32)
namespace WB
theorem Aa {c β : Type _} {b : β} {x : Option c} {f : c -> β} : Option.map f x = some b <-> ∃ a, x = some a /\ f a = b := Option.map_eq_some_iff
theorem Ab {c β : Type _} {b : β} {x : Option c} {f : c -> Option β} : x.bind f = some b <-> ∃ a, x = some a /\ f a = some b := Option.bind_eq_some_iff
theorem Ac {c : Type _} (a b : c) : (some a = some b) = (a = b) := Option.some.injEq a b
theorem Ae {c : Type _} {a : c} {p : Prop} {_ : Decidable p} {b : Option c} : (if p then b else none) = some a <-> p /\ b = some a := Option.ite_none_right_eq_some
theorem Af {b : Type _} {i : Nat} {a : b} {l : List b} : l[i]? = some a <-> ∃ h : i < l.length, l[i] = a := List.getElem?_eq_some_iff
theorem Ag (a b : Bool) : ((a && b) = true) = (a = true /\ b = true) := Bool.and_eq_true a b
theorem Ah : (false = true) = False := Bool.false_eq_true
theorem Ai {n m : Nat} (h : n.ble m = true) : n <= m := Nat.le_of_ble_eq_true h
theorem Aj {b : Type _} {l : List b} {i : Nat} (h : i < l.length) : l[i]? = some l[i] := List.getElem?_eq_getElem h
theorem Ak (a b : Bool) : ((a || b) = true) = (a = true \/ b = true) := Bool.or_eq_true a b
theorem Al {p : Prop} [Decidable p] (h : ¬p) : decide p = false := decide_eq_false h
theorem Am {p : Prop} [Decidable p] (h : p) : decide p = true := decide_eq_true h
theorem An {c : Prop} {_ : Decidable c} (h : ¬c) {d : Sort _} {a b : d} : (if c then a else b) = b := if_neg h
theorem Ao {c : Prop} {_ : Decidable c} (h : c) {d : Sort _} {a b : d} : (if c then a else b) = a := if_pos h
theorem Ap {b β : Type _} (a : b) (f : b -> Option β) : (some a).bind f = f a := rfl
theorem Aq {b β : Type _} (a : b) (f : b -> β) : (some a).map f = some (f a) := rfl
theorem Ar {b : Type _} {xs : Array b} {i : Nat} {d : b} : xs.getD i d = xs[i]?.getD d := Array.getD_eq_getD_getElem?
theorem As {b : Type _} {p : b -> Bool} {l : List b} : l.all p = true <-> ∀ x, x ∈ l -> p x = true := List.all_eq_true
theorem Au {b : Type _} {a : b} {l : List b} : (a :: l).length = l.length + 1 := rfl
theorem Av {b : Type _} : ([] : List b).length = 0 := rfl
theorem Aw {b : Type _} {l : List b} (h : l.length = 0) : l = [] := List.eq_nil_of_length_eq_zero h
theorem Ax {d : Type _} (a b c : List d) : a ++ b ++ c = a ++ (b ++ c) := List.append_assoc a b c
theorem Ay {b : Type _} (a : List b) : [] ++ a = a := rfl
theorem Az {m n : Nat} : m ∈ List.range n <-> m < n := List.mem_range
open Go Go.RowKit
inductive CV where
 |int (k:IntKind) (n:Int)
 |bool (b:Bool)
 |str (s:List UInt8)
 |agg (cs:List CV)
 |sl (nl:Option Bool) (es:List CV)
 |map (nl:Option Bool) (ks vs:List CV)
 |rp (cs:List CV)
 |wp (cs:List CV)
 |fn (f:FuncId) (caps:List CV)
 |tup (cs:List CV)
 |nilif
 |nilfn
 |ifc
 |adr (b:Nat)
 |nilp
 |nam (N:Nat)
 |bptr (N:Nat)
structure MM where
 p:Nat->Prop
 al:Nat->Nat
instance :CoeFun MM (fun _=>Nat->Prop):=⟨MM.p⟩
@[reducible] def noM:MM:=⟨fun _=>False,fun _=>0⟩
def CV.cells:CV->List CV
 | .agg cs=>cs
 |v=> [v]
def cS(b:List MapEntry)(c:Nat):Prop:=(b.map (·.key)).Nodup/\(∀d:MapEntry,d∈b->d.born<c)/\(b.map (·.born)).Nodup
def GZ:Nat:=1048576
def mvOf(f:Nat):Option Nat:=if Nat.ble GZ f=true then some (f-GZ)else none
theorem Af1(f:Nat):mvOf (GZ+f)=some f:=by
 unfold mvOf;rw[Ao (Nat.ble_eq_true_of_le (Nat.le_add_right _ _)),Nat.add_sub_cancel_left]
theorem WD{f:Nat}(h:Nat.blt f GZ=true):mvOf f=none:=by
 unfold mvOf;rw[An];intro b;have d:=Ai h;have c:=Ai b;omega
def bV(f:Nat)(vs:List Value)(v:Value):Prop:=match mvOf f with
 |none=>v=.func (.func f) #[] ⟨vs⟩
 |some g=>∃r,vs= [r]/\v=.func (.func g) #[r] #[]
theorem bV.cells{f:Nat}{vs:List Value}{v:Value}(h:bV f vs v):v.cells= #[v]:=by
 unfold bV at h;split at h
 ·subst h;rfl
 ·obtain⟨r,_,rfl⟩:=h;rfl
def CG(N g:Nat):Value:=if N % 2=1 then .map (some g)else .pointer (some ⟨g,0,none⟩)
theorem N8(N g:Nat):(CG N g).cells= #[CG N g]:=by unfold CG;split<;>rfl
theorem Xy(N g:Nat):(CG N g).oneCell'=true:=by unfold CG;split<;>rfl
theorem QU{N g:Nat}(h:N % 2=0):CG N g=.pointer (some ⟨g,0,none⟩):=by unfold CG;rw[An (by omega)]
theorem Ahe{N g:Nat}(h:N % 2=1):CG N g=.map (some g):=by unfold CG;rw[Ao h]
mutual
def RelC(w:World)(M:MM):CV->Value->Prop
 | .int k n,v=>v=.int k n
 | .bool b,v=>v=.bool b
 | .str s,v=>v=.string ⟨⟨s⟩⟩
 | .agg cs,v=>∃vs:List Value,v=.agg ⟨vs⟩/\RelL w M cs vs
 | .sl nl es,v=>∃a n c,v=.slice a n c/\n=es.length/\n<=c/\(nl=some true->a=none)/\(nl=some false->a≠none)/\(a=none->c=0)/\
   (es≠ []->∃d size,a=some d/\d.block<w.heap.size/\¬M d.block/\RelE w M d size 0 es)
 | .map nl ks vs,v=>∃r,v=.map r/\(nl=some true->r=none)/\(nl=some false->r≠none)/\(r=none->ks= []/\vs= [])/\
   ∀b,r=some b->¬M b/\∃(h ens':List MapEntry) (m:Nat),w.heap[b]? =some (.map ⟨h⟩ m)/\cS h m/\ens'.Perm h/\RelL w M ks (ens'.map (·.key))/\RelL w M vs (ens'.map (·.val))
 | .rp cs,v=>∃(d:Addr) (vs:List Value),v=.pointer (some d)/\d.block<w.heap.size/\¬M d.block/\RelL w M cs vs/\∀(j:Nat) u,vs[j]? =some u->w.cell? (d.add j)=some u
 | .wp cs,v=>∃(g:Nat) (ty:TypeId) (vs:List Value),v=.pointer (some ⟨g,0,none⟩)/\w.heap[g]? =some (.cells ⟨vs⟩ ty (0,0))/\¬M g/\RelL w M cs vs
 | .fn f caps,v=>∃vs:List Value,bV f vs v/\RelL w M caps vs
 | .tup cs,v=>∃vs:List Value,v=.tuple ⟨vs⟩/\RelL w M cs vs
 | .nilif,v=>v=.nilIface
 | .nilfn,v=>v=.nilFunc
 | .ifc,v=>∃t x,v=.iface t x
 | .adr b,v=>v=.pointer (some ⟨b,0,none⟩)
 | .nilp,v=>v=.pointer none
 | .nam N,v=>v=CG N (M.al N)
 | .bptr N,v=>v=.pointer none\/v=CG N (M.al N)
def RelL(w:World)(M:MM):List CV->List Value->Prop
 | [],vs=>vs= []
 |c::cs,vs=>∃v l,vs=v::l/\RelC w M c v/\RelL w M cs l
def RelE(w:World)(M:MM)(d:Addr)(size:Nat)(i:Nat):List CV->Prop
 | []=>True
 |e::es=>(∃v,RelC w M e v/\v.cells.size=size/\∀(j:Nat) u,v.cells[j]? =some u->w.cell? (d.add (i*size+j))=some u)/\RelE w M d size (i+1) es
end
theorem DE(a:Addr)(n:Nat):(a.add n).block=a.block:=by unfold Addr.add;split<;>rfl
theorem Ir(a:Addr)(i j:Nat):(a.add i).add j=a.add (i+j):=by
 unfold Addr.add;by_cases hi:i=0<;>by_cases b:j=0<;>simp[hi,b,Nat.add_assoc]
theorem add_zero(a:Addr):a.add 0=a:=by simp[Addr.add]
theorem Pi{w:World}{a:Addr}{v:Value}(h:w.cell? a=some v):a.block<w.heap.size:=by
 unfold World.cell? at h;rcases Nat.lt_or_ge a.block w.heap.size with hlt|hge
 ·exact hlt
 ·rw[Array.getElem?_eq_none hge]at h;simp at h
theorem C1{w:World}{g:Nat}{o:Obj}(h:w.heap[g]? =some o):g<w.heap.size:=by
 rcases Nat.lt_or_ge g w.heap.size with hlt|hge
 ·exact hlt
 ·rw[Array.getElem?_eq_none hge]at h;cases h
structure Bu (w:World) (M:MM) (w':World) (M':MM):Prop where
 size:w.heap.size<=w'.heap.size
 heap:∀g,g<w.heap.size->¬M g->w'.heap[g]? =w.heap[g]?
 less:∀g,g<w.heap.size->M' g->M g
 al:M'.al=M.al
section
variable {w w':World} {M M':MM}
theorem Bu.cell(h:Bu w M w' M'){a:Addr}{v:Value}(c:¬M a.block)(b:w.cell? a=some v):w'.cell? a=some v:=by
 have:=h.heap a.block (Pi b) c;unfold World.cell? at*;rw[this];exact b
mutual
theorem RelC.keep(h:Bu w M w' M'):∀(c:CV) (v:Value),RelC w M c v->RelC w' M' c v
 | .int _ _,_,d=>d
 | .bool _,_,d=>d
 | .str _,_,d=>d
 | .nilif,_,d=>d
 | .nilfn,_,d=>d
 | .ifc,_,d=>d
 | .adr _,_,d=>d
 | .nilp,_,d=>d
 | .nam N,v,d=>by unfold RelC at*;rw[h.al];exact d
 | .bptr N,v,d=>by unfold RelC at*;rw[h.al];exact d
 | .agg cs,v,d=>by
  unfold RelC at*;obtain⟨vs,e,m⟩:=d;exact⟨vs,e,RelL.keep h cs vs m⟩
 | .tup cs,v,d=>by
  unfold RelC at*;obtain⟨vs,e,m⟩:=d;exact⟨vs,e,RelL.keep h cs vs m⟩
 | .fn f cs,v,d=>by
  unfold RelC at*;obtain⟨vs,e,m⟩:=d;exact⟨vs,e,RelL.keep h cs vs m⟩
 | .wp cs,v,d=>by
  unfold RelC at*;obtain⟨g,ty,vs,e,q,k,m⟩:=d;exact⟨g,ty,vs,e,(h.heap _ (C1 q) k).trans q,fun s=>k (h.less _ (C1 q) s),RelL.keep h cs vs m⟩
 | .rp cs,v,d=>by
  unfold RelC at*;obtain⟨p,vs,e,l,k,m,O⟩:=d;exact⟨p,vs,e,Nat.lt_of_lt_of_le l h.size,fun s=>k (h.less _ l s),RelL.keep h cs vs m,fun j u D=>h.cell (by rw[DE];exact k) (O j u D)⟩
 | .sl nl es,v,d=>by
  unfold RelC at*;obtain⟨a,n,c,e,K,F,x,t,C,A⟩:=d;refine⟨a,n,c,e,K,F,x,t,C,fun E=> ?_⟩;obtain⟨p,size,R,l,k,hE⟩:=A E;exact⟨p,size,R,Nat.lt_of_lt_of_le l h.size,fun s=>k (h.less _ l s),RelE.keep h p size k 0 es hE⟩
 | .map nl ks vs,v,d=>by
  unfold RelC at*;obtain⟨r,e,x,t,C,A⟩:=d;refine⟨r,e,x,t,C,fun b Q=> ?_⟩;obtain⟨k,H,ens',I,q,hE,J,L,d⟩:=A b Q;exact⟨fun s=>k (h.less _ (C1 q) s),H,ens',I,(h.heap b (C1 q) k).trans q,hE,J,RelL.keep h ks _ L,RelL.keep h vs _ d⟩
theorem RelL.keep(h:Bu w M w' M'):∀(cs:List CV) (vs:List Value),RelL w M cs vs->RelL w' M' cs vs
 | [],_,d=>d
 |c::cs,vs,d=>by
  unfold RelL at*;obtain⟨v,y,e,x,t⟩:=d;exact⟨v,y,e,RelC.keep h c v x,RelL.keep h cs y t⟩
theorem RelE.keep(h:Bu w M w' M')(p:Addr)(size:Nat)(k:¬M p.block):∀(i:Nat) (es:List CV),RelE w M p size i es->RelE w' M' p size i es
 |_,[],_=>by unfold RelE;trivial
 |i,e::es,d=>by
  unfold RelE at*;obtain⟨⟨v,x,t,C⟩,A⟩:=d;exact⟨⟨v,RelC.keep h e v x,t,fun j u D=>h.cell (by rw[DE];exact k) (C j u D)⟩,RelE.keep h p size k (i+1) es A⟩
end
theorem RelL.length:∀{cs:List CV} {vs:List Value},RelL w M cs vs->vs.length=cs.length
 | [],_,h=>by unfold RelL at h;subst h;rfl
 |_::_,_,h=>by
  unfold RelL at h;obtain⟨v,b,rfl,_,c⟩:=h;simp[RelL.length c]
theorem RelL.get:∀{cs:List CV} {vs:List Value} {i:Nat} {c:CV},RelL w M cs vs->cs[i]? =some c->∃v,vs[i]? =some v/\RelC w M c v
 | [],_,_,_,_,hi=>by simp at hi
 |_::_,_,0,_,h,hi=>by
  unfold RelL at h;obtain⟨v,b,rfl,e,_⟩:=h;simp at hi;subst hi;exact⟨v,rfl,e⟩
 |_::_,_,i+1,_,h,hi=>by
  unfold RelL at h;obtain⟨v,b,rfl,_,d⟩:=h;simp only[List.getElem?_cons_succ]at hi⊢;exact RelL.get d hi
theorem RelL.nil:RelL w M [] []:=by unfold RelL;rfl
theorem RelL.cons{c:CV}{v:Value}{cs:List CV}{vs:List Value}(h:RelC w M c v)(b:RelL w M cs vs):RelL w M (c::cs) (v::vs):=by
 unfold RelL;exact⟨v,vs,rfl,h,b⟩
theorem RelL.append:∀{cs b:List CV} {vs us:List Value},RelL w M cs vs->RelL w M b us->RelL w M (cs++b) (vs++us)
 | [],_,_,_,h,k=>by unfold RelL at h;subst h;exact k
 |_::_,_,_,_,h,k=>by
  unfold RelL at h;obtain⟨v,c,rfl,e,d⟩:=h;exact RelL.cons e (RelL.append d k)
theorem RelL.drop:∀{cs:List CV} {vs:List Value} (n:Nat),RelL w M cs vs->RelL w M (cs.drop n) (vs.drop n)
 |_,_,0,h=>h
 | [],_,n+1,h=>by unfold RelL at h;subst h;simpa using RelL.nil
 |_::_,_,n+1,h=>by
  unfold RelL at h;obtain⟨v,b,rfl,_,c⟩:=h;simpa using RelL.drop n c
theorem RelL.take:∀{cs:List CV} {vs:List Value} (n:Nat),RelL w M cs vs->RelL w M (cs.take n) (vs.take n)
 |_,_,0,h=>by simpa using RelL.nil
 | [],_,n+1,h=>by unfold RelL at h;subst h;simpa using RelL.nil
 |_::_,_,n+1,h=>by
  unfold RelL at h;obtain⟨v,b,rfl,d,c⟩:=h;simpa using RelL.cons d (RelL.take n c)
theorem RelL.set:∀{cs:List CV} {vs:List Value} (i:Nat) {c:CV} {v:Value},RelL w M cs vs->RelC w M c v->RelL w M (cs.set i c) (vs.set i v)
 | [],_,_,_,_,h,_=>by unfold RelL at h;subst h;simpa using RelL.nil
 |_::_,_,0,_,_,h,k=>by
  unfold RelL at h;obtain⟨v,b,rfl,_,d⟩:=h;simpa using RelL.cons k d
 |_::_,_,i+1,_,_,h,k=>by
  unfold RelL at h;obtain⟨v,b,rfl,e,d⟩:=h;simpa using RelL.cons e (RelL.set i d k)
theorem RelE.get{b:Addr}{size:Nat}:∀{i:Nat} {es:List CV} {k:Nat} {e:CV},RelE w M b size i es->es[k]? =some e->
  ∃v,RelC w M e v/\v.cells.size=size/\∀(j:Nat) u,v.cells[j]? =some u->w.cell? (b.add ((i+k)*size+j))=some u
 |_,[],_,_,_,hi=>by simp at hi
 |i,_::_,0,_,h,hi=>by
  unfold RelE at h;simp at hi;subst hi;exact h.1
 |i,_::_,k+1,_,h,hi=>by
  unfold RelE at h;simp only[List.getElem?_cons_succ]at hi;have:=RelE.get h.2 hi;rw[show i+1+k=i+(k+1) by omega]at this;exact this
theorem RelC.cells{e:CV}{v:Value}(h:RelC w M e v):RelL w M e.cells v.cells.toList:=by
 cases e with
 |agg cs=>
  unfold RelC at h;obtain⟨vs,rfl,j⟩:=h;exact j
 |int k n=>have d:=h;unfold RelC at d;subst d;exact RelL.cons h RelL.nil
 |bool b=>have d:=h;unfold RelC at d;subst d;exact RelL.cons h RelL.nil
 |str s=>have d:=h;unfold RelC at d;subst d;exact RelL.cons h RelL.nil
 |nilif=>have d:=h;unfold RelC at d;subst d;exact RelL.cons h RelL.nil
 |nilfn=>have d:=h;unfold RelC at d;subst d;exact RelL.cons h RelL.nil
 |adr b=>have d:=h;unfold RelC at d;subst d;exact RelL.cons h RelL.nil
 |nilp=>have d:=h;unfold RelC at d;subst d;exact RelL.cons h RelL.nil
 |nam N=>have d:=h;unfold RelC at d;subst d;rw[N8];exact RelL.cons h RelL.nil
 |bptr N=>have d:=h;unfold RelC at d;rcases d with rfl|rfl<;>first|exact RelL.cons h RelL.nil|(rw[N8];exact RelL.cons h RelL.nil)
 |ifc=>have d:=h;unfold RelC at d;obtain⟨t,x,rfl⟩:=d;exact RelL.cons h RelL.nil
 |tup cs=>have d:=h;unfold RelC at d;obtain⟨vs,rfl,_⟩:=d;exact RelL.cons h RelL.nil
 |fn f cs=>have d:=h;unfold RelC at d;obtain⟨vs,l,_⟩:=d;rw[l.cells];exact RelL.cons h RelL.nil
 |rp cs=>have d:=h;unfold RelC at d;obtain⟨m,vs,rfl,_⟩:=d;exact RelL.cons h RelL.nil
 |wp cs=>have d:=h;unfold RelC at d;obtain⟨g,ty,vs,rfl,_⟩:=d;exact RelL.cons h RelL.nil
 |sl nl es=>have d:=h;unfold RelC at d;obtain⟨a,n,c,rfl,_⟩:=d;exact RelL.cons h RelL.nil
 |map nl ks vs=>have d:=h;unfold RelC at d;obtain⟨r,rfl,_⟩:=d;exact RelL.cons h RelL.nil
theorem RelC.of_wp{cs:List CV}{v:Value}(h:RelC w M (.wp cs) v):RelC w M (.rp cs) v:=by
 unfold RelC at*;obtain⟨g,ty,vs,e,b,d,f⟩:=h;refine⟨⟨g,0,none⟩,vs,e,C1 b,d,f,fun j u c=> ?_⟩;have:(⟨g,0,none⟩:Addr).add j=⟨g,j,none⟩:=by unfold Addr.add;split<;>simp_all
 rw[this];unfold World.cell?;simp[b,c]
mutual
def Br(T:Nat->Bool):CV->Bool
 | .nam N| .bptr N=>T N
 | .agg cs| .tup cs| .rp cs| .wp cs| .fn _ cs=>AX T cs
 | .sl _ es=>AX T es
 | .map _ ks vs=>AX T ks&&AX T vs
 |_=>true
def AX(T:Nat->Bool):List CV->Bool
 | []=>true
 |c::cs=>Br T c&&AX T cs
end
structure Gf (T:Nat->Bool) (w:World) (M:MM) (w':World) (M':MM):Prop where
 size:w.heap.size<=w'.heap.size
 heap:∀g,g<w.heap.size->¬M g->w'.heap[g]? =w.heap[g]?
 less:∀g,g<w.heap.size->M' g->M g
 al:∀N,T N=true->M'.al N=M.al N
section
variable {w w':World} {M M':MM} {T:Nat->Bool}
theorem Gf.cell(h:Gf T w M w' M'){a:Addr}{v:Value}(c:¬M a.block)(b:w.cell? a=some v):w'.cell? a=some v:=by
 have:=h.heap a.block (Pi b) c;unfold World.cell? at*;rw[this];exact b
mutual
theorem RelC.named(h:Gf T w M w' M'):∀(c:CV) (v:Value),Br T c=true->RelC w M c v->RelC w' M' c v
 | .int _ _,_,_,d=>d
 | .bool _,_,_,d=>d
 | .str _,_,_,d=>d
 | .nilif,_,_,d=>d
 | .nilfn,_,_,d=>d
 | .ifc,_,_,d=>d
 | .adr _,_,_,d=>d
 | .nilp,_,_,d=>d
 | .nam N,v,hn,d=>by
  unfold RelC at*;rw[h.al N (by simpa[Br]using hn)];exact d
 | .bptr N,v,hn,d=>by
  unfold RelC at*;rw[h.al N (by simpa[Br]using hn)];exact d
 | .agg cs,v,hn,d=>by
  unfold RelC at*;obtain⟨vs,e,p⟩:=d;exact⟨vs,e,RelL.named h cs vs (by simpa[Br]using hn) p⟩
 | .tup cs,v,hn,d=>by
  unfold RelC at*;obtain⟨vs,e,p⟩:=d;exact⟨vs,e,RelL.named h cs vs (by simpa[Br]using hn) p⟩
 | .fn f cs,v,hn,d=>by
  unfold RelC at*;obtain⟨vs,e,p⟩:=d;exact⟨vs,e,RelL.named h cs vs (by simpa[Br]using hn) p⟩
 | .wp cs,v,hn,d=>by
  unfold RelC at*;obtain⟨g,ty,vs,e,m,k,p⟩:=d;exact⟨g,ty,vs,e,(h.heap _ (C1 m) k).trans m,fun s=>k (h.less _ (C1 m) s),RelL.named h cs vs (by simpa[Br]using hn) p⟩
 | .rp cs,v,hn,d=>by
  unfold RelC at*;obtain⟨q,vs,e,l,k,p,O⟩:=d;exact⟨q,vs,e,Nat.lt_of_lt_of_le l h.size,fun s=>k (h.less _ l s),RelL.named h cs vs (by simpa[Br]using hn) p,fun j u C=>h.cell (by rw[DE];exact k) (O j u C)⟩
 | .sl nl es,v,hn,d=>by
  unfold RelC at*;obtain⟨a,n,c,e,D,F,m,t,A,y⟩:=d;refine⟨a,n,c,e,D,F,m,t,A,fun E=> ?_⟩;obtain⟨q,size,R,l,k,hE⟩:=y E;exact⟨q,size,R,Nat.lt_of_lt_of_le l h.size,fun s=>k (h.less _ l s),RelE.named h q size k 0 es (by simpa[Br]using hn) hE⟩
 | .map nl ks vs,v,hn,d=>by
  unfold RelC at*;obtain⟨r,e,m,t,A,y⟩:=d;simp only[Br,Ag]at hn;refine⟨r,e,m,t,A,fun b Q=> ?_⟩;obtain⟨k,I,ens',J,H,hE,K,L,d⟩:=y b Q;exact⟨fun s=>k (h.less _ (C1 H) s),I,ens',J,(h.heap b (C1 H) k).trans H,hE,K,RelL.named h ks _ hn.1 L,RelL.named h vs _ hn.2 d⟩
theorem RelL.named(h:Gf T w M w' M'):∀(cs:List CV) (vs:List Value),AX T cs=true->RelL w M cs vs->RelL w' M' cs vs
 | [],_,_,d=>d
 |c::cs,vs,hn,d=>by
  unfold RelL at*;simp only[AX,Ag]at hn;obtain⟨v,x,e,m,t⟩:=d;exact⟨v,x,e,RelC.named h c v hn.1 m,RelL.named h cs x hn.2 t⟩
theorem RelE.named(h:Gf T w M w' M')(q:Addr)(size:Nat)(k:¬M q.block):∀(i:Nat) (es:List CV),AX T es=true->RelE w M q size i es->RelE w' M' q size i es
 |_,[],_,_=>by unfold RelE;trivial
 |i,e::es,hn,d=>by
  unfold RelE at*;simp only[AX,Ag]at hn;obtain⟨⟨v,m,t,A⟩,y⟩:=d;exact⟨⟨v,RelC.named h e v hn.1 m,t,fun j u C=>h.cell (by rw[DE];exact k) (A j u C)⟩,RelE.named h q size k (i+1) es hn.2 y⟩
end
end
def MP(ks vs c b:List CV):Prop:=ks.length=vs.length/\c.length=b.length/\(c.zip b).Perm (ks.zip vs)
theorem MP.refl{ks vs:List CV}(h:ks.length=vs.length):MP ks vs ks vs:=⟨h,h,.refl _⟩
theorem MP.ks{ks vs b c:List CV}(h:MP ks vs b c):b.Perm ks:=by
 have:=h.2.2.map Prod.fst
 rwa [List.map_fst_zip (by have:=h.2.1;omega),List.map_fst_zip (by have:=h.1;omega)]at this
theorem MP.app{ks vs c b:List CV}(h:MP ks vs c b)(k v:CV):MP (ks++ [k]) (vs++ [v]) (c++ [k]) (b++ [v]):=by
 refine⟨by simp[h.1],by simp[h.2.1], ?_⟩;rw[List.zip_append h.2.1,List.zip_append h.1];exact h.2.2.append (.refl _)
def PR(w:World)(M:MM):List (CV×CV)->List MapEntry->Prop
 | [],es=>es= []
 |p::ps,es=>∃e b,es=e::b/\(RelC w M p.1 e.key/\RelC w M p.2 e.val)/\PR w M ps b
theorem PR.to:∀{ks vs:List CV} {b:List MapEntry},RelL w M ks (b.map (·.key))->RelL w M vs (b.map (·.val))->ks.length=vs.length/\PR w M (ks.zip vs) b
 | [],vs,b,h1,h2=>by
  unfold RelL at h1;have:b= []:=by simpa using h1
  subst this;have:=h2.length;simp only[List.map_nil,Av]at this;have:vs= []:=Aw this.symm;subst this;exact⟨rfl,rfl⟩
 |k::ks,vs,b,h1,h2=>by
  unfold RelL at h1;obtain⟨v,us,e,m,l⟩:=h1
  cases b with
  |nil=>simp at e
  |cons en b=>
   simp only[List.map_cons,List.cons.injEq]at e;obtain⟨rfl,rfl⟩:=e
   cases vs with
   |nil=>unfold RelL at h2;simp at h2
   |cons v vs=>
    unfold RelL at h2;obtain⟨p,d,c,j,h⟩:=h2;simp only[List.map_cons,List.cons.injEq]at c;obtain⟨rfl,rfl⟩:=c;obtain⟨g,f⟩:=PR.to l h;exact⟨by simp[g],en,b,rfl,⟨m,j⟩,f⟩
theorem PR.from:∀{c:List (CV×CV)} {b:List MapEntry},PR w M c b->RelL w M (c.map (·.1)) (b.map (·.key))/\RelL w M (c.map (·.2)) (b.map (·.val))
 | [],_,h=>by unfold PR at h;subst h;exact⟨RelL.nil,RelL.nil⟩
 |_::_,_,h=>by
  obtain⟨e,j,rfl,⟨g,f⟩,d⟩:=h;have:=PR.from d;exact⟨RelL.cons g this.1,RelL.cons f this.2⟩
theorem PR.permR{es f:List MapEntry}(t:es.Perm f):∀{c:List (CV×CV)},PR w M c es->∃d,d.Perm c/\PR w M d f:=by
 induction t with
 |nil=>intro c h;exact⟨c,.refl _,h⟩
 |cons a _ ih=>
  intro c h
  cases c with
  |nil=>unfold PR at h;cases h
  |cons p c=>
   obtain⟨e,f,k,m,j⟩:=h;cases k;obtain⟨d,s,r⟩:=ih j;exact⟨p::d,s.cons p,_,_,rfl,m,r⟩
 |swap a b l=>
  intro c h
  cases c with
  |nil=>unfold PR at h;cases h
  |cons p c=>
   obtain⟨e,f,k,m,j⟩:=h;cases k
   cases c with
   |nil=>unfold PR at j;cases j
   |cons q c=>
    obtain⟨e,f,k,v,u⟩:=j;cases k;exact⟨q::p::c,.swap _ _ _,_,_,rfl,v,_,_,rfl,m,u⟩
 |trans _ _ ih1 ih2=>
  intro c h;obtain⟨d,s,r⟩:=ih1 h;obtain⟨g,y,x⟩:=ih2 r;exact⟨g,y.trans s,x⟩
theorem PR.permL{p f:List (CV×CV)}(q:p.Perm f):∀{es:List MapEntry},PR w M p es->∃d,d.Perm es/\PR w M f d:=by
 induction q with
 |nil=>intro es h;exact⟨es,.refl _,h⟩
 |cons a _ ih=>
  intro es h;obtain⟨e,d,rfl,g,t⟩:=h;obtain⟨c,k,j⟩:=ih t;exact⟨e::c,k.cons e,e,_,rfl,g,j⟩
 |swap a b l=>
  intro es h;obtain⟨e,d,rfl,g,x,m,rfl,s,r⟩:=h;exact⟨x::e::m,.swap _ _ _,_,_,rfl,s,_,_,rfl,g,r⟩
 |trans _ _ ih1 ih2=>
  intro es h;obtain⟨d,k,j⟩:=ih1 h;obtain⟨c,v,u⟩:=ih2 j;exact⟨c,v.trans k,u⟩
theorem X0{ks vs:List CV}{b ens':List MapEntry}(g:ens'.Perm b)(l:RelL w M ks (ens'.map (·.key)))(k:RelL w M vs (ens'.map (·.val))):
  ∃d c,MP ks vs d c/\RelL w M d (b.map (·.key))/\RelL w M c (b.map (·.val)):=by
 obtain⟨h,j⟩:=PR.to l k;obtain⟨e,m,f⟩:=PR.permR g j;refine⟨e.map (·.1),e.map (·.2),⟨h,by simp, ?_⟩,(PR.from f).1,(PR.from f).2⟩;rw[List.zip_map'];simpa using m
theorem X1{ks vs d c:List CV}{b:List MapEntry}(e:MP ks vs d c)(j:RelL w M d (b.map (·.key)))(h:RelL w M c (b.map (·.val))):
  ∃ens':List MapEntry,ens'.Perm b/\RelL w M ks (ens'.map (·.key))/\RelL w M vs (ens'.map (·.val)):=by
 obtain⟨m,g⟩:=PR.to j h;obtain⟨es,l,k⟩:=PR.permL e.2.2 g;have f:=PR.from k;rw[List.map_fst_zip (by have:=e.1;omega),List.map_snd_zip (by have:=e.1;omega)]at f;exact⟨es,l,f⟩
end
inductive SV where
 |c (v:CV)
 |ptr (id off:Nat)
 |eptr (id i size off:Nat)
 |osl (id:Nat)
 |omap (id:Nat)
 |iter (id:Nat)
 |stamp (id:Nat) (key:CV)
 |ent (id:Nat) (key val:CV)
 |undef
inductive KT where
 |int (k:IntKind)
 |str
 |bool
 |struct (fs:List KT)
inductive Ob where
 |none
 |box (cs:List SV) (bt:Option TypeId)
 |arr (e size:Nat) (es:List CV)
 |map (mt:TypeId) (kt:KT) (z:CV) (ks vs:List CV)
 |siter (s:List UInt8) (bj:Nat)
 |miter (ks vs:List CV) (cur:Option (CV×CV))
 |buf (e:Nat) (s:List UInt8)
structure St where
 fr:Nat->SV
 ob:Nat->Ob
def ac{b:Type}(f:Nat->b)(i:Nat)(v:b):Nat->b:=fun j=>if j=i then v else f j
theorem Be{b:Type}(f:Nat->b)(i:Nat)(v:b):ac f i v i=v:=by simp[ac]
theorem AL{b:Type}(f:Nat->b){i j:Nat}(v:b)(h:j≠i):ac f i v j=f j:=by simp[ac,h]
theorem Cc{b:Type}(f:Nat->b)(i j:Nat)(v:b):ac f i v j=if j=i then v else f j:=rfl
def St.set(st:St)(d:Option Nat)(v:SV):St:=
 match d with
 |some d=>{st with fr:=ac st.fr d v}
 |none=>st
def SV.ref:SV->Option Nat
 | .ptr id _| .eptr id _ _ _| .osl id| .omap id| .iter id| .stamp id _| .ent id _ _=>some id
 | .c _| .undef=>none
def AD(D:List Nat):SV->SV
 | .c v=>.c v
 | .ptr id o=>if D.contains id then .undef else .ptr id o
 | .eptr id i s o=>if D.contains id then .undef else .eptr id i s o
 | .osl id=>if D.contains id then .undef else .osl id
 | .omap id=>if D.contains id then .undef else .omap id
 | .iter id=>if D.contains id then .undef else .iter id
 | .stamp id k=>if D.contains id then .undef else .stamp id k
 | .ent id k v=>if D.contains id then .undef else .ent id k v
 | .undef=>.undef
def Cp(D:List Nat):Ob->Ob
 | .box cs bt=>.box (cs.map (AD D)) bt
 |o=>o
def kill(D:List Nat)(st:St):St:=
 {fr:=fun i=>AD D (st.fr i),ob:=fun i=>if D.contains i then .none else Cp D (st.ob i)}
inductive SO where
 |t (i:Nat)
 |k (v:CV)
 |g (i:Nat)
inductive aa where
 |mov (x:SO)
 |pick (c a b:SO)
 |bin (op:BinOp) (x y:SO)
 |eqs (neg:Bool) (ts:List KT) (x y:SO)
 |beq (neg:Bool) (x y:SO)
 |isnil (kd:Nat) (neg:Bool) (x:SO)
 |un (op:UnOp) (x:SO)
 |cvi (k:IntKind) (x:SO)
 |cvrune (x:SO)
 |cvbs (x:SO)
 |cvid (x:SO)
 |build (z:List CV) (parts:List (Nat×Nat×SO))
 |field (off:Nat) (sz:Option Nat) (x:SO)
 |ext (x:SO) (i:Nat)
 |minmax (mx:Bool) (xs:List SO)
 |fnv (f:FuncId) (caps:List SO)
 |faddr (off:Nat) (x:SO)
 |nchk (x:SO)
 |iaddr (size:Nat) (x i:SO)
 |aaddr (len size:Nat) (x i:SO)
 |sidx (x i:SO)
 |aidx (len size:Nat) (sz:Option Nat) (x i:SO)
 |load (sz:Option Nat) (x:SO)
 |len (kd:Nat) (x:SO)
 |sslice (x:SO) (lo hi:Option SO)
 |asl (n:Nat) (x:SO)
 |slice (size:Nat) (x:SO) (lo hi:Option SO)
 |lookup (mt:TypeId) (kt:KT) (z:CV) (ok:Bool) (x k:SO)
 |call (f:FuncId) (args:List SO)
 |callv (f:SO) (args:List SO)
 |mcopy (f:FuncId) (x y:SO)
 |alloc (z:List CV)
 |allocT (T:TypeId) (z:List CV)
 |box (x:SO)
 |mksl (e size:Nat) (parts:List SO)
 |mkmap (mt:TypeId) (kt:KT) (z:CV)
 |make (e size bytes:Nat) (z:CV) (x y:SO)
 |bytes (e:Nat) (x:SO)
 |nbytes (e:Nat) (x:SO)
 |lsl (e size:Nat) (parts:List SO)
 |siter (x:SO)
 |mrange (x:SO)
 |mentry (x:SO)
 |slice3 (size:Nat) (x:SO) (lo:Option SO) (hi mx:SO)
 |capp (e size bytes:Nat) (x y:SO)
 |cpy (e size:Nat) (x y:SO)
 |loadb (sz:Option Nat) (x:SO)
 |store (n:Nat) (a x:SO)
 |append (e size bytes:Nat) (x y:SO)
 |mapent (mt:TypeId) (x k:SO)
 |entst (x s v:SO)
 |mapupd (mt:TypeId) (x k v:SO)
 |snext (x:SO)
structure SL where
 dst:Option Nat
 op:aa
 guard:Option (Nat×Bool)
def Uu(op:BinOp)(a b:Int):Option Bool:=
 match op with
 | .eql=>some (a==b)
 | .neq=>some (a !=b)
 | .lss=>some (decide (a<b))
 | .leq=>some (decide (a<=b))
 | .gtr=>some (decide (a>b))
 | .geq=>some (decide (a≥b))
 |_=>none
def LW(op:BinOp)(k:IntKind)(x y:Int):Option Int:=
 match op with
 | .and=>some (k.wrap (BitVec.ofInt k.bits x&&&BitVec.ofInt k.bits y).toNat)
 | .or=>some (k.wrap (BitVec.ofInt k.bits x|||BitVec.ofInt k.bits y).toNat)
 | .xor=>some (k.wrap (BitVec.ofInt k.bits x^^^BitVec.ofInt k.bits y).toNat)
 | .andNot=>some (k.wrap (BitVec.ofInt k.bits x&&& ~~~(BitVec.ofInt k.bits y)).toNat)
 |_=>none
def H7(op:BinOp)(k:IntKind)(a b:Int):Option CV:=
 match op with
 | .add=>some (.int k (k.wrap (a+b)))
 | .sub=>some (.int k (k.wrap (a-b)))
 | .mul=>some (.int k (k.wrap (a*b)))
 | .quo=>if b=0 then none else some (.int k (k.wrap (a.tdiv b)))
 | .rem=>if b=0 then none else some (.int k (a.tmod b))
 | .and| .or| .xor| .andNot=>(LW op k a b).map (.int k)
 | .shl| .shr=>none
 |op=>(Uu op a b).map .bool
def sLess:List UInt8->List UInt8->Bool:=Op.bytesLess
def JB(op:BinOp)(a b:List UInt8):Option CV:=
 match op with
 | .add=>if a.length+b.length<=4611686018427387904 then some (.str (a++b))else none
 | .eql=>some (.bool (a==b))
 | .neq=>some (.bool (!(a==b)))
 | .lss=>some (.bool (sLess a b))
 | .leq=>some (.bool (sLess a b||a==b))
 | .gtr=>some (.bool (!(sLess a b||a==b)))
 | .geq=>some (.bool (!(sLess a b)))
 |_=>none
def EV(op:BinOp):CV->CV->Option CV
 | .int k a,.int k' b=>
  match op with
  | .shl=>if b<0 then none else some (.int k (k.wrap (a*2^(min b.toNat k.bits))))
  | .shr=>if b<0 then none else some (.int k (a.fdiv (2^(min b.toNat k.bits))))
  |op=>if k=k' then H7 op k a b else none
 | .str a,.str b=>JB op a b
 |_,_=>none
def cW(op:UnOp):CV->Option CV
 | .int k n=>match op with
  | .neg=>some (.int k (k.wrap (0-n)))
  | .xor=>(LW .xor k (if k.signed then-1 else k.max) n).map (.int k)
  |_=>none
 | .bool b=>match op with
  | .not=>some (.bool !b)
  |_=>none
 |_=>none
def bc:KT->CV->CV->Option Bool
 | .int _,.int k a,.int k' b=>if k=k' then some (a==b)else none
 | .str,.str a,.str b=>some (a==b)
 | .bool,.bool a,.bool b=>some (a==b)
 |_,_,_=>none
def bg:List KT->List CV->List CV->Option Bool
 | [],[],[]=>some true
 |t::ts,a::as,b::bs=>(bc t a b).bind fun x=>(bg ts as bs).map fun y=>x&&y
 |_,_,_=>none
def dg(b:List KT):CV->CV->Option Bool
 | .agg as,.agg bs=>bg b as bs
 |_,_=>none
def Bk:CV->Nat
 | .agg cs=>cs.length
 |_=>1
def CR(cs:List CV)(off:Nat):Option Nat->Option CV
 |some n=>if off+n<=cs.length then some (.agg ((cs.drop off).take n))else none
 |none=>cs[off]?
def HK:List CV->List (Nat×Nat×CV)->Option (List CV)
 |cs,[]=>some cs
 |cs,(off,size,v)::rest=>
  if Bk v=size/\off+size<=cs.length then HK (cs.take off++v.cells++cs.drop (off+size)) rest else none
def HV(c:Bool):CV->CV->Option CV
 | .int k a,.int k' b=>if k=k' then some (.int k (if c then max a b else min a b))else none
 |_,_=>none
def idxOf(n:Int)(len:Nat):Option Nat:=if 0<=n/\n<len then some n.toNat else none
def BT:KT->CV->Bool
 | .int k,.int k' _=>k==k'
 | .str,.str _=>true
 | .bool,.bool _=>true
 |_,_=>false
def Ca:List KT->List CV->Bool
 | [],[]=>true
 |f::fs,c::cs=>BT f c&&Ca fs cs
 |_,_=>false
def AR:KT->CV->Bool
 | .struct fs,.agg cs=>Ca fs cs
 |kt,c=>BT kt c
def CC:KT->CV->CV->Bool
 | .struct ts,.agg as,.agg bs=>(bg ts as bs).getD false
 |kt,a,b=>(bc kt a b).getD false
def AV(kt:KT)(k:CV):List CV->Option Nat
 | []=>none
 |c::cs=>if CC kt k c then some 0 else(AV kt k cs).map (· +1)
def AZ(kt:KT)(z:CV)(ks vs:List CV)(k:CV):CV×Bool:=
 match AV kt k ks with
 |some i=>(vs.getD i z,true)
 |none=>(z,false)
def Bp(kt:KT)(ks:List CV)(k:CV):List CV:=
 match AV kt k ks with
 |some _=>ks
 |none=>ks++ [k]
def Bq(kt:KT)(ks vs:List CV)(k v:CV):List CV:=
 match AV kt k ks with
 |some i=>vs.set i v
 |none=>vs++ [v]
def Fs:List CV->Option (List Int)
 | []=>some []
 | .int .u8 n::es=>(Fs es).map fun ns=>n::ns
 |_=>none
section
variable (rd:Nat->Ob) (ρ:SO->SV)
def closed:SV->Option CV
 | .c v=>some v
 |_=>none
def C9:SV->Option CV
 | .c v=>some v
 | .osl id=>match rd id with
  | .arr _ _ es=>some (.sl none es)
  |_=>none
 | .omap id=>match rd id with
  | .map _ _ _ ks vs=>some (.map none ks vs)
  |_=>none
 |_=>none
def A5{c β:Type}(f:c->Option β):List c->Option (List β)
 | []=>some []
 |a::as=>(f a).bind fun b=>(A5 f as).map fun bs=>b::bs
def C7:CV->Bool
 | .agg _| .tup _=>false
 |_=>true
def A9:Nat:=1048576
def deref:SV->SV
 | .c (.nam N)=>if A9<=N/\N % 2=0 then(match rd N with| .box _ _=>.ptr N 0|_=>.undef)else .undef
 |s=>s
def Bb(sz:Option Nat):SV->Option SV
 | .c (.rp cs)=>match sz with
  |none=>(cs[0]?).map .c
  |some n=>(CR cs 0 (some n)).map .c
 | .c (.wp cs)=>match sz with
  |none=>(cs[0]?).map .c
  |some n=>(CR cs 0 (some n)).map .c
 | .ptr id o=>match rd id with
  | .box cs bt=>match sz with
   |none=>cs[o]?
   |some n=>if o+n<=cs.length then(A5 closed ((cs.drop o).take n)).map (fun l=>.c (.agg l))else none
  |_=>none
 | .eptr id i size o=>match rd id with
  | .arr _ sz' es=>if size=sz' then(es[i]?).bind fun e=>(CR e.cells o sz).map .c else none
  |_=>none
 |_=>none
def Da:Nat->SV->Option Int
 |0,.c (.str s)=>some s.length
 |1,.c (.sl _ es)=>some es.length
 |1,.osl id=>match rd id with
  | .arr _ _ es=>some es.length
  |_=>none
 |2,.c (.map _ ks _)=>some ks.length
 |2,.omap id=>match rd id with
  | .map _ _ _ ks _=>some ks.length
  |_=>none
 |_,_=>none
def Eu(size:Nat):SV->SV->Option SV
 | .c (.sl _ es),.c (.int _ n)=>(idxOf n es.length).bind fun i=>(es[i]?).bind fun e=>if Bk e=size then some (.c (.rp e.cells))else none
 | .osl id,.c (.int _ n)=>match rd id with
  | .arr _ sz es=>if size=sz then(idxOf n es.length).map fun i=>.eptr id i size 0 else none
  |_=>none
 |_,_=>none
def Kf:CV->Bool
 | .str _=>true
 |_=>false
def EA(len size:Nat):SV->SV->Option SV
 | .c (.rp cs),.c (.int _ n)=>if cs.length=len*size then(idxOf n len).map fun i=>.c (.rp (cs.drop (i*size)))else none
 | .ptr id o,.c (.int _ n)=>(idxOf n len).map fun i=>.ptr id (o+i*size)
 |_,_=>none
def C4(dflt:Nat):Option SV->Option Nat
 |none=>some dflt
 |some (.c (.int _ n))=>if 0<=n then some n.toNat else none
 |some _=>none
def Ey(mt:TypeId)(kt:KT)(z:CV)(ok:Bool):SV->SV->Option CV
 | .c (.map _ ks vs),.c k=>
  if AR kt k&&ks.all (AR kt)then
   let(v,b):=AZ kt z ks vs k
   some (if ok then .tup [v,.bool b]else v)
  else none
 | .omap id,.c k=>match rd id with
  | .map mt' kt' z' ks vs=>
   if mt'=mt/\AR kt' k=true then
    let(v,b):=AZ kt' z' ks vs k
    some (if ok then .tup [v,.bool b]else v)
   else none
  |_=>none
 |_,_=>none
def A2:aa->Option SV
 | .mov x=>some (ρ x)
 | .pick c a b=>match ρ c with
  | .c (.bool t)=>some (if t then ρ a else ρ b)
  |_=>none
 | .bin op x y=>match ρ x,ρ y with
  | .c a,.c b=>(EV op a b).map .c
  |_,_=>none
 | .eqs neg ts x y=>match ρ x,ρ y with
  | .c a,.c b=>(dg ts a b).map fun r=>.c (.bool (if neg then !r else r))
  |_,_=>none
 | .beq neg x y=>match ρ x,ρ y with
  | .c (.bool a),.c (.bool b)=>some (.c (.bool (if neg then !(a==b)else a==b)))
  |_,_=>none
 | .isnil kd neg x=>match kd,ρ x with
  |1,.c (.sl (some b) _)=>some (.c (.bool (if neg then !b else b)))
  |2,.c (.map (some b) _ _)=>some (.c (.bool (if neg then !b else b)))
  |3,.c .nilif=>some (.c (.bool (!neg)))
  |3,.c .ifc=>some (.c (.bool neg))
  |_,_=>none
 | .un op x=>match ρ x with
  | .c a=>(cW op a).map .c
  |_=>none
 | .cvi k x=>match ρ x with
  | .c (.int _ n)=>some (.c (.int k (k.wrap n)))
  |_=>none
 | .cvrune x=>match ρ x with
  | .c (.int _ n)=>some (.c (.str (Utf8.encode n).data.toList))
  |_=>none
 | .cvbs x=>match ρ x with
  | .c (.sl _ es)=>(Fs es).map fun ns=>.c (.str (ns.map fun n=>UInt8.ofNat n.toNat))
  | .osl id=>match rd id with
   | .arr _ _ es=>(Fs es).map fun ns=>.c (.str (ns.map fun n=>UInt8.ofNat n.toNat))
   |_=>none
  |_=>none
 | .bytes _ x=>match ρ x with
  | .c (.str s)=>if s.length<=70368744177664 then some (.c (.sl (some false) (s.map fun b=>.int .u8 b.toNat)))else none
  |_=>none
 | .cvid x=>match ρ x with
  | .c (.str s)=>some (.c (.str s))
  |_=>none
 | .nchk x=>match ρ x with
  | .c (.nam N)=>if N % 2=0 then some (.c (.nam N))else none
  | .c (.rp cs)=>some (.c (.rp cs))
  | .c (.wp cs)=>some (.c (.wp cs))
  | .ptr id o=>some (.ptr id o)
  | .eptr id i s o=>some (.eptr id i s o)
  |_=>none
 | .lsl _ size parts=>(A5 (fun x=>closed (ρ x)) parts).bind fun l=>
   if l.all (fun v=>Bk v==size)then some (.c (.sl none l))else none
 | .build z parts=>(A5 (fun p=>(closed (ρ p.2.2)).map fun v=>(p.1,p.2.1,v)) parts).bind fun d=>(HK z d).map fun cs=>.c (.agg cs)
 | .field off sz x=>match ρ x with
  | .c (.agg cs)=>(CR cs off sz).map .c
  |_=>none
 | .ext x i=>match ρ x with
  | .c (.tup l)=>(l[i]?).map .c
  | .ent id k v=>if i=0 then some (.c v)else if i=1 then some (.stamp id k)else none
  |_=>none
 | .minmax mx xs=>(A5 (fun x=>closed (ρ x)) xs).bind fun l=>match l with
  | []=>none
  |a::as=>(as.foldlM (HV mx) a).map .c
 | .fnv f caps=>(A5 (fun x=>closed (ρ x)) caps).map fun l=>.c (.fn f l)
 | .faddr off x=>match deref rd (ρ x)with
  | .c (.rp cs)=>if off<=cs.length then some (.c (.rp (cs.drop off)))else none
  | .c (.wp cs)=>if off<=cs.length then some (.c (.rp (cs.drop off)))else none
  | .ptr id o=>some (.ptr id (o+off))
  | .eptr id i s o=>some (.eptr id i s (o+off))
  |_=>none
 | .iaddr size x i=>Eu rd size (ρ x) (ρ i)
 | .aaddr len size x i=>EA len size (ρ x) (ρ i)
 | .sidx x i=>match ρ x,ρ i with
  | .c (.str s),.c (.int _ n)=>(idxOf n s.length).bind fun j=>(s[j]?).map fun b=>.c (.int .u8 b.toNat)
  |_,_=>none
 | .aidx len size sz x i=>match ρ x,ρ i with
  | .c (.agg cs),.c (.int _ n)=>(idxOf n len).bind fun j=>(CR cs (j*size) sz).map .c
  |_,_=>none
 | .load sz x=>Bb rd sz (deref rd (ρ x))
 | .loadb sz x=>match deref rd (ρ x)with
  | .eptr .. =>none
  |s=>Bb rd sz s
 | .len kd x=>(Da rd kd (ρ x)).map fun n=>.c (.int .i64 n)
 | .sslice x lo hi=>match ρ x with
  | .c (.str s)=>(C4 s.length (hi.map ρ)).bind fun h=>(C4 0 (lo.map ρ)).bind fun l=>if l<=h/\h<=s.length then some (.c (.str ((s.take h).drop l)))else none
  |_=>none
 | .slice size x lo hi=>match ρ x with
  | .c (.sl nl es)=>(C4 es.length (hi.map ρ)).bind fun h=>(C4 0 (lo.map ρ)).bind fun l=>if(l<=h/\h<=es.length)/\(es.all fun e=>Bk e==size)=true then some (.c (.sl nl ((es.take h).drop l)))else none
  |_=>none
 | .slice3 size x lo hi mx=>match ρ x with
  | .c (.sl nl es)=>(C4 es.length (some (ρ hi))).bind fun h=>(C4 es.length (some (ρ mx))).bind fun m=>(C4 0 (lo.map ρ)).bind fun l=>if(l<=h/\h<=es.length/\h=m)/\(es.all fun e=>Bk e==size)=true then some (.c (.sl nl ((es.take h).drop l)))else none
  |_=>none
 | .capp _ size bytes x y=>match ρ x,ρ y with
  | .c (.sl (some true) _),.c (.sl _ es)=>if(es.all (fun v=>Bk v==size)&&es.all fun v=>v.cells.all C7)=true/\es.length*bytes<=140737488355328/\es.length<=4611686018427387904 then some (.c (.sl none es))else none
  |_,_=>none
 | .mentry x=>match ρ x with
  | .iter id=>match rd id with
   | .miter _ _ (some p)=>some (.c (.tup [p.1,p.2]))
   |_=>none
  |_=>none
 | .lookup mt kt z ok x k=>(Ey rd mt kt z ok (ρ x) (ρ k)).map .c
 | .asl n x=>match ρ x with
  | .c (.rp cs)=>if cs.length=n/\cs.all Kf=true then some (.c (.sl (some false) cs))else none
  |_=>none
 |_=>none
def By(d:Nat):aa->Option (SV×Ob)
 | .alloc z=>some (.ptr d 0,.box (z.map .c) none)
 | .allocT T z=>some (.ptr d 0,.box (z.map .c) (some T))
 | .box x=>match ρ x with
  | .c (.agg cs)=>some (.ptr d 0,.box (cs.map .c) none)
  | .undef=>none
  |v=>some (.ptr d 0,.box [v] none)
 | .mksl e size parts=>(A5 (fun x=>closed (ρ x)) parts).bind fun l=>
   if l.all (fun v=>Bk v==size)then some (.osl d,.arr e size l)else none
 | .mkmap mt kt z=>some (.omap d,.map mt kt z [] [])
 | .make e size bytes z x y=>match ρ x,ρ y with
  | .c (.int _ n),.c (.int _ m)=>if 0<=n/\n<=m/\m*bytes<=140737488355328/\m<=4611686018427387904 then some (.osl d,.arr e size (List.replicate n.toNat z))else none
  |_,_=>none
 | .siter x=>match ρ x with
  | .c (.str s)=>some (.iter d,.siter s 0)
  |_=>none
 | .mrange x=>match ρ x with
  | .c (.map _ ks vs)=>some (.iter d,.miter ks vs none)
  |_=>none
 | .nbytes e x=>match ρ x with
  | .c (.str s)=>if s.length<=70368744177664 then some (.osl d,.arr e 1 (s.map fun b=>.int .u8 b.toNat))else none
  |_=>none
 |_=>none
end
def HY:SV->Bool
 | .c v=>C7 v
 | .ent .. | .undef=>false
 |_=>true
def FY(cs:List SV)(o:Nat)(vs:List SV):List SV:=cs.take o++vs++cs.drop (o+vs.length)
def CF(st:St):SV->Option (List CV)
 | .c (.sl _ es)=>some es
 | .osl id=>match st.ob id with
  | .arr _ _ es=>some es
  |_=>none
 |_=>none
def G5(b:CV)(o n:Nat)(v:CV):CV:=
 match b with
 | .agg l=>.agg (l.take o++v.cells++l.drop (o+n))
 |_=>v
def AY(d:Option Nat)(ρ:SO->SV)(st:St):aa->Option St
 | .store n a x=>match deref st.ob (ρ a)with
  | .ptr id o=>match st.ob id with
   | .box cs bt=>
    match ρ x with
    | .c (.agg l)=>if l.length=n/\o+n<=cs.length/\l.all C7=true then some {st with ob:=ac st.ob id (.box (FY cs o (l.map .c)) bt)}else none
    |v=>if n=1/\o<cs.length/\HY v=true then some {st with ob:=ac st.ob id (.box (cs.set o v) bt)}else none
   |_=>none
  | .eptr id i size o=>match st.ob id,ρ x with
   | .arr e sz es,.c v=>if size=sz/\0<n/\Bk v=n/\v.cells.all C7=true then(es[i]?).bind fun f=>
     if o+n<=Bk f then
      some {st with ob:=ac st.ob id (.arr e sz (es.set i (G5 f o n v)))}
     else none
    else none
   |_,_=>none
  | .c (.wp [.bool b])=>match ρ x with
   | .c (.bool b')=>if n=1/\b=b' then some st else none
   |_=>none
  |_=>none
 | .append e size bytes x y=>
  match CF st (ρ y)with
  |none=>none
  |some news=>
   if(news.all (fun v=>Bk v==size)&&news.all fun v=>v.cells.all C7)=true then
    match ρ x with
    | .c (.sl (some true) _)=>
      if news.length*bytes<=140737488355328/\news.length<=4611686018427387904 then
       match d with
       |some d=>
          let st':=kill [d] st
          some {fr:=ac st'.fr d (.osl d),ob:=ac st'.ob d (.arr e size news)}
       |none=>none
      else none
    | .osl id=>match st.ob id with
      | .arr e' size' es=>
       if e'=e/\size'=size/\(es.length+news.length)*bytes<=140737488355328/\es.length+news.length<=4611686018427387904 then
        let st':=kill [id] st
        some (St.set {st' with ob:=ac st'.ob id (.arr e size (es++news))} d (.osl id))
       else none
      |_=>none
    |_=>none
   else none
 | .cpy e size x y=>match CF st (ρ y),ρ x with
  |some news,.osl id=>match st.ob id with
   | .arr e' size' es=>
    if(e'=e/\size'=size)/\(news.all (fun v=>Bk v==size)&&news.all fun v=>v.cells.all C7)=true then
     some (St.set {st with ob:=ac st.ob id (.arr e size (news.take (min news.length es.length)++es.drop (min news.length es.length)))} d (.c (.int .i64 (min news.length es.length:Nat))))
    else none
   |_=>none
  |_,_=>none
 | .mapent mt x k=>match ρ x,ρ k with
  | .omap id,.c k=>match st.ob id with
   | .map mt' kt z ks vs=>
    if mt'=mt/\AR kt k=true/\ks.length=vs.length then
     some (St.set {st with ob:=ac st.ob id (.map mt' kt z (Bp kt ks k) (Bq kt ks vs k (AZ kt z ks vs k).1))} d (.ent id k (AZ kt z ks vs k).1))
    else none
   |_=>none
  |_,_=>none
 | .entst x s v=>match ρ x,ρ s,ρ v with
  | .omap id,.stamp id' k,.c v=>match st.ob id with
   | .map mt kt z ks vs=>if id=id' then some {st with ob:=ac st.ob id (.map mt kt z ks (Bq kt ks vs k v))}else none
   |_=>none
  |_,_,_=>none
 | .mapupd mt x k v=>match ρ x,ρ k,ρ v with
  | .omap id,.c k,.c v=>match st.ob id with
   | .map mt' kt z ks vs=>if mt'=mt/\AR kt k=true then some {st with ob:=ac st.ob id (.map mt' kt z (Bp kt ks k) (Bq kt ks vs k v))}else none
   |_=>none
  |_,_,_=>none
 |_=>none
inductive bh where
 |val (v:CV)
 |new (o:Ob)
def DM:BinOp->Bool
 | .neq=>true
 |_=>false
structure bL where
 T:List Nat
 fn:List CV->(Nat->Ob)->Option (CV×(Nat->Ob))
structure ah where
 G:Nat->List CV
 fn:FuncId->List CV->Option bh
 cp:FuncId->Bool:=fun _=>false
 ef:FuncId->Option bL:=fun _=>none
 srt:FuncId->FuncId->TypeId->Nat->List CV->Option (List CV):=fun _ _ _ _ _=>none
def ah.still(E:ah):ah:={E with ef:=fun _=>none}
def so(G:Nat->List CV)(fr:Nat->SV):SO->SV
 | .t i=>fr i
 | .k v=>.c v
 | .g i=>match G i with
  | []=>.undef
  |cs=>.c (.rp cs)
mutual
def memless:CV->Bool
 | .int _ _| .bool _| .str _| .nilif| .nilfn| .adr _| .nilp| .nam _| .bptr _=>true
 | .agg cs| .tup cs=>CD cs
 | .sl _ _| .map _ _ _| .rp _| .wp _| .fn _ _| .ifc=>false
def CD:List CV->Bool
 | []=>true
 |c::cs=>memless c&&CD cs
end
def bh.memless:bh->Bool
 | .val v=>WB.memless v
 | .new (.arr _ _ es)=>CD es
 | .new (.map _ _ _ ks vs)=>CD ks&&CD vs
 | .new _=>false
def N7(d:Nat):Ob->SV
 | .arr .. =>.osl d
 | .map .. =>.omap d
 | .siter .. | .miter .. =>.iter d
 |_=>.ptr d 0
def B1(st:St)(d:Option Nat)(v:SV)(o:Ob):Option St:=
 match d with
 |some d=>match st.ob d with
  | .none=>some {fr:=ac st.fr d v,ob:=ac st.ob d o}
  |_=>none
 |none=>none
def EM(st:St)(d:Option Nat):bh->Option St
 | .val v=>some (st.set d (.c v))
 | .new o=>B1 st d (N7 (d.getD 0) o) o
inductive Cls where
 |val|grow|new|eff|call|copy
def aa.cls:aa->Cls
 | .call .. | .callv .. =>.call
 | .mcopy .. =>.copy
 | .bytes .. | .lsl .. | .capp .. =>.grow
 | .alloc .. | .allocT .. | .box .. | .mksl .. | .mkmap .. | .make .. | .siter .. | .nbytes .. | .mrange .. =>.new
 | .store .. | .append .. | .mapent .. | .entst .. | .mapupd .. | .snext .. | .cpy .. =>.eff
 |_=>.val
def bT:SV->Bool
 | .c _=>true
 |_=>false
def DG(E:ah)(rd:Nat->Ob)(ρ:SO->SV)(st:St)(d:Option Nat)(f:FuncId)(args:List SO)(b:List CV):Option St:=
 (A5 (fun x=>C9 rd (ρ x)) args).bind fun l=>(E.fn f (l++b)).bind fun r=>
  if(args.all fun x=>bT (ρ x))||r.memless then EM st d r else none
def HF(T:List Nat)(s:SV):SV:=match s.ref with
 |some id=>if T.contains id then s else .undef
 |none=>s
def Mp(T:List Nat):Ob->Ob
 | .box cs bt=>.box (cs.map (HF T)) bt
 |o=>o
def CS(T:List Nat)(ob:Nat->Ob):Nat->Ob:=fun id=>if T.contains id then Mp T (ob id)else .none
def CI(T:List Nat)(H:Nat->Ob)(st:St):St:=
 {fr:=fun i=>AD T (st.fr i),ob:=fun id=>if T.contains id then H id else Cp T (st.ob id)}
def D6(ρ:SO->SV)(st:St)(d:Option Nat)(e:bL)(args:List SO)(b:List CV):Option St:=
 (A5 (fun x=>closed (ρ x)) args).bind fun l=>(e.fn (l++b) (CS e.T st.ob)).bind fun p=>some ((CI e.T p.2 st).set d (.c p.1))
def Il:CV->Bool
 | .str s=>decide (s.length<=9223372036854775807)
 |_=>false
def FH(E:ah)(ρ:SO->SV)(st:St)(d:Option Nat)(f:FuncId)(x y:SO):Option St:=
 if E.cp f=true then match ρ x,ρ y with
  | .omap id,.c (.map _ ks vs)=>match st.ob id with
   | .map mt .str zc [] []=>if ks.all Il=true/\ks.length<=9223372036854775807 then some (St.set {st with ob:=ac st.ob id (.map mt .str zc ks vs)} d (.c (.tup [])))else none
   |_=>none
  |_,_=>none
 else match ρ x,ρ y with
  | .osl id,.c (.fn g [])=>match st.ob id with
   | .arr e size es=>match E.srt f g e size es with
    |some es'=>some (St.set {st with ob:=ac st.ob id (.arr e size es')} d (.c (.tup [])))
    |none=>none
   |_=>none
  |_,_=>none
def AM(E:ah)(rd:Nat->Ob)(st:St)(d:Option Nat)(op:aa):Option St:=
 let ρ:=so E.G st.fr
 match op.cls with
 | .val| .grow=>(A2 rd ρ op).map fun v=>st.set d v
 | .new=>(By ρ (d.getD 0) op).bind fun(v,o)=>B1 st d v o
 | .eff=>AY d ρ st op
 | .call=>match op with
  | .call f args=>match E.ef f with
   |some e=>D6 ρ st d e args []
   |none=>DG E rd ρ st d f args []
  | .callv f args=>match ρ f with
   | .c (.fn f caps)=>match E.ef f with
    |some e=>D6 ρ st d e args caps
    |none=>DG E rd ρ st d f args caps
   |_=>none
  |_=>none
 | .copy=>match op with
  | .mcopy f x y=>FH E ρ st d f x y
  |_=>none
def Bs:SV:=.c (.tup [])
def AN(D:Option (List Nat))(ob:Nat->Ob):Nat->Ob:=
 match D with
 |none=>ob
 |some D=>fun i=>if D.contains i then .none else ob i
def aa.calls:aa->Bool
 | .call .. | .callv .. =>true
 |_=>false
def af(op:aa)(D:List Nat):List Nat:=if op.calls then D.filter (fun i=>decide (D.count i<2))else D
theorem VC{op:aa}{D:List Nat}(h:op.calls=false):af op D=D:=by simp[af,h]
def ah.at(E:ah)(D:Option (List Nat)):ah:=match D with
 |none=>E
 |some _=>E.still
@[simp] theorem Ai5{E:ah}:E.still.G=E.G:=rfl
@[simp] theorem D4{E:ah}{D:Option (List Nat)}:(E.at D).G=E.G:=by cases D<;>rfl
@[simp] theorem TX{E:ah}{D:Option (List Nat)}:(E.at D).fn=E.fn:=by cases D<;>rfl
@[simp] theorem Zi{E:ah}{D:Option (List Nat)}:(E.at D).cp=E.cp:=by cases D<;>rfl
@[simp] theorem Zk{E:ah}{D:Option (List Nat)}:(E.at D).srt=E.srt:=by cases D<;>rfl
theorem Zj{E:ah}{D:Option (List Nat)}{f:FuncId}(h:E.ef f=none):(E.at D).ef f=none:=by cases D<;>first|exact h|rfl
def A6(E:ah)(D:Option (List Nat))(l:SL)(st:St):Option St:=
 match l.guard with
 |none=>AM (E.at D) (AN (D.map (af l.op)) st.ob) st l.dst l.op
 |some (g,want)=>match st.fr g with
  | .c (.bool b)=>if b=want then AM (E.at D) (AN (D.map (af l.op)) st.ob) st l.dst l.op else some (st.set l.dst Bs)
  | .c (.tup [])=>some (st.set l.dst Bs)
  |_=>none
def Cn(E:ah)(D:Option (List Nat)):List SL->St->Option St
 | [],st=>some st
 |l::ls,st=>(A6 E D l st).bind (Cn E D ls)
def Bz(E:ah)(rd:Nat->Ob)(l:SL)(st:St):Option St:=
 match l.guard with
 |none=>AM E rd st l.dst l.op
 |some (g,want)=>match st.fr g with
  | .c (.bool b)=>if b=want then AM E rd st l.dst l.op else some (st.set l.dst Bs)
  | .c (.tup [])=>some (st.set l.dst Bs)
  |_=>none
def C5(ob:Nat->Ob):Nat->Ob:=fun i=>if A9<=i then .none else ob i
def DH(s:SV):SV:=match s.ref with
 |some id=>if A9<=id then .undef else s
 |none=>s
def GM:Ob->Ob
 | .box cs bt=>.box (cs.map DH) bt
 |o=>o
def D5(st:St):St:={fr:=fun i=>DH (st.fr i),ob:=fun i=>if A9<=i then st.ob i else GM (st.ob i)}
def ED:Ob->Bool
 | .arr .. | .map .. =>true
 |_=>false
def ah.named(E:ah):ah where
 G:=E.G
 cp:=E.cp
 srt:=E.srt
 fn:=fun f l=>match E.fn f l with
  |some (.new o)=>if ED o=true then some (.new o)else none
  |r=>r
 ef:=fun f=>match E.ef f with
  |some e=>if(e.T.all fun N=>Nat.ble A9 N)=true then some e else none
  |none=>none
def D7(E:ah)(D:List Nat)(l:SL)(st:St):Option St:=Bz E (AN (some (af l.op D)) (C5 st.ob)) l st
def FN(E:ah)(D:List Nat):List SL->St->Option St
 | [],st=>some st
 |l::ls,st=>(D7 E D l st).bind (FN E D ls)
def IB(E:ah)(D:List Nat)(ls:List SL)(st:St):Option St:=FN E.named D ls (D5 (kill D st))
def aa.simple:aa->Bool
 | .mov _| .nchk _| .faddr _ _| .load _ _| .bin _ _ _=>true
 |_=>false
def SL.via(l:SL):Option Nat:=match l.op,l.guard,l.dst with
 | .store _ (.t k) _,none,none=>some k
 |_,_,_=>none
def DT(k:Nat):Ob->Ob
 | .box cs bt=>.box (cs.take k) bt
 |o=>o
def Eb(W:List (Nat×Nat))(ob:Nat->Ob):Nat->Ob:=fun i=>W.foldl (fun o p=>if p.1=i then DT p.2 o else o) (ob i)
def de(W:List (Nat×Nat))(id o:Nat):Bool:=W.any fun p=>Nat.beq p.1 id&&Nat.ble p.2 o
def bq(E:ah)(W:List (Nat×Nat))(l:SL)(st:St):Option St:=match l.via with
 |some k=>match st.fr k with
  | .ptr id o=>if de W id o=true then A6 E none l st else none
  |_=>none
 |none=>if l.op.simple=true then Bz E (Eb W st.ob) l st else none
def ci(E:ah)(W:List (Nat×Nat)):List SL->St->Option St
 | [],st=>some st
 |l::ls,st=>(bq E W l st).bind (ci E W ls)
inductive Cx where
 |skip
 |reg (draw:Bool) (D:List Nat) (ls:List SL)
 |regE (D:List Nat) (ls:List SL)
 |regW (ls:List SL)
 |mnext (it d ok:Nat)
 |seq (a b:Cx)
 |cond (c:SO) (x y:Cx)
 |block (id:Nat) (b:Cx)
 |loop (b:Cx)
 |exit (id:Nat)
 |ret
 |bad
inductive Ex where
 |normal
 |exit (id:Nat)
 |ret
def Co(E:ah)(draw:Bool)(D:List Nat)(ls:List SL)(st:St):Option St:=
 Cn E (if draw then some D else none) ls (if D.isEmpty then st else kill D st)
def bz(E:ah):Cx->(Ex->St->Prop)->St->Prop
 | .skip,Q,st=>Q .normal st
 | .reg draw D ls,Q,st=>∃st',Co E draw D ls st=some st'/\Q .normal st'
 | .regE D ls,Q,st=>∃st',(Co E true D ls st=some st'\/IB E D ls st=some st')/\Q .normal st'
 | .regW ls,Q,st=>∃W st',ci E W ls st=some st'/\Q .normal st'
 | .mnext it d ok,Q,st=>∃id ks vs f,st.fr it=.iter id/\st.ob id=.miter ks vs f/\
   (ks= []->Q .normal {st with fr:=ac (ac st.fr d (.c (.tup [.bool false]))) ok (.c (.bool false))})/\
   ∀i k v,ks[i]? =some k->vs[i]? =some v->Q .normal {fr:=ac (ac st.fr d (.c (.tup [.bool true,k,v]))) ok (.c (.bool true)),ob:=ac st.ob id (.miter (ks.eraseIdx i) (vs.eraseIdx i) (some (k,v)))}
 | .seq a b,Q,st=>bz E a (fun e st'=>match e with| .normal=>bz E b Q st'|e=>Q e st') st
 | .cond c x y,Q,st=>∃b,so E.G st.fr c=.c (.bool b)/\(b=true->bz E x Q st)/\(b=false->bz E y Q st)
 | .block id c,Q,st=>bz E c (fun e st'=>match e with| .exit i=>if i=id then Q .normal st' else Q (.exit i) st'|e=>Q e st') st
 | .loop c,Q,st=>∃(R:Nat->St->Prop),(∃m,R m st)/\∀m s,R m s->bz E c (fun e s'=>match e with| .normal=>∃k,k<m/\R k s'|e=>Q e s') s
 | .exit id,Q,st=>Q (.exit id) st
 | .ret,Q,st=>Q .ret st
 | .bad,_,_=>False
mutual
def CM:Value->Option CV
 | .int k n=>some (.int k n)
 | .bool b=>some (.bool b)
 | .string s=>some (.str s.data.toList)
 | .slice none 0 0=>some (.sl (some true) [])
 | .map none=>some (.map (some true) [] [])
 | .nilIface=>some .nilif
 | .nilFunc=>some .nilfn
 | .pointer none=>some .nilp
 | .agg ⟨cs⟩=>(JO cs).map .agg
 |_=>none
def JO:List Value->Option (List CV)
 | []=>some []
 |v::vs=>(CM v).bind fun c=>(JO vs).map fun cs=>c::cs
end
def Fc(P:Program)(t:TypeId):Option KT:=
 match P.underlying t with
 |some (.int k)=>some (.int k)
 |some .string=>some .str
 |some .bool=>some .bool
 |_=>none
def Fu(P:Program):Nat->List Field->Option (List KT)
 |_,[]=>some []
 |i,f::fs=>if f.offset=i/\f.name≠ "_" then(Fc P f.type).bind fun k=>(Fu P (i+1) fs).map fun ks=>k::ks else none
def Fb(P:Program)(t:TypeId):Option KT:=
 match P.underlying t with
 |some (.struct fs)=>if P.stoodInHeld t then none else(Fu P 0 fs.toList).map .struct
 |_=>Fc P t
def G3(P:Program)(t:TypeId):Option (KT×CV):=
 match P.underlying t with
 |some (.map k e)=>(Fb P k).bind fun kt=>(P.info? e).bind fun i=>(i.zero).bind fun z=>(CM z).map fun c=>(kt,c)
 |_=>none
structure Cz where
 σ:Nat->Value
 β:Nat->CV->Nat->Prop
 al:Nat->Nat
structure Do where
 T:Nat->Prop
 I:Nat->Prop
def Do.no:Do:=⟨fun _=>True,fun _=>False⟩
structure WL extends World where
 le:Do
 L:Nat->Nat->Prop
def Ks(w:World):WL:={w with le:=.no,L:=fun _ _=>False}
structure WL.To (w0:WL) (w:World):Prop where
 os:w.os=w0.os
 tape:w.tape=w0.tape
 output:w.output=w0.output
 size:w0.heap.size<=w.heap.size
 block:∀k,k<w0.heap.size->(∀id,¬w0.L id k)->w.heap[k]? =w0.heap[k]?
theorem WL.To.trans{w0:WL}{w w':World}(h:w0.To w)(k:Below w0.heap.size w w'):w0.To w':=
 ⟨k.os.trans h.os,k.tape.trans h.tape,k.output.trans h.output,Nat.le_trans h.size k.size,fun i hi b=>(k.block i hi).trans (h.block i hi b)⟩
theorem Qt{w w':World}:(Ks w).To w'<->Below w.heap.size w w':=
 ⟨fun h=>⟨h.os,h.tape,h.output,h.size,fun k b=>h.block k b (fun _ c=>c)⟩,fun h=>⟨h.os,h.tape,h.output,h.size,fun k b _=>h.block k b⟩⟩
def blk:Value->Option Nat
 | .pointer (some a)=>some a.block
 | .slice (some a) _ _=>some a.block
 | .map (some r)=>some r
 |_=>none
def AA(w:World)(M:MM)(z:Cz)(ob:Nat->Ob):SV->Value->Prop
 | .c cv,v=>RelC w M cv v
 | .ptr id o,v=>ob id≠ .none/\∃g,z.σ id=.pointer (some ⟨g,0,none⟩)/\v=.pointer (some ⟨g,o,none⟩)
 | .eptr id i size o,v=>ob id≠ .none/\∃g n c,z.σ id=.slice (some ⟨g,0,none⟩) n c/\v=.pointer (some ⟨g,i*size+o,none⟩)
 | .osl id,v=>ob id≠ .none/\v=z.σ id
 | .omap id,v=>ob id≠ .none/\v=z.σ id
 | .iter id,v=>ob id≠ .none/\v=z.σ id
 | .stamp id k,v=>ob id≠ .none/\∃b,z.β id k b/\v=.int .i64 b
 | .ent id k cv,v=>ob id≠ .none/\∃b u,z.β id k b/\v=.tuple #[u,.int .i64 b]/\RelC w M cv u
 | .undef,_=>True
def AH(w:World)(M:MM)(z:Cz)(ob:Nat->Ob):List SV->List Value->Prop
 | [],vs=>vs= []
 |s::ss,vs=>∃v b,vs=v::b/\AA w M z ob s v/\AH w M z ob ss b
def AU(w:World)(M:MM)(size:Nat):List CV->List Value->Prop
 | [],xs=>xs= []
 |e::es,xs=>∃v b,xs=v.cells.toList++b/\v.cells.size=size/\RelC w M e v/\AU w M size es b
def L0(w:World)(M:MM)(β:CV->Nat->Prop)(kt:KT)(ks vs:List CV)(c:List MapEntry)(e:Nat):Prop:=
 RelL w M ks (c.map (·.key))/\RelL w M vs (c.map (·.val))/\
   (∀k∈ks,AR kt k=true)/\ks.Nodup/\(∀d:MapEntry,d∈c->d.born<e)/\(c.map (·.born)).Nodup/\(∀k b,β k b->∃(i:Nat) (d:MapEntry),ks[i]? =some k/\c[i]? =some d/\d.born=b)
def DO(P:Program)(w:World)(B:Nat)(e:TypeId)(size:Nat)(v:Value)(n:Nat)(xs:List Value):Prop:=
 xs.length=n*size/\((v=.slice none 0 0/\n=0)\/
  ∃g cap b ty c,v=.slice (some ⟨g,0,none⟩) n cap/\B<=g/\w.heap[g]? =some (.cells b ty c)/\((P.info? e).isSome=true->ty=e/\c=(0,0))/\(c=(0,0)\/cap*size<=c.1)/\n<=cap/\cap<=maxLen/\b.size=cap*size/\b.toList.take (n*size)=xs)
theorem DO.of{P:Program}{w:World}{B:Nat}{e:TypeId}{size:Nat}{v:Value}{n:Nat}{xs:List Value}(h:w.ownsRow B e size v n xs):DO P w B e size v n xs:=by
 refine⟨h.1, ?_⟩;rcases h.2 with h2|⟨g,cap,cur,e1,e2,e3,r⟩
 ·exact .inl h2
 ·exact .inr ⟨g,cap,cur,e,(0,0),e1,e2,e3,fun _=>⟨rfl,rfl⟩,.inl rfl,r⟩
theorem DO.own{P:Program}{w:World}{B:Nat}{e:TypeId}{size:Nat}{v:Value}{n:Nat}{xs:List Value}(h:DO P w B e size v n xs){i:TypeInfo}(b:P.info? e=some i):w.ownsRow B e size v n xs:=by
 refine⟨h.1, ?_⟩;rcases h.2 with h2|⟨g,cap,cur,ty,fz,e1,e2,e3,e4,_,r⟩
 ·exact .inl h2
 ·obtain⟨rfl,rfl⟩:=e4 (by rw[b];rfl);exact .inr ⟨g,cap,cur,e1,e2,e3,r⟩
theorem DO.blk{P:Program}{w w':World}{B B':Nat}{e:TypeId}{size:Nat}{v:Value}{n:Nat}{xs:List Value}(h:DO P w B e size v n xs)(b:∀g,blk v=some g->w'.heap[g]? =w.heap[g]?)(c:B'<=B):DO P w' B' e size v n xs:=by
 refine⟨h.1, ?_⟩;rcases h.2 with h2|⟨g,cap,cur,ty,fz,e1,e2,e3,r⟩
 ·exact .inl h2
 ·exact .inr ⟨g,cap,cur,ty,fz,e1,Nat.le_trans c e2,(b g (by rw[e1];rfl)).trans e3,r⟩
def TyO(bt:Option TypeId):Type:={y:TypeId//∀T,bt=some T->y=T}
def dj(w:World)(M:MM)(h:Option Nat)(b:Nat)(seen:Array Nat)(ks vs:List CV)(f:Option (CV×CV)):Prop:=
 (h=none/\ks= []/\vs= []/\f=none)\/∃(m:Nat) (c rem:List MapEntry),h=some m/\¬M m/\w.heap[m]? =some (.map ⟨c⟩ b)/\cS c b/\rem.Perm (c.filter fun e=> !seen.contains e.born)/\
  RelL w M ks (rem.map (·.key))/\RelL w M vs (rem.map (·.val))/\(∀p,f=some p->∃(d:Array Nat) (g:MapEntry),seen=d.push g.born/\g∈c/\RelC w M p.1 g.key/\RelC w M p.2 g.val)
theorem dj.keep{w w':World}{M M':MM}(h:Bu w M w' M'){e:Option Nat}{b:Nat}{seen:Array Nat}{ks vs:List CV}{c:Option (CV×CV)}(d:dj w M e b seen ks vs c):dj w' M' e b seen ks vs c:=by
 rcases d with d|⟨m,ens,rem,e1,e2,e3,e4,e5,e6,e7,e8⟩
 ·exact .inl d
 ·refine .inr ⟨m,ens,rem,e1,fun g=>e2 (h.less m (C1 e3) g),(h.heap m (C1 e3) e2).trans e3,e4,e5,RelL.keep h _ _ e6,RelL.keep h _ _ e7,fun p f=> ?_⟩;obtain⟨s0,r,q,l,k,j⟩:=e8 p f;exact⟨s0,r,q,l,RelC.keep h _ _ k,RelC.keep h _ _ j⟩
def Bg(P:Program)(w:World)(M:MM)(B:Nat)(z:Cz)(ob:Nat->Ob)(id:Nat)(v:Value):Ob->Prop
 | .none=>True
 | .box cs bt=>∃(g:Nat) (ty:TyO bt) (vs:List Value),v=.pointer (some ⟨g,0,none⟩)/\w.heap[g]? =some (.cells ⟨vs⟩ ty.1 (0,0))/\AH w M z ob cs vs
 | .arr e size es=>∃xs,DO P w B e size v es.length xs/\AU w M size es xs
 | .map mt kt zc ks vs=>G3 P mt=some (kt,zc)/\∃(d c:List CV) (r:Nat) (f:List MapEntry) (h:Nat),MP ks vs d c/\v=.map (some r)/\w.heap[r]? =some (.map ⟨f⟩ h)/\L0 w M (z.β id) kt d c f h
 | .siter s bj=>∃r,v=.pointer (some ⟨r,0,none⟩)/\w.heap[r]? =some (.stringIter ⟨⟨s⟩⟩ bj)
 | .miter ks vs cur=>∃(r:Nat) (j:Option Nat) (b:Nat) (seen:Array Nat),v=.pointer (some ⟨r,0,none⟩)/\w.heap[r]? =some (.mapIter j b seen b)/\dj w M j b seen ks vs cur
 | .buf e s=>w.ownsRowF B e 1 v s.length (Lib.byteCells s)
def own(z:Cz)(ob:Nat->Ob)(g:Nat):Prop:=∃id,ob id≠ .none/\blk (z.σ id)=some g
def A3(M0:MM)(z:Cz)(ob:Nat->Ob):MM:=⟨fun g=>M0 g\/own z ob g,z.al⟩
def GOk(G:Nat->List CV)(w:World)(M:MM):Prop:=∀i,G i≠ []->RelC w M (.rp (G i)) (.pointer (some ⟨i,0,none⟩))/\∃cs t fr,w.heap[i]? =some (.cells cs t fr)/\cs.size=(G i).length/\AX (fun _=>false) (G i)=true
theorem GOk.keep{G:Nat->List CV}{w w':World}{M M':MM}(h:GOk G w M)(j:w.heap.size<=w'.heap.size)(c:∀g,g<w.heap.size->¬M g->w'.heap[g]? =w.heap[g]?)(l:∀g,g<w.heap.size->M' g->M g):GOk G w' M':=by
 intro i hi;obtain⟨b,cs,t,fr,f,q,d⟩:=h i hi
 have p:¬M i:=by
  unfold RelC at b;obtain⟨r,vs,e,_,k,_⟩:=b;simp only[Value.pointer.injEq,Ac]at e;subst e;exact k
 refine⟨RelC.named (T:=fun _=>false) ⟨j,c,l,fun N m=>by cases m⟩ _ _ (by unfold Br;exact d) b,cs,t,fr, ?_,q,d⟩;rw[c i (C1 f) p];exact f
def bA:Ob->Bool
 | .box _ _| .map .. =>true
 |_=>false
structure Hy (w0:WL) (M0:MM) (n:Nat) (z:Cz) (ob:Nat->Ob):Prop where
 lent:∀id g,w0.L id g->M0 g/\w0.le.I id
 told:∀N,A9<=N->bA (ob N)=true->z.σ N=CG N (z.al N)
 names:∀N,w0.le.T N->z.al N=M0.al N
 low:n<=A9
theorem Hy.of{w0:WL}{M0:MM}{n:Nat}{z z':Cz}{ob ob':Nat->Ob}(h:Hy w0 M0 n z ob)(b:z'.al=z.al)(e:∀N,A9<=N->bA (ob' N)=true->bA (ob N)=true/\z'.σ N=z.σ N):Hy w0 M0 n z' ob':=
 ⟨h.lent,fun N c d=>by
  obtain⟨g,f⟩:=e N c d;rw[f,b]
  exact h.told N c g,fun N c=>by rw[b];exact h.names N c,h.low⟩
structure SR (P:Program) (G:Nat->List CV) (w0:WL) (M0:MM) (n:Nat) (st:St) (a:Act) (w:World) (z:Cz):Prop where
 size:a.tmps.size=n
 defers:a.defers= []
 below:w0.To w
 outer:∀g,M0 g->g<w0.heap.size
 nam:Hy w0 M0 n z st.ob
 glob:GOk G w0.toWorld M0
 fr:∀i,AA w (A3 M0 z st.ob) z st.ob (st.fr i) (a.tmps.getD i undef)
 ob:∀id,Bg P w (A3 M0 z st.ob) 0 z st.ob id (z.σ id) (st.ob id)
 lo:∀id g,st.ob id≠ .none->blk (z.σ id)=some g->(w0.heap.size<=g\/w0.L id g)/\g<w.heap.size
 apart:∀i j g,i≠j->st.ob i≠ .none->st.ob j≠ .none->blk (z.σ i)=some g->blk (z.σ j)≠some g
section
variable {P:Program} {w w':World} {M M':MM} {z z':Cz} {ob ob':Nat->Ob}
structure F7 (ob:Nat->Ob) (z:Cz) (ob':Nat->Ob) (z':Cz) (s:SV):Prop where
 live:∀id,s.ref=some id->ob id≠ .none->ob' id≠ .none
 at_:∀id,s.ref=some id->ob id≠ .none->z'.σ id=z.σ id
 born:∀id,s.ref=some id->ob id≠ .none->∀k b,z.β id k b->z'.β id k b
theorem AA.keep(h:Bu w M w' M'):∀{s:SV} {v:Value},F7 ob z ob' z' s->AA w M z ob s v->AA w' M' z' ob' s v
 | .c cv,v,_,hv=>RelC.keep h cv v hv
 | .ptr id o,v,k,hv=>by
  obtain⟨d,g,e,f⟩:=hv;exact⟨k.live id rfl d,g,(k.at_ id rfl d).trans e,f⟩
 | .eptr id i s o,v,k,hv=>by
  obtain⟨d,g,n,c,e,f⟩:=hv;exact⟨k.live id rfl d,g,n,c,(k.at_ id rfl d).trans e,f⟩
 | .osl id,v,k,hv=>⟨k.live id rfl hv.1,hv.2.trans (k.at_ id rfl hv.1).symm⟩
 | .omap id,v,k,hv=>⟨k.live id rfl hv.1,hv.2.trans (k.at_ id rfl hv.1).symm⟩
 | .iter id,v,k,hv=>⟨k.live id rfl hv.1,hv.2.trans (k.at_ id rfl hv.1).symm⟩
 | .stamp id key,v,k,hv=>by
  obtain⟨d,b,e,f⟩:=hv;exact⟨k.live id rfl d,b,k.born id rfl d _ _ e,f⟩
 | .ent id key cv,v,k,hv=>by
  obtain⟨d,b,u,e,f,j⟩:=hv;exact⟨k.live id rfl d,b,u,k.born id rfl d _ _ e,f,RelC.keep h cv u j⟩
 | .undef,_,_,_=>trivial
theorem AH.keep(h:Bu w M w' M'):∀{cs:List SV} {vs:List Value},(∀s∈cs,F7 ob z ob' z' s)->AH w M z ob cs vs->AH w' M' z' ob' cs vs
 | [],_,_,hv=>hv
 |c::cs,vs,k,hv=>by
  obtain⟨v,b,e,g,f⟩:=hv;exact⟨v,b,e,AA.keep h (k c (by simp)) g,AH.keep h (fun s d=>k s (by simp[d])) f⟩
theorem AU.keep(h:Bu w M w' M'){size:Nat}:∀{es:List CV} {xs:List Value},AU w M size es xs->AU w' M' size es xs
 | [],_,hv=>hv
 |e::es,xs,hv=>by
  obtain⟨v,b,g,f,d,c⟩:=hv;exact⟨v,b,g,f,RelC.keep h e v d,AU.keep h c⟩
theorem Bg.keep(h:Bu w M w' M'){B id:Nat}{v:Value}:∀{o:Ob},(∀g,blk v=some g->w'.heap[g]? =w.heap[g]?)->
  (∀{bt} cs,o=.box cs bt->∀s∈cs,F7 ob z ob' z' s)->(∀k b,z'.β id k b->z.β id k b)->Bg P w M B z ob id v o->Bg P w' M' B z' ob' id v o
 | .none,_,_,_,_=>trivial
 | .box cs bt,hb,hc,_,hv=>by
  obtain⟨g,ty,vs,e,d,u⟩:=hv;exact⟨g,ty,vs,e,(hb g (by rw[e];rfl)).trans d,AH.keep h (hc cs rfl) u⟩
 | .arr e size es,hb,_,_,hv=>by
  obtain⟨xs,y,D⟩:=hv;exact⟨xs,y.blk hb (Nat.le_refl _),AU.keep h D⟩
 | .map mt kt zz ks vs,hb,_,hβ,hv=>by
  obtain⟨l,j,f,r,p,q,x,e,d,K,m,J,E,I,H,F⟩:=hv;exact⟨l,j,f,r,p,q,x,e,(hb r (by rw[e];rfl)).trans d,RelL.keep h _ _ K,RelL.keep h _ _ m,J,E,I,H,fun k b C=>F k b (hβ k b C)⟩
 | .siter s bj,hb,_,_,hv=>by
  obtain⟨r,e,d⟩:=hv;exact⟨r,e,(hb r (by rw[e];rfl)).trans d⟩
 | .miter ks vs cur,hb,_,_,hv=>by
  obtain⟨r,t,c,seen,e,d,A⟩:=hv;exact⟨r,t,c,seen,e,(hb r (by rw[e];rfl)).trans d,A.keep h⟩
 | .buf e s,hb,_,_,hv=>by
  refine⟨hv.1, ?_⟩;rcases hv.2 with m|⟨g,cap,cur,fz,e1,e2,e3,r⟩
  ·exact .inl m
  ·exact .inr ⟨g,cap,cur,fz,e1,e2,(hb g (by rw[e1];rfl)).trans e3,r⟩
end
theorem AU.named{w w':World}{M M':MM}{T:Nat->Bool}(h:Gf T w M w' M'){size:Nat}:∀{es:List CV} {xs:List Value},AX T es=true->AU w M size es xs->AU w' M' size es xs
 | [],_,_,hv=>hv
 |e::es,xs,hn,hv=>by
  simp only[AX,Ag]at hn;obtain⟨v,b,g,f,d,c⟩:=hv;exact⟨v,b,g,f,RelC.named h e v hn.1 d,AU.named h hn.2 c⟩
theorem E0{T:Nat->Bool}:∀{l:List CV},AX T l=true<->∀c∈l,Br T c=true
 | []=>by simp[AX]
 |c::l=>by simp[AX,E0 (l:=l)]
theorem Aey{D:List Nat}{s:SV}{id:Nat}(h:(AD D s).ref=some id):s.ref=some id/\id∉D/\AD D s=s:=by
 cases s<;>simp only[AD]at h⊢ <;>first
  |(simp[SV.ref]at h;done)
  |(split at h<;>simp_all[SV.ref])
theorem AA.killed{w:World}{M M':MM}{z:Cz}{ob ob':Nat->Ob}{D:List Nat}{s:SV}{v:Value}(h:Bu w M w M')
  (f:∀id,id∉D->ob id≠ .none->ob' id≠ .none) (c:AA w M z ob s v):AA w M' z ob' (AD D s) v:=by
 have key:∀id,s.ref=some id->AD D s=s\/AD D s=.undef:=by
  intro id af;cases s<;>simp only[AD]<;>first|(split<;>simp;done)|(simp;done)
 cases b:s.ref with
 |none=>
  cases s<;>simp[SV.ref]at b
  ·exact RelC.keep h _ _ c
  ·trivial
 |some id=>
  rcases key id b with e|e
  ·rw[e];have j:=(Aey (D:=D) (s:=s) (id:=id) (by rw[e];exact b)).2.1;exact AA.keep h ⟨fun i hi d=>by rw[b]at hi;cases hi;exact f _ j d,fun _ _ _=>rfl,fun _ _ _ _ _ g=>g⟩ c
  ·rw[e];trivial
theorem AH.killed{w:World}{M M':MM}{z:Cz}{ob ob':Nat->Ob}{D:List Nat}(h:Bu w M w M')
  (d:∀id,id∉D->ob id≠ .none->ob' id≠ .none):∀{cs:List SV} {vs:List Value},AH w M z ob cs vs->AH w M' z ob' (cs.map (AD D)) vs
 | [],_,hv=>hv
 |c::cs,vs,hv=>by
  obtain⟨v,b,e,g,f⟩:=hv;exact⟨v,b,e,AA.killed h d g,AH.killed h d f⟩
theorem VP{D:List Nat}{o:Ob}:Cp D o=.none<->o=.none:=by
 cases o<;>simp[Cp]
theorem Gz{D:List Nat}{st:St}{id:Nat}:(kill D st).ob id≠ .none<->id∉D/\st.ob id≠ .none:=by
 unfold kill;by_cases h:id∈D
 ·simp[h]
 ·simp[h,VP]
theorem KI{z:Cz}{D:List Nat}{st:St}{g:Nat}(h:own z (kill D st).ob g):own z st.ob g:=by
 obtain⟨id,b,c⟩:=h;exact⟨id,(Gz.1 b).2,c⟩
section
variable {P:Program} {G:Nat->List CV} {w0:WL} {M0:MM} {n:Nat} {st:St} {a:Act} {w:World} {z:Cz}
theorem QA(D:List Nat)(o:Ob):bA (Cp D o)=bA o:=by cases o<;>rfl
theorem SR.killed(h:SR P G w0 M0 n st a w z)(D:List Nat):SR P G w0 M0 n (kill D st) a w z:=by
 have k:Bu w (A3 M0 z st.ob) w (A3 M0 z (WB.kill D st).ob):=⟨Nat.le_refl _,fun _ _ _=>rfl,fun g _ t=>Or.imp id KI t,rfl⟩;have q:∀id,id∉D->st.ob id≠ .none->(WB.kill D st).ob id≠ .none:=fun id m l=>Gz.2 ⟨m,l⟩
 have r:Hy w0 M0 n z (WB.kill D st).ob:=h.nam.of rfl fun N y b=>by
  unfold WB.kill at b;simp only at b;split at b
  ·cases b
  ·rw[QA]at b;exact⟨b,rfl⟩
 refine⟨h.size,h.defers,h.below,h.outer,r,h.glob,fun i=>AA.killed k q (h.fr i),fun id=> ?_,fun id g m l=>h.lo id g (Gz.1 m).2 l,
  fun i j g p m l=>h.apart i j g p (Gz.1 m).2 (Gz.1 l).2⟩
 by_cases af:id∈D
 ·have:(WB.kill D st).ob id=.none:=by simp[WB.kill,af]
  rw[this];trivial
 ·have e:(WB.kill D st).ob id=Cp D (st.ob id):=by simp[WB.kill,af]
  rw[e];have d:=h.ob id
  cases c:st.ob id with
  |box cs=>
   rw[c]at d;obtain⟨g,ty,vs,x,v,u⟩:=d;exact⟨g,ty,vs,x,v,AH.killed k q u⟩
  |none=>trivial
  |arr e size es=>rw[c]at d;exact Bg.keep k (fun _ _=>rfl) (fun cs b=>by cases b) (fun _ _ f=>f) d
  |map mt kt zz ks vs=>rw[c]at d;exact Bg.keep k (fun _ _=>rfl) (fun cs b=>by cases b) (fun _ _ f=>f) d
  |siter s bj=>rw[c]at d;exact Bg.keep k (fun _ _=>rfl) (fun cs b=>by cases b) (fun _ _ f=>f) d
  |miter ks vs cur=>rw[c]at d;exact Bg.keep k (fun _ _=>rfl) (fun cs b=>by cases b) (fun _ _ f=>f) d
  |buf e s=>rw[c]at d;exact Bg.keep k (fun _ _=>rfl) (fun cs b=>by cases b) (fun _ _ f=>f) d
theorem Xn(a:Act)(d:Nat)(v:Value)(i:Nat):(a.put (some d) v).tmps.getD i undef=if i=d/\d<a.tmps.size then v else a.tmps.getD i undef:=by
 simp only[Act.put,Ar,Array.getElem?_setIfInBounds];by_cases h:d=i
 ·subst h;by_cases b:d<a.tmps.size
  ·simp[b]
  ·simp[b]
 ·simp[h,Ne.symm h]
theorem SR.put(h:SR P G w0 M0 n st a w z){d:Option Nat}(f:∀i,d=some i->i<n){s:SV}{v:Value}(c:AA w (A3 M0 z st.ob) z st.ob s v):
  SR P G w0 M0 n (st.set d s) (a.put d v) w z:=by
 cases d with
 |none=>exact h
 |some d=>
  have b:=f d rfl;refine⟨by simpa[Act.put]using h.size,h.defers,h.below,h.outer,h.nam,h.glob,fun i=> ?_,h.ob,h.lo,h.apart⟩;rw[Xn];by_cases hi:i=d
  ·subst hi;rw[Ao ⟨rfl,by rw[h.size];exact b⟩];simpa[St.set,ac]using c
  ·rw[An (fun e=>hi e.1)];simpa[St.set,ac,hi]using h.fr i
end
mutual
theorem FI(w:World)(M:MM):∀(v:Value) (c:CV),CM v=some c->RelC w M c v
 | .int k n,c,h=>by simp only[CM,Ac]at h;subst h;unfold RelC;rfl
 | .bool b,c,h=>by simp only[CM,Ac]at h;subst h;unfold RelC;rfl
 | .string s,c,h=>by simp only[CM,Ac]at h;subst h;unfold RelC;rfl
 | .slice none 0 0,c,h=>by
  simp only[CM,Ac]at h;subst h;unfold RelC;exact⟨none,0,0,rfl,rfl,Nat.le_refl _,fun _=>rfl,(by intro d;cases d),fun _=>rfl,fun d=>absurd rfl d⟩
 | .map none,c,h=>by
  simp only[CM,Ac]at h;subst h;unfold RelC;exact⟨none,rfl,fun _=>rfl,(by intro d;cases d),fun _=>⟨rfl,rfl⟩,fun b g=>by cases g⟩
 | .nilIface,c,h=>by simp only[CM,Ac]at h;subst h;unfold RelC;rfl
 | .nilFunc,c,h=>by simp only[CM,Ac]at h;subst h;unfold RelC;rfl
 | .pointer none,c,h=>by simp only[CM,Ac]at h;subst h;unfold RelC;rfl
 | .agg ⟨cs⟩,c,h=>by
  simp only[CM,Aa]at h;obtain⟨l,e,rfl⟩:=h;unfold RelC;exact⟨cs,rfl,U8 w M cs l e⟩
theorem U8(w:World)(M:MM):∀(vs:List Value) (cs:List CV),JO vs=some cs->RelL w M cs vs
 | [],cs,h=>by simp only[JO,Ac]at h;subst h;exact RelL.nil
 |v::vs,cs,h=>by
  simp only[JO,Ab,Aa]at h;obtain⟨c,f,l,e,rfl⟩:=h;exact RelL.cons (FI w M v c f) (U8 w M vs l e)
end
def A4:Operand->Option SO
 | .tmp t=>some (.t t)
 | .const v=>(CM v).map .k
 | .global g=>some (.g g)
 | .func f=>if Nat.blt f GZ then some (.k (.fn f []))else none
def DS(P:Program)(t:TypeId):Option (Option Nat):=
 match P.underlying t,P.info? t with
 |some (.struct _),some i|some (.array _ _),some i=>some (some i.size)
 |some _,some i=>if i.size=1 then some none else none
 |_,_=>none
def QL(P:Program)(t:TypeId)(parts:List (Nat×Operand)):Option (List (Nat×Nat×SO)):=
 match P.underlying t with
 |some (.struct fs)=>if !(fs.toList.all fun f=>(P.info? f.type).isSome)then none else A5 (fun p=>(fs[p.1]?).bind fun f=>(P.info? f.type).bind fun i=>(A4 p.2).map fun x=>(f.offset,i.size,x)) parts
 |some (.array _ e)=>(P.info? e).bind fun i=>A5 (fun p=>(A4 p.2).map fun x=>(p.1*i.size,i.size,x)) parts
 |_=>none
def KC:TypeDesc->Operand->Option Nat
 | .slice _,.const (.slice none 0 0)=>some 1
 | .map _ _,.const (.map none)=>some 2
 | .interface _,.const .nilIface=>some 3
 |_,_=>none
def Jn:Nat->List (Nat×Operand)->Option (List SO)
 |_,[]=>some []
 |i,(j,x)::ps=>if i=j then(A4 x).bind fun a=>(Jn (i+1) ps).map fun l=>a::l else none
def hasBody(P:Program)(f:FuncId):Bool:=
 match P.funcs[f]? with
 |some fn=>fn.body.isSome&& !(fn.name== "runtime.NumGoroutine")&&Nat.blt f GZ
 |none=>false
theorem IJ{P:Program}{f:FuncId}(h:hasBody P f=true):mvOf f=none:=by
 unfold hasBody at h;split at h
 ·simp only[Ag]at h;exact WD h.2
 ·cases h
def Af0(P:Program)(f:FuncId):Bool:=
 match P.funcs[f]? with
 |some fn=>fn.results.isEmpty&&(match (fn.params[0]?).bind P.underlying with
  |some (.map _ _)=>true
  |_=>false)
 |none=>false
def Ai0(P:Program)(f:FuncId):Bool:=
 match P.funcs[f]? with
 |some fn=>fn.results.isEmpty&&Nat.beq fn.ntmps 14&&(match (fn.params[0]?).bind P.underlying with
  |some (.slice _)=>true
  |_=>false)
 |none=>false
def Pz(P:Program)(t:TypeId)(f:Nat):Bool:=
 match P.underlying t with
 |some (.struct fs)=>match fs[f]? with
  |some fd=>match P.underlying fd.type,P.info? fd.type with
   |some (.struct _),some i=>fs.size==1&&fd.offset==0&&i.size !=0
   |_,_=>false
  |none=>false
 |_=>false
def Ml(P:Program)(op:BinOp)(t:TypeId)(x y:Operand):Option aa:=
 match op with
 | .eql| .neq=>
  match P.underlying t with
  |some (.int _)|some .string=>(A4 x).bind fun a=>(A4 y).map fun b=>.bin op a b
  |some .bool=>(A4 x).bind fun a=>(A4 y).map fun b=>.beq (DM op) a b
  |some (.struct fs)=>if P.stoodInHeld t||P.eqGuardType P.depth t then none else
   (Fu P 0 fs.toList).bind fun c=>(A4 x).bind fun a=>(A4 y).map fun b=>.eqs (DM op) c a b
  |some d=>(KC d y).bind fun e=>(A4 x).map fun a=>.isnil e (DM op) a
  |_=>none
 |_=>
  match P.underlying t with
  |some (.int _)|some .string=>(A4 x).bind fun a=>(A4 y).map fun b=>.bin op a b
  |_=>none
def GO(P:Program)(src dst:TypeId)(x:Operand):Option aa:=
 match P.underlying src,P.underlying dst with
 |some (.int _),some (.int k)=>(A4 x).map (.cvi k)
 |some (.int _),some .string=>(A4 x).map .cvrune
 |some .string,some .string=>(A4 x).map .cvid
 |some .string,some (.slice e)=>match P.underlying e with
  |some (.int .u8)=>(A4 x).map (.bytes e)
  |_=>none
 |some (.slice e),some .string=>match P.underlying e with
  |some (.int .u8)=>(A4 x).map .cvbs
  |_=>none
 |_,_=>none
def Ef:Option Operand->Option (Option SO)
 |none=>some none
 |some x=>(A4 x).map some
def Pe(P:Program)(f:FuncId)(args:List Operand):Option aa:=
 match Af0 P f||Ai0 P f,args with
 |true,[x,y]=>(A4 x).bind fun a=>(A4 y).map fun b=>.mcopy f a b
 |_,l=>(A5 A4 l).map (.call f)
theorem FC{P:Program}{f:FuncId}{args:List Operand}{c:aa}(h:Pe P f args=some c):
  (∃l,A5 A4 args=some l/\c=.call f l)\/∃x y a b,args= [x,y]/\A4 x=some a/\A4 y=some b/\c=.mcopy f a b:=by
 unfold Pe at h;split at h
 ·rename_i x y _;simp only[Ab,Aa]at h;obtain⟨a,d,b,e,rfl⟩:=h;exact .inr ⟨x,y,a,b,rfl,d,e,rfl⟩
 ·simp only[Aa]at h;obtain⟨l,d,rfl⟩:=h;exact .inl ⟨l,d,rfl⟩
def EY(P:Program)(c:Call):Option aa:=
 match c.callee with
 | .builtin .len=>match (c.argTypes[0]?).bind P.underlying,c.args.toList with
  |some .string,[x]=>(A4 x).map (.len 0)
  |some (.slice _),[x]=>(A4 x).map (.len 1)
  |some (.map _ _),[x]=>(A4 x).map (.len 2)
  |some (.array n _),[_]=>some (.mov (.k (.int .i64 n)))
  |_,_=>none
 | .builtin .min=>(A5 A4 c.args.toList).map (.minmax false)
 | .builtin .max=>(A5 A4 c.args.toList).map (.minmax true)
 | .builtin .append=>match c.args.toList,c.argTypes.toList with
  | [x,y],[t,u]=>match P.underlying t,P.underlying u with
   |some (.slice e),some (.slice _)=>(P.info? e).bind fun i=>(i.zero).bind fun d=>(A4 x).bind fun a=>(A4 y).bind fun b=>
     if t=u/\0<i.size/\d.cells.size=i.size then some (.append e i.size i.bytes a b)else none
   |_,_=>none
  |_,_=>none
 | .builtin .copy=>match c.args.toList,c.argTypes.toList with
  | [x,y],[t,u]=>match P.underlying t,P.underlying u with
   |some (.slice e),some (.slice _)=>(P.info? e).bind fun i=>(A4 x).bind fun a=>(A4 y).bind fun b=>
     if t=u/\0<i.size then some (.cpy e i.size a b)else none
   |_,_=>none
  |_,_=>none
 | .value (.func f)=>if hasBody P f then Pe P f c.args.toList else none
 | .value (.tmp t)=>(A5 A4 c.args.toList).map (.callv (.t t))
 |_=>none
def Z2:List CV->Bool
 | [.nilp,.sl (some true) []]=>true
 |_=>false
def Z1(P:Program)(t:TypeId):Bool:=
 match (P.info? t).bind fun i=>i.zero with
 |some z=>match CM z with
  |some c=>Z2 c.cells
  |none=>false
 |none=>false
def Cf(P:Program)(o:Oper):Option aa:=
 match o.op with
 | .move x| .assign x=>(A4 x).map .mov
 | .pick c a b=>(A4 c).bind fun c=>(A4 a).bind fun a=>(A4 b).map fun b=>.pick c a b
 | .alloc t=>match Z1 P t with
  |true=>(P.info? t).bind fun i=>(i.zero).bind fun z=>(CM z).map fun c=>.allocT t c.cells
  |false=>(P.info? t).bind fun i=>(i.zero).bind fun z=>(CM z).map fun c=>.alloc c.cells
 | .box _ x=>(A4 x).map .box
 | .build t parts=>(P.info? t).bind fun i=>(i.zero).bind fun z=>(CM z).bind fun c=>(QL P t parts.toList).map fun d=>.build c.cells d
 | .buildSlice t len parts=>match P.underlying t with
  |some (.slice e)=>(P.info? e).bind fun i=>(i.zero).bind fun z=>(CM z).bind fun c=>(Jn 0 parts.toList).bind fun xs=>
    if xs.length=len/\0<i.size/\Bk c=i.size/\len*i.size<=16777216 then some (.mksl e i.size xs)else none
  |_=>none
 | .load t x=>(DS P t).bind fun s=>(A4 x).map fun a=>.load s a
 | .store t a x=>(P.info? t).bind fun i=>(A4 a).bind fun a=>(A4 x).map fun x=>.store i.size a x
 | .binOp op t x y _=>Ml P op t x y
 | .unOp op _ x=>(A4 x).map (.un op)
 | .convert src dst x=>GO P src dst x
 | .nilCheck x=>(A4 x).map .nchk
 | .makeFunc (.func f) first captured=>match first.toList,captured.toList with
  | [],l=>if hasBody P f then(A5 A4 l).map (.fnv f)else none
  | [x],[]=>if hasBody P f then(A5 A4 [x]).map (.fnv (GZ+f))else none
  |_,_=>none
 | .makeMap t none=>(G3 P t).map fun p=>.mkmap t p.1 p.2
 | .makeSlice t x y=>match P.underlying t with
  |some (.slice e)=>(P.info? e).bind fun i=>(i.zero).bind fun z=>(CM z).bind fun c=>(A4 x).bind fun a=>(A4 y).bind fun b=>
    if 0<i.size/\Bk c=i.size then some (.make e i.size i.bytes c a b)else none
  |_=>none
 | .slice t x lo (some hi) (some mx)=>match P.underlying t with
  |some (.slice e)=>(P.info? e).bind fun i=>(A4 x).bind fun a=>(Ef lo).bind fun l=>(A4 hi).bind fun h=>(A4 mx).map fun m=>.slice3 i.size a l h m
  |_=>none
 | .slice t x lo hi none=>match P.underlying t with
  |some .string=>(A4 x).bind fun a=>(Ef lo).bind fun l=>(Ef hi).map fun h=>.sslice a l h
  |some (.slice e)=>(P.info? e).bind fun i=>(A4 x).bind fun a=>(Ef lo).bind fun l=>(Ef hi).map fun h=>.slice i.size a l h
  |some (.array n e)=>match lo,hi with
   |none,none=>(P.info? e).bind fun i=>if i.size=1 then(A4 x).map fun a=>.asl n a else none
   |_,_=>none
  |_=>none
 | .fieldAddr t x f=>match Pz P t f,P.underlying t with
  |true,_=>(A4 x).map .nchk
  |false,some (.struct fs)=>(fs[f]?).bind fun fd=>(P.info? fd.type).bind fun i=>if i.size=0 then none else(A4 x).map fun a=>.faddr fd.offset a
  |_,_=>none
 | .field t x f=>match P.underlying t with
  |some (.struct fs)=>(fs[f]?).bind fun fd=>(DS P fd.type).bind fun s=>(A4 x).map fun a=>.field fd.offset s a
  |_=>none
 | .indexAddr t x ix=>match P.underlying t with
  |some (.slice e)=>(P.info? e).bind fun i=>if i.size=0 then none else(A4 x).bind fun a=>(A4 ix).map fun b=>.iaddr i.size a b
  |some (.array n e)=>(P.info? e).bind fun i=>if i.size=0 then none else(A4 x).bind fun a=>(A4 ix).map fun b=>.aaddr n i.size a b
  |_=>none
 | .index t x ix=>match P.underlying t with
  |some .string=>(A4 x).bind fun a=>(A4 ix).map fun b=>.sidx a b
  |some (.array n e)=>(P.info? e).bind fun i=>(DS P e).bind fun s=>(A4 x).bind fun a=>(A4 ix).map fun b=>.aidx n i.size s a b
  |_=>none
 | .lookup t x k ok=>(G3 P t).bind fun p=>(A4 x).bind fun a=>(A4 k).map fun b=>.lookup t p.1 p.2 ok a b
 | .mapUpdate t m k x=>match P.underlying t with
  |some (.map _ _)=>(A4 m).bind fun a=>(A4 k).bind fun b=>(A4 x).map fun c=>.mapupd t a b c
  |_=>none
 | .insert t m k x=>match P.underlying t with
  |some (.map _ _)=>(A4 m).bind fun a=>(A4 k).bind fun b=>(A4 x).map fun c=>.mapupd t a b c
  |_=>none
 | .mapEntry t m k=>match P.underlying t with
  |some (.map _ _)=>(A4 m).bind fun a=>(A4 k).map fun b=>.mapent t a b
  |_=>none
 | .entryStore _ m s x=>(A4 m).bind fun a=>(A4 s).bind fun b=>(A4 x).map fun c=>.entst a b c
 | .range t x=>match P.underlying t with
  |some .string=>(A4 x).map .siter
  |some (.map _ _)=>(A4 x).map .mrange
  |_=>none
 | .next it true=>(A4 it).map .snext
 | .entry it=>(A4 it).map .mentry
 | .extract t i=>(A4 t).map fun a=>.ext a i
 | .call c=>EY P c
 |_=>none
theorem DF{c β:Type}{f:c->Option β}:∀{l:List c} {r:List β},A5 f l=some r->r.length=l.length
 | [],r,h=>by simp only[A5,Ac]at h;subst h;rfl
 |a::as,r,h=>by
  simp only[A5,Ab,Aa]at h;obtain⟨b,_,bs,d,rfl⟩:=h;simp[DF d]
theorem Jz{c β:Type}{f:c->Option β}:∀{l:List c} {r:List β} {i:Nat} {a:c},A5 f l=some r->l[i]? =some a->∃b,r[i]? =some b/\f a=some b
 | [],_,_,_,_,hi=>by simp at hi
 |x::xs,r,i,a,h,hi=>by
  simp only[A5,Ab,Aa]at h;obtain⟨b,d,bs,e,rfl⟩:=h
  cases i with
  |zero=>simp at hi;subst hi;exact⟨b,rfl,d⟩
  |succ i=>simp only[List.getElem?_cons_succ]at hi⊢;exact Jz e hi
theorem QE{w:World}{M:MM}{c:CV}{v:Value}(h:RelC w M c v)(d:∀cs,c≠ .agg cs):v.cells= #[v]:=by
 cases c<;>unfold RelC at h<;>first
  |(rcases h with rfl|rfl<;>first|rfl|exact N8 _ _)
  |(subst h;rfl)
  |(subst h;exact N8 _ _)
  |(obtain⟨_,_,rfl⟩:=h;rfl)
  |(exact absurd rfl (d _))
  |(obtain⟨_,_,_,rfl,_⟩:=h;rfl)
  |(obtain⟨_,b,_⟩:=h;exact bV.cells b)
  |(obtain⟨_,rfl,_⟩:=h;rfl)
  |(obtain⟨_,_,rfl,_⟩:=h;rfl)
theorem RelC.cells_size{w:World}{M:MM}{c:CV}{v:Value}(h:RelC w M c v):v.cells.size=Bk c:=by
 have:=(RelC.cells h).length;rw[Array.length_toList]at this;rw[this];cases c<;>rfl
section
variable {G:Nat->List CV} {P:Program} {w:World} {M:MM} {B:Nat} {z:Cz} {ob rd:Nat->Ob} {fr:Nat->SV} {a:Act}
theorem XM{t:TypeId}{s:Option Nat}(h:DS P t=some s)(w:World):(isAgg t).run P w=.ok s.isSome w:=by
 unfold DS at h
 have c:∃d,P.underlying t=some d:=by
  cases b:P.underlying t with
  |none=>rw[b]at h;cases hi:P.info? t<;>rw[hi]at h<;>simp at h
  |some d=>exact⟨d,rfl⟩
 obtain⟨d,b⟩:=c;simp only[isAgg,Sem.run_bind,run_underlying b,Result.andThen_ok];rw[b]at h
 cases hi:P.info? t with
 |none=>rw[hi]at h;cases d<;>simp at h
 |some i=>
  rw[hi]at h
  cases d<;>simp only[]at h<;>first
   |(simp only[Ac]at h;subst h;rfl)
   |(split at h<;>first|(simp only[Ac]at h;subst h;rfl)|cases h)
theorem DC{t:TypeId}{i:TypeInfo}(h:P.info? t=some i)(w:World):(Go.sizeOf t).run P w=.ok i.size w:=by
 simp[Go.sizeOf,typeInfo,h]
theorem Ahv(b:Addr)(vs:List Value)(h:∀(j:Nat) u,vs[j]? =some u->w.cell? (b.add j)=some u):
  (loadCells b vs.length).run P w=.ok ⟨vs⟩ w:=by
 have:=run_loadCells_list (P:=P) (w:=w) b vs h;simpa using this
theorem NF{t:TypeId}{s:Option Nat}(h:DS P t=some s)(b:Addr):
  (∀n (vs:List Value),s=some n->vs.length=n->(∀(j:Nat) u,vs[j]? =some u->w.cell? (b.add j)=some u)->(loadVar t b).run P w=.ok (.agg ⟨vs⟩) w)/\
  (∀u,s=none->w.cell? b=some u->(loadVar t b).run P w=.ok u w):=by
 have k:=XM h w;constructor
 ·intro n vs f l g;subst f
  have hi:∃i,P.info? t=some i/\i.size=n:=by
   unfold DS at h
   cases c:P.underlying t with
   |none=>rw[c]at h;cases hi:P.info? t<;>rw[hi]at h<;>simp at h
   |some d=>
    cases hi:P.info? t with
    |none=>rw[c,hi]at h;cases d<;>simp at h
    |some i=>
     rw[c,hi]at h;refine⟨i,rfl, ?_⟩
     cases d<;>simp only[Ac]at h<;>first
      |exact h
      |(split at h<;>simp at h)
  obtain⟨i,hi,e⟩:=hi;simp only[loadVar,Sem.run_bind,k,Result.andThen_ok,Option.isSome_some,if_true,DC hi,e];subst l;simp[Ahv b vs g]
 ·intro u f g;subst f;simp[loadVar,k,g]
variable (hfr:∀i,AA w M z ob (fr i) (a.tmps.getD i undef)) (hglob:∀i,G i≠ []->RelC w M (.rp (G i)) (.pointer (some ⟨i,0,none⟩)))
include hfr hglob
theorem opd{x:Operand}{sx:SO}(h:A4 x=some sx):AA w M z ob (so G fr sx) (a.eval x):=by
 cases x with
 |tmp t=>simp only[A4,Ac]at h;subst h;exact hfr t
 |const v=>
  simp only[A4,Aa]at h;obtain⟨c,d,rfl⟩:=h;exact FI w M v c d
 |global g=>
  simp only[A4,Ac]at h;subst h;have e:so G fr (.g g)=match G g with| []=>.undef|cs=>.c (.rp cs):=rfl
  rw[e]
  cases b:G g with
  |nil=>trivial
  |cons c cs=>
   have:=hglob g (by rw[b];simp);rw[b]at this;exact this
 |func f=>
  simp only[A4,Ae,Ac]at h;obtain⟨j,rfl⟩:=h;show RelC _ _ _ _;unfold RelC;refine⟨[], ?_,RelL.nil⟩;unfold bV;rw[WD j];rfl
theorem WR{x:Operand}{sx:SO}(h:A4 x=some sx){c:CV}(b:so G fr sx=.c c):RelC w M c (a.eval x):=by
 have:=opd hfr hglob h;rw[b]at this;exact this
theorem Ns:∀{xs:List Operand} {b:List SO} {l:List CV},A5 A4 xs=some b->A5 (fun x=>closed (so G fr x)) b=some l->RelL w M l (xs.map a.eval)
 | [],b,l,h,hl=>by
  simp only[A5,Ac]at h;subst h;simp only[A5,Ac]at hl;subst hl;exact RelL.nil
 |x::xs,b,l,h,hl=>by
  simp only[A5,Ab,Aa]at h;obtain⟨s,j,m,d,rfl⟩:=h;simp only[A5,Ab,Aa]at hl;obtain⟨c,g,cs,f,rfl⟩:=hl
  have e:so G fr s=.c c:=by
   cases k:so G fr s<;>rw[k]at g<;>simp[closed]at g;rw[g]
  exact RelL.cons (WR hfr hglob j e) (Ns d f)
end
section
variable {P:Program} {w:World} {M:MM}
theorem E4{k:IntKind}{n:Int}:RelC w M (.int k n) (.int k n):=by unfold RelC;rfl
theorem EI{b:Bool}:RelC w M (.bool b) (.bool b):=by unfold RelC;rfl
theorem NA{s:List UInt8}:RelC w M (.str s) (.string ⟨⟨s⟩⟩):=by unfold RelC;rfl
theorem Cw{k:IntKind}{n:Int}{v:Value}(h:RelC w M (.int k n) v):v=.int k n:=by unfold RelC at h;exact h
theorem Ee{b:Bool}{v:Value}(h:RelC w M (.bool b) v):v=.bool b:=by unfold RelC at h;exact h
theorem Dy{s:List UInt8}{v:Value}(h:RelC w M (.str s) v):v=.string ⟨⟨s⟩⟩:=by unfold RelC at h;exact h
theorem Ahr{op:BinOp}{t:TypeId}{k:IntKind}{a b:Int}{c:CV}(h:H7 op k a b=some c):
  ∃v,(binOp op t (.int k a) (.int k b)).run P w=.ok v w/\RelC w M c v:=by
 cases op<;>simp only[H7,LW,Uu,Aq,Ac,reduceCtorEq,Option.ite_none_left_eq_some]at h
 all_goals first
  |(obtain⟨d,rfl⟩:=h;simp only[binOp,Op.intDiv,ne_eq,not_true_eq_false,if_false,An d];exact⟨_,rfl,E4⟩)
  |(subst h;simp only[binOp,Op.intArith,Op.intCmp,Op.intBits,ne_eq,not_true_eq_false,if_false];first|exact⟨_,rfl,E4⟩|exact⟨_,rfl,EI⟩)
theorem Ahs{op:BinOp}{t:TypeId}{a b:List UInt8}{c:CV}(h:JB op a b=some c):
  ∃v,(binOp op t (.string ⟨⟨a⟩⟩) (.string ⟨⟨b⟩⟩)).run P w=.ok v w/\RelC w M c v:=by
 have g:(⟨⟨a⟩⟩:ByteArray).toList=a:=ByteArray.toList_mk a;have f:(⟨⟨b⟩⟩:ByteArray).toList=b:=ByteArray.toList_mk b;cases op<;>simp only[JB,Ac,reduceCtorEq,Ae]at h
 case add=>
  obtain⟨e,rfl⟩:=h
  have d:¬(((⟨⟨a⟩⟩:ByteArray).size+(⟨⟨b⟩⟩:ByteArray).size:Nat):Int)>IntKind.i64.max:=by
   show ¬((a.length+b.length:Nat):Int)>9223372036854775807;omega
  refine⟨.string (⟨⟨a⟩⟩++⟨⟨b⟩⟩),by simp only[binOp,Op.stringOp,An d,Sem.run_pure], ?_⟩;unfold RelC;rw[ByteArray.mk_append_mk]
 all_goals
  subst h;simp only[binOp,Op.stringOp,g,f,sLess];exact⟨_,rfl,EI⟩
theorem Ahq{op:BinOp}{t:TypeId}{x y c:CV}{g f:Value}(l:RelC w M x g)(j:RelC w M y f)(h:EV op x y=some c):
  ∃v,(binOp op t g f).run P w=.ok v w/\RelC w M c v:=by
 cases x<;>(try simp only[EV,reduceCtorEq]at h;done)
 case int k a=>
  cases y<;>(try simp only[EV,reduceCtorEq]at h;done)
  case int k' b=>
   have:=Cw l;subst this;have:=Cw j;subst this;by_cases d:op=.shl\/op=.shr
   ·rcases d with rfl|rfl
    all_goals
     simp only[EV,Option.ite_none_left_eq_some]at h;obtain⟨p,h⟩:=h;simp only[Ac]at h;subst h;simp only[binOp,Op.shift,An p];exact⟨_,rfl,E4⟩
   ·have e:(if k=k' then H7 op k a b else none)=some c:=by
     cases op<;>first|exact h|(exact absurd (.inl rfl) d)|(exact absurd (.inr rfl) d)
    split at e
    ·rename_i m;subst m;exact Ahr e
    ·cases e
 case str a=>
  cases y<;>(try simp only[EV,reduceCtorEq]at h;done)
  case str b=>
   have:=Dy l;subst this;have:=Dy j;subst this;exact Ahs h
theorem Ahx{op:UnOp}{x c:CV}{d:Value}(e:RelC w M x d)(h:cW op x=some c):∃v,(Op.unary op d).run P w=.ok v w/\RelC w M c v:=by
 cases x<;>(try simp only[cW,reduceCtorEq]at h;done)
 case int k n=>
  have:=Cw e;subst this;cases op<;>simp only[cW,LW,Aq,Ac,reduceCtorEq]at h
  all_goals
   subst h;simp only[Op.unary,Op.intArith,Op.intBits];exact⟨_,rfl,E4⟩
 case bool b=>
  have:=Ee e;subst this;cases op<;>simp only[cW,Ac,reduceCtorEq]at h
  all_goals
   subst h;simp only[Op.unary];exact⟨_,rfl,EI⟩
theorem Ahp{t:TypeId}(c:P.underlying t=some .bool)(a b:Bool):
  (binOp .eql t (.bool a) (.bool b)).run P w=.ok (.bool (a==b)) w/\(binOp .neq t (.bool a) (.bool b)).run P w=.ok (.bool (!(a==b))) w:=by
 have h:∀d:Nat,(Op.equalIn (d+1) t (.bool a) (.bool b)).run P w=.ok (a==b) w:=fun d=>run_equalIn_bool' w d t a b c;have e:=h 9999;constructor<;>(simp only[binOp];simp[Op.equal,Op.maxDepth,e])
theorem XH{kt:KT}{t:TypeId}(b:Fc P t=some kt){x y:CV}{j g:Value}(e:RelC w M x j)(c:RelC w M y g){r:Bool}(h:bc kt x y=some r)(d:Nat):
  (Op.equalIn (d+1) t j g).run P w=.ok r w:=by
 unfold Fc at b;split at b<;>simp only[Ac,reduceCtorEq]at b<;>subst b<;>rename_i f
 ·cases x<;>(try simp only[bc,reduceCtorEq]at h;done);cases y<;>(try simp only[bc,reduceCtorEq]at h;done);have:=Cw e;subst this;have:=Cw c;subst this;simp only[bc,Ae]at h;obtain⟨rfl,h⟩:=h;simp only[Ac]at h;subst h;exact run_equalIn_int w d t _ _ _ _ f
 ·cases x<;>(try simp only[bc,reduceCtorEq]at h;done);cases y<;>(try simp only[bc,reduceCtorEq]at h;done);have:=Dy e;subst this;have:=Dy c;subst this;simp only[bc,Ac]at h;subst h;rw[run_equalIn_string w d t _ _ f];simp
 ·cases x<;>(try simp only[bc,reduceCtorEq]at h;done);cases y<;>(try simp only[bc,reduceCtorEq]at h;done);have:=Ee e;subst this;have:=Ee c;subst this;simp only[bc,Ac]at h;subst h;exact run_equalIn_bool' w d t _ _ f
theorem Qb{t:TypeId}{kt:KT}(b:Fc P t=some kt){xs:List Value}{i:Nat}{v:Value}(h:xs[i]? =some v):(part t ⟨xs⟩ i).run P w=.ok v w:=by
 have d:(isAgg t).run P w=.ok false w:=by
  unfold Fc at b;split at b<;>first|(rename_i c;simp[isAgg,run_underlying c];done)|cases b
 simp[part,d,h]
theorem XI(d:Nat):∀(q:List Field) (i:Nat) (p:List KT) (c bs:List CV) (xs e:List Value) (r:Bool),Fu P i q=some p->bg p c bs=some r->
  RelL w M c (xs.drop i)->RelL w M bs (e.drop i)->(Op.eqFields (d+1) ⟨xs⟩ ⟨e⟩ q).run P w=.ok r w
 | [],i,p,c,bs,xs,e,r,hk,hr,ha,hb=>by
  simp only[Fu,Ac]at hk;subst hk;cases c<;>cases bs<;>simp only[bg,reduceCtorEq,Ac]at hr;subst hr;rfl
 |f::q,i,p,c,bs,xs,e,r,hk,hr,ha,hb=>by
  simp only[Fu,Ae,Ab,Aa]at hk;obtain⟨⟨j,g⟩,k,h,ks,s,rfl⟩:=hk
  cases c with
  |nil=>simp only[bg,reduceCtorEq]at hr
  |cons a c=>
   cases bs with
   |nil=>simp only[bg,reduceCtorEq]at hr
   |cons b bs=>
    simp only[bg,Ab,Aa]at hr;obtain⟨x,H,y,F,rfl⟩:=hr;unfold RelL at ha hb;obtain⟨va,A,D,u,m⟩:=ha;obtain⟨vb,v,C,t,l⟩:=hb;have J:xs[i]? =some va:=by have:=congrArg (·[0]?) D;simpa using this
    have I:e[i]? =some vb:=by have:=congrArg (·[0]?) C;simpa using this
    have L:xs.drop (i+1)=A:=by have:=congrArg (List.drop 1) D;simpa[List.drop_drop]using this
    have K:e.drop (i+1)=v:=by have:=congrArg (List.drop 1) C;simpa[List.drop_drop]using this
    rw[<-L]at m;rw[<-K]at l;subst j;have E:=XI d q (f.offset+1) ks c bs xs e y s F m l;simp only[Op.eqFields,Ao g,Sem.run_bind,Qb h J,Qb h I,Result.andThen_ok,XH h u t H d];cases x
    ·simp
    ·simpa using E
theorem XJ{t:TypeId}{e:Array Field}(l:P.underlying t=some (.struct e))(p:P.stoodInHeld t=false){k:List KT}(q:Fu P 0 e.toList=some k){x y:CV}{j g:Value}
  (c:RelC w M x j) (b:RelC w M y g) {r:Bool} (h:dg k x y=some r):
  (∃xs,j=.agg xs)/\(∃f,g=.agg f)/\(∀d,(Op.equalIn (d+2) t j g).run P w=.ok r w):=by
 cases x<;>(try simp only[dg,reduceCtorEq]at h;done);cases y<;>(try simp only[dg,reduceCtorEq]at h;done);unfold RelC at c b;obtain⟨xs,rfl,c⟩:=c;obtain⟨f,rfl,b⟩:=b;refine⟨⟨_,rfl⟩,⟨_,rfl⟩,fun d=> ?_⟩;have m:P.fieldsOf t=e:=by simp[Program.fieldsOf,l]
 rw[run_equalIn_struct w (d+1) t _ _ (by rw[m];exact l) p,m];exact XI d e.toList 0 k _ _ xs f r q h c b
end
section
variable {P:Program} {w:World} {M:MM}
theorem F9{b:Addr}{size:Nat}:∀{i:Nat} {es:List CV},(∀(k:Nat) e,es[k]? =some e->∃v,RelC w M e v/\v.cells.size=size/\∀(j:Nat) u,v.cells[j]? =some u->w.cell? (b.add ((i+k)*size+j))=some u)->
  RelE w M b size i es
 |_,[],_=>by unfold RelE;trivial
 |i,e::es,h=>by
  unfold RelE;refine⟨by simpa using h 0 e rfl,F9 fun k d c=> ?_⟩;have:=h (k+1) d (by simpa using c);rw[show i+(k+1)=i+1+k by omega]at this;exact this
theorem Tq{d:Addr}{size l h:Nat}{es:List CV}(g:RelE w M d size 0 es):RelE w M (d.add (l*size)) size 0 ((es.take h).drop l):=by
 refine F9 fun k e b=> ?_
 have c:es[l+k]? =some e:=by
  rw[List.getElem?_drop,List.getElem?_take]at b;split at b
  ·exact b
  ·cases b
 obtain⟨v,q,p,m⟩:=RelE.get g c;refine⟨v,q,p,fun j u f=> ?_⟩;rw[Ir];have:=m j u f;rw[show l*size+((0+k)*size+j)=(0+(l+k))*size+j by rw[Nat.zero_add,Nat.zero_add,Nat.add_mul];omega];exact this
theorem GE{size:Nat}:∀{es:List CV} {xs:List Value} {i:Nat} {e:CV},AU w M size es xs->es[i]? =some e->
  ∃v,RelC w M e v/\v.cells.size=size/\∀(j:Nat) u,v.cells[j]? =some u->xs[i*size+j]? =some u
 | [],_,_,_,_,hi=>by simp at hi
 |e::es,xs,0,e',h,hi=>by
  obtain⟨v,c,rfl,d,k,g⟩:=h;simp at hi;subst hi;refine⟨v,k,d,fun j u b=> ?_⟩;rw[Nat.zero_mul,Nat.zero_add,List.getElem?_append_left]
  ·simpa using b
  ·have:=(Array.getElem?_eq_some_iff.1 b).1;simpa using this
 |e::es,xs,i+1,e',h,hi=>by
  obtain⟨v,c,rfl,d,k,g⟩:=h;simp only[List.getElem?_cons_succ]at hi;obtain⟨u,q,p,m⟩:=GE g hi;refine⟨u,q,p,fun j l b=> ?_⟩;have f:v.cells.toList.length=size:=by simpa using d
  rw[List.getElem?_append_right (by rw[f,Nat.add_mul];omega),f];have:=m j l b;rw[show(i+1)*size+j-size=i*size+j by rw[Nat.add_mul];omega];exact this
theorem Hz{size:Nat}:∀{es:List CV} {xs:List Value},AU w M size es xs->xs.length=es.length*size
 | [],_,h=>by unfold AU at h;subst h;simp
 |e::es,xs,h=>by
  obtain⟨v,b,rfl,d,_,c⟩:=h;simp[Hz c,d,Nat.add_mul];omega
theorem OM{size:Nat}:∀{es d:List CV} {xs c:List Value},AU w M size es xs->AU w M size d c->AU w M size (es++d) (xs++c)
 | [],_,_,_,h,k=>by unfold AU at h;subst h;exact k
 |e::es,_,_,_,h,k=>by
  obtain⟨v,b,rfl,j,g,f⟩:=h;exact⟨v,b++_,by rw[Ax],j,g,OM f k⟩
theorem AH.get{z:Cz}{ob:Nat->Ob}:∀{cs:List SV} {vs:List Value} {i:Nat} {s:SV},AH w M z ob cs vs->cs[i]? =some s->∃v,vs[i]? =some v/\AA w M z ob s v
 | [],_,_,_,_,hi=>by simp at hi
 |_::_,_,0,_,h,hi=>by
  obtain⟨v,b,rfl,d,_⟩:=h;simp at hi;subst hi;exact⟨v,rfl,d⟩
 |_::_,_,i+1,_,h,hi=>by
  obtain⟨v,b,rfl,_,c⟩:=h;simp only[List.getElem?_cons_succ]at hi⊢;exact AH.get c hi
theorem AH.length{z:Cz}{ob:Nat->Ob}:∀{cs:List SV} {vs:List Value},AH w M z ob cs vs->vs.length=cs.length
 | [],_,h=>by unfold AH at h;subst h;rfl
 |_::_,_,h=>by
  obtain⟨v,b,rfl,_,c⟩:=h;simp[AH.length c]
theorem AH.drop{z:Cz}{ob:Nat->Ob}:∀{cs:List SV} {vs:List Value} (n:Nat),AH w M z ob cs vs->AH w M z ob (cs.drop n) (vs.drop n)
 |_,_,0,h=>h
 | [],_,n+1,h=>by unfold AH at h;subst h;simp[AH]
 |_::_,_,n+1,h=>by
  obtain⟨v,b,rfl,_,c⟩:=h;simpa using AH.drop n c
theorem AH.take{z:Cz}{ob:Nat->Ob}:∀{cs:List SV} {vs:List Value} (n:Nat),AH w M z ob cs vs->AH w M z ob (cs.take n) (vs.take n)
 |_,_,0,_=>by simp[AH]
 | [],_,n+1,h=>by unfold AH at h;subst h;simp[AH]
 |_::_,_,n+1,h=>by
  obtain⟨v,b,rfl,d,c⟩:=h;exact⟨v,b.take n,by simp,d,AH.take n c⟩
theorem AH.closed{z:Cz}{ob:Nat->Ob}:∀{cs:List SV} {vs:List Value} {l:List CV},AH w M z ob cs vs->A5 closed cs=some l->RelL w M l vs
 | [],_,_,h,hl=>by simp only[A5,Ac]at hl;subst hl;unfold AH at h;subst h;exact RelL.nil
 |c::cs,_,l,h,hl=>by
  obtain⟨v,e,rfl,g,f⟩:=h;simp only[A5,Ab,Aa]at hl;obtain⟨x,d,xs,b,rfl⟩:=hl;cases c<;>simp only[WB.closed,reduceCtorEq,Ac]at d;subst d;exact RelL.cons g (AH.closed f b)
theorem AH.of_c{z:Cz}{ob:Nat->Ob}:∀{cs:List CV} {vs:List Value},RelL w M cs vs->AH w M z ob (cs.map .c) vs
 | [],_,h=>by unfold RelL at h;subst h;rfl
 |c::cs,_,h=>by
  unfold RelL at h;obtain⟨v,b,rfl,e,d⟩:=h;exact⟨v,b,rfl,e,AH.of_c d⟩
theorem Ui{g o:Nat}{vs:List Value}{t:TypeId}{b:Nat×Nat}(h:w.heap[g]? =some (.cells ⟨vs⟩ t b)):w.cell? ⟨g,o,none⟩=vs[o]? :=by
 have:=cell_of_row w g o ⟨vs⟩ t b h;simpa using this
theorem DY(g o n:Nat):(⟨g,o,none⟩:Addr).add n=⟨g,o+n,none⟩:=by
 unfold Addr.add;by_cases h:n=0<;>simp[h]
theorem Aac{kt:KT}{t:TypeId}(h:Fc P t=some kt):∀b,kt≠ .struct b:=by
 intro b e;unfold Fc at h;split at h<;>simp_all
theorem UN{kt:KT}{a b:CV}(d:BT kt a=true)(c:BT kt b=true):∃r,bc kt a b=some r:=by
 cases kt<;>cases a<;>simp[BT]at d<;>cases b<;>simp[BT]at c
 ·subst d;subst c;exact⟨_,Ao rfl⟩
 ·exact⟨_,rfl⟩
 ·exact⟨_,rfl⟩
theorem UQ:∀{c:List KT} {e bs:List CV},Ca c e=true->Ca c bs=true->∃r,bg c e bs=some r
 | [],[],[],_,_=>⟨true,rfl⟩
 | [],_::_,_,h,_=>by simp[Ca]at h
 | [],[],_::_,_,h=>by simp[Ca]at h
 |_::_,[],_,h,_=>by simp[Ca]at h
 |_::_,_::_,[],_,h=>by simp[Ca]at h
 |t::c,a::e,b::bs,ha,hb=>by
  simp only[Ca,Ag]at ha hb;obtain⟨r,g⟩:=UN ha.1 hb.1;obtain⟨f,d⟩:=UQ ha.2 hb.2;exact⟨r&&f,by simp[bg,g,d]⟩
theorem Ahu{kt:KT}{t:TypeId}(b:Fb P t=some kt){x y:CV}{j g:Value}(s:RelC w M x j)(q:RelC w M y g)(l:AR kt x=true)(k:AR kt y=true):
  (Op.equal t j g).run P w=.ok (CC kt x y) w:=by
 have key:∀r,(∀d,(Op.equalIn (d+2) t j g).run P w=.ok r w)->(Op.equal t j g).run P w=.ok r w:=by
  intro r h;have:=h 9998;simpa[Op.equal,Op.maxDepth]using this
 unfold Fb at b;split at b
 ·rename_i F v;split at b
  ·cases b
  ·rename_i A;simp only[Aa]at b;obtain⟨u,m,rfl⟩:=b;have p:P.stoodInHeld t=false:=by simpa using A
   cases x<;>(try simp[AR,BT]at l;done);cases y<;>(try simp[AR,BT]at k;done);simp only[AR]at l k;obtain⟨r,f⟩:=UQ l k;have:=(XJ (w:=w) (M:=M) v p m s q (r:=r) f).2.2;rename_i E bs;have e:CC (.struct u) (.agg E) (.agg bs)=r:=by simp only[CC,f,Option.getD_some]
   rw[e];exact key r this
 ·have c:=Aac b
  have D:BT kt x=true:=by
   cases kt<;>first|exact absurd rfl (c _)|(simpa[AR]using l)
  have C:BT kt y=true:=by
   cases kt<;>first|exact absurd rfl (c _)|(simpa[AR]using k)
  obtain⟨r,f⟩:=UN D C
  have e:CC kt x y=r:=by
   cases kt<;>first|exact absurd rfl (c _)|(simp only[CC,f,Option.getD_some])
  rw[e];exact key r fun d=>XH b s q f (d+1)
def Ci(b:List MapEntry)(o:Option Nat):Option (Nat×Value):=o.bind fun i=>(b[i]?).map fun e=>(i,e.val)
theorem XL{kt:KT}{t:TypeId}(g:Fb P t=some kt){k:CV}{vk:Value}(f:RelC w M k vk)(m:AR kt k=true):
  ∀(ks:List CV) (b:List MapEntry) (i:Nat),RelL w M ks (b.map (·.key))->(∀c∈ks,AR kt c=true)->
   (Instr.findAsking t vk b i).run P w=.ok ((Ci b (AV kt k ks)).map fun p=>(p.1+i,p.2)) w
 | [],b,i,h,_=>by
  have:b= []:=by unfold RelL at h;simpa using h
  subst this;rfl
 |c::ks,b,i,h,hc=>by
  unfold RelL at h;obtain⟨v,q,e,y,x⟩:=h
  cases b with
  |nil=>simp at e
  |cons en b=>
   simp only[List.map_cons,List.cons.injEq]at e;obtain⟨C,A⟩:=e;subst C;subst A;have s:=Ahu g f y m (hc c (by simp));have r:=XL g f m ks b (i+1) x (fun D d=>hc D (by simp[d]));simp only[Instr.findAsking,Sem.run_bind,s,Result.andThen_ok,AV];by_cases l:CC kt k c=true
   ·simp[l,Ci]
   ·simp only[l,Ah,if_false,r]
    congr 1
    cases hi:AV kt k ks with
    |none=>simp[Ci]
    |some j=>
     cases u:b[j]? <;>simp[Ci,u];omega
theorem Vp{kt:KT}{t:TypeId}{d:TypeDesc}(y:P.underlying t=some d)(g:Fb P t=some kt){k:CV}{vk:Value}(r:RelC w M k vk)(q:AR kt k=true):
  ∀(ks:List CV) (b:List MapEntry) (i:Nat),RelL w M ks (b.map (·.key))->(∀c∈ks,AR kt c=true)->
   Instr.findNow d vk b i=none\/Instr.findNow d vk b i=some ((Ci b (AV kt k ks)).map fun p=>(p.1+i,p.2))
 | [],b,i,h,_=>by
  have:b= []:=by unfold RelL at h;simpa using h
  subst this;exact .inr rfl
 |c::ks,b,i,h,hc=>by
  unfold RelL at h;obtain⟨v,C,e,x,F⟩:=h
  cases b with
  |nil=>simp at e
  |cons en b=>
   simp only[List.map_cons,List.cons.injEq]at e;obtain⟨m,l⟩:=e;subst m;subst l;have f:=hc c (by simp);have D:=Vp y g r q ks b (i+1) F (fun H u=>hc H (by simp[u]))
   have s:Instr.sameNow d vk en.key=none\/Instr.sameNow d vk en.key=some (CC kt k c):=by
    unfold Fb Fc at g;rw[y]at g;cases d<;>simp only[reduceCtorEq,Ac]at g
    ·subst g;cases k<;>simp[AR,BT]at q;cases c<;>simp[AR,BT]at f;have m:=Ee r;have l:=Ee x;rw[m,l];exact .inr rfl
    ·subst g;cases k<;>simp[AR,BT]at q;cases c<;>simp[AR,BT]at f;have m:=Cw r;have l:=Cw x;subst q;subst f;rw[m,l];refine .inr ?_;simp[Instr.sameNow,CC,bc]
    ·subst g;cases k<;>simp[AR,BT]at q;cases c<;>simp[AR,BT]at f;have m:=Dy r;have l:=Dy x;rw[m,l];refine .inr ?_;simp[Instr.sameNow,CC,bc,beq_toListBytes]
    ·left;rfl
   simp only[Instr.findNow,AV];rcases s with e|e
   ·rw[e];exact .inl rfl
   ·rw[e];by_cases A:CC kt k c=true
    ·simp[A,Ci]
    ·simp only[A,Ah,if_false];rcases D with e|e
     ·rw[e];exact .inl rfl
     ·rw[e];refine .inr ?_
      congr 1
      cases hi:AV kt k ks with
      |none=>simp[Ci]
      |some j=>
       cases E:b[j]? <;>simp[Ci,E];omega
theorem Akc{t:TypeId}{kt:KT}(b:Fb P t=some kt):∃d,P.underlying t=some d:=by
 unfold Fb Fc at b
 cases c:P.underlying t with
 |none=>rw[c]at b;simp at b
 |some d=>exact⟨d,rfl⟩
theorem Rf{kt:KT}{t:TypeId}(g:Fb P t=some kt){k:CV}{vk:Value}(j:RelC w M k vk)(r:AR kt k=true)
  {ks:List CV} {b:List MapEntry} (h:RelL w M ks (b.map (·.key))) (m:∀c∈ks,AR kt c=true):
  (Instr.findKey t vk b).run P w=.ok (Ci b (AV kt k ks)) w:=by
 obtain⟨d,l⟩:=Akc g;have q:=XL g j r ks b 0 h m;have f:=Vp l g j r ks b 0 h m
 have e:(Ci b (AV kt k ks)).map (fun p=>(p.1+0,p.2))=Ci b (AV kt k ks):=by
  cases Ci b (AV kt k ks)<;>rfl
 rw[e]at q f;simp only[Instr.findKey,Sem.run_bind,run_underlying l,Result.andThen_ok];rcases f with f|f
 ·rw[f];exact q
 ·rw[f];rfl
theorem XG{t:TypeId}{kt:KT}(b:Fc P t=some kt)(d:Bool)(n:Nat)(v:Value):(Instr.checkKey d (n+1) t v).run P w=.ok () w:=by
 unfold Fc at b;split at b<;>first|cases b;done|skip
 all_goals
  rename_i c;simp only[Instr.checkKey,Sem.run_bind,run_underlying c,Result.andThen_ok];rfl
theorem Re{t:TypeId}{kt:KT}(q:Fb P t=some kt)(j:Bool){k:CV}{vk:Value}(p:RelC w M k vk)(D:AR kt k=true):(Instr.checkKey j 10000 t vk).run P w=.ok () w:=by
 have b:=q;unfold Fb at b;split at b
 ·rename_i K I;split at b
  ·cases b
  ·simp only[Aa]at b;obtain⟨e,y,rfl⟩:=b;cases k<;>(try simp[AR,BT]at D;done);rename_i cs;simp only[AR]at D;unfold RelC at p;obtain⟨xs,rfl,p⟩:=p
   have key:∀(m:Nat) (l:List Field) (i:Nat) (e:List KT) (cs:List CV),Fu P i l=some e->Ca e cs=true->RelL w M cs (xs.drop i)->
     (forIn l PUnit.unit (fun f (_:PUnit)=>(do
      if f.name≠ "_" then Instr.checkKey j (m+1) f.type (<-part f.type ⟨xs⟩ f.offset)
      pure (ForInStep.yield PUnit.unit):Sem (ForInStep PUnit)))).run P w=.ok PUnit.unit w:=by
    intro m l
    induction l with
    |nil=>intro i e cs _ _ _;rfl
    |cons f l ih=>
     intro i e cs q C E;simp only[Fu,Ae,Ab,Aa]at q;obtain⟨⟨g,d⟩,kt,h,u,A,rfl⟩:=q
     cases cs with
     |nil=>simp[Ca]at C
     |cons c cs=>
      simp only[Ca,Ag]at C;unfold RelL at E;obtain⟨v,s,H,N,F⟩:=E;have J:xs[i]? =some v:=by have:=congrArg (·[0]?) H;simpa using this
      have L:xs.drop (i+1)=s:=by have:=congrArg (List.drop 1) H;simpa[List.drop_drop]using this
      subst g;rw[<-L]at F;have x:=ih (f.offset+1) u cs A C.2 F;simp only[List.forIn_cons,Sem.run_bind,Ao d,Qb h J,Result.andThen_ok,XG h j m v,Sem.run_pure];exact x
   have all:∀m,(Instr.checkKey j (m+2) t (.agg ⟨xs⟩)).run P w=.ok () w:=by
    intro m;have:=key m K.toList 0 e cs y D (by simpa using p);rw[Instr.checkKey];simp only[Sem.run_bind,run_underlying I,Result.andThen_ok];rw[<-Array.forIn_toList];exact congrArg (fun r=>Result.andThen r fun _ w'=>Sem.run P (pure ()) w') this
   exact all 9998
 ·exact XG b j 9999 vk
end
structure aC (P:Program) (G:Nat->List CV) (w:World) (M:MM) (B:Nat) (z:Cz) (ob:Nat->Ob) (fr:Nat->SV) (a:Act):Prop where
 fr:∀i,AA w M z ob (fr i) (a.tmps.getD i undef)
 glob:∀i,G i≠ []->RelC w M (.rp (G i)) (.pointer (some ⟨i,0,none⟩))
 told:∀N,A9<=N->bA (ob N)=true->z.σ N=CG N (M.al N)
 ob:∀id,Bg P w M B z ob id (z.σ id) (ob id)
def Yes(P:Program)(w:World)(M:MM)(z:Cz)(ob:Nat->Ob)(a:Act)(o:Oper)(sv:SV):Prop:=
 ∃v,(execOp a.eval o).run P w=.ok (.value v) w/\AA w M z ob sv v
section
variable {G:Nat->List CV} {P:Program} {w:World} {M:MM} {B:Nat} {z:Cz} {ob rd:Nat->Ob} {fr:Nat->SV} {a:Act} {o:Oper}
theorem aC.opd(h:aC P G w M B z ob fr a){x:Operand}{sx:SO}(b:A4 x=some sx):AA w M z ob (so G fr sx) (a.eval x):=WB.opd h.fr h.glob b
theorem aC.c(h:aC P G w M B z ob fr a){x:Operand}{sx:SO}(b:A4 x=some sx){c:CV}(d:so G fr sx=.c c):RelC w M c (a.eval x):=WB.WR h.fr h.glob b d
theorem aC.int(h:aC P G w M B z ob fr a){x:Operand}{sx:SO}(b:A4 x=some sx){k:IntKind}{n:Int}(d:so G fr sx=.c (.int k n)):a.eval x=.int k n:=Cw (h.c b d)
theorem aC.deref(h:aC P G w M B z ob fr a)(d:∀id,rd id=.none\/rd id=ob id){s:SV}{v:Value}(c:AA w M z ob s v):AA w M z ob (WB.deref rd s) v:=by
 cases s<;>try exact c
 rename_i k;cases k<;>try exact c
 rename_i N;simp only[WB.deref];split<;>try trivial
 rename_i j;rcases d N with e|e
 ·rw[e];trivial
 ·rw[e];cases b:ob N<;>try trivial
  rename_i cs _;have f:v=CG N (M.al N):=by unfold AA RelC at c;exact c
  have g:=h.told N j.1 (by rw[b];rfl);rw[QU j.2]at f g;exact⟨by rw[b];simp,M.al N,g,f⟩
theorem Ajq{t:TypeId}{s:Option Nat}(h:DS P t=some s):∃i,P.info? t=some i/\(∀n,s=some n->i.size=n)/\(s=none->i.size=1):=by
 unfold DS at h
 cases b:P.underlying t with
 |none=>rw[b]at h;cases hi:P.info? t<;>rw[hi]at h<;>simp at h
 |some d=>
  cases hi:P.info? t with
  |none=>rw[b,hi]at h;cases d<;>simp at h
  |some i=>
   rw[b,hi]at h;refine⟨i,rfl, ?_, ?_⟩
   ·intro n c;subst c
    cases d<;>simp only[Ac]at h<;>first
     |exact h
     |(split at h<;>simp at h)
   ·intro c;subst c
    cases d<;>simp only[Ac,reduceCtorEq]at h<;>first
     |(split at h<;>first|assumption|cases h)
theorem XP{t:TypeId}{s:Option Nat}(b:DS P t=some s){cs:List CV}{vs:List Value}(d:RelL w M cs vs){off:Nat}{c:CV}(h:CR cs off s=some c):
  ∃v,(part t ⟨vs⟩ off).run P w=.ok v w/\RelC w M c v:=by
 have e:=XM b w;obtain⟨i,hi,l,_⟩:=Ajq b
 cases s with
 |none=>
  simp only[CR]at h;obtain⟨v,f,g⟩:=RelL.get d h;exact⟨v,by simp[part,e,f],g⟩
 |some n=>
  simp only[CR,Ae,Ac]at h;obtain⟨k,rfl⟩:=h;have j:=l n rfl;refine⟨.agg ⟨(vs.drop off).take n⟩, ?_,by unfold RelC;exact⟨_,rfl,(d.drop off).take n⟩⟩;simp[part,e,DC hi,j]
theorem XN{t:TypeId}{s:Option Nat}(f:DS P t=some s){cs:List CV}{vs:List Value}(e:RelL w M cs vs){d:Addr}(k:∀(j:Nat) u,vs[j]? =some u->w.cell? (d.add j)=some u)
  {off:Nat} {c:CV} (h:CR cs off s=some c):∃v,(loadVar t (d.add off)).run P w=.ok v w/\RelC w M c v:=by
 cases s with
 |none=>
  simp only[CR]at h;obtain⟨v,l,m⟩:=RelL.get e h;exact⟨v,(NF f (d.add off)).2 v rfl (k off v l),m⟩
 |some n=>
  simp only[CR,Ae,Ac]at h;obtain⟨p,rfl⟩:=h;have g:=RelL.length e;refine⟨.agg ⟨(vs.drop off).take n⟩,(NF f (d.add off)).1 n _ rfl (by simp;omega) fun j u b=> ?_,by unfold RelC;exact⟨_,rfl,(e.drop off).take n⟩⟩;rw[Ir];refine k _ u ?_;rw[List.getElem?_take]at b;split at b
  ·rw[List.getElem?_drop]at b;exact b
  ·cases b
theorem II(op:BinOp)(t:TypeId)(x y:Operand){va vb:Value}(h:(∀cs,va≠ .agg cs)/\va≠ .nilIface):(eqGuard op t x y va vb).run P w=.ok () w:=by
 unfold eqGuard;cases op<;>simp
 all_goals
  cases va<;>first|exact absurd rfl (h.1 _)|exact absurd rfl h.2|rfl
theorem IK{n:Int}{len i:Nat}(h:idxOf n len=some i):0<=n/\n<len/\i=n.toNat:=by
 unfold idxOf at h;split at h
 ·rename_i b;simp only[Ac]at h;exact⟨b.1,b.2,h.symm⟩
 ·cases h
theorem Nv{B:Nat}{e size n:Nat}{v:Value}{xs:List Value}(h:DO P w B e size v n xs)(f:0<n):
  ∃g cap b,v=.slice (some ⟨g,0,none⟩) n cap/\(∃ty d,w.heap[g]? =some (.cells b ty d))/\(∀(j:Nat) u,xs[j]? =some u->w.cell? ⟨g,j,none⟩=some u):=by
 rcases h.2 with h2|⟨g,cap,b,ty,d,e1,_,e3,_,_,_,_,_,e6⟩
 ·omega
 ·refine⟨g,cap,b,e1,⟨ty,d,e3⟩,fun j u c=> ?_⟩;rw[cell_of_row w g j b ty d e3];rw[<-e6,List.getElem?_take]at c;split at c
  ·simpa using c
  ·cases c
theorem YB(h:aC P G w M B z ob fr a)(y:∀id,rd id=.none\/rd id=ob id){t:TypeId}{x:Operand}{s:Option Nat}{sx:SO}(Q:DS P t=some s)(hx:A4 x=some sx){sv:SV}
  (b:Bb rd s (WB.deref rd (so G fr sx))=some sv):∃v,(Instr.loadAt t (a.eval x)).run P w=.ok v w/\AA w M z ob sv v:=by
 have m:=h.deref y (h.opd hx);generalize WB.deref rd (so G fr sx)=q at m b;cases q<;>(try simp only[Bb,reduceCtorEq]at b;done)
 case c O=>
  have d:∃cs,O=.rp cs\/O=.wp cs:=by
   cases O<;>first
    |exact⟨_,.inl rfl⟩
    |exact⟨_,.inr rfl⟩
    |(simp only[Bb,reduceCtorEq]at b;done)
  obtain⟨cs,d⟩:=d
  have m:RelC w M (.rp cs) (a.eval x):=by
   rcases d with rfl|rfl
   ·exact m
   ·exact RelC.of_wp m
  unfold RelC at m;obtain⟨ad,vs,e,_,_,W,hc⟩:=m
  have H:(CR cs 0 s).map SV.c=some sv:=by
   rcases d with rfl|rfl<;>cases s<;>exact b
  simp only[Aa]at H;obtain⟨c,Z,rfl⟩:=H;obtain⟨v,E,N⟩:=XN (P:=P) Q W hc Z;rw[add_zero]at E;exact⟨v,by simp[Instr.loadAt,Instr.sureAddr,e,E],N⟩
 case ptr id o=>
  obtain⟨C,g,e1,R⟩:=m;have K:=h.ob id;rcases y id with e|e
  ·simp only[Bb,e,reduceCtorEq]at b
  ·simp only[Bb,e]at b;cases f:ob id<;>rw[f]at b<;>(try simp only[reduceCtorEq]at b;done);rename_i cs;rw[f]at K;obtain⟨g',ty,vs,F,e4,r⟩:=K;rw[e1]at F;simp only[Value.pointer.injEq,Ac,Addr.mk.injEq,and_true]at F;subst F;have D:∀j,w.cell? ((⟨g,o,none⟩:Addr).add j)=vs[o+j]? :=fun j=>by rw[DY,Ui e4]
   cases s with
   |none=>
    obtain⟨v,E,N⟩:=AH.get r b;refine⟨v, ?_,N⟩;have:=(NF (w:=w) Q ⟨g,o,none⟩).2 v rfl (by rw[Ui e4];exact E);simp[Instr.loadAt,Instr.sureAddr,R,this]
   |some n=>
    simp only[Ae,Aa]at b;obtain⟨hle,l,W,rfl⟩:=b;have hlen:=AH.length r;have V:=AH.closed ((r.drop o).take n) W;refine⟨.agg ⟨(vs.drop o).take n⟩, ?_,by show RelC _ _ _ _;unfold RelC;exact⟨_,rfl,V⟩⟩
    have:=(NF (w:=w) Q ⟨g,o,none⟩).1 n ((vs.drop o).take n) rfl (by simp;omega) fun j u p=>by
     rw[D];rw[List.getElem?_take]at p;split at p
     ·rw[List.getElem?_drop]at p;exact p
     ·cases p
    simp[Instr.loadAt,Instr.sureAddr,R,this]
 case eptr id i size o=>
  obtain⟨C,g,n,c,e1,R⟩:=m;have K:=h.ob id;rcases y id with e|e
  ·simp only[Bb,e,reduceCtorEq]at b
  ·simp only[Bb,e]at b;cases f:ob id<;>rw[f]at b<;>(try simp only[reduceCtorEq]at b;done);rename_i et sz es;rw[f]at K;obtain⟨xs,J,hf⟩:=K;simp only[Ae,Ab,Aa]at b;obtain⟨rfl,el,L,O,d,rfl⟩:=b;obtain⟨v,U,hv2,S⟩:=GE hf L;have I:0<es.length:=by have:=(Af.1 L).1;omega
   obtain⟨g',cap,cur,F,_,k⟩:=Nv J I;rw[e1]at F;simp only[Value.slice.injEq,Ac,Addr.mk.injEq,and_true]at F;obtain⟨rfl,_⟩:=F;have X:RelL w M el.cells v.cells.toList:=RelC.cells U
   have A:CR el.cells o s=some O:=by
    cases el<;>exact d
   have Y:∀(j:Nat) u,v.cells.toList[j]? =some u->w.cell? ((⟨g,i*size,none⟩:Addr).add j)=some u:=fun j u p=>by
    rw[DY];exact k _ _ (S j u (by simpa using p))
   obtain⟨u,E,N⟩:=XN (P:=P) Q X Y A;rw[DY]at E;exact⟨u,by simp[Instr.loadAt,Instr.sureAddr,R,E],N⟩
end
theorem UM{kt:KT}{a b:CV}(h:bc kt a b=some true):a=b:=by
 cases kt<;>cases a<;>(try(simp only[bc,reduceCtorEq]at h;done))<;>cases b<;>(try(simp only[bc,reduceCtorEq]at h;done))<;>simp only[bc]at h
 ·simp only[Ae,Ac,beq_iff_eq]at h;rw[h.1,h.2]
 ·simp only[Ac,beq_iff_eq]at h;rw[h]
 ·simp only[Ac,beq_iff_eq]at h;rw[h]
theorem UO:∀{e:List KT} {d bs:List CV},bg e d bs=some true->d=bs
 | [],[],[],_=>rfl
 | [],_::_,_,h=>by simp[bg]at h
 | [],[],_::_,h=>by simp[bg]at h
 |_::_,[],_,h=>by simp[bg]at h
 |_::_,_::_,[],h=>by simp[bg]at h
 |t::e,a::d,b::bs,h=>by
  simp only[bg,Ab,Aa]at h;obtain⟨x,g,y,f,c⟩:=h;simp only[Ag]at c;obtain⟨rfl,rfl⟩:=c;rw[UM g,UO f]
theorem V3{o:Option Bool}(h:o.getD false=true):o=some true:=by
 cases o with
 |none=>simp at h
 |some r=>simp at h;rw[h]
theorem Aew{kt:KT}{a b:CV}(h:CC kt a b=true):a=b:=by
 unfold CC at h;split at h
 ·rw[UO (V3 h)]
 ·exact UM (V3 h)
theorem M3{kt:KT}{a:CV}(h:BT kt a=true):bc kt a a=some true:=by
 cases kt<;>cases a<;>simp[BT]at h<;>simp[bc]
theorem UP:∀{c:List KT} {b:List CV},Ca c b=true->bg c b b=some true
 | [],[],_=>rfl
 | [],_::_,h=>by simp[Ca]at h
 |_::_,[],h=>by simp[Ca]at h
 |t::c,a::b,h=>by
  simp only[Ca,Ag]at h;simp[bg,M3 h.1,UP h.2]
theorem Aex{kt:KT}{a:CV}(h:AR kt a=true):CC kt a a=true:=by
 cases kt with
 |struct ts=>
  cases a<;>(try simp[AR,BT]at h;done);simp only[AR]at h;simp[CC,UP h]
 |int k=>simp only[AR]at h;simp[CC,M3 h]
 |str=>simp only[AR]at h;simp[CC,M3 h]
 |bool=>simp only[AR]at h;simp[CC,M3 h]
theorem GV{kt:KT}{k:CV}:∀{ks:List CV} {i:Nat},AV kt k ks=some i->ks[i]? =some k
 | [],i,h=>by simp[AV]at h
 |c::cs,i,h=>by
  simp only[AV]at h;split at h
  ·rename_i b;simp only[Ac]at h;subst h;rw[Aew b];rfl
  ·simp only[Aa]at h;obtain⟨j,d,rfl⟩:=h;simpa using GV d
theorem IL{kt:KT}{k:CV}(b:AR kt k=true):∀{ks:List CV},AV kt k ks=none->k∉ks
 | [],_=>by simp
 |c::cs,h=>by
  simp only[AV]at h;split at h
  ·cases h
  ·rename_i d;simp only[Option.map_eq_none_iff]at h;have:=IL b h;simp only[List.mem_cons,not_or];exact⟨fun e=>d (by rw[<-e];exact Aex b),this⟩
theorem MJ{kt:KT}{k:CV}(d:AR kt k=true){ks:List CV}(b:ks.Nodup){i:Nat}(h:ks[i]? =some k):AV kt k ks=some i:=by
 cases hi:AV kt k ks with
 |none=>exact absurd (List.mem_of_getElem? h) (IL d hi)
 |some j=>
  have c:=GV hi;have e:=(Af.1 h).1
  congr 1
  exact((List.getElem?_inj e b).1 (h.trans c.symm)).symm
theorem MH{kt:KT}{k:CV}:∀{ks:List CV} {i:Nat},AV kt k ks=some i->i<ks.length
 | [],i,h=>by simp[AV]at h
 |c::cs,i,h=>by
  simp only[AV]at h;split at h
  ·simp only[Ac]at h;subst h;simp
  ·simp only[Aa]at h;obtain⟨j,b,rfl⟩:=h;have:=MH b;simp;omega
section
variable {P:Program} {G:Nat->List CV} {w0:WL} {M0:MM} {n:Nat} {st:St} {a:Act} {w w':World} {z:Cz}
theorem U0{M M':MM}{kt:KT}{c:CV}{u v:Value}(e:BT kt c=true)(d:RelC w M c u)(b:RelC w M' c v):u=v/\∀n,Instr.sameBits n u u=true:=by
 cases kt<;>cases c<;>simp[BT]at e
 ·rw[Cw d,Cw b];exact⟨rfl,fun n=>by simp[Instr.sameBits]⟩
 ·rw[Dy d,Dy b];exact⟨rfl,fun n=>by simp[Instr.sameBits,beq_toListBytes]⟩
 ·rw[Ee d,Ee b];exact⟨rfl,fun n=>by simp[Instr.sameBits]⟩
theorem U2{M M':MM}:∀{b:List KT} {cs:List CV} {us vs:List Value},Ca b cs=true->RelL w M cs us->RelL w M' cs vs->us=vs/\∀n,(us.zip us).all (fun(x,y)=>Instr.sameBits n x y)=true
 | [],[],us,vs,_,hu,hv=>by unfold RelL at hu hv;subst hu;subst hv;exact⟨rfl,fun n=>rfl⟩
 | [],_::_,_,_,h,_,_=>by simp[Ca]at h
 |_::_,[],_,_,h,_,_=>by simp[Ca]at h
 |t::b,c::cs,us,vs,h,hu,hv=>by
  simp only[Ca,Ag]at h;unfold RelL at hu hv;obtain⟨u,e,rfl,g,f⟩:=hu;obtain⟨v,d,rfl,k,j⟩:=hv;obtain⟨q,p⟩:=U0 h.1 g k;obtain⟨m,l⟩:=U2 h.2 f j;exact⟨by rw[q,m],fun n=>by simp[p n,l n]⟩
theorem Po{M M':MM}{kt:KT}{c:CV}{u v:Value}(e:AR kt c=true)(d:RelC w M c u)(b:RelC w M' c v):u=v/\∀n,Instr.sameBits (n+1) u u=true:=by
 unfold AR at e;split at e
 ·unfold RelC at d b;obtain⟨us,rfl,d⟩:=d;obtain⟨vs,rfl,b⟩:=b;obtain⟨g,f⟩:=U2 e d b;subst g;exact⟨rfl,fun n=>by simpa[Instr.sameBits]using f n⟩
 ·obtain⟨g,f⟩:=U0 e d b;exact⟨g,fun n=>f (n+1)⟩
theorem Yy{M M':MM}{kt:KT}{c:CV}{u v:Value}(e:AR kt c=true)(d:RelC w M c u)(b:RelC w M' c v)(w':World):(Instr.keyThatStays u v).run P w'=.ok v w':=by
 obtain⟨rfl,h⟩:=Po e d b;have:=h 9999;simp[Instr.keyThatStays,this]
theorem Mn{M M':MM}{kt:KT}{c d:CV}{v:Value}(g:BT kt c=true)(f:BT kt d=true)(e:RelC w M c v)(b:RelC w M' d v):c=d:=by
 cases kt<;>cases c<;>simp[BT]at g<;>cases d<;>simp[BT]at f
 ·have:=(Cw e).symm.trans (Cw b);simp only[Value.int.injEq]at this;rw[this.1,this.2]
 ·have:=(Dy e).symm.trans (Dy b);simp only[Value.string.injEq,ByteArray.mk.injEq,Array.mk.injEq]at this;rw[this]
 ·have:=(Ee e).symm.trans (Ee b);simp only[Value.bool.injEq]at this;rw[this]
theorem U1{M M':MM}:∀{f:List KT} {cs b:List CV} {us:List Value},Ca f cs=true->Ca f b=true->RelL w M cs us->RelL w M' b us->cs=b
 | [],[],[],_,_,_,_,_=>rfl
 | [],[],_::_,_,_,h,_,_=>by simp[Ca]at h
 | [],_::_,_,_,h,_,_,_=>by simp[Ca]at h
 |_::_,[],_,_,h,_,_,_=>by simp[Ca]at h
 |_::_,_::_,[],_,_,h,_,_=>by simp[Ca]at h
 |t::f,c::cs,d::b,us,h,h',hu,hv=>by
  simp only[Ca,Ag]at h h';unfold RelL at hu hv;obtain⟨u,j,rfl,l,k⟩:=hu;obtain⟨v,g,e,p,m⟩:=hv;simp only[List.cons.injEq]at e;obtain⟨rfl,rfl⟩:=e;rw[Mn h.1 h'.1 l p,U1 h.2 h'.2 k m]
theorem Aab{M M':MM}{kt:KT}{c d:CV}{v:Value}(f:AR kt c=true)(b:AR kt d=true)(h:RelC w M c v)(g:RelC w M' d v):c=d:=by
 cases kt with
 |struct ts=>
  cases c<;>(try simp[AR,BT]at f;done);cases d<;>(try simp[AR,BT]at b;done);simp only[AR]at f b;unfold RelC at h g;obtain⟨us,rfl,h⟩:=h;obtain⟨vs,e,g⟩:=g;simp only[Value.agg.injEq,Array.mk.injEq]at e;subst e;rw[U1 f b h g]
 |int k=>simp only[AR]at f b;exact Mn f b h g
 |str=>simp only[AR]at f b;exact Mn f b h g
 |bool=>simp only[AR]at f b;exact Mn f b h g
theorem QB{M:MM}{kt:KT}:∀{ks:List CV} {us:List Value},(∀k∈ks,AR kt k=true)->RelL w M ks us->us.Nodup->ks.Nodup
 | [],_,_,_,_=>by simp
 |k::ks,us,hc,h,hn=>by
  unfold RelL at h;obtain⟨u,d,rfl,g,c⟩:=h;rw[List.nodup_cons]at hn⊢;refine⟨fun f=>hn.1 ?_,QB (fun e b=>hc e (by simp[b])) c hn.2⟩;obtain⟨i,hi⟩:=List.mem_iff_getElem?.1 f;obtain⟨v,l,j⟩:=c.get hi;rw[(Po (hc k (by simp)) g j).1];exact List.mem_of_getElem? l
theorem RelL.getR{M:MM}:∀{cs:List CV} {vs:List Value} {i:Nat} {v:Value},RelL w M cs vs->vs[i]? =some v->∃c,cs[i]? =some c/\RelC w M c v
 | [],_,_,_,h,hi=>by unfold RelL at h;subst h;simp at hi
 |c::_,_,0,_,h,hi=>by
  unfold RelL at h;obtain⟨v,b,rfl,e,_⟩:=h;simp at hi;subst hi;exact⟨c,rfl,e⟩
 |_::_,_,i+1,_,h,hi=>by
  unfold RelL at h;obtain⟨v,b,rfl,_,d⟩:=h;simp only[List.getElem?_cons_succ]at hi⊢;exact RelL.getR d hi
theorem QC{M:MM}{kt:KT}:∀{ks:List CV} {us:List Value},(∀k∈ks,AR kt k=true)->RelL w M ks us->ks.Nodup->us.Nodup
 | [],_,_,h,_=>by unfold RelL at h;subst h;simp
 |k::ks,us,hc,h,hn=>by
  unfold RelL at h;obtain⟨u,f,rfl,l,e⟩:=h;rw[List.nodup_cons]at hn⊢;refine⟨fun j=>hn.1 ?_,QC (fun g d=>hc g (by simp[d])) e hn.2⟩;obtain⟨i,hi⟩:=List.mem_iff_getElem?.1 j;obtain⟨c,p,m⟩:=e.getR hi;have b:=List.mem_of_getElem? p;rw[Aab (hc k (by simp)) (hc c (by simp[b])) l m];exact b
end
theorem OB{ks vs:List CV}{i:Nat}{k v:CV}(c:ks[i]? =some k)(b:vs[i]? =some v):(ks.zip vs)[i]? =some (k,v):=by
 rw[List.getElem?_zip_eq_some];exact⟨c,b⟩
theorem MP.at_{ks vs c b:List CV}(h:MP ks vs c b){i:Nat}{k:CV}(hi:ks[i]? =some k):∃(j:Nat) (v:CV),vs[i]? =some v/\c[j]? =some k/\b[j]? =some v:=by
 have g:=(Af.1 hi).1;have e:vs[i]? =some (vs[i]'(by have:=h.1;omega)):=Aj _;have f:=List.mem_of_getElem? (OB hi e);obtain⟨j,d⟩:=List.mem_iff_getElem?.1 (h.2.2.mem_iff.2 f);rw[List.getElem?_zip_eq_some]at d;exact⟨j,_,e,d.1,d.2⟩
theorem MP.vs{ks vs c b:List CV}(h:MP ks vs c b):b.Perm vs:=by
 have:=h.2.2.map Prod.snd
 rwa [List.map_snd_zip (by have:=h.2.1;omega),List.map_snd_zip (by have:=h.1;omega)]at this
theorem MP.symm{ks vs c b:List CV}(h:MP ks vs c b):MP c b ks vs:=⟨h.2.1,h.1,h.2.2.symm⟩
theorem Qv{kt:KT}{zc:CV}{ks vs b c:List CV}(h:MP ks vs b c)(f:b.Nodup){k:CV}(e:AR kt k=true):AZ kt zc ks vs k=AZ kt zc b c k:=by
 unfold AZ
 cases hi:AV kt k ks with
 |none=>
  have d:k∉b:=fun g=>IL e hi (h.ks.mem_iff.1 g)
  cases l:AV kt k b with
  |none=>rfl
  |some j=>exact absurd (List.mem_of_getElem? (GV l)) d
 |some i=>
  obtain⟨j,v,d,p,m⟩:=h.at_ (GV hi);rw[MJ e f p];simp[List.getD,d,m]
theorem PW{kt:KT}{ks vs f p:List CV}(h:MP ks vs f p)(H:f.Nodup){k:CV}(D:AR kt k=true)(v:CV):MP (Bp kt ks k) (Bq kt ks vs k v) (Bp kt f k) (Bq kt f p k v):=by
 unfold Bp Bq
 cases hi:AV kt k ks with
 |none=>
  have r:k∉f:=fun g=>IL D hi (h.ks.mem_iff.1 g)
  cases J:AV kt k f with
  |none=>exact h.app k v
  |some j=>exact absurd (List.mem_of_getElem? (GV J)) r
 |some i=>
  have q:=GV hi;obtain⟨j,u,r,t,E⟩:=h.at_ q;rw[MJ D H t];refine⟨by simp[h.1],by simp[h.2.1], ?_⟩
  have d:∀(ks vs:List CV) (i:Nat),ks[i]? =some k->vs[i]? =some u->((ks.zip vs).set i (k,v))=ks.zip (vs.set i v):=by
   intro ks vs i F K;apply List.ext_getElem?;intro m;have I:=(Af.1 F).1;have s:=(Af.1 K).1;rw[List.getElem?_set];by_cases g:i=m
   ·subst g;simp only[if_true];rw[Ao (by simp;omega)];symm;exact OB F (by simp[s])
   ·rw[An g];simp only[List.zip_eq_zipWith,List.getElem?_zipWith,List.getElem?_set,An g]
  have b:∀(l:List (CV×CV)) (i:Nat) (x y:CV×CV),l[i]? =some x->(l.set i y).Perm (y::l.eraseIdx i):=by
   intro l
   induction l with
   |nil=>intro i x y h;simp at h
   |cons a l ih=>
    intro i x y h
    cases i with
    |zero=>simp
    |succ i=>
     simp only[List.getElem?_cons_succ]at h;simp only[List.set_cons_succ,List.eraseIdx_cons_succ];exact((ih i x y h).cons a).trans (.swap _ _ _)
  have c:∀(l:List (CV×CV)) (i:Nat) (x:CV×CV),l[i]? =some x->l.Perm (x::l.eraseIdx i):=by
   intro l i x h;have:=b l i x x h
   have e:l.set i x=l:=by
    apply List.ext_getElem?;intro m;rw[List.getElem?_set];by_cases g:i=m
    ·subst g;rw[Ao rfl,Ao (Af.1 h).1,h]
    ·rw[An g]
   rwa [e]at this
  rw[<-d ks vs i q r,<-d f p j t E];have C:=OB q r;have A:=OB t E;have e:=((c _ _ _ A).symm.trans h.2.2).trans (c _ _ _ C);exact((b _ _ _ (k,v) A).trans (e.cons_inv.cons _)).trans (b _ _ _ (k,v) C).symm
section
variable {G:Nat->List CV} {P:Program} {w:World} {M:MM} {B:Nat} {z:Cz} {ob rd:Nat->Ob} {fr:Nat->SV} {a:Act} {o:Oper}
theorem Akv(h:aC P G w M B z ob fr a)(H:∀id,rd id=.none\/rd id=ob id){t e:TypeId}{i:TypeInfo}(W:P.underlying t=some (.slice e))(hi:P.info? e=some i)
  {x V:Operand} {sx A:SO} (Y:A4 x=some sx) (L:A4 V=some A) {sv:SV} (b:Eu rd i.size (so G fr sx) (so G fr A)=some sv):
  ∃v,(Instr.indexAt t (a.eval x) (a.eval V)).run P w=.ok v w/\AA w M z ob sv v:=by
 have s:=h.opd Y;have d:=h.opd L;generalize so G fr sx=q at s b;generalize so G fr A=q2 at d b;cases q<;>(try simp only[Eu,reduceCtorEq]at b;done)
 case c cv=>
  cases cv<;>(try simp only[Eu,reduceCtorEq]at b;done);rename_i nl es;cases q2<;>(try simp only[Eu,reduceCtorEq]at b;done);rename_i S;cases S<;>(try simp only[Eu,reduceCtorEq]at b;done);rename_i k n;have Q:=Cw (w:=w) (M:=M) d;simp only[Eu,Ab,Ae,Ac]at b;obtain⟨j,K,el,r,E,rfl⟩:=b;obtain⟨O,N,rfl⟩:=IK K;unfold AA RelC at s;obtain⟨ad,len,c,R,e2,_,_,_,_,hE⟩:=s;have I:es≠ []:=by intro hh;subst hh;simp at r
  obtain⟨U,size,y,J,hm,hE⟩:=hE I;obtain⟨v,l,D,C⟩:=RelE.get hE r;have F:size=i.size:=by rw[<-D,l.cells_size,E]
  subst F;subst y;refine⟨.pointer (some (U.add (n.toNat*i.size))), ?_, ?_⟩
  ·subst e2;simp[Instr.indexAt,R,Q,asIntOf,run_underlying W,O,N,DC hi]
  ·show RelC _ _ _ _;unfold RelC;refine⟨_,v.cells.toList,rfl,by rw[DE];exact J,by rw[DE];exact hm,RelC.cells l,fun j u Z=> ?_⟩;rw[Ir];have:=C j u (by simpa using Z);rw[Nat.zero_add]at this;exact this
 case osl id=>
  cases q2<;>(try simp only[Eu,reduceCtorEq]at b;done);rename_i S;cases S<;>(try simp only[Eu,reduceCtorEq]at b;done);rename_i k n;have Q:=Cw (w:=w) (M:=M) d;obtain⟨f,R⟩:=s;have X:=h.ob id;rcases H id with e'|e'
  ·simp only[Eu,e',reduceCtorEq]at b
  ·simp only[Eu,e']at b;cases p:ob id<;>rw[p]at b<;>(try simp only[reduceCtorEq]at b;done);rename_i et sz es;rw[p]at X;obtain⟨xs,m,hf⟩:=X;simp only[Ae,Aa]at b;obtain⟨rfl,j,K,rfl⟩:=b;obtain⟨O,N,rfl⟩:=IK K;obtain⟨g,cap,cur,y,_,_⟩:=Nv m (by omega);refine⟨.pointer (some ((⟨g,0,none⟩:Addr).add (n.toNat*i.size))), ?_,f,g,es.length,cap,y,by rw[DY];simp⟩;simp[Instr.indexAt,R,y,Q,asIntOf,run_underlying W,O,N,DC hi]
theorem Akh(h:aC P G w M B z ob fr a){t e:TypeId}{i:TypeInfo}{len:Nat}(J:P.underlying t=some (.array len e))(hi:P.info? e=some i)
  {x H:Operand} {sx m:SO} (K:A4 x=some sx) (y:A4 H=some m) {sv:SV} (b:EA len i.size (so G fr sx) (so G fr m)=some sv):
  ∃v,(Instr.indexAt t (a.eval x) (a.eval H)).run P w=.ok v w/\AA w M z ob sv v:=by
 have l:=h.opd K;have d:=h.opd y;generalize so G fr sx=q at l b;generalize so G fr m=q2 at d b;cases q<;>(try simp only[EA,reduceCtorEq]at b;done)
 case c cv=>
  cases cv<;>(try simp only[EA,reduceCtorEq]at b;done);rename_i cs;cases q2<;>(try simp only[EA,reduceCtorEq]at b;done);rename_i F;cases F<;>(try simp only[EA,reduceCtorEq]at b;done);rename_i k n;have D:=Cw (w:=w) (M:=M) d;simp only[EA,Ae,Aa]at b;obtain⟨R,j,s,rfl⟩:=b;obtain⟨C,A,rfl⟩:=IK s;unfold AA RelC at l;obtain⟨Q,vs,E,r,L,p,N⟩:=l;refine⟨.pointer (some (Q.add (n.toNat*i.size))), ?_, ?_⟩
  ·simp[Instr.indexAt,Instr.sureAddr,E,D,asIntOf,run_underlying J,C,A,DC hi]
  ·show RelC _ _ _ _;unfold RelC;refine⟨_,vs.drop (n.toNat*i.size),rfl,by rw[DE];exact r,by rw[DE];exact L,p.drop _,fun j u I=> ?_⟩;rw[Ir];rw[List.getElem?_drop]at I;exact N _ u I
 case ptr id o=>
  cases q2<;>(try simp only[EA,reduceCtorEq]at b;done);rename_i F;cases F<;>(try simp only[EA,reduceCtorEq]at b;done);rename_i k n;have D:=Cw (w:=w) (M:=M) d;obtain⟨f,g,E,O⟩:=l;simp only[EA,Aa]at b;obtain⟨j,s,rfl⟩:=b;obtain⟨C,A,rfl⟩:=IK s;refine⟨.pointer (some ((⟨g,o,none⟩:Addr).add (n.toNat*i.size))), ?_,f,g,E,by rw[DY]⟩;simp[Instr.indexAt,Instr.sureAddr,O,D,asIntOf,run_underlying J,C,A,DC hi]
theorem Akr(h:aC P G w M B z ob fr a)(y:∀id,rd id=.none\/rd id=ob id){t:TypeId}{F:Array Field}{f:Nat}{fd:Field}{i:TypeInfo}(I:P.underlying t=some (.struct F))(K:F[f]? =some fd)(hi:P.info? fd.type=some i)(N:i.size≠0)
  {x:Operand} {sx:SO} (H:A4 x=some sx) {sv:SV} (d:A2 rd (so G fr) (.faddr fd.offset sx)=some sv):
  ∃v,(Instr.fieldAt t (a.eval x) f).run P w=.ok v w/\AA w M z ob sv v:=by
 have l:=h.deref y (h.opd H);simp only[A2]at d;generalize WB.deref rd (so G fr sx)=q at l d
 have run:∀p,a.eval x=.pointer (some p)->(Instr.fieldAt t (a.eval x) f).run P w=.ok (.pointer (some (p.add fd.offset))) w:=fun p e=>by
  simp[Instr.fieldAt,Instr.sureAddr,run_underlying I,K,e,fieldPlace,DC hi,N]
 cases q<;>(try simp only[reduceCtorEq]at d;done)
 case c cv=>
  have C:∃cs,RelC w M (.rp cs) (a.eval x)/\(if fd.offset<=cs.length then some (SV.c (CV.rp (List.drop fd.offset cs)))else none)=some sv:=by
   cases cv<;>first
    |exact⟨_,l,d⟩
    |exact⟨_,RelC.of_wp l,d⟩
    |(simp only[reduceCtorEq]at d;done)
  obtain⟨cs,l,d⟩:=C;simp only[Ae,Ac]at d;obtain⟨_,rfl⟩:=d;unfold RelC at l;obtain⟨p,vs,m,A,J,r,L⟩:=l;refine⟨_,run p m, ?_⟩;show RelC _ _ _ _;unfold RelC;refine⟨_,vs.drop fd.offset,rfl,by rw[DE];exact A,by rw[DE];exact J,r.drop _,fun j u E=> ?_⟩;rw[Ir];rw[List.getElem?_drop]at E;exact L _ u E
 case ptr id o=>
  simp only[Ac]at d;subst d;obtain⟨b,g,m,D⟩:=l;exact⟨_,run _ D,b,g,m,by rw[DY]⟩
 case eptr id k s o=>
  simp only[Ac]at d;subst d;obtain⟨b,g,n,c,m,D⟩:=l;exact⟨_,run _ D,b,g,n,c,m,by rw[DY];simp[Nat.add_assoc]⟩
theorem RA(h:aC P G w M B z ob fr a)(v:∀id,rd id=.none\/rd id=ob id){t ty:TypeId}{d:TypeDesc}{E:Nat}(p:P.underlying t=some d)
  (Q:(E=0/\d=.string)\/(E=1/\∃e,d=.slice e)\/(E=2/\∃k e,d=.map k e))
  {x:Operand} {sx:SO} (O:A4 x=some sx) {n:Int} (f:Da rd E (so G fr sx)=some n):(Builtin.len_ #[t] ty #[a.eval x]).run P w=.ok (.int .i64 n) w:=by
 have l:=h.opd O;generalize so G fr sx=q at l f;rcases Q with⟨rfl,rfl⟩|⟨rfl,e,rfl⟩|⟨rfl,k,e,rfl⟩
 ·cases q<;>(try simp only[Da,reduceCtorEq]at f;done);rename_i D;cases D<;>(try simp only[Da,reduceCtorEq]at f;done);simp only[Da,Ac]at f;subst f;have:=Dy (w:=w) (M:=M) l;rw[this];simp[Builtin.len_,run_underlying p,goInt];rfl
 ·cases q<;>(try simp only[Da,reduceCtorEq]at f;done)
  ·rename_i D;cases D<;>(try simp only[Da,reduceCtorEq]at f;done);simp only[Da,Ac]at f;subst f;unfold AA RelC at l;obtain⟨X,len,c,m,u,_⟩:=l;rw[m,u];simp[Builtin.len_,run_underlying p,goInt]
  ·rename_i id;obtain⟨s,m⟩:=l;have A:=h.ob id;rcases v id with e'|e'
   ·simp only[Da,e',reduceCtorEq]at f
   ·simp only[Da,e']at f;cases j:ob id<;>rw[j]at f<;>(try simp only[reduceCtorEq]at f;done);rename_i et sz es;rw[j]at A;obtain⟨xs,y,_⟩:=A;simp only[Ac]at f;subst f;rcases y.2 with⟨u,U⟩|⟨g,cap,V,_,_,u,_⟩
    ·rw[m,u,U];simp[Builtin.len_,run_underlying p,goInt]
    ·rw[m,u];simp[Builtin.len_,run_underlying p,goInt]
 ·cases q<;>(try simp only[Da,reduceCtorEq]at f;done)
  ·rename_i D;cases D<;>(try simp only[Da,reduceCtorEq]at f;done);rename_i W ks vs;simp only[Da,Ac]at f;subst f;unfold AA RelC at l;obtain⟨r,m,_,_,S,R⟩:=l;rw[m]
   cases r with
   |none=>
    have:=(S rfl).1;subst this;simp[Builtin.len_,run_underlying p,goInt]
   |some b=>
    obtain⟨_,J,ens',K,I,_,F,H,_⟩:=R b rfl;have C:=H.length;rw[List.length_map,F.length_eq]at C;simp[Builtin.len_,run_underlying p,goInt,getObj,Sem.run,I,C]
  ·rename_i id;obtain⟨s,m⟩:=l;have A:=h.ob id;rcases v id with e'|e'
   ·simp only[Da,e',reduceCtorEq]at f
   ·simp only[Da,e']at f;cases j:ob id<;>rw[j]at f<;>(try simp only[reduceCtorEq]at f;done);rw[j]at A;obtain⟨_,N,L,r,J,K,F,u,I,H,_⟩:=A;simp only[Ac]at f;subst f;have C:=H.length;rw[List.length_map,F.ks.length_eq]at C;rw[m,u];simp[Builtin.len_,run_underlying p,goInt,getObj,Sem.run,I,C]
theorem H8{dflt:Nat}{x:Option Operand}{sx:Option SO}(h:aC P G w M B z ob fr a)(d:Ef x=some sx){b:Nat}(c:C4 dflt (sx.map (so G fr))=some b):
  (x=none/\b=dflt)\/∃y k,x=some y/\a.eval y=.int k (b:Int):=by
 cases x with
 |none=>
  simp only[Ef,Ac]at d;subst d;simp only[Option.map_none,C4,Ac]at c;exact .inl ⟨rfl,c.symm⟩
 |some y=>
  simp only[Ef,Aa]at d;obtain⟨s,f,rfl⟩:=d;have e:=h.opd f;simp only[Aq]at c;generalize so G fr s=q at e c;cases q<;>(try simp only[C4,reduceCtorEq]at c;done);rename_i j;cases j<;>(try simp only[C4,reduceCtorEq]at c;done);rename_i k n;simp only[C4,Ae,Ac]at c;obtain⟨g,rfl⟩:=c;refine .inr ⟨y,k,rfl, ?_⟩;rw[Cw (w:=w) (M:=M) e,Int.toNat_of_nonneg g]
theorem XQ(d:Bool){len cap:Nat}{lo hi:Option Operand}{b c:Nat}(l:(hi=none/\c=len)\/∃y k,hi=some y/\a.eval y=.int k (c:Int))(j:(lo=none/\b=0)\/∃y k,lo=some y/\a.eval y=.int k (b:Int))
  (g:b<=c) (f:c<=cap):(Instr.sliceBounds d len cap (lo.map a.eval) (hi.map a.eval) none).run P w=.ok (b,c,cap) w:=by
 rcases l with⟨rfl,rfl⟩|⟨y,k,rfl,e⟩<;>rcases j with⟨rfl,rfl⟩|⟨m,p,rfl,h⟩
 ·simp[Instr.sliceBounds]
 ·simp[Instr.sliceBounds,Instr.sliceBound,h,asIntOf,g]
 ·simp[Instr.sliceBounds,Instr.sliceBound,e,asIntOf,f]
 ·simp[Instr.sliceBounds,Instr.sliceBound,e,h,asIntOf,g,f]
theorem Ak3(h:aC P G w M B z ob fr a){t:TypeId}(p:P.underlying t=some .string){x:Operand}{lo hi:Option Operand}{sx:SO}{sl k:Option SO}(m:A4 x=some sx)(g:Ef lo=some sl)(j:Ef hi=some k)
  {sv:SV} (d:A2 rd (so G fr) (.sslice sx sl k)=some sv):∃v,(Instr.sliceAt t (a.eval x) (lo.map a.eval) (hi.map a.eval) none).run P w=.ok v w/\AA w M z ob sv v:=by
 have l:=h.opd m;simp only[A2]at d;generalize so G fr sx=q at l d;cases q<;>(try simp only[reduceCtorEq]at d;done);rename_i D;cases D<;>(try simp only[reduceCtorEq]at d;done);rename_i s;simp only[Ab,Ae,Ac]at d;obtain⟨c,u,b,y,⟨C,A⟩,rfl⟩:=d;have e:=Dy (w:=w) (M:=M) l;have r:=XQ (P:=P) (w:=w) (a:=a) false (len:=s.length) (cap:=s.length) (H8 h j u) (H8 h g y) C A;refine⟨.string ((⟨⟨s⟩⟩:ByteArray).extract b c), ?_, ?_⟩
 ·have f:(⟨⟨s⟩⟩:ByteArray).size=s.length:=rfl;simp[Instr.sliceAt,Instr.slice,run_underlying p,e,f,r]
 ·show RelC _ _ _ _;unfold RelC;rw[ByteArray.extract_mk];have:(s.take c).drop b=(s.drop b).take (c-b):=by rw[List.drop_take]
  rw[this]
theorem Tw{M:MM}{w:World}:∀{cs:List CV} {vs:List Value},RelL w M cs vs->cs.all Kf=true->∀(j:Nat) (c:CV),cs[j]? =some c->∃v,vs[j]? =some v/\RelC w M c v/\v.cells= #[v]
 | [],_,_,_,j,c,h=>by simp at h
 |c0::cs,vs,hr,ha,j,c,h=>by
  unfold RelL at hr;obtain⟨v,d,rfl,b,e⟩:=hr;simp only[List.all_cons,Ag]at ha
  cases j with
  |zero=>
   simp only[List.getElem?_cons_zero,Ac]at h;subst h;refine⟨v,rfl,b, ?_⟩;have:=ha.1;cases c0<;>simp only[Kf,Ah]at this;unfold RelC at b;subst b;rfl
  |succ j=>exact Tw e ha.2 j c (by simpa using h)
theorem Akj(h:aC P G w M B z ob fr a){t e:TypeId}{i:TypeInfo}{n:Nat}(C:P.underlying t=some (.array n e))(hi:P.info? e=some i)(O:i.size=1){x:Operand}{sx:SO}(H:A4 x=some sx)
  {sv:SV} (b:A2 rd (so G fr) (.asl n sx)=some sv):∃v,(Instr.sliceAt t (a.eval x) none none none).run P w=.ok v w/\AA w M z ob sv v:=by
 have E:=h.opd H;simp only[A2]at b;generalize so G fr sx=q at E b;cases q<;>(try simp only[reduceCtorEq]at b;done);rename_i N;cases N<;>(try simp only[reduceCtorEq]at b;done);rename_i cs;simp only[Ae,Ac]at b;obtain⟨⟨d,m⟩,rfl⟩:=b;unfold AA RelC at E;obtain⟨s,vs,L,F,I,D,J⟩:=E;have p:P.arrayLen t=n:=by simp[Program.arrayLen,C]
 have l:P.elem t=e:=by simp[Program.elem,C]
 refine⟨.slice (some s) n n, ?_, ?_⟩
 ·rw[L,run_sliceAt_array_all w t s (by rw[p,l];exact C),p,l,DC hi];simp[slicedAt,add_zero]
 ·show RelC _ _ _ _;unfold RelC;refine⟨some s,n,n,rfl,d.symm,Nat.le_refl _,(fun f=>by cases f),(fun _ f=>by cases f),(fun f=>by cases f),fun _=>⟨s,1,rfl,F,I,F9 fun k K g=> ?_⟩⟩;obtain⟨v,A,y,c⟩:=Tw D m k K g;refine⟨v,y,by rw[c];rfl,fun j u r=> ?_⟩;rw[c]at r
  cases j with
  |zero=>
   simp only[List.getElem?_toArray,List.getElem?_cons_zero,Ac]at r;subst r;rw[Nat.mul_one,Nat.add_zero,Nat.zero_add];exact J k v A
  |succ j=>simp at r
theorem Ak0(h:aC P G w M B z ob fr a){t e:TypeId}{i:TypeInfo}(K:P.underlying t=some (.slice e))(hi:P.info? e=some i){x:Operand}{lo l:Option Operand}{sx:SO}{sl H:Option SO}(J:A4 x=some sx)(C:Ef lo=some sl)(D:Ef l=some H)
  {sv:SV} (g:A2 rd (so G fr) (.slice i.size sx sl H)=some sv):∃v,(Instr.sliceAt t (a.eval x) (lo.map a.eval) (l.map a.eval) none).run P w=.ok v w/\AA w M z ob sv v:=by
 have A:=h.opd J;simp only[A2]at g;generalize so G fr sx=q at A g;cases q<;>(try simp only[reduceCtorEq]at g;done);rename_i cv;cases cv<;>(try simp only[reduceCtorEq]at g;done);rename_i nl es;simp only[Ab,Ae,Ac]at g;obtain⟨c,Q,b,R,⟨⟨V,U⟩,S⟩,rfl⟩:=g;unfold AA RelC at A;obtain⟨F,n,cap,e1,e2,e3,Z,Y,X,W⟩:=A;subst e2;have r:=XQ (P:=P) (w:=w) (a:=a) true (len:=es.length) (cap:=cap) (H8 h D Q) (H8 h C R) V (Nat.le_trans U e3);refine⟨.slice (if cap=b then F else F.map (·.add (b*i.size))) (c-b) (cap-b), ?_, ?_⟩
 ·simp[Instr.sliceAt,Instr.slice,run_underlying K,e1,r,DC hi]
 ·show RelC _ _ _ _;unfold RelC;refine⟨_,_,_,rfl,by simp;omega,by omega,fun d=> ?_,fun d=> ?_,fun d=> ?_,fun k=> ?_⟩
  ·have:=Z d;subst this;split<;>rfl
  ·have:=Y d;split
   ·exact this
   ·intro L;exact this (by simpa using L)
  ·split at d
   ·rename_i O;omega
   ·have:F=none:=by simpa using d
    have:=X this;omega
  ·have m:es≠ []:=by
    intro d;subst d;simp at k
   obtain⟨E,size,rfl,f,N,hE⟩:=W m
   have I:b<c:=by
    rcases Nat.lt_or_ge b c with f|hge
    ·exact f
    ·exfalso;apply k;rw[List.drop_eq_nil_iff];simp;omega
   have y:size=i.size:=by
    obtain⟨j,p⟩:∃j,es[0]? =some j:=by
     cases es with
     |nil=>exact absurd rfl m
     |cons j es=>exact⟨j,rfl⟩
    obtain⟨v,u,s,_⟩:=RelE.get hE p
    have:Bk j=i.size:=by
     have:=As.1 S j (List.mem_of_getElem? p);simpa using this
    rw[<-s,u.cells_size,this]
   subst y;rw[An (by omega)];exact⟨E.add (b*i.size),i.size,rfl,by rw[DE];exact f,by rw[DE];exact N,Tq hE⟩
theorem Ahw{len cap:Nat}{lo:Option Operand}{hi d:Operand}{b c:Nat}{k e:IntKind}(g:a.eval hi=.int k (c:Int))(f:a.eval d=.int e (c:Int))(j:(lo=none/\b=0)\/∃y k,lo=some y/\a.eval y=.int k (b:Int))
  (l:b<=c) (h:c<=cap):(Instr.sliceBounds true len cap (lo.map a.eval) (some (a.eval hi)) (some (a.eval d))).run P w=.ok (b,c,c) w:=by
 rcases j with⟨rfl,rfl⟩|⟨p,e,rfl,m⟩
 ·simp[Instr.sliceBounds,Instr.sliceBound,g,f,asIntOf,h]
 ·simp[Instr.sliceBounds,Instr.sliceBound,g,f,m,asIntOf,l,h]
theorem Ak1(h:aC P G w M B z ob fr a){t e:TypeId}{i:TypeInfo}(W:P.underlying t=some (.slice e))(hi:P.info? e=some i){x:Operand}{lo:Option Operand}{f D:Operand}{sx E sm:SO}{sl:Option SO}(V:A4 x=some sx)(O:Ef lo=some sl)(Q:A4 f=some E)(L:A4 D=some sm)
  {sv:SV} (p:A2 rd (so G fr) (.slice3 i.size sx sl E sm)=some sv):∃v,(Instr.sliceAt t (a.eval x) (lo.map a.eval) (some (a.eval f)) (some (a.eval D))).run P w=.ok v w/\AA w M z ob sv v:=by
 have K:=h.opd V;simp only[A2]at p;generalize hq:so G fr sx=q at K p;cases q<;>(try simp only[reduceCtorEq]at p;done);rename_i cv;cases cv<;>(try simp only[reduceCtorEq]at p;done);rename_i nl es;simp only[Ab,Ae,Ac]at p;obtain⟨c,hc,m,N,b,hb,⟨⟨h1,h2,rfl⟩,h3⟩,rfl⟩:=p;unfold AA RelC at K;obtain⟨S,n,cap,e1,e2,e3,e4,e5,e6,e7⟩:=K;subst e2
 have l:∃k,a.eval f=.int k (c:Int):=by
  rcases H8 (x:=some f) (sx:=some E) (dflt:=es.length) h (by simp[Ef,Q]) (by simpa using hc)with⟨d,_⟩|⟨y,k,F,e⟩
  ·cases d
  ·cases F;exact⟨k,e⟩
 have g:∃k,a.eval D=.int k (c:Int):=by
  rcases H8 (x:=some D) (sx:=some sm) (dflt:=es.length) h (by simp[Ef,L]) (by simpa using N)with⟨d,_⟩|⟨y,k,F,e⟩
  ·cases d
  ·cases F;exact⟨k,e⟩
 obtain⟨k1,l⟩:=l;obtain⟨k2,g⟩:=g;have r:=Ahw (P:=P) (w:=w) (a:=a) (len:=es.length) (cap:=cap) l g (H8 h O hb) h1 (Nat.le_trans h2 e3);refine⟨.slice (if c=b then S else S.map (·.add (b*i.size))) (c-b) (c-b), ?_, ?_⟩
 ·simp[Instr.sliceAt,Instr.slice,run_underlying W,e1,r,DC hi]
 ·show RelC _ _ _ _;unfold RelC;refine⟨_,_,_,rfl,by simp;omega,Nat.le_refl _,fun d=> ?_,fun d=> ?_,fun d=> ?_,fun u=> ?_⟩
  ·have:=e4 d;subst this;split<;>rfl
  ·have:=e5 d;split
   ·exact this
   ·intro X;exact this (by simpa using X)
  ·split at d
   ·rename_i Z;omega
   ·have:S=none:=by simpa using d
    have:=e6 this;omega
  ·have A:es≠ []:=by
    intro d;subst d;simp at u
   obtain⟨R,size,rfl,j,Y,hE⟩:=e7 A
   have U:b<c:=by
    rcases Nat.lt_or_ge b c with j|hge
    ·exact j
    ·exfalso;apply u;rw[List.drop_eq_nil_iff];simp;omega
   have J:size=i.size:=by
    obtain⟨s,C⟩:∃s,es[0]? =some s:=by
     cases es with
     |nil=>exact absurd rfl A
     |cons s es=>exact⟨s,rfl⟩
    obtain⟨v,I,H,_⟩:=RelE.get hE C
    have:Bk s=i.size:=by
     have:=As.1 h3 s (List.mem_of_getElem? C);simpa using this
    rw[<-H,I.cells_size,this]
   subst J;rw[An (by omega)];exact⟨R.add (b*i.size),i.size,rfl,by rw[DE];exact j,by rw[DE];exact Y,Tq hE⟩
theorem Afm{kt:KT}{zc:CV}{ks vs:List CV}{b:List MapEntry}(m:RelL w M ks (b.map (·.key)))(g:RelL w M vs (b.map (·.val)))(k:CV):
  (AV kt k ks=none/\Ci b (AV kt k ks)=none/\AZ kt zc ks vs k=(zc,false))\/
  ∃i e c,AV kt k ks=some i/\b[i]? =some e/\Ci b (AV kt k ks)=some (i,e.val)/\AZ kt zc ks vs k=(c,true)/\RelC w M c e.val/\vs[i]? =some c:=by
 have j:=m.length;have h:=g.length;rw[List.length_map]at j h
 cases hi:AV kt k ks with
 |none=>exact .inl ⟨rfl,rfl,by simp[AZ,hi]⟩
 |some i=>
  have l:=MH hi;have hE:b[i]? =some (b[i]'(by omega)):=Aj _;have d:vs[i]? =some (vs[i]'(by omega)):=Aj _;obtain⟨v,f,p⟩:=RelL.get g d;rw[List.getElem?_map,hE]at f;simp only[Aq,Ac]at f;subst f;exact .inr ⟨i,_,_,rfl,hE,by simp[Ci,hE],by simp[AZ,hi,d],p,d⟩
theorem Lb{t:TypeId}{i:TypeInfo}{v:Value}(hi:P.info? t=some i)(b:i.zero=some v)(w:World):(zeroValue t).run P w=.ok v w:=by
 simp[zeroValue,typeInfo,hi,b]
theorem Qz{t:TypeId}{kt:KT}{zc:CV}(h:G3 P t=some (kt,zc)):∃b e i d,P.underlying t=some (.map b e)/\Fb P b=some kt/\P.info? e=some i/\i.zero=some d/\CM d=some zc:=by
 unfold G3 at h;split at h
 ·rename_i k e f;simp only[Ab,Aa,Prod.mk.injEq]at h;obtain⟨a,m,i,l,z,j,c,g,rfl,rfl⟩:=h;exact⟨k,e,i,z,f,m,l,j,g⟩
 ·cases h
theorem Akx(h:aC P G w M B z ob fr a)(Y:∀id,rd id=.none\/rd id=ob id){t:TypeId}{kt:KT}{zc:CV}(L:G3 P t=some (kt,zc)){x k:Operand}{sx sk:SO}(hx:A4 x=some sx)(hkx:A4 k=some sk)(ok:Bool)
  {c:CV} (f:Ey rd t kt zc ok (so G fr sx) (so G fr sk)=some c):
  ∃v,(Instr.lookup t (a.eval x) (a.eval k) ok).run P w=.ok v w/\RelC w M c v:=by
 have V:=h.opd hx;have y:=h.opd hkx;generalize so G fr sx=q at V f;generalize so G fr sk=q2 at y f;obtain⟨kty,e,i,U,ht,hk,hi,hz,W⟩:=Qz L;have zr:RelC w M zc U:=FI w M U zc W
 have av:∀(ks vs:List CV) (d:List MapEntry) (g:CV),RelC w M g (a.eval k)->AR kt g=true->RelL w M ks (d.map (·.key))->RelL w M vs (d.map (·.val))->(∀c∈ks,AR kt c=true)->
   (a.eval x=.map none/\d= []\/∃r m,a.eval x=.map (some r)/\w.heap[r]? =some (.map ⟨d⟩ m))->
   (if ok then CV.tup [(AZ kt zc ks vs g).1,.bool (AZ kt zc ks vs g).2]else(AZ kt zc ks vs g).1)=c->
   ∃v,(Instr.lookup t (a.eval x) (a.eval k) ok).run P w=.ok v w/\RelC w M c v:=by
  intro ks vs d g N D h1 h2 h3 h4 h5;have rc:=fun em=>Re (P:=P) hk em N D;have rf:=Rf (P:=P) hk N D h1 h3;have rz:=Lb (P:=P) hi hz w
  have base:∀r0,r0=Ci d (AV kt g ks)->∃v b,(match r0 with|some (_,v)=>(v,true)|none=>(U,false))=(v,b)/\RelC w M (AZ kt zc ks vs g).1 v/\b=(AZ kt zc ks vs g).2:=by
   rintro r0 rfl
   rcases Afm (kt:=kt) (zc:=zc) h1 h2 g with⟨_,E,S⟩|⟨i,en,c',_,_,E,S,e4,_⟩
   ·rw[E,S];exact⟨U,false,rfl,zr,rfl⟩
   ·rw[E,S];exact⟨en.val,true,rfl,e4,rfl⟩
  obtain⟨v,b,j,E,S⟩:=base _ rfl
  have run:(Instr.lookup t (a.eval x) (a.eval k) ok).run P w=.ok (if ok then .tuple #[v,.bool b]else v) w:=by
   rcases h4 with⟨ex,rfl⟩|⟨r,m,ex,O⟩
   ·rw[ex];simp only[Instr.lookup,Sem.run_bind,run_underlying ht,Result.andThen_ok,Sem.run_pure,rc,rf]
    cases Q:Ci [] (AV kt g ks)with
    |none=>rw[Q]at j;simp only[Prod.mk.injEq]at j;simp[rz,j]
    |some p=>rw[Q]at j;simp only[Prod.mk.injEq]at j;simp[j]
   ·rw[ex];simp only[Instr.lookup,Sem.run_bind,run_underlying ht,Result.andThen_ok,Sem.run_pure,getObj,Sem.run,O,rc,rf]
    cases Q:Ci d (AV kt g ks)with
    |none=>rw[Q]at j;simp only[Prod.mk.injEq]at j;simp[rz,j]
    |some p=>rw[Q]at j;simp only[Prod.mk.injEq]at j;simp[j]
  refine⟨_,run, ?_⟩;rw[<-h5];cases ok
  ·exact E
  ·show RelC _ _ (.tup _) _;unfold RelC;exact⟨_,rfl,RelL.cons E (RelL.cons (by rw[S];exact EI) RelL.nil)⟩
 cases q<;>(try simp only[Ey,reduceCtorEq]at f;done)
 case c cv=>
  cases cv<;>(try simp only[Ey,reduceCtorEq]at f;done);rename_i nl ks vs;cases q2<;>(try simp only[Ey,reduceCtorEq]at f;done);rename_i g;simp only[Ey,Ae,Ac,Ag]at f;obtain⟨⟨l,hc2⟩,f⟩:=f;unfold AA RelC at V;obtain⟨r,j,_,_,e4,e5⟩:=V;have R:∀c∈ks,AR kt c=true:=As.1 hc2
  cases r with
  |none=>
   obtain⟨rfl,rfl⟩:=e4 rfl;exact av [] [] [] g y l RelL.nil RelL.nil (fun _ h=>by cases h) (.inl ⟨j,rfl⟩) f
  |some b=>
   obtain⟨_,d,ens',m,O,hE,hp,hk0,X⟩:=e5 b rfl;obtain⟨u,F,A,C,H⟩:=X0 hp hk0 X;have s:∀c∈u,AR kt c=true:=fun c hc=>R c (A.ks.mem_iff.1 hc);have J:=f;rw[Qv A (QB s C hE.1) l]at J;exact av u F d g y l C H s (.inr ⟨b,m,j,O⟩) J
 case omap id=>
  cases q2<;>(try simp only[Ey,reduceCtorEq]at f;done);rename_i g;obtain⟨hlive,j⟩:=V;have ho:=h.ob id;rcases Y id with e'|e'
  ·simp only[Ey,e',reduceCtorEq]at f
  ·simp only[Ey,e']at f;cases K:ob id<;>rw[K]at f<;>(try simp only[reduceCtorEq]at f;done);rename_i mt' kt' z' ks vs;rw[K]at ho;obtain⟨I,u,F,r,d,m,A,E,O,C,H,D,Z,_⟩:=ho;simp only[Ae,Ac]at f;obtain⟨⟨rfl,l⟩,f⟩:=f;rw[L]at I;simp only[Ac,Prod.mk.injEq]at I;obtain⟨rfl,rfl⟩:=I;rw[Qv A Z l]at f;exact av u F d g y l C H D (.inr ⟨r,m,j.trans E,O⟩) f
end
section
variable {G:Nat->List CV} {P:Program} {w:World} {M:MM} {B:Nat} {z:Cz} {ob rd:Nat->Ob} {fr:Nat->SV} {a:Act} {o:Oper}
theorem PM:∀(vs:List Value) (cs:Array Value) (off k:Nat),off+k+vs.length<=cs.size->
  ((vs.zipIdx k).foldl (fun(cs:Array Value) (p:Value×Nat)=>cs.setIfInBounds (off+p.2) p.1) cs).toList=cs.toList.take (off+k)++vs++cs.toList.drop (off+k+vs.length)
 | [],cs,off,k,_=>by simp
 |v::vs,cs,off,k,h=>by
  simp only[List.zipIdx_cons,List.foldl_cons];rw[PM vs _ off (k+1) (by simpa using by simp at h;omega)];simp only[Array.toList_setIfInBounds,Au]at h⊢;have b:off+k<cs.toList.length:=by simp;omega
  have d:(cs.toList.set (off+k) v).take (off+(k+1))=cs.toList.take (off+k)++ [v]:=by
   rw[show off+(k+1)=off+k+1 by omega,List.take_succ_eq_append_getElem (by simpa using b)];simp only[List.getElem_set_self,List.take_set];rw[List.set_eq_of_length_le (by simp;omega)]
  have c:(cs.toList.set (off+k) v).drop (off+(k+1)+vs.length)=cs.toList.drop (off+k+(vs.length+1)):=by
   rw[List.drop_set_of_lt (by omega)]
   congr 1
   omega
  rw[d,c];simp
theorem XK(place:Nat->Option (Nat×Nat)):∀(b:List (Nat×Nat×CV)) (d:List Nat) (vs:List Value) (cs:List CV) (us:List Value) (r:List CV),
  d.length=b.length->vs.length=b.length->(∀(j:Nat) i p v,d[j]? =some i->b[j]? =some p->vs[j]? =some v->place i=some (p.1,p.2.1)/\RelC w M p.2.2 v)->
  RelL w M cs us->HK cs b=some r->∃rs:List Value,Instr.fill place ⟨us⟩ (d.zip vs)=some ⟨rs⟩/\RelL w M r rs
 | [],d,vs,cs,us,r,h1,h2,_,hl,g=>by
  simp only[HK,Ac]at g;subst g;have:d= []:=Aw h1;subst this;exact⟨us,rfl,hl⟩
 |p::b,[],vs,cs,us,r,h1,_,_,_,_=>by simp at h1
 |p::b,i::d,[],cs,us,r,_,h2,_,_,_=>by simp at h2
 |(off,size,c)::b,i::d,v::vs,cs,us,r,h1,h2,hp,hl,g=>by
  obtain⟨l,e⟩:=hp 0 i (off,size,c) v rfl rfl rfl;simp only[HK,Ae]at g;obtain⟨⟨t,u⟩,g⟩:=g;have f:v.cells.size=size:=by rw[e.cells_size,t]
  have h:=hl.length
  have q:(v.cells.zipIdx.foldl (fun(cs:Array Value) (p:Value×Nat)=>cs.setIfInBounds (off+p.2) p.1) (⟨us⟩:Array Value))=⟨us.take off++v.cells.toList++us.drop (off+size)⟩:=by
   apply Array.toList_inj.1;rw[<-Array.foldl_toList,Array.toList_zipIdx];have:=PM v.cells.toList ⟨us⟩ off 0 (by simp[f];omega);rw[this];simp[f]
  have m:RelL w M (cs.take off++c.cells++cs.drop (off+size)) (us.take off++v.cells.toList++us.drop (off+size)):=
   ((hl.take off).append e.cells).append (hl.drop _)
  obtain⟨rs,y,x⟩:=XK place b d vs _ _ r (by simpa using h1) (by simpa using h2) (fun j i p v hi k s=>hp (j+1) i p v (by simpa using hi) (by simpa using k) (by simpa using s)) m g;refine⟨rs, ?_,x⟩;simp only[List.zip_cons_cons,Instr.fill,l];rw[An (by simp[f,h];omega)];rw[<-y]
  congr 1
theorem Xd(h:aC P G w M B z ob fr a){pick:Nat->Option (Nat×Nat)}:∀{parts:List (Nat×Operand)} {b:List (Nat×Nat×SO)} {d:List (Nat×Nat×CV)},
  A5 (fun p:Nat×Operand=>(pick p.1).bind fun os=>(A4 p.2).map fun x=>(os.1,os.2,x)) parts=some b->
  A5 (fun p:Nat×Nat×SO=>(closed (so G fr p.2.2)).map fun v=>(p.1,p.2.1,v)) b=some d->
  ∃(e:List Nat) (vs:List Value),(parts.map fun p=>(p.1,a.eval p.2))=e.zip vs/\e.length=d.length/\vs.length=d.length/\
   (∀(j:Nat) i p v,e[j]? =some i->d[j]? =some p->vs[j]? =some v->pick i=some (p.1,p.2.1)/\RelC w M p.2.2 v)
 | [],b,d,h1,h2=>by
  simp only[A5,Ac]at h1;subst h1;simp only[A5,Ac]at h2;subst h2;exact⟨[],[],rfl,rfl,rfl,fun j i p v hi=>by simp at hi⟩
 |(i,x)::parts,b,d,h1,h2=>by
  simp only[A5,Ab,Aa]at h1;obtain⟨q,⟨os,y,sx,k,rfl⟩,H,l,rfl⟩:=h1;simp only[A5,Ab,Aa]at h2;obtain⟨p,⟨c,s,rfl⟩,t,f,rfl⟩:=h2;obtain⟨e,vs,F,E,D,C⟩:=Xd h l f
  have r:so G fr sx=.c c:=by
   cases A:so G fr sx<;>rw[A]at s<;>simp[closed]at s;rw[s]
  refine⟨i::e,a.eval x::vs,by simp[F],by simp[E],by simp[D],fun j u p v hi m g=> ?_⟩
  cases j with
  |zero=>
   simp at hi m g;subst hi;subst m;subst g;exact⟨y,h.c k r⟩
  |succ j=>exact C j u p v (by simpa using hi) (by simpa using m) (by simpa using g)
theorem Akl(h:aC P G w M B z ob fr a){t:TypeId}{i:TypeInfo}{u:Value}{zc:CV}{parts:Array (Nat×Operand)}{b:List (Nat×Nat×SO)}(hi:P.info? t=some i)(U:i.zero=some u)(D:CM u=some zc)
  (g:QL P t parts.toList=some b) {sv:SV} (K:A2 rd (so G fr) (.build zc.cells b)=some sv):
  ∃v,(Instr.build t (parts.map fun(i,x)=>(i,a.eval x))).run P w=.ok v w/\AA w M z ob sv v:=by
 simp only[A2,Ab,Aa]at K;obtain⟨Q,F,r,V,rfl⟩:=K;have O:RelL w M zc.cells u.cells.toList:=RelC.cells (FI w M u zc D);have J:=Lb (P:=P) hi U w
 have pick:∀(C:Nat->Option (Nat×Nat)),A5 (fun p:Nat×Operand=>(C p.1).bind fun os=>(A4 p.2).map fun x=>(os.1,os.2,x)) parts.toList=some b->
   ∃rs:List Value,Instr.fill C u.cells (parts.toList.map fun p=>(p.1,a.eval p.2))=some ⟨rs⟩/\RelL w M r rs:=by
  intro C m;obtain⟨R,vs,e1,Z,Y,X⟩:=Xd h m F;obtain⟨rs,y,A⟩:=XK C Q R vs zc.cells u.cells.toList r Z Y X O V;refine⟨rs, ?_,A⟩;rw[e1];exact y
 unfold QL at g;split at g
 ·rename_i d E;split at g
  ·cases g
  ·rename_i k
   have c:∀f∈d.toList,(P.info? f.type).isSome=true:=by
    cases N:(d.toList.all fun f=>(P.info? f.type).isSome)with
    |true=>exact As.1 N
    |false=>rw[N]at k;exact absurd rfl k
   have q:A5 (fun p:Nat×Operand=>(((d[p.1]?).bind fun f=>(P.info? f.type).map fun i=>(f.offset,i.size))).bind fun os=>(A4 p.2).map fun x=>(os.1,os.2,x)) parts.toList=some b:=by
    rw[<-g]
    congr 1
    funext p
    cases d[p.1]? with
    |none=>rfl
    |some f=>simp only[Ap];cases P.info? f.type<;>rfl
   obtain⟨rs,y,A⟩:=pick (fun i=>((d[i]?).bind fun f=>(P.info? f.type).map fun i=>(f.offset,i.size))) q
   have W:∀l:List Field,(∀f∈l,(P.info? f.type).isSome=true)->(l.mapM (fun(f:Field)=>Prod.mk f.offset<$>Go.sizeOf f.type)).run P w=.ok (l.map fun f=>(f.offset,P.cellsOf f.type)) w:=by
    intro l
    induction l with
    |nil=>intro _;rfl
    |cons f l ih=>
     intro L;obtain⟨S,j⟩:=Option.isSome_iff_exists.1 (L f (by simp));rw[List.mapM_cons];simp[DC j,Program.cellsOf,j,ih (fun f I=>L f (by simp[I]))]
   have H:(d.mapM (fun(f:Field)=>Prod.mk f.offset<$>Go.sizeOf f.type)).run P w=.ok (d.map fun f=>(f.offset,P.cellsOf f.type)) w:=by
    rw[Array.mapM_eq_mapM_toList];simp[W d.toList c];apply Array.toList_inj.1;simp
   have m:(fun(i:Nat)=>((d[i]?).bind fun(f:Field)=>(P.info? f.type).map fun i=>(f.offset,i.size)))=fun i=>(d[i]?).map fun(f:Field)=>(f.offset,P.cellsOf f.type):=by
    funext i
    cases I:d[i]? with
    |none=>rfl
    |some f=>
     obtain⟨S,j⟩:=Option.isSome_iff_exists.1 (c f (by simpa using Array.mem_of_getElem? I));simp[j,Program.cellsOf]
   rw[m]at y;refine⟨.agg ⟨rs⟩, ?_,by show RelC _ _ _ _;unfold RelC;exact⟨rs,rfl,A⟩⟩;simp[Instr.build,J,run_underlying E,H,y]
 ·rename_i n e E
  cases s:P.info? e with
  |none=>rw[s]at g;cases g
  |some ie=>
   rw[s]at g;have q:A5 (fun p:Nat×Operand=>((fun i=>some (i*ie.size,ie.size)) p.1).bind fun os=>(A4 p.2).map fun x=>(os.1,os.2,x)) parts.toList=some b:=g;obtain⟨rs,y,A⟩:=pick (fun i=>some (i*ie.size,ie.size)) q;refine⟨.agg ⟨rs⟩, ?_,by show RelC _ _ _ _;unfold RelC;exact⟨rs,rfl,A⟩⟩;simp[Instr.build,J,run_underlying E,DC s,y]
 ·cases g
end
section
variable {G:Nat->List CV} {P:Program} {w:World} {M:MM} {B:Nat} {z:Cz} {ob rd:Nat->Ob} {fr:Nat->SV} {a:Act} {o:Oper}
theorem Wx(b:Bool):∀(l:List CV) (vs:List Value) (c r:CV) (v:Value),RelC w M c v->RelL w M l vs->l.foldlM (HV b) c=some r->
  ∃u,(vs.foldlM (if b then Builtin.max2 else Builtin.min2) v).run P w=.ok u w/\RelC w M r u
 | [],vs,c,r,v,hc,hl,h=>by
  unfold RelL at hl;subst hl;simp only[List.foldlM_nil]at h;cases h;exact⟨v,rfl,hc⟩
 |d::l,vs,c,r,v,hc,hl,h=>by
  unfold RelL at hl;obtain⟨u,us,rfl,j,g⟩:=hl;rw[List.foldlM_cons]at h;simp only[Option.bind_eq_bind,Ab]at h;obtain⟨e,f,h⟩:=h;cases c<;>(try simp only[HV,reduceCtorEq]at f;done);cases d<;>(try simp only[HV,reduceCtorEq]at f;done);simp only[HV,Ae,Ac]at f;obtain⟨rfl,rfl⟩:=f;have t:=Cw hc;have s:=Cw j;subst t;subst s;rename_i k n m
  have step:((if b then Builtin.max2 else Builtin.min2) (.int k n) (.int k m)).run P w=.ok (.int k (if b then max n m else min n m)) w:=by
   cases b
   ·simp only[Ah,if_false,Builtin.min2,Sem.run_pure]
    congr 2
    omega
   ·simp only[if_true,Builtin.max2,Sem.run_pure]
    congr 2
    omega
  obtain⟨u,q,p⟩:=Wx b l us _ r _ (E4 (w:=w) (M:=M)) g h;refine⟨u, ?_,p⟩;rw[List.foldlM_cons];simp only[Sem.run_bind,step,Result.andThen_ok];exact q
theorem YC(h:aC P G w M B z ob fr a){d:Bool}{args:Array Operand}{l:List SO}(p:A5 A4 args.toList=some l){sv:SV}(b:A2 rd (so G fr) (.minmax d l)=some sv)(at_:Array TypeId)(ty:TypeId):
  ∃v,((if d then Builtin.max_ else Builtin.min_) at_ ty (args.map a.eval)).run P w=.ok v w/\AA w M z ob sv v:=by
 simp only[A2,Ab]at b;obtain⟨cs,j,b⟩:=b;have k:=Ns h.fr h.glob p j
 cases cs with
 |nil=>cases b
 |cons c cs=>
  simp only[Aa]at b;obtain⟨r,g,rfl⟩:=b;unfold RelL at k;obtain⟨v,vs,e,s,q⟩:=k;obtain⟨u,f,t⟩:=Wx (P:=P) d cs vs c r v s q g;refine⟨u, ?_,t⟩;have m:(args.map a.eval).toList=v::vs:=by rw[Array.toList_map];exact e
  cases d
  ·simp only[Ah,if_false,Builtin.min_,m]at f⊢;exact f
  ·simp only[if_true,Builtin.max_,m]at f⊢;exact f
theorem Af8{d:TypeDesc}{y:Operand}{b:Nat}(h:KC d y=some b):
  (b=1/\(∃e,d=.slice e)/\y=.const (.slice none 0 0))\/(b=2/\(∃k e,d=.map k e)/\y=.const (.map none))\/(b=3/\(∃ms,d=.interface ms)/\y=.const .nilIface):=by
 unfold KC at h;split at h<;>simp only[Ac,reduceCtorEq]at h<;>subst h
 ·exact .inl ⟨rfl,⟨_,rfl⟩,rfl⟩
 ·exact .inr (.inl ⟨rfl,⟨_,_,rfl⟩,rfl⟩)
 ·exact .inr (.inr ⟨rfl,⟨_,rfl⟩,rfl⟩)
theorem NG{op:BinOp}(d:op=.eql\/op=.neq){t:TypeId}{x y:Operand}{va vb:Value}{b:Bool}(g:(eqGuard op t x y va vb).run P w=.ok () w)(h:∀n,(Op.equalIn (n+1) t va vb).run P w=.ok b w)
  (f:binOp .eql t va vb=(do pure (.bool (<-Op.equal t va vb)))) (e:binOp .neq t va vb=(do pure (.bool (!(<-Op.equal t va vb))))):
  (do eqGuard op t x y va vb;binOp op t va vb:Sem Value).run P w=.ok (.bool (if DM op then !b else b)) w:=by
 have c:=h 9999;rcases d with rfl|rfl
 ·simp[g,f,Op.equal,Op.maxDepth,c,DM]
 ·simp[g,e,Op.equal,Op.maxDepth,c,DM]
theorem Akw(h:aC P G w M B z ob fr a){op:BinOp}{t:TypeId}{d:TypeDesc}(m:P.underlying t=some d)(g:op=.eql\/op=.neq){x y:Operand}{D:Nat}(I:KC d y=some D){sx:SO}(J:A4 x=some sx)
  {sv:SV} (f:A2 rd (so G fr) (.isnil D (DM op) sx)=some sv):
  ∃v,(do eqGuard op t x y (a.eval x) (a.eval y);binOp op t (a.eval x) (a.eval y):Sem Value).run P w=.ok v w/\AA w M z ob sv v:=by
 have j:=h.opd J;simp only[A2]at f;generalize so G fr sx=q at j f;rcases Af8 I with⟨rfl,⟨e,rfl⟩,rfl⟩|⟨rfl,⟨k,e,rfl⟩,rfl⟩|⟨rfl,⟨ms,rfl⟩,rfl⟩
 ·cases q<;>(try simp only[reduceCtorEq]at f;done);rename_i p;cases p<;>(try simp only[reduceCtorEq]at f;done);rename_i s es;cases s<;>(try simp only[reduceCtorEq]at f;done);rename_i b;simp only[Ac]at f;subst f;unfold AA RelC at j;obtain⟨E,n,c,C,_,_,A,u,_⟩:=j;rw[C];refine⟨_,NG g (b:=b) (II op t x _ ⟨(fun _ l=>by cases l),(fun l=>by cases l)⟩) (fun n=> ?_) (by rfl) (by rfl),EI (w:=w) (M:=M)⟩
  cases E with
  |none=>
   cases b with
   |true=>simp[Op.equalIn,run_underlying m,Act.eval]
   |false=>exact absurd rfl (u rfl)
  |some E=>
   cases b with
   |true=>have:=A rfl;cases this
   |false=>simp[Op.equalIn,run_underlying m,Act.eval]
 ·cases q<;>(try simp only[reduceCtorEq]at f;done);rename_i p;cases p<;>(try simp only[reduceCtorEq]at f;done);rename_i s ks vs;cases s<;>(try simp only[reduceCtorEq]at f;done);rename_i b;simp only[Ac]at f;subst f;unfold AA RelC at j;obtain⟨r,C,A,u,_⟩:=j;rw[C];refine⟨_,NG g (b:=b) (II op t x _ ⟨(fun _ l=>by cases l),(fun l=>by cases l)⟩) (fun n=> ?_) (by rfl) (by rfl),EI (w:=w) (M:=M)⟩
  cases r with
  |none=>
   cases b with
   |true=>simp[Op.equalIn,run_underlying m,Act.eval]
   |false=>exact absurd rfl (u rfl)
  |some r=>
   cases b with
   |true=>have:=A rfl;cases this
   |false=>simp[Op.equalIn,run_underlying m,Act.eval]
 ·cases q<;>(try simp only[reduceCtorEq]at f;done);rename_i p;cases p<;>(try simp only[reduceCtorEq]at f;done);all_goals simp only[Ac]at f
  ·subst f;unfold AA RelC at j;rw[j];have:=NG (P:=P) (w:=w) g (t:=t) (x:=x) (y:=.const .nilIface) (va:=.nilIface) (vb:=.nilIface) (b:=true) (by rcases g with rfl|rfl<;>simp[eqGuard]) (fun n=>by simp[Op.equalIn,run_underlying m]) (by rfl) (by rfl);refine⟨_,this, ?_⟩;rcases g with rfl|rfl<;>exact EI (w:=w) (M:=M)
  ·subst f;unfold AA RelC at j;obtain⟨H,F,j⟩:=j;rw[j];have:=NG (P:=P) (w:=w) g (t:=t) (x:=x) (y:=.const .nilIface) (va:=.iface H F) (vb:=.nilIface) (b:=false) (II op t x _ ⟨(fun _ l=>by cases l),(fun l=>by cases l)⟩) (fun n=>by simp[Op.equalIn,run_underlying m]) (by rfl) (by rfl);refine⟨_,this, ?_⟩;rcases g with rfl|rfl<;>exact EI (w:=w) (M:=M)
theorem Akq(h:aC P G w M B z ob fr a){x:Operand}{i:Nat}{sx:SO}(l:A4 x=some sx){sv:SV}(d:A2 rd (so G fr) (.ext sx i)=some sv):
  ∃v,(Instr.extract (a.eval x) i).run P w=.ok v w/\AA w M z ob sv v:=by
 have g:=h.opd l;simp only[A2]at d;generalize so G fr sx=q at g d;cases q<;>(try simp only[reduceCtorEq]at d;done)
 ·rename_i C;cases C<;>(try simp only[reduceCtorEq]at d;done);simp only[Aa]at d;obtain⟨c,p,rfl⟩:=d;unfold AA RelC at g;obtain⟨vs,e,m⟩:=g;obtain⟨v,j,r⟩:=m.get p;exact⟨v,by rw[e];simp[Instr.extract,j],r⟩
 ·rename_i id k c;obtain⟨f,b,u,A,y,t⟩:=g;rw[y];change(if i=0 then some (SV.c c)else if i=1 then some (SV.stamp id k)else none)=some sv at d;split at d
  ·rename_i s;subst s;simp only[Ac]at d;subst d;exact⟨u,by simp[Instr.extract],t⟩
  ·split at d
   ·rename_i _ j;subst j;simp only[Ac]at d;subst d;exact⟨.int .i64 b,by simp[Instr.extract],f,b,A,rfl⟩
   ·cases d
theorem Akz(h:aC P G w M B z ob fr a){t:TypeId}(u:P.underlying t=some .string){x l:Operand}{sx e:SO}(r:A4 x=some sx)(g:A4 l=some e){sv:SV}(c:A2 rd (so G fr) (.sidx sx e)=some sv):
  ∃v,(Instr.index t (a.eval x) (a.eval l)).run P w=.ok v w/\AA w M z ob sv v:=by
 have m:=h.opd r;have d:=h.opd g;simp only[A2]at c;generalize so G fr sx=q at m c;generalize so G fr e=q2 at d c;split at c
 ·rename_i s k n;simp only[Ab,Aa]at c;obtain⟨j,y,b,p,rfl⟩:=c;obtain⟨A,F,rfl⟩:=IK y;have E:=Dy (w:=w) (M:=M) m;have D:=Cw (w:=w) (M:=M) d
  have C:(⟨⟨s⟩⟩:ByteArray)[n.toNat]? =some b:=by
   have f:n.toNat<(⟨⟨s⟩⟩:ByteArray).size:=by show n.toNat<s.length;omega
   rw[ByteArray.getElem?_lt' _ _ f];have:s[n.toNat]? =some (s[n.toNat]'(by omega)):=Aj _;rw[this]at p;rw[<-p];rfl
  exact⟨_,by rw[E,D];simp[Instr.index,asIntOf,run_underlying u,A,C],E4 (w:=w) (M:=M)⟩
 ·cases c
theorem Aki(h:aC P G w M B z ob fr a){t e:TypeId}{n:Nat}{i:TypeInfo}{s:Option Nat}(u:P.underlying t=some (.array n e))(hi:P.info? e=some i)(y:DS P e=some s)
  {x p:Operand} {sx f:SO} (r:A4 x=some sx) (l:A4 p=some f) {sv:SV} (b:A2 rd (so G fr) (.aidx n i.size s sx f)=some sv):
  ∃v,(Instr.index t (a.eval x) (a.eval p)).run P w=.ok v w/\AA w M z ob sv v:=by
 have g:=h.opd r;have d:=h.opd l;simp only[A2]at b;generalize so G fr sx=q at g b;generalize so G fr f=q2 at d b;split at b
 ·rename_i cs k m;simp only[Ab,Aa]at b;obtain⟨j,C,c,D,rfl⟩:=b;obtain⟨F,E,rfl⟩:=IK C;unfold AA RelC at g;obtain⟨vs,K,A⟩:=g;have J:=Cw (w:=w) (M:=M) d;obtain⟨v,I,H⟩:=XP (P:=P) y A D;exact⟨v,by rw[K,J];simp[Instr.index,asIntOf,run_underlying u,F,E,DC hi,I],H⟩
 ·cases b
end
end WB
