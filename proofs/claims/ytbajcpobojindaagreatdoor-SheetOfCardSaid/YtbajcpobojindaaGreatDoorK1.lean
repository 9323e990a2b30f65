/-
  OWN TEXTS, MERGED (wip/merge.py): CoreA, CoreB, CoreC, CoreD, CoreE, CoreF, CoreG, CoreH, CoreHb, CoreI, CoreJ, CoreK. No condition of their own.
-/
import Derived.WalkKit
import Derived.Deep.Draws
import Derived.Lib.FrozenHead
import Derived.Lib.Strings
set_option linter.unusedVariables false
set_option linter.unusedSimpArgs false
open Go.IntKind (i64 u64 u8 u32)
namespace WB
theorem Aa {α β : Type _} {b : β} {x : Option α} {f : α → β} : Option.map f x = some b ↔ ∃ a, x = some a ∧ f a = b := Option.map_eq_some_iff
theorem Ab {α β : Type _} {b : β} {x : Option α} {f : α → Option β} : x.bind f = some b ↔ ∃ a, x = some a ∧ f a = some b := Option.bind_eq_some_iff
theorem Ac {α : Type _} (a b : α) : (some a = some b) = (a = b) := Option.some.injEq a b
theorem Ad {α : Type _} {a : α} {p : Prop} {_ : Decidable p} {b : Option α} : (if p then b else none) = some a ↔ p ∧ b = some a := Option.ite_none_right_eq_some
theorem Ae {α : Type _} {i : Nat} {a : α} {l : List α} : l[i]? = some a ↔ ∃ h : i < l.length, l[i] = a := List.getElem?_eq_some_iff
theorem Af (a b : Bool) : ((a && b) = true) = (a = true ∧ b = true) := Bool.and_eq_true a b
theorem Ag : (false = true) = False := Bool.false_eq_true
theorem Ah {n m : Nat} (h : n.ble m = true) : n ≤ m := Nat.le_of_ble_eq_true h
theorem Ai {α : Type _} {l : List α} {i : Nat} (h : i < l.length) : l[i]? = some l[i] := List.getElem?_eq_getElem h
theorem Aj (a b : Bool) : ((a || b) = true) = (a = true ∨ b = true) := Bool.or_eq_true a b
theorem Ak {p : Prop} [Decidable p] (h : ¬p) : decide p = false := decide_eq_false h
theorem Al {p : Prop} [Decidable p] (h : p) : decide p = true := decide_eq_true h
open Go Go.RowKit
inductive CV where
 |int (k:IntKind) (n:Int)
 |bool (b:Bool)
 |str (s:List UInt8)
 |agg (cs:List CV)
 |sl (nl:Option Bool) (es:List CV)
 |map (nl:Option Bool) (ks vs:List CV)
 |rp (cs:List CV)
 |wp (cs:List CV)
 |fn (f:FuncId) (caps:List CV)
 |tup (cs:List CV)
 |nilif
 |nilfn
 |ifc
 |adr (b:Nat)
 |nilp
 |nam (N:Nat)
 |bptr (N:Nat)
structure MM where
 p:Nat→Prop
 al:Nat→Nat
instance :CoeFun MM (fun _=>Nat→Prop):=⟨MM.p⟩
@[reducible] def noM:MM:=⟨fun _=>False,fun _=>0⟩
def CV.cells:CV→List CV
 | .agg cs=>cs
 |v=> [v]
def Ens(ens:List MapEntry)(clk:Nat):Prop:=(ens.map (·.key)).Nodup∧(∀en:MapEntry,en∈ens→en.born<clk)∧(ens.map (·.born)).Nodup
def FM:Nat:=1048576
def DF(f:Nat):Option Nat:=if Nat.ble FM f=true then some (f-FM)else none
theorem XB(f:Nat):DF (FM+f)=some f:=by
 unfold DF;rw[if_pos (Nat.ble_eq_true_of_le (Nat.le_add_right _ _)),Nat.add_sub_cancel_left]
theorem RU{f:Nat}(h:Nat.blt f FM=true):DF f=none:=by
 unfold DF;rw[if_neg];intro hh;have h1:=Ah h;have h2:=Ah hh;omega
def FnV(f:Nat)(vs:List Value)(v:Value):Prop:=match DF f with
 |none=>v=.func (.func f) #[] ⟨vs⟩
 |some g=>∃r,vs= [r]∧v=.func (.func g) #[r] #[]
theorem FnV.cells{f:Nat}{vs:List Value}{v:Value}(h:FnV f vs v):v.cells= #[v]:=by
 unfold FnV at h;split at h
 ·subst h;rfl
 ·obtain⟨r,_,rfl⟩:=h;rfl
mutual
def RelC(w:World)(M:MM):CV→Value→Prop
 | .int k n,v=>v=.int k n
 | .bool b,v=>v=.bool b
 | .str s,v=>v=.string ⟨⟨s⟩⟩
 | .agg cs,v=>∃vs:List Value,v=.agg ⟨vs⟩∧RelL w M cs vs
 | .sl nl es,v=>∃a n c,v=.slice a n c∧n=es.length∧n≤c∧(nl=some true→a=none)∧(nl=some false→a≠none)∧(a=none→c=0)∧
   (es≠ []→∃ad size,a=some ad∧ad.block<w.heap.size∧¬M ad.block∧Bo w M ad size 0 es)
 | .map nl ks vs,v=>∃r,v=.map r∧(nl=some true→r=none)∧(nl=some false→r≠none)∧(r=none→ks= []∧vs= [])∧
   ∀b,r=some b→¬M b∧∃(ens ens':List MapEntry) (clk:Nat),w.heap[b]? =some (.map ⟨ens⟩ clk)∧Ens ens clk∧ens'.Perm ens∧RelL w M ks (ens'.map (·.key))∧RelL w M vs (ens'.map (·.val))
 | .rp cs,v=>∃(ad:Addr) (vs:List Value),v=.pointer (some ad)∧ad.block<w.heap.size∧¬M ad.block∧RelL w M cs vs∧∀(j:Nat) u,vs[j]? =some u→w.cell? (ad.add j)=some u
 | .wp cs,v=>∃(g:Nat) (ty:TypeId) (vs:List Value),v=.pointer (some ⟨g,0,none⟩)∧w.heap[g]? =some (.cells ⟨vs⟩ ty (0,0))∧¬M g∧RelL w M cs vs
 | .fn f caps,v=>∃vs:List Value,FnV f vs v∧RelL w M caps vs
 | .tup cs,v=>∃vs:List Value,v=.tuple ⟨vs⟩∧RelL w M cs vs
 | .nilif,v=>v=.nilIface
 | .nilfn,v=>v=.nilFunc
 | .ifc,v=>∃t x,v=.iface t x
 | .adr b,v=>v=.pointer (some ⟨b,0,none⟩)
 | .nilp,v=>v=.pointer none
 | .nam N,v=>v=.pointer (some ⟨M.al N,0,none⟩)
 | .bptr N,v=>v=.pointer none∨v=.pointer (some ⟨M.al N,0,none⟩)
def RelL(w:World)(M:MM):List CV→List Value→Prop
 | [],vs=>vs= []
 |c::cs,vs=>∃v vs',vs=v::vs'∧RelC w M c v∧RelL w M cs vs'
def Bo(w:World)(M:MM)(ad:Addr)(size:Nat)(i:Nat):List CV→Prop
 | []=>True
 |e::es=>(∃v,RelC w M e v∧v.cells.size=size∧∀(j:Nat) u,v.cells[j]? =some u→w.cell? (ad.add (i*size+j))=some u)∧Bo w M ad size (i+1) es
end
theorem Db(a:Addr)(n:Nat):(a.add n).block=a.block:=by unfold Addr.add;split<;>rfl
theorem GW(a:Addr)(i j:Nat):(a.add i).add j=a.add (i+j):=by
 unfold Addr.add;by_cases hi:i=0<;>by_cases hj:j=0<;>simp[hi,hj,Nat.add_assoc]
theorem add_zero(a:Addr):a.add 0=a:=by simp[Addr.add]
theorem MG{w:World}{a:Addr}{v:Value}(h:w.cell? a=some v):a.block<w.heap.size:=by
 unfold World.cell? at h;rcases Nat.lt_or_ge a.block w.heap.size with hlt|hge
 ·exact hlt
 ·rw[Array.getElem?_eq_none hge]at h;simp at h
theorem heap_lt{w:World}{g:Nat}{o:Obj}(h:w.heap[g]? =some o):g<w.heap.size:=by
 rcases Nat.lt_or_ge g w.heap.size with hlt|hge
 ·exact hlt
 ·rw[Array.getElem?_eq_none hge]at h;cases h
structure Br (w:World) (M:MM) (w':World) (M':MM):Prop where
 size:w.heap.size≤w'.heap.size
 heap:∀g,g<w.heap.size→¬M g→w'.heap[g]? =w.heap[g]?
 less:∀g,g<w.heap.size→M' g→M g
 al:M'.al=M.al
section
variable {w w':World} {M M':MM}
theorem Br.cell(h:Br w M w' M'){a:Addr}{v:Value}(hm:¬M a.block)(hc:w.cell? a=some v):w'.cell? a=some v:=by
 have:=h.heap a.block (MG hc) hm;unfold World.cell? at*;rw[this];exact hc
mutual
theorem RelC.keep(h:Br w M w' M'):∀(c:CV) (v:Value),RelC w M c v→RelC w' M' c v
 | .int _ _,_,hv=>hv
 | .bool _,_,hv=>hv
 | .str _,_,hv=>hv
 | .nilif,_,hv=>hv
 | .nilfn,_,hv=>hv
 | .ifc,_,hv=>hv
 | .adr _,_,hv=>hv
 | .nilp,_,hv=>hv
 | .nam N,v,hv=>by unfold RelC at*;rw[h.al];exact hv
 | .bptr N,v,hv=>by unfold RelC at*;rw[h.al];exact hv
 | .agg cs,v,hv=>by
  unfold RelC at*;obtain⟨vs,e,hl⟩:=hv;exact⟨vs,e,RelL.keep h cs vs hl⟩
 | .tup cs,v,hv=>by
  unfold RelC at*;obtain⟨vs,e,hl⟩:=hv;exact⟨vs,e,RelL.keep h cs vs hl⟩
 | .fn f cs,v,hv=>by
  unfold RelC at*;obtain⟨vs,e,hl⟩:=hv;exact⟨vs,e,RelL.keep h cs vs hl⟩
 | .wp cs,v,hv=>by
  unfold RelC at*;obtain⟨g,ty,vs,e,hh,hm,hl⟩:=hv;exact⟨g,ty,vs,e,(h.heap _ (heap_lt hh) hm).trans hh,fun hM=>hm (h.less _ (heap_lt hh) hM),RelL.keep h cs vs hl⟩
 | .rp cs,v,hv=>by
  unfold RelC at*;obtain⟨ad,vs,e,hlt,hm,hl,hc⟩:=hv;exact⟨ad,vs,e,Nat.lt_of_lt_of_le hlt h.size,fun hM=>hm (h.less _ hlt hM),RelL.keep h cs vs hl,fun j u hu=>h.cell (by rw[Db];exact hm) (hc j u hu)⟩
 | .sl nl es,v,hv=>by
  unfold RelC at*;obtain⟨a,n,c,e,hn,hle,h1,h2,h3,h4⟩:=hv;refine⟨a,n,c,e,hn,hle,h1,h2,h3,fun hne=> ?_⟩;obtain⟨ad,size,ea,hlt,hm,hE⟩:=h4 hne;exact⟨ad,size,ea,Nat.lt_of_lt_of_le hlt h.size,fun hM=>hm (h.less _ hlt hM),Bo.keep h ad size hm 0 es hE⟩
 | .map nl ks vs,v,hv=>by
  unfold RelC at*;obtain⟨r,e,h1,h2,h3,h4⟩:=hv;refine⟨r,e,h1,h2,h3,fun b hb=> ?_⟩;obtain⟨hm,ens,ens',clk,hh,hE,hp,hk,hv⟩:=h4 b hb;exact⟨fun hM=>hm (h.less _ (heap_lt hh) hM),ens,ens',clk,(h.heap b (heap_lt hh) hm).trans hh,hE,hp,RelL.keep h ks _ hk,RelL.keep h vs _ hv⟩
theorem RelL.keep(h:Br w M w' M'):∀(cs:List CV) (vs:List Value),RelL w M cs vs→RelL w' M' cs vs
 | [],_,hv=>hv
 |c::cs,vs,hv=>by
  unfold RelL at*;obtain⟨v,vs',e,h1,h2⟩:=hv;exact⟨v,vs',e,RelC.keep h c v h1,RelL.keep h cs vs' h2⟩
theorem Bo.keep(h:Br w M w' M')(ad:Addr)(size:Nat)(hm:¬M ad.block):∀(i:Nat) (es:List CV),Bo w M ad size i es→Bo w' M' ad size i es
 |_,[],_=>by unfold Bo;trivial
 |i,e::es,hv=>by
  unfold Bo at*;obtain⟨⟨v,h1,h2,h3⟩,h4⟩:=hv;exact⟨⟨v,RelC.keep h e v h1,h2,fun j u hu=>h.cell (by rw[Db];exact hm) (h3 j u hu)⟩,Bo.keep h ad size hm (i+1) es h4⟩
end
theorem RelL.length:∀{cs:List CV} {vs:List Value},RelL w M cs vs→vs.length=cs.length
 | [],_,h=>by unfold RelL at h;subst h;rfl
 |_::_,_,h=>by
  unfold RelL at h;obtain⟨v,vs',rfl,_,h2⟩:=h;simp[RelL.length h2]
theorem RelL.get:∀{cs:List CV} {vs:List Value} {i:Nat} {c:CV},RelL w M cs vs→cs[i]? =some c→∃v,vs[i]? =some v∧RelC w M c v
 | [],_,_,_,_,hi=>by simp at hi
 |_::_,_,0,_,h,hi=>by
  unfold RelL at h;obtain⟨v,vs',rfl,h1,_⟩:=h;simp at hi;subst hi;exact⟨v,rfl,h1⟩
 |_::_,_,i+1,_,h,hi=>by
  unfold RelL at h;obtain⟨v,vs',rfl,_,h2⟩:=h;simp only[List.getElem?_cons_succ]at hi⊢;exact RelL.get h2 hi
theorem RelL.nil:RelL w M [] []:=by unfold RelL;rfl
theorem RelL.cons{c:CV}{v:Value}{cs:List CV}{vs:List Value}(h:RelC w M c v)(hl:RelL w M cs vs):RelL w M (c::cs) (v::vs):=by
 unfold RelL;exact⟨v,vs,rfl,h,hl⟩
theorem RelL.append:∀{cs ds:List CV} {vs us:List Value},RelL w M cs vs→RelL w M ds us→RelL w M (cs++ds) (vs++us)
 | [],_,_,_,h,k=>by unfold RelL at h;subst h;exact k
 |_::_,_,_,_,h,k=>by
  unfold RelL at h;obtain⟨v,vs',rfl,h1,h2⟩:=h;exact RelL.cons h1 (RelL.append h2 k)
theorem RelL.drop:∀{cs:List CV} {vs:List Value} (n:Nat),RelL w M cs vs→RelL w M (cs.drop n) (vs.drop n)
 |_,_,0,h=>h
 | [],_,n+1,h=>by unfold RelL at h;subst h;simpa using RelL.nil
 |_::_,_,n+1,h=>by
  unfold RelL at h;obtain⟨v,vs',rfl,_,h2⟩:=h;simpa using RelL.drop n h2
theorem RelL.take:∀{cs:List CV} {vs:List Value} (n:Nat),RelL w M cs vs→RelL w M (cs.take n) (vs.take n)
 |_,_,0,h=>by simpa using RelL.nil
 | [],_,n+1,h=>by unfold RelL at h;subst h;simpa using RelL.nil
 |_::_,_,n+1,h=>by
  unfold RelL at h;obtain⟨v,vs',rfl,h1,h2⟩:=h;simpa using RelL.cons h1 (RelL.take n h2)
theorem RelL.set:∀{cs:List CV} {vs:List Value} (i:Nat) {c:CV} {v:Value},RelL w M cs vs→RelC w M c v→RelL w M (cs.set i c) (vs.set i v)
 | [],_,_,_,_,h,_=>by unfold RelL at h;subst h;simpa using RelL.nil
 |_::_,_,0,_,_,h,k=>by
  unfold RelL at h;obtain⟨v,vs',rfl,_,h2⟩:=h;simpa using RelL.cons k h2
 |_::_,_,i+1,_,_,h,k=>by
  unfold RelL at h;obtain⟨v,vs',rfl,h1,h2⟩:=h;simpa using RelL.cons h1 (RelL.set i h2 k)
theorem Bo.get{ad:Addr}{size:Nat}:∀{i:Nat} {es:List CV} {k:Nat} {e:CV},Bo w M ad size i es→es[k]? =some e→
  ∃v,RelC w M e v∧v.cells.size=size∧∀(j:Nat) u,v.cells[j]? =some u→w.cell? (ad.add ((i+k)*size+j))=some u
 |_,[],_,_,_,hi=>by simp at hi
 |i,_::_,0,_,h,hi=>by
  unfold Bo at h;simp at hi;subst hi;exact h.1
 |i,_::_,k+1,_,h,hi=>by
  unfold Bo at h;simp only[List.getElem?_cons_succ]at hi;have:=Bo.get h.2 hi;rw[show i+1+k=i+(k+1) by omega]at this;exact this
theorem RelC.cells{e:CV}{v:Value}(h:RelC w M e v):RelL w M e.cells v.cells.toList:=by
 cases e with
 |agg cs=>
  unfold RelC at h;obtain⟨vs,rfl,hl⟩:=h;exact hl
 |int k n=>have h':=h;unfold RelC at h';subst h';exact RelL.cons h RelL.nil
 |bool b=>have h':=h;unfold RelC at h';subst h';exact RelL.cons h RelL.nil
 |str s=>have h':=h;unfold RelC at h';subst h';exact RelL.cons h RelL.nil
 |nilif=>have h':=h;unfold RelC at h';subst h';exact RelL.cons h RelL.nil
 |nilfn=>have h':=h;unfold RelC at h';subst h';exact RelL.cons h RelL.nil
 |adr b=>have h':=h;unfold RelC at h';subst h';exact RelL.cons h RelL.nil
 |nilp=>have h':=h;unfold RelC at h';subst h';exact RelL.cons h RelL.nil
 |nam N=>have h':=h;unfold RelC at h';subst h';exact RelL.cons h RelL.nil
 |bptr N=>have h':=h;unfold RelC at h';rcases h' with rfl|rfl<;>exact RelL.cons h RelL.nil
 |ifc=>have h':=h;unfold RelC at h';obtain⟨t,x,rfl⟩:=h';exact RelL.cons h RelL.nil
 |tup cs=>have h':=h;unfold RelC at h';obtain⟨vs,rfl,_⟩:=h';exact RelL.cons h RelL.nil
 |fn f cs=>have h':=h;unfold RelC at h';obtain⟨vs,hf,_⟩:=h';rw[hf.cells];exact RelL.cons h RelL.nil
 |rp cs=>have h':=h;unfold RelC at h';obtain⟨ad,vs,rfl,_⟩:=h';exact RelL.cons h RelL.nil
 |wp cs=>have h':=h;unfold RelC at h';obtain⟨g,ty,vs,rfl,_⟩:=h';exact RelL.cons h RelL.nil
 |sl nl es=>have h':=h;unfold RelC at h';obtain⟨a,n,c,rfl,_⟩:=h';exact RelL.cons h RelL.nil
 |map nl ks vs=>have h':=h;unfold RelC at h';obtain⟨r,rfl,_⟩:=h';exact RelL.cons h RelL.nil
theorem RelC.of_wp{cs:List CV}{v:Value}(h:RelC w M (.wp cs) v):RelC w M (.rp cs) v:=by
 unfold RelC at*;obtain⟨g,ty,vs,e,hh,hm,hl⟩:=h;refine⟨⟨g,0,none⟩,vs,e,heap_lt hh,hm,hl,fun j u hu=> ?_⟩;have:(⟨g,0,none⟩:Addr).add j=⟨g,j,none⟩:=by unfold Addr.add;split<;>simp_all
 rw[this];unfold World.cell?;simp[hh,hu]
mutual
def BQ(T:Nat→Bool):CV→Bool
 | .nam N| .bptr N=>T N
 | .agg cs| .tup cs| .rp cs| .wp cs| .fn _ cs=>noNamL T cs
 | .sl _ es=>noNamL T es
 | .map _ ks vs=>noNamL T ks&&noNamL T vs
 |_=>true
def noNamL(T:Nat→Bool):List CV→Bool
 | []=>true
 |c::cs=>BQ T c&&noNamL T cs
end
structure Gd (T:Nat→Bool) (w:World) (M:MM) (w':World) (M':MM):Prop where
 size:w.heap.size≤w'.heap.size
 heap:∀g,g<w.heap.size→¬M g→w'.heap[g]? =w.heap[g]?
 less:∀g,g<w.heap.size→M' g→M g
 al:∀N,T N=true→M'.al N=M.al N
section
variable {w w':World} {M M':MM} {T:Nat→Bool}
theorem Gd.cell(h:Gd T w M w' M'){a:Addr}{v:Value}(hm:¬M a.block)(hc:w.cell? a=some v):w'.cell? a=some v:=by
 have:=h.heap a.block (MG hc) hm;unfold World.cell? at*;rw[this];exact hc
mutual
theorem RelC.named(h:Gd T w M w' M'):∀(c:CV) (v:Value),BQ T c=true→RelC w M c v→RelC w' M' c v
 | .int _ _,_,_,hv=>hv
 | .bool _,_,_,hv=>hv
 | .str _,_,_,hv=>hv
 | .nilif,_,_,hv=>hv
 | .nilfn,_,_,hv=>hv
 | .ifc,_,_,hv=>hv
 | .adr _,_,_,hv=>hv
 | .nilp,_,_,hv=>hv
 | .nam N,v,hn,hv=>by
  unfold RelC at*;rw[h.al N (by simpa[BQ]using hn)];exact hv
 | .bptr N,v,hn,hv=>by
  unfold RelC at*;rw[h.al N (by simpa[BQ]using hn)];exact hv
 | .agg cs,v,hn,hv=>by
  unfold RelC at*;obtain⟨vs,e,hr⟩:=hv;exact⟨vs,e,RelL.named h cs vs (by simpa[BQ]using hn) hr⟩
 | .tup cs,v,hn,hv=>by
  unfold RelC at*;obtain⟨vs,e,hr⟩:=hv;exact⟨vs,e,RelL.named h cs vs (by simpa[BQ]using hn) hr⟩
 | .fn f cs,v,hn,hv=>by
  unfold RelC at*;obtain⟨vs,e,hr⟩:=hv;exact⟨vs,e,RelL.named h cs vs (by simpa[BQ]using hn) hr⟩
 | .wp cs,v,hn,hv=>by
  unfold RelC at*;obtain⟨g,ty,vs,e,h1,hm,hr⟩:=hv;exact⟨g,ty,vs,e,(h.heap _ (heap_lt h1) hm).trans h1,fun hM=>hm (h.less _ (heap_lt h1) hM),RelL.named h cs vs (by simpa[BQ]using hn) hr⟩
 | .rp cs,v,hn,hv=>by
  unfold RelC at*;obtain⟨ad,vs,e,hlt,hm,hr,hc⟩:=hv;exact⟨ad,vs,e,Nat.lt_of_lt_of_le hlt h.size,fun hM=>hm (h.less _ hlt hM),RelL.named h cs vs (by simpa[BQ]using hn) hr,fun j u hu=>h.cell (by rw[Db];exact hm) (hc j u hu)⟩
 | .sl nl es,v,hn,hv=>by
  unfold RelC at*;obtain⟨a,n,c,e,hnn,hle,h1,h2,h3,h4⟩:=hv;refine⟨a,n,c,e,hnn,hle,h1,h2,h3,fun hne=> ?_⟩;obtain⟨ad,size,ea,hlt,hm,hE⟩:=h4 hne;exact⟨ad,size,ea,Nat.lt_of_lt_of_le hlt h.size,fun hM=>hm (h.less _ hlt hM),Bo.named h ad size hm 0 es (by simpa[BQ]using hn) hE⟩
 | .map nl ks vs,v,hn,hv=>by
  unfold RelC at*;obtain⟨r,e,h1,h2,h3,h4⟩:=hv;simp only[BQ,Af]at hn;refine⟨r,e,h1,h2,h3,fun b hb=> ?_⟩;obtain⟨hm,ens,ens',clk,g1,hE,hp,hk,hv⟩:=h4 b hb;exact⟨fun hM=>hm (h.less _ (heap_lt g1) hM),ens,ens',clk,(h.heap b (heap_lt g1) hm).trans g1,hE,hp,RelL.named h ks _ hn.1 hk,RelL.named h vs _ hn.2 hv⟩
theorem RelL.named(h:Gd T w M w' M'):∀(cs:List CV) (vs:List Value),noNamL T cs=true→RelL w M cs vs→RelL w' M' cs vs
 | [],_,_,hv=>hv
 |c::cs,vs,hn,hv=>by
  unfold RelL at*;simp only[noNamL,Af]at hn;obtain⟨v,vs',e,h1,h2⟩:=hv;exact⟨v,vs',e,RelC.named h c v hn.1 h1,RelL.named h cs vs' hn.2 h2⟩
theorem Bo.named(h:Gd T w M w' M')(ad:Addr)(size:Nat)(hm:¬M ad.block):∀(i:Nat) (es:List CV),noNamL T es=true→Bo w M ad size i es→Bo w' M' ad size i es
 |_,[],_,_=>by unfold Bo;trivial
 |i,e::es,hn,hv=>by
  unfold Bo at*;simp only[noNamL,Af]at hn;obtain⟨⟨v,h1,h2,h3⟩,h4⟩:=hv;exact⟨⟨v,RelC.named h e v hn.1 h1,h2,fun j u hu=>h.cell (by rw[Db];exact hm) (h3 j u hu)⟩,Bo.named h ad size hm (i+1) es hn.2 h4⟩
end
end
def MP(ks vs ks' vs':List CV):Prop:=ks.length=vs.length∧ks'.length=vs'.length∧(ks'.zip vs').Perm (ks.zip vs)
theorem MP.refl{ks vs:List CV}(h:ks.length=vs.length):MP ks vs ks vs:=⟨h,h,.refl _⟩
theorem MP.ks{ks vs ks' vs':List CV}(h:MP ks vs ks' vs'):ks'.Perm ks:=by
 have:=h.2.2.map Prod.fst
 rwa [List.map_fst_zip (by have:=h.2.1;omega),List.map_fst_zip (by have:=h.1;omega)]at this
theorem MP.app{ks vs ks' vs':List CV}(h:MP ks vs ks' vs')(k v:CV):MP (ks++ [k]) (vs++ [v]) (ks'++ [k]) (vs'++ [v]):=by
 refine⟨by simp[h.1],by simp[h.2.1], ?_⟩;rw[List.zip_append h.2.1,List.zip_append h.1];exact h.2.2.append (.refl _)
def PR(w:World)(M:MM):List (CV×CV)→List MapEntry→Prop
 | [],es=>es= []
 |p::ps,es=>∃e es',es=e::es'∧(RelC w M p.1 e.key∧RelC w M p.2 e.val)∧PR w M ps es'
theorem PR.to:∀{ks vs:List CV} {ens:List MapEntry},RelL w M ks (ens.map (·.key))→RelL w M vs (ens.map (·.val))→ks.length=vs.length∧PR w M (ks.zip vs) ens
 | [],vs,ens,h1,h2=>by
  unfold RelL at h1;have:ens= []:=by simpa using h1
  subst this;have:=h2.length;simp only[List.map_nil,List.length_nil]at this;have:vs= []:=List.eq_nil_of_length_eq_zero this.symm;subst this;exact⟨rfl,rfl⟩
 |k::ks,vs,ens,h1,h2=>by
  unfold RelL at h1;obtain⟨v,us,e,g1,g2⟩:=h1
  cases ens with
  |nil=>simp at e
  |cons en ens=>
   simp only[List.map_cons,List.cons.injEq]at e;obtain⟨rfl,rfl⟩:=e
   cases vs with
   |nil=>unfold RelL at h2;simp at h2
   |cons v vs=>
    unfold RelL at h2;obtain⟨v',us',e',g3,g4⟩:=h2;simp only[List.map_cons,List.cons.injEq]at e';obtain⟨rfl,rfl⟩:=e';obtain⟨g5,g6⟩:=PR.to g2 g4;exact⟨by simp[g5],en,ens,rfl,⟨g1,g3⟩,g6⟩
theorem PR.from:∀{ps:List (CV×CV)} {ens:List MapEntry},PR w M ps ens→RelL w M (ps.map (·.1)) (ens.map (·.key))∧RelL w M (ps.map (·.2)) (ens.map (·.val))
 | [],_,h=>by unfold PR at h;subst h;exact⟨RelL.nil,RelL.nil⟩
 |_::_,_,h=>by
  obtain⟨e,es',rfl,⟨h1,h2⟩,h3⟩:=h;have:=PR.from h3;exact⟨RelL.cons h1 this.1,RelL.cons h2 this.2⟩
theorem PR.permR{es es':List MapEntry}(hp:es.Perm es'):∀{ps:List (CV×CV)},PR w M ps es→∃ps',ps'.Perm ps∧PR w M ps' es':=by
 induction hp with
 |nil=>intro ps h;exact⟨ps,.refl _,h⟩
 |cons a _ ih=>
  intro ps h
  cases ps with
  |nil=>unfold PR at h;cases h
  |cons p ps=>
   obtain⟨e,es',e1,h1,h2⟩:=h;cases e1;obtain⟨ps',g1,g2⟩:=ih h2;exact⟨p::ps',g1.cons p,_,_,rfl,h1,g2⟩
 |swap a b l=>
  intro ps h
  cases ps with
  |nil=>unfold PR at h;cases h
  |cons p ps=>
   obtain⟨e,es',e1,h1,h2⟩:=h;cases e1
   cases ps with
   |nil=>unfold PR at h2;cases h2
   |cons q ps=>
    obtain⟨e,es',e1,h3,h4⟩:=h2;cases e1;exact⟨q::p::ps,.swap _ _ _,_,_,rfl,h3,_,_,rfl,h1,h4⟩
 |trans _ _ ih1 ih2=>
  intro ps h;obtain⟨ps',g1,g2⟩:=ih1 h;obtain⟨ps'',g3,g4⟩:=ih2 g2;exact⟨ps'',g3.trans g1,g4⟩
theorem PR.permL{ps ps':List (CV×CV)}(hp:ps.Perm ps'):∀{es:List MapEntry},PR w M ps es→∃es',es'.Perm es∧PR w M ps' es':=by
 induction hp with
 |nil=>intro es h;exact⟨es,.refl _,h⟩
 |cons a _ ih=>
  intro es h;obtain⟨e,es',rfl,h1,h2⟩:=h;obtain⟨es'',g1,g2⟩:=ih h2;exact⟨e::es'',g1.cons e,e,_,rfl,h1,g2⟩
 |swap a b l=>
  intro es h;obtain⟨e,es',rfl,h1,e2,es2,rfl,h3,h4⟩:=h;exact⟨e2::e::es2,.swap _ _ _,_,_,rfl,h3,_,_,rfl,h1,h4⟩
 |trans _ _ ih1 ih2=>
  intro es h;obtain⟨es',g1,g2⟩:=ih1 h;obtain⟨es'',g3,g4⟩:=ih2 g2;exact⟨es'',g3.trans g1,g4⟩
theorem SE{ks vs:List CV}{ens ens':List MapEntry}(hp:ens'.Perm ens)(h1:RelL w M ks (ens'.map (·.key)))(h2:RelL w M vs (ens'.map (·.val))):
  ∃ks' vs',MP ks vs ks' vs'∧RelL w M ks' (ens.map (·.key))∧RelL w M vs' (ens.map (·.val)):=by
 obtain⟨hl,h3⟩:=PR.to h1 h2;obtain⟨ps,g1,g2⟩:=PR.permR hp h3;refine⟨ps.map (·.1),ps.map (·.2),⟨hl,by simp, ?_⟩,(PR.from g2).1,(PR.from g2).2⟩;rw[List.zip_map'];simpa using g1
theorem SG{ks vs ks' vs':List CV}{ens:List MapEntry}(hm:MP ks vs ks' vs')(h1:RelL w M ks' (ens.map (·.key)))(h2:RelL w M vs' (ens.map (·.val))):
  ∃ens':List MapEntry,ens'.Perm ens∧RelL w M ks (ens'.map (·.key))∧RelL w M vs (ens'.map (·.val)):=by
 obtain⟨hl,h3⟩:=PR.to h1 h2;obtain⟨es,g1,g2⟩:=PR.permL hm.2.2 h3;have g3:=PR.from g2;rw[List.map_fst_zip (by have:=hm.1;omega),List.map_snd_zip (by have:=hm.1;omega)]at g3;exact⟨es,g1,g3⟩
end
inductive SV where
 |c (v:CV)
 |ptr (id off:Nat)
 |eptr (id i size off:Nat)
 |osl (id:Nat)
 |omap (id:Nat)
 |iter (id:Nat)
 |stamp (id:Nat) (key:CV)
 |ent (id:Nat) (key val:CV)
 |undef
inductive KT where
 |int (k:IntKind)
 |str
 |bool
 |struct (fs:List KT)
inductive Ob where
 |none
 |box (cs:List SV) (bt:Option TypeId)
 |arr (e size:Nat) (es:List CV)
 |map (mt:TypeId) (kt:KT) (z:CV) (ks vs:List CV)
 |siter (s:List UInt8) (pos:Nat)
 |miter (ks vs:List CV) (cur:Option (CV×CV))
 |buf (e:Nat) (s:List UInt8)
structure St where
 fr:Nat→SV
 ob:Nat→Ob
def upd{α:Type}(f:Nat→α)(i:Nat)(v:α):Nat→α:=fun j=>if j=i then v else f j
theorem AZ{α:Type}(f:Nat→α)(i:Nat)(v:α):upd f i v i=v:=by simp[upd]
theorem A0{α:Type}(f:Nat→α){i j:Nat}(v:α)(h:j≠i):upd f i v j=f j:=by simp[upd,h]
theorem BK{α:Type}(f:Nat→α)(i j:Nat)(v:α):upd f i v j=if j=i then v else f j:=rfl
def St.set(st:St)(d:Option Nat)(v:SV):St:=
 match d with
 |some d=>{st with fr:=upd st.fr d v}
 |none=>st
def SV.ref:SV→Option Nat
 | .ptr id _| .eptr id _ _ _| .osl id| .omap id| .iter id| .stamp id _| .ent id _ _=>some id
 | .c _| .undef=>none
def Au(D:List Nat):SV→SV
 | .c v=>.c v
 | .ptr id o=>if D.contains id then .undef else .ptr id o
 | .eptr id i s o=>if D.contains id then .undef else .eptr id i s o
 | .osl id=>if D.contains id then .undef else .osl id
 | .omap id=>if D.contains id then .undef else .omap id
 | .iter id=>if D.contains id then .undef else .iter id
 | .stamp id k=>if D.contains id then .undef else .stamp id k
 | .ent id k v=>if D.contains id then .undef else .ent id k v
 | .undef=>.undef
def BZ(D:List Nat):Ob→Ob
 | .box cs bt=>.box (cs.map (Au D)) bt
 |o=>o
def kill(D:List Nat)(st:St):St:=
 {fr:=fun i=>Au D (st.fr i),ob:=fun i=>if D.contains i then .none else BZ D (st.ob i)}
inductive SO where
 |t (i:Nat)
 |k (v:CV)
 |g (i:Nat)
inductive SOp where
 |mov (x:SO)
 |pick (c a b:SO)
 |bin (op:BinOp) (x y:SO)
 |eqs (neg:Bool) (ts:List KT) (x y:SO)
 |beq (neg:Bool) (x y:SO)
 |isnil (kd:Nat) (neg:Bool) (x:SO)
 |un (op:UnOp) (x:SO)
 |cvi (k:IntKind) (x:SO)
 |cvrune (x:SO)
 |cvbs (x:SO)
 |cvid (x:SO)
 |build (z:List CV) (AK:List (Nat×Nat×SO))
 |field (off:Nat) (sz:Option Nat) (x:SO)
 |ext (x:SO) (i:Nat)
 |minmax (mx:Bool) (xs:List SO)
 |fnv (f:FuncId) (caps:List SO)
 |faddr (off:Nat) (x:SO)
 |nchk (x:SO)
 |iaddr (size:Nat) (x i:SO)
 |aaddr (len size:Nat) (x i:SO)
 |sidx (x i:SO)
 |aidx (len size:Nat) (sz:Option Nat) (x i:SO)
 |load (sz:Option Nat) (x:SO)
 |len (kd:Nat) (x:SO)
 |sslice (x:SO) (lo hi:Option SO)
 |asl (n:Nat) (x:SO)
 |slice (size:Nat) (x:SO) (lo hi:Option SO)
 |lookup (mt:TypeId) (kt:KT) (z:CV) (ok:Bool) (x k:SO)
 |call (f:FuncId) (args:List SO)
 |callv (f:SO) (args:List SO)
 |mcopy (f:FuncId) (x y:SO)
 |alloc (z:List CV)
 |allocT (T:TypeId) (z:List CV)
 |box (x:SO)
 |mksl (e size:Nat) (AK:List SO)
 |mkmap (mt:TypeId) (kt:KT) (z:CV)
 |make (e size bytes:Nat) (z:CV) (x y:SO)
 |bytes (e:Nat) (x:SO)
 |nbytes (e:Nat) (x:SO)
 |lsl (e size:Nat) (AK:List SO)
 |siter (x:SO)
 |mrange (x:SO)
 |mentry (x:SO)
 |slice3 (size:Nat) (x:SO) (lo:Option SO) (hi mx:SO)
 |capp (e size bytes:Nat) (x y:SO)
 |cpy (e size:Nat) (x y:SO)
 |loadb (sz:Option Nat) (x:SO)
 |store (n:Nat) (a x:SO)
 |append (e size bytes:Nat) (x y:SO)
 |mapent (mt:TypeId) (x k:SO)
 |entst (x s v:SO)
 |mapupd (mt:TypeId) (x k v:SO)
 |snext (x:SO)
structure SL where
 dst:Option Nat
 op:SOp
 guard:Option (Nat×Bool)
def PY(op:BinOp)(a b:Int):Option Bool:=
 match op with
 | .eql=>some (a==b)
 | .neq=>some (a !=b)
 | .lss=>some (decide (a<b))
 | .leq=>some (decide (a≤b))
 | .gtr=>some (decide (a>b))
 | .geq=>some (decide (a≥b))
 |_=>none
def JN(op:BinOp)(k:IntKind)(x y:Int):Option Int:=
 match op with
 | .and=>some (k.wrap (BitVec.ofInt k.bits x&&&BitVec.ofInt k.bits y).toNat)
 | .or=>some (k.wrap (BitVec.ofInt k.bits x|||BitVec.ofInt k.bits y).toNat)
 | .xor=>some (k.wrap (BitVec.ofInt k.bits x^^^BitVec.ofInt k.bits y).toNat)
 | .andNot=>some (k.wrap (BitVec.ofInt k.bits x&&& ~~~(BitVec.ofInt k.bits y)).toNat)
 |_=>none
def Gg(op:BinOp)(k:IntKind)(a b:Int):Option CV:=
 match op with
 | .add=>some (.int k (k.wrap (a+b)))
 | .sub=>some (.int k (k.wrap (a-b)))
 | .mul=>some (.int k (k.wrap (a*b)))
 | .quo=>if b=0 then none else some (.int k (k.wrap (a.tdiv b)))
 | .rem=>if b=0 then none else some (.int k (a.tmod b))
 | .and| .or| .xor| .andNot=>(JN op k a b).map (.int k)
 | .shl| .shr=>none
 |op=>(PY op a b).map .bool
def Fp:List UInt8→List UInt8→Bool:=Op.bytesLess
def Ih(op:BinOp)(a b:List UInt8):Option CV:=
 match op with
 | .add=>if a.length+b.length≤4611686018427387904 then some (.str (a++b))else none
 | .eql=>some (.bool (a==b))
 | .neq=>some (.bool (!(a==b)))
 | .lss=>some (.bool (Fp a b))
 | .leq=>some (.bool (Fp a b||a==b))
 | .gtr=>some (.bool (!(Fp a b||a==b)))
 | .geq=>some (.bool (!(Fp a b)))
 |_=>none
def DT(op:BinOp):CV→CV→Option CV
 | .int k a,.int k' b=>
  match op with
  | .shl=>if b<0 then none else some (.int k (k.wrap (a*2^(min b.toNat k.bits))))
  | .shr=>if b<0 then none else some (.int k (a.fdiv (2^(min b.toNat k.bits))))
  |op=>if k=k' then Gg op k a b else none
 | .str a,.str b=>Ih op a b
 |_,_=>none
def unC(op:UnOp):CV→Option CV
 | .int k n=>match op with
  | .neg=>some (.int k (k.wrap (0-n)))
  | .xor=>(JN .xor k (if k.signed then-1 else k.max) n).map (.int k)
  |_=>none
 | .bool b=>match op with
  | .not=>some (.bool !b)
  |_=>none
 |_=>none
def eq1:KT→CV→CV→Option Bool
 | .int _,.int k a,.int k' b=>if k=k' then some (a==b)else none
 | .str,.str a,.str b=>some (a==b)
 | .bool,.bool a,.bool b=>some (a==b)
 |_,_,_=>none
def eqL:List KT→List CV→List CV→Option Bool
 | [],[],[]=>some true
 |t::ts,a::as,b::bs=>(eq1 t a b).bind fun x=>(eqL ts as bs).map fun y=>x&&y
 |_,_,_=>none
def eqA(ts:List KT):CV→CV→Option Bool
 | .agg as,.agg bs=>eqL ts as bs
 |_,_=>none
def Bq:CV→Nat
 | .agg cs=>cs.length
 |_=>1
def Cx(cs:List CV)(off:Nat):Option Nat→Option CV
 |some n=>if off+n≤cs.length then some (.agg ((cs.drop off).take n))else none
 |none=>cs[off]?
def Gy:List CV→List (Nat×Nat×CV)→Option (List CV)
 |cs,[]=>some cs
 |cs,(off,size,v)::rest=>
  if Bq v=size∧off+size≤cs.length then Gy (cs.take off++v.cells++cs.drop (off+size)) rest else none
def G7(mx:Bool):CV→CV→Option CV
 | .int k a,.int k' b=>if k=k' then some (.int k (if mx then max a b else min a b))else none
 |_,_=>none
def idxOf(n:Int)(len:Nat):Option Nat:=if 0≤n∧n<len then some n.toNat else none
def B1:KT→CV→Bool
 | .int k,.int k' _=>k==k'
 | .str,.str _=>true
 | .bool,.bool _=>true
 |_,_=>false
def B8:List KT→List CV→Bool
 | [],[]=>true
 |f::fs,c::cs=>B1 f c&&B8 fs cs
 |_,_=>false
def AI:KT→CV→Bool
 | .struct fs,.agg cs=>B8 fs cs
 |kt,c=>B1 kt c
def Cf:KT→CV→CV→Bool
 | .struct ts,.agg as,.agg bs=>(eqL ts as bs).getD false
 |kt,a,b=>(eq1 kt a b).getD false
def AJ(kt:KT)(k:CV):List CV→Option Nat
 | []=>none
 |c::cs=>if Cf kt k c then some 0 else(AJ kt k cs).map (· +1)
def AX(kt:KT)(z:CV)(ks vs:List CV)(k:CV):CV×Bool:=
 match AJ kt k ks with
 |some i=>(vs.getD i z,true)
 |none=>(z,false)
def Bk(kt:KT)(ks:List CV)(k:CV):List CV:=
 match AJ kt k ks with
 |some _=>ks
 |none=>ks++ [k]
def Bl(kt:KT)(ks vs:List CV)(k v:CV):List CV:=
 match AJ kt k ks with
 |some i=>vs.set i v
 |none=>vs++ [v]
def Ep:List CV→Option (List Int)
 | []=>some []
 | .int .u8 n::es=>(Ep es).map fun ns=>n::ns
 |_=>none
section
variable (rd:Nat→Ob) (ρ:SO→SV)
def closed:SV→Option CV
 | .c v=>some v
 |_=>none
def Cn:SV→Option CV
 | .c v=>some v
 | .osl id=>match rd id with
  | .arr _ _ es=>some (.sl none es)
  |_=>none
 | .omap id=>match rd id with
  | .map _ _ _ ks vs=>some (.map none ks vs)
  |_=>none
 |_=>none
def Aq{α β:Type}(f:α→Option β):List α→Option (List β)
 | []=>some []
 |a::as=>(f a).bind fun b=>(Aq f as).map fun bs=>b::bs
def Cw:CV→Bool
 | .agg _| .tup _=>false
 |_=>true
def As:Nat:=1048576
def deref:SV→SV
 | .c (.nam N)=>if As≤N then(match rd N with| .box _ _=>.ptr N 0|_=>.undef)else .undef
 |s=>s
def Bj(sz:Option Nat):SV→Option SV
 | .c (.rp cs)=>match sz with
  |none=>(cs[0]?).map .c
  |some n=>(Cx cs 0 (some n)).map .c
 | .c (.wp cs)=>match sz with
  |none=>(cs[0]?).map .c
  |some n=>(Cx cs 0 (some n)).map .c
 | .ptr id o=>match rd id with
  | .box cs bt=>match sz with
   |none=>cs[o]?
   |some n=>if o+n≤cs.length then(Aq closed ((cs.drop o).take n)).map (fun l=>.c (.agg l))else none
  |_=>none
 | .eptr id i size o=>match rd id with
  | .arr _ sz' es=>if size=sz' then(es[i]?).bind fun e=>(Cx e.cells o sz).map .c else none
  |_=>none
 |_=>none
def C2:Nat→SV→Option Int
 |0,.c (.str s)=>some s.length
 |1,.c (.sl _ es)=>some es.length
 |1,.osl id=>match rd id with
  | .arr _ _ es=>some es.length
  |_=>none
 |2,.c (.map _ ks _)=>some ks.length
 |2,.omap id=>match rd id with
  | .map _ _ _ ks _=>some ks.length
  |_=>none
 |_,_=>none
def D1(size:Nat):SV→SV→Option SV
 | .c (.sl _ es),.c (.int _ n)=>(idxOf n es.length).bind fun i=>(es[i]?).bind fun e=>if Bq e=size then some (.c (.rp e.cells))else none
 | .osl id,.c (.int _ n)=>match rd id with
  | .arr _ sz es=>if size=sz then(idxOf n es.length).map fun i=>.eptr id i size 0 else none
  |_=>none
 |_,_=>none
def ID:CV→Bool
 | .str _=>true
 |_=>false
def DA(len size:Nat):SV→SV→Option SV
 | .c (.rp cs),.c (.int _ n)=>if cs.length=len*size then(idxOf n len).map fun i=>.c (.rp (cs.drop (i*size)))else none
 | .ptr id o,.c (.int _ n)=>(idxOf n len).map fun i=>.ptr id (o+i*size)
 |_,_=>none
def BL(dflt:Nat):Option SV→Option Nat
 |none=>some dflt
 |some (.c (.int _ n))=>if 0≤n then some n.toNat else none
 |some _=>none
def D4(mt:TypeId)(kt:KT)(z:CV)(ok:Bool):SV→SV→Option CV
 | .c (.map _ ks vs),.c k=>
  if AI kt k&&ks.all (AI kt)then
   let(v,b):=AX kt z ks vs k
   some (if ok then .tup [v,.bool b]else v)
  else none
 | .omap id,.c k=>match rd id with
  | .map mt' kt' z' ks vs=>
   if mt'=mt∧AI kt' k=true then
    let(v,b):=AX kt' z' ks vs k
    some (if ok then .tup [v,.bool b]else v)
   else none
  |_=>none
 |_,_=>none
def Am:SOp→Option SV
 | .mov x=>some (ρ x)
 | .pick c a b=>match ρ c with
  | .c (.bool t)=>some (if t then ρ a else ρ b)
  |_=>none
 | .bin op x y=>match ρ x,ρ y with
  | .c a,.c b=>(DT op a b).map .c
  |_,_=>none
 | .eqs neg ts x y=>match ρ x,ρ y with
  | .c a,.c b=>(eqA ts a b).map fun r=>.c (.bool (if neg then !r else r))
  |_,_=>none
 | .beq neg x y=>match ρ x,ρ y with
  | .c (.bool a),.c (.bool b)=>some (.c (.bool (if neg then !(a==b)else a==b)))
  |_,_=>none
 | .isnil kd neg x=>match kd,ρ x with
  |1,.c (.sl (some b) _)=>some (.c (.bool (if neg then !b else b)))
  |2,.c (.map (some b) _ _)=>some (.c (.bool (if neg then !b else b)))
  |3,.c .nilif=>some (.c (.bool (!neg)))
  |3,.c .ifc=>some (.c (.bool neg))
  |_,_=>none
 | .un op x=>match ρ x with
  | .c a=>(unC op a).map .c
  |_=>none
 | .cvi k x=>match ρ x with
  | .c (.int _ n)=>some (.c (.int k (k.wrap n)))
  |_=>none
 | .cvrune x=>match ρ x with
  | .c (.int _ n)=>some (.c (.str (Utf8.encode n).data.toList))
  |_=>none
 | .cvbs x=>match ρ x with
  | .c (.sl _ es)=>(Ep es).map fun ns=>.c (.str (ns.map fun n=>UInt8.ofNat n.toNat))
  | .osl id=>match rd id with
   | .arr _ _ es=>(Ep es).map fun ns=>.c (.str (ns.map fun n=>UInt8.ofNat n.toNat))
   |_=>none
  |_=>none
 | .bytes _ x=>match ρ x with
  | .c (.str s)=>if s.length≤70368744177664 then some (.c (.sl (some false) (s.map fun b=>.int .u8 b.toNat)))else none
  |_=>none
 | .cvid x=>match ρ x with
  | .c (.str s)=>some (.c (.str s))
  |_=>none
 | .nchk x=>match ρ x with
  | .c (.nam N)=>some (.c (.nam N))
  | .c (.rp cs)=>some (.c (.rp cs))
  | .c (.wp cs)=>some (.c (.wp cs))
  | .ptr id o=>some (.ptr id o)
  | .eptr id i s o=>some (.eptr id i s o)
  |_=>none
 | .lsl _ size AK=>(Aq (fun x=>closed (ρ x)) AK).bind fun l=>
   if l.all (fun v=>Bq v==size)then some (.c (.sl none l))else none
 | .build z AK=>(Aq (fun p=>(closed (ρ p.2.2)).map fun v=>(p.1,p.2.1,v)) AK).bind fun ps=>(Gy z ps).map fun cs=>.c (.agg cs)
 | .field off sz x=>match ρ x with
  | .c (.agg cs)=>(Cx cs off sz).map .c
  |_=>none
 | .ext x i=>match ρ x with
  | .c (.tup l)=>(l[i]?).map .c
  | .ent id k v=>if i=0 then some (.c v)else if i=1 then some (.stamp id k)else none
  |_=>none
 | .minmax mx xs=>(Aq (fun x=>closed (ρ x)) xs).bind fun l=>match l with
  | []=>none
  |a::as=>(as.foldlM (G7 mx) a).map .c
 | .fnv f caps=>(Aq (fun x=>closed (ρ x)) caps).map fun l=>.c (.fn f l)
 | .faddr off x=>match deref rd (ρ x)with
  | .c (.rp cs)=>if off≤cs.length then some (.c (.rp (cs.drop off)))else none
  | .c (.wp cs)=>if off≤cs.length then some (.c (.rp (cs.drop off)))else none
  | .ptr id o=>some (.ptr id (o+off))
  | .eptr id i s o=>some (.eptr id i s (o+off))
  |_=>none
 | .iaddr size x i=>D1 rd size (ρ x) (ρ i)
 | .aaddr len size x i=>DA len size (ρ x) (ρ i)
 | .sidx x i=>match ρ x,ρ i with
  | .c (.str s),.c (.int _ n)=>(idxOf n s.length).bind fun j=>(s[j]?).map fun b=>.c (.int .u8 b.toNat)
  |_,_=>none
 | .aidx len size sz x i=>match ρ x,ρ i with
  | .c (.agg cs),.c (.int _ n)=>(idxOf n len).bind fun j=>(Cx cs (j*size) sz).map .c
  |_,_=>none
 | .load sz x=>Bj rd sz (deref rd (ρ x))
 | .loadb sz x=>match deref rd (ρ x)with
  | .eptr .. =>none
  |s=>Bj rd sz s
 | .len kd x=>(C2 rd kd (ρ x)).map fun n=>.c (.int .i64 n)
 | .sslice x lo hi=>match ρ x with
  | .c (.str s)=>(BL s.length (hi.map ρ)).bind fun h=>(BL 0 (lo.map ρ)).bind fun l=>if l≤h∧h≤s.length then some (.c (.str ((s.take h).drop l)))else none
  |_=>none
 | .slice size x lo hi=>match ρ x with
  | .c (.sl nl es)=>(BL es.length (hi.map ρ)).bind fun h=>(BL 0 (lo.map ρ)).bind fun l=>if(l≤h∧h≤es.length)∧(es.all fun e=>Bq e==size)=true then some (.c (.sl nl ((es.take h).drop l)))else none
  |_=>none
 | .slice3 size x lo hi mx=>match ρ x with
  | .c (.sl nl es)=>(BL es.length (some (ρ hi))).bind fun h=>(BL es.length (some (ρ mx))).bind fun m=>(BL 0 (lo.map ρ)).bind fun l=>if(l≤h∧h≤es.length∧h=m)∧(es.all fun e=>Bq e==size)=true then some (.c (.sl nl ((es.take h).drop l)))else none
  |_=>none
 | .capp _ size bytes x y=>match ρ x,ρ y with
  | .c (.sl (some true) _),.c (.sl _ es)=>if(es.all (fun v=>Bq v==size)&&es.all fun v=>v.cells.all Cw)=true∧es.length*bytes≤140737488355328∧es.length≤4611686018427387904 then some (.c (.sl none es))else none
  |_,_=>none
 | .mentry x=>match ρ x with
  | .iter id=>match rd id with
   | .miter _ _ (some p)=>some (.c (.tup [p.1,p.2]))
   |_=>none
  |_=>none
 | .lookup mt kt z ok x k=>(D4 rd mt kt z ok (ρ x) (ρ k)).map .c
 | .asl n x=>match ρ x with
  | .c (.rp cs)=>if cs.length=n∧cs.all ID=true then some (.c (.sl (some false) cs))else none
  |_=>none
 |_=>none
def Bw(d:Nat):SOp→Option (SV×Ob)
 | .alloc z=>some (.ptr d 0,.box (z.map .c) none)
 | .allocT T z=>some (.ptr d 0,.box (z.map .c) (some T))
 | .box x=>match ρ x with
  | .c (.agg cs)=>some (.ptr d 0,.box (cs.map .c) none)
  | .undef=>none
  |v=>some (.ptr d 0,.box [v] none)
 | .mksl e size AK=>(Aq (fun x=>closed (ρ x)) AK).bind fun l=>
   if l.all (fun v=>Bq v==size)then some (.osl d,.arr e size l)else none
 | .mkmap mt kt z=>some (.omap d,.map mt kt z [] [])
 | .make e size bytes z x y=>match ρ x,ρ y with
  | .c (.int _ n),.c (.int _ m)=>if 0≤n∧n≤m∧m*bytes≤140737488355328∧m≤4611686018427387904 then some (.osl d,.arr e size (List.replicate n.toNat z))else none
  |_,_=>none
 | .siter x=>match ρ x with
  | .c (.str s)=>some (.iter d,.siter s 0)
  |_=>none
 | .mrange x=>match ρ x with
  | .c (.map _ ks vs)=>some (.iter d,.miter ks vs none)
  |_=>none
 | .nbytes e x=>match ρ x with
  | .c (.str s)=>if s.length≤70368744177664 then some (.osl d,.arr e 1 (s.map fun b=>.int .u8 b.toNat))else none
  |_=>none
 |_=>none
end
def GB:SV→Bool
 | .c v=>Cw v
 | .ent .. | .undef=>false
 |_=>true
def Fq(cs:List SV)(o:Nat)(vs:List SV):List SV:=cs.take o++vs++cs.drop (o+vs.length)
def Ct(st:St):SV→Option (List CV)
 | .c (.sl _ es)=>some es
 | .osl id=>match st.ob id with
  | .arr _ _ es=>some es
  |_=>none
 |_=>none
def Fl(el:CV)(o n:Nat)(v:CV):CV:=
 match el with
 | .agg l=>.agg (l.take o++v.cells++l.drop (o+n))
 |_=>v
def AY(d:Option Nat)(ρ:SO→SV)(st:St):SOp→Option St
 | .store n a x=>match deref st.ob (ρ a)with
  | .ptr id o=>match st.ob id with
   | .box cs bt=>
    match ρ x with
    | .c (.agg l)=>if l.length=n∧o+n≤cs.length∧l.all Cw=true then some {st with ob:=upd st.ob id (.box (Fq cs o (l.map .c)) bt)}else none
    |v=>if n=1∧o<cs.length∧GB v=true then some {st with ob:=upd st.ob id (.box (cs.set o v) bt)}else none
   |_=>none
  | .eptr id i size o=>match st.ob id,ρ x with
   | .arr e sz es,.c v=>if size=sz∧0<n∧Bq v=n∧v.cells.all Cw=true then(es[i]?).bind fun el=>
     if o+n≤Bq el then
      some {st with ob:=upd st.ob id (.arr e sz (es.set i (Fl el o n v)))}
     else none
    else none
   |_,_=>none
  | .c (.wp [.bool b])=>match ρ x with
   | .c (.bool b')=>if n=1∧b=b' then some st else none
   |_=>none
  |_=>none
 | .append e size bytes x y=>
  match Ct st (ρ y)with
  |none=>none
  |some news=>
   if(news.all (fun v=>Bq v==size)&&news.all fun v=>v.cells.all Cw)=true then
    match ρ x with
    | .c (.sl (some true) _)=>
      if news.length*bytes≤140737488355328∧news.length≤4611686018427387904 then
       match d with
       |some d=>
          let st':=kill [d] st
          some {fr:=upd st'.fr d (.osl d),ob:=upd st'.ob d (.arr e size news)}
       |none=>none
      else none
    | .osl id=>match st.ob id with
      | .arr e' size' es=>
       if e'=e∧size'=size∧(es.length+news.length)*bytes≤140737488355328∧es.length+news.length≤4611686018427387904 then
        let st':=kill [id] st
        some (St.set {st' with ob:=upd st'.ob id (.arr e size (es++news))} d (.osl id))
       else none
      |_=>none
    |_=>none
   else none
 | .cpy e size x y=>match Ct st (ρ y),ρ x with
  |some news,.osl id=>match st.ob id with
   | .arr e' size' es=>
    if(e'=e∧size'=size)∧(news.all (fun v=>Bq v==size)&&news.all fun v=>v.cells.all Cw)=true then
     some (St.set {st with ob:=upd st.ob id (.arr e size (news.take (min news.length es.length)++es.drop (min news.length es.length)))} d (.c (.int .i64 (min news.length es.length:Nat))))
    else none
   |_=>none
  |_,_=>none
 | .mapent mt x k=>match ρ x,ρ k with
  | .omap id,.c k=>match st.ob id with
   | .map mt' kt z ks vs=>
    if mt'=mt∧AI kt k=true∧ks.length=vs.length then
     some (St.set {st with ob:=upd st.ob id (.map mt' kt z (Bk kt ks k) (Bl kt ks vs k (AX kt z ks vs k).1))} d (.ent id k (AX kt z ks vs k).1))
    else none
   |_=>none
  |_,_=>none
 | .entst x s v=>match ρ x,ρ s,ρ v with
  | .omap id,.stamp id' k,.c v=>match st.ob id with
   | .map mt kt z ks vs=>if id=id' then some {st with ob:=upd st.ob id (.map mt kt z ks (Bl kt ks vs k v))}else none
   |_=>none
  |_,_,_=>none
 | .mapupd mt x k v=>match ρ x,ρ k,ρ v with
  | .omap id,.c k,.c v=>match st.ob id with
   | .map mt' kt z ks vs=>if mt'=mt∧AI kt k=true then some {st with ob:=upd st.ob id (.map mt' kt z (Bk kt ks k) (Bl kt ks vs k v))}else none
   |_=>none
  |_,_,_=>none
 |_=>none
inductive Res where
 |val (v:CV)
 |new (o:Ob)
def Dg:BinOp→Bool
 | .neq=>true
 |_=>false
structure Eff where
 T:List Nat
 fn:List CV→(Nat→Ob)→Option (CV×(Nat→Ob))
structure Env where
 G:Nat→List CV
 fn:FuncId→List CV→Option Res
 cp:FuncId→Bool:=fun _=>false
 ef:FuncId→Option Eff:=fun _=>none
def Env.still(E:Env):Env:={E with ef:=fun _=>none}
def so(G:Nat→List CV)(fr:Nat→SV):SO→SV
 | .t i=>fr i
 | .k v=>.c v
 | .g i=>match G i with
  | []=>.undef
  |cs=>.c (.rp cs)
mutual
def memless:CV→Bool
 | .int _ _| .bool _| .str _| .nilif| .nilfn| .adr _| .nilp| .nam _| .bptr _=>true
 | .agg cs| .tup cs=>Cg cs
 | .sl _ _| .map _ _ _| .rp _| .wp _| .fn _ _| .ifc=>false
def Cg:List CV→Bool
 | []=>true
 |c::cs=>memless c&&Cg cs
end
def Res.memless:Res→Bool
 | .val v=>WB.memless v
 | .new (.arr _ _ es)=>Cg es
 | .new (.map _ _ _ ks vs)=>Cg ks&&Cg vs
 | .new _=>false
def LM(d:Nat):Ob→SV
 | .arr .. =>.osl d
 | .map .. =>.omap d
 | .siter .. | .miter .. =>.iter d
 |_=>.ptr d 0
def By(st:St)(d:Option Nat)(v:SV)(o:Ob):Option St:=
 match d with
 |some d=>match st.ob d with
  | .none=>some {fr:=upd st.fr d v,ob:=upd st.ob d o}
  |_=>none
 |none=>none
def DN(st:St)(d:Option Nat):Res→Option St
 | .val v=>some (st.set d (.c v))
 | .new o=>By st d (LM (d.getD 0) o) o
inductive Cls where
 |val|grow|new|eff|call|copy
def SOp.cls:SOp→Cls
 | .call .. | .callv .. =>.call
 | .mcopy .. =>.copy
 | .bytes .. | .lsl .. | .capp .. =>.grow
 | .alloc .. | .allocT .. | .box .. | .mksl .. | .mkmap .. | .make .. | .siter .. | .nbytes .. | .mrange .. =>.new
 | .store .. | .append .. | .mapent .. | .entst .. | .mapupd .. | .snext .. | .cpy .. =>.eff
 |_=>.val
def isC:SV→Bool
 | .c _=>true
 |_=>false
def Dc(E:Env)(rd:Nat→Ob)(ρ:SO→SV)(st:St)(d:Option Nat)(f:FuncId)(args:List SO)(caps:List CV):Option St:=
 (Aq (fun x=>Cn rd (ρ x)) args).bind fun l=>(E.fn f (l++caps)).bind fun r=>
  if(args.all fun x=>isC (ρ x))||r.memless then DN st d r else none
def Gp(T:List Nat)(s:SV):SV:=match s.ref with
 |some id=>if T.contains id then s else .undef
 |none=>s
def MQ(T:List Nat):Ob→Ob
 | .box cs bt=>.box (cs.map (Gp T)) bt
 |o=>o
def Cy(T:List Nat)(ob:Nat→Ob):Nat→Ob:=fun id=>if T.contains id then MQ T (ob id)else .none
def Ck(T:List Nat)(H:Nat→Ob)(st:St):St:=
 {fr:=fun i=>Au T (st.fr i),ob:=fun id=>if T.contains id then H id else BZ T (st.ob id)}
def CP(ρ:SO→SV)(st:St)(d:Option Nat)(e:Eff)(args:List SO)(caps:List CV):Option St:=
 (Aq (fun x=>closed (ρ x)) args).bind fun l=>(e.fn (l++caps) (Cy e.T st.ob)).bind fun p=>some ((Ck e.T p.2 st).set d (.c p.1))
def GS:CV→Bool
 | .str s=>decide (s.length≤9223372036854775807)
 |_=>false
def F8(E:Env)(ρ:SO→SV)(st:St)(d:Option Nat)(f:FuncId)(x y:SO):Option St:=
 if E.cp f=true then match ρ x,ρ y with
  | .omap id,.c (.map _ ks vs)=>match st.ob id with
   | .map mt .str zc [] []=>if ks.all GS=true∧ks.length≤9223372036854775807 then some (St.set {st with ob:=upd st.ob id (.map mt .str zc ks vs)} d (.c (.tup [])))else none
   |_=>none
  |_,_=>none
 else none
def A4(E:Env)(rd:Nat→Ob)(st:St)(d:Option Nat)(op:SOp):Option St:=
 let ρ:=so E.G st.fr
 match op.cls with
 | .val| .grow=>(Am rd ρ op).map fun v=>st.set d v
 | .new=>(Bw ρ (d.getD 0) op).bind fun(v,o)=>By st d v o
 | .eff=>AY d ρ st op
 | .call=>match op with
  | .call f args=>match E.ef f with
   |some e=>CP ρ st d e args []
   |none=>Dc E rd ρ st d f args []
  | .callv f args=>match ρ f with
   | .c (.fn f caps)=>match E.ef f with
    |some e=>CP ρ st d e args caps
    |none=>Dc E rd ρ st d f args caps
   |_=>none
  |_=>none
 | .copy=>match op with
  | .mcopy f x y=>F8 E ρ st d f x y
  |_=>none
def Bn:SV:=.c (.tup [])
def A2(D:Option (List Nat))(ob:Nat→Ob):Nat→Ob:=
 match D with
 |none=>ob
 |some D=>fun i=>if D.contains i then .none else ob i
def SOp.calls:SOp→Bool
 | .call .. | .callv .. =>true
 |_=>false
def hid(op:SOp)(D:List Nat):List Nat:=if op.calls then D.filter (fun i=>decide (D.count i<2))else D
theorem Rm{op:SOp}{D:List Nat}(h:op.calls=false):hid op D=D:=by simp[hid,h]
def Env.at(E:Env)(D:Option (List Nat)):Env:=match D with
 |none=>E
 |some _=>E.still
@[simp] theorem Zg{E:Env}:E.still.G=E.G:=rfl
@[simp] theorem DS{E:Env}{D:Option (List Nat)}:(E.at D).G=E.G:=by cases D<;>rfl
@[simp] theorem PC{E:Env}{D:Option (List Nat)}:(E.at D).fn=E.fn:=by cases D<;>rfl
@[simp] theorem Uv{E:Env}{D:Option (List Nat)}:(E.at D).cp=E.cp:=by cases D<;>rfl
theorem Uw{E:Env}{D:Option (List Nat)}{f:FuncId}(h:E.ef f=none):(E.at D).ef f=none:=by cases D<;>first|exact h|rfl
def Aw(E:Env)(D:Option (List Nat))(l:SL)(st:St):Option St:=
 match l.guard with
 |none=>A4 (E.at D) (A2 (D.map (hid l.op)) st.ob) st l.dst l.op
 |some (g,want)=>match st.fr g with
  | .c (.bool b)=>if b=want then A4 (E.at D) (A2 (D.map (hid l.op)) st.ob) st l.dst l.op else some (st.set l.dst Bn)
  | .c (.tup [])=>some (st.set l.dst Bn)
  |_=>none
def BU(E:Env)(D:Option (List Nat)):List SL→St→Option St
 | [],st=>some st
 |l::ls,st=>(Aw E D l st).bind (BU E D ls)
def B3(E:Env)(rd:Nat→Ob)(l:SL)(st:St):Option St:=
 match l.guard with
 |none=>A4 E rd st l.dst l.op
 |some (g,want)=>match st.fr g with
  | .c (.bool b)=>if b=want then A4 E rd st l.dst l.op else some (st.set l.dst Bn)
  | .c (.tup [])=>some (st.set l.dst Bn)
  |_=>none
def Ca(ob:Nat→Ob):Nat→Ob:=fun i=>if As≤i then .none else ob i
def Dd(s:SV):SV:=match s.ref with
 |some id=>if As≤id then .undef else s
 |none=>s
def F4:Ob→Ob
 | .box cs bt=>.box (cs.map Dd) bt
 |o=>o
def CL(st:St):St:={fr:=fun i=>Dd (st.fr i),ob:=fun i=>if As≤i then st.ob i else F4 (st.ob i)}
def DD:Ob→Bool
 | .arr .. | .map .. =>true
 |_=>false
def Env.named(E:Env):Env where
 G:=E.G
 cp:=E.cp
 fn:=fun f l=>match E.fn f l with
  |some (.new o)=>if DD o=true then some (.new o)else none
  |r=>r
 ef:=fun f=>match E.ef f with
  |some e=>if(e.T.all fun N=>Nat.ble As N)=true then some e else none
  |none=>none
def CQ(E:Env)(D:List Nat)(l:SL)(st:St):Option St:=B3 E (A2 (some (hid l.op D)) (Ca st.ob)) l st
def EJ(E:Env)(D:List Nat):List SL→St→Option St
 | [],st=>some st
 |l::ls,st=>(CQ E D l st).bind (EJ E D ls)
def Hq(E:Env)(D:List Nat)(ls:List SL)(st:St):Option St:=EJ E.named D ls (CL (kill D st))
inductive Cc where
 |skip
 |reg (draw:Bool) (D:List Nat) (ls:List SL)
 |regE (D:List Nat) (ls:List SL)
 |mnext (it d ok:Nat)
 |seq (a b:Cc)
 |cond (c:SO) (x y:Cc)
 |block (id:Nat) (b:Cc)
 |loop (b:Cc)
 |exit (id:Nat)
 |ret
 |bad
inductive Ex where
 |normal
 |exit (id:Nat)
 |ret
def Cd(E:Env)(draw:Bool)(D:List Nat)(ls:List SL)(st:St):Option St:=
 BU E (if draw then some D else none) ls (if D.isEmpty then st else kill D st)
def pwp(E:Env):Cc→(Ex→St→Prop)→St→Prop
 | .skip,Q,st=>Q .normal st
 | .reg draw D ls,Q,st=>∃st',Cd E draw D ls st=some st'∧Q .normal st'
 | .regE D ls,Q,st=>∃st',(Cd E true D ls st=some st'∨Hq E D ls st=some st')∧Q .normal st'
 | .mnext it d ok,Q,st=>∃id ks vs cur,st.fr it=.iter id∧st.ob id=.miter ks vs cur∧
   (ks= []→Q .normal {st with fr:=upd (upd st.fr d (.c (.tup [.bool false]))) ok (.c (.bool false))})∧
   ∀i k v,ks[i]? =some k→vs[i]? =some v→Q .normal {fr:=upd (upd st.fr d (.c (.tup [.bool true,k,v]))) ok (.c (.bool true)),ob:=upd st.ob id (.miter (ks.eraseIdx i) (vs.eraseIdx i) (some (k,v)))}
 | .seq a b,Q,st=>pwp E a (fun e st'=>match e with| .normal=>pwp E b Q st'|e=>Q e st') st
 | .cond c x y,Q,st=>∃b,so E.G st.fr c=.c (.bool b)∧(b=true→pwp E x Q st)∧(b=false→pwp E y Q st)
 | .block id c,Q,st=>pwp E c (fun e st'=>match e with| .exit i=>if i=id then Q .normal st' else Q (.exit i) st'|e=>Q e st') st
 | .loop c,Q,st=>∃(R:Nat→St→Prop),(∃m,R m st)∧∀m s,R m s→pwp E c (fun e s'=>match e with| .normal=>∃k,k<m∧R k s'|e=>Q e s') s
 | .exit id,Q,st=>Q (.exit id) st
 | .ret,Q,st=>Q .ret st
 | .bad,_,_=>False
mutual
def Cp:Value→Option CV
 | .int k n=>some (.int k n)
 | .bool b=>some (.bool b)
 | .string s=>some (.str s.data.toList)
 | .slice none 0 0=>some (.sl (some true) [])
 | .map none=>some (.map (some true) [] [])
 | .nilIface=>some .nilif
 | .nilFunc=>some .nilfn
 | .pointer none=>some .nilp
 | .agg ⟨cs⟩=>(Iq cs).map .agg
 |_=>none
def Iq:List Value→Option (List CV)
 | []=>some []
 |v::vs=>(Cp v).bind fun c=>(Iq vs).map fun cs=>c::cs
end
def Ee(P:Program)(t:TypeId):Option KT:=
 match P.underlying t with
 |some (.int k)=>some (.int k)
 |some .string=>some .str
 |some .bool=>some .bool
 |_=>none
def Ev(P:Program):Nat→List Field→Option (List KT)
 |_,[]=>some []
 |i,f::fs=>if f.offset=i∧f.name≠ "_" then(Ee P f.type).bind fun k=>(Ev P (i+1) fs).map fun ks=>k::ks else none
def Ed(P:Program)(t:TypeId):Option KT:=
 match P.underlying t with
 |some (.struct fs)=>if P.stoodInHeld t then none else(Ev P 0 fs.toList).map .struct
 |_=>Ee P t
def Fk(P:Program)(t:TypeId):Option (KT×CV):=
 match P.underlying t with
 |some (.map k e)=>(Ed P k).bind fun kt=>(P.info? e).bind fun i=>(i.zero).bind fun z=>(Cp z).map fun c=>(kt,c)
 |_=>none
structure Cz where
 σ:Nat→Value
 β:Nat→CV→Nat→Prop
 al:Nat→Nat
structure Dm where
 T:Nat→Prop
 I:Nat→Prop
def Dm.no:Dm:=⟨fun _=>True,fun _=>False⟩
structure WL extends World where
 le:Dm
 L:Nat→Nat→Prop
def IS(w:World):WL:={w with le:=.no,L:=fun _ _=>False}
structure WL.To (w0:WL) (w:World):Prop where
 os:w.os=w0.os
 tape:w.tape=w0.tape
 output:w.output=w0.output
 size:w0.heap.size≤w.heap.size
 block:∀k,k<w0.heap.size→(∀id,¬w0.L id k)→w.heap[k]? =w0.heap[k]?
theorem WL.To.trans{w0:WL}{w w':World}(h:w0.To w)(k:Below w0.heap.size w w'):w0.To w':=
 ⟨k.os.trans h.os,k.tape.trans h.tape,k.output.trans h.output,Nat.le_trans h.size k.size,fun i hi hl=>(k.block i hi).trans (h.block i hi hl)⟩
theorem ND{w w':World}:(IS w).To w'↔Below w.heap.size w w':=
 ⟨fun h=>⟨h.os,h.tape,h.output,h.size,fun k hk=>h.block k hk (fun _ hh=>hh)⟩,fun h=>⟨h.os,h.tape,h.output,h.size,fun k hk _=>h.block k hk⟩⟩
def blk:Value→Option Nat
 | .pointer (some a)=>some a.block
 | .slice (some a) _ _=>some a.block
 | .map (some r)=>some r
 |_=>none
def Ar(w:World)(M:MM)(z:Cz)(ob:Nat→Ob):SV→Value→Prop
 | .c cv,v=>RelC w M cv v
 | .ptr id o,v=>ob id≠ .none∧∃g,z.σ id=.pointer (some ⟨g,0,none⟩)∧v=.pointer (some ⟨g,o,none⟩)
 | .eptr id i size o,v=>ob id≠ .none∧∃g n c,z.σ id=.slice (some ⟨g,0,none⟩) n c∧v=.pointer (some ⟨g,i*size+o,none⟩)
 | .osl id,v=>ob id≠ .none∧v=z.σ id
 | .omap id,v=>ob id≠ .none∧v=z.σ id
 | .iter id,v=>ob id≠ .none∧v=z.σ id
 | .stamp id k,v=>ob id≠ .none∧∃b,z.β id k b∧v=.int .i64 b
 | .ent id k cv,v=>ob id≠ .none∧∃b u,z.β id k b∧v=.tuple #[u,.int .i64 b]∧RelC w M cv u
 | .undef,_=>True
def Az(w:World)(M:MM)(z:Cz)(ob:Nat→Ob):List SV→List Value→Prop
 | [],vs=>vs= []
 |s::ss,vs=>∃v vs',vs=v::vs'∧Ar w M z ob s v∧Az w M z ob ss vs'
def AW(w:World)(M:MM)(size:Nat):List CV→List Value→Prop
 | [],xs=>xs= []
 |e::es,xs=>∃v xs',xs=v.cells.toList++xs'∧v.cells.size=size∧RelC w M e v∧AW w M size es xs'
def JI(w:World)(M:MM)(β:CV→Nat→Prop)(kt:KT)(ks vs:List CV)(ens:List MapEntry)(clk:Nat):Prop:=
 RelL w M ks (ens.map (·.key))∧RelL w M vs (ens.map (·.val))∧
   (∀k∈ks,AI kt k=true)∧ks.Nodup∧(∀en:MapEntry,en∈ens→en.born<clk)∧(ens.map (·.born)).Nodup∧(∀k b,β k b→∃(i:Nat) (en:MapEntry),ks[i]? =some k∧ens[i]? =some en∧en.born=b)
def Ds(P:Program)(w:World)(B:Nat)(e:TypeId)(size:Nat)(v:Value)(n:Nat)(xs:List Value):Prop:=
 xs.length=n*size∧((v=.slice none 0 0∧n=0)∨
  ∃g cap cur ty fz,v=.slice (some ⟨g,0,none⟩) n cap∧B≤g∧w.heap[g]? =some (.cells cur ty fz)∧((P.info? e).isSome=true→ty=e∧fz=(0,0))∧(fz=(0,0)∨cap*size≤fz.1)∧n≤cap∧cap≤maxLen∧cur.size=cap*size∧cur.toList.take (n*size)=xs)
theorem Ds.of{P:Program}{w:World}{B:Nat}{e:TypeId}{size:Nat}{v:Value}{n:Nat}{xs:List Value}(h:w.ownsRow B e size v n xs):Ds P w B e size v n xs:=by
 refine⟨h.1, ?_⟩;rcases h.2 with h2|⟨g,cap,cur,e1,e2,e3,r⟩
 ·exact .inl h2
 ·exact .inr ⟨g,cap,cur,e,(0,0),e1,e2,e3,fun _=>⟨rfl,rfl⟩,.inl rfl,r⟩
theorem Ds.own{P:Program}{w:World}{B:Nat}{e:TypeId}{size:Nat}{v:Value}{n:Nat}{xs:List Value}(h:Ds P w B e size v n xs){i:TypeInfo}(he:P.info? e=some i):w.ownsRow B e size v n xs:=by
 refine⟨h.1, ?_⟩;rcases h.2 with h2|⟨g,cap,cur,ty,fz,e1,e2,e3,e4,_,r⟩
 ·exact .inl h2
 ·obtain⟨rfl,rfl⟩:=e4 (by rw[he];rfl);exact .inr ⟨g,cap,cur,e1,e2,e3,r⟩
theorem Ds.blk{P:Program}{w w':World}{B B':Nat}{e:TypeId}{size:Nat}{v:Value}{n:Nat}{xs:List Value}(h:Ds P w B e size v n xs)(hb:∀g,blk v=some g→w'.heap[g]? =w.heap[g]?)(hB:B'≤B):Ds P w' B' e size v n xs:=by
 refine⟨h.1, ?_⟩;rcases h.2 with h2|⟨g,cap,cur,ty,fz,e1,e2,e3,r⟩
 ·exact .inl h2
 ·exact .inr ⟨g,cap,cur,ty,fz,e1,Nat.le_trans hB e2,(hb g (by rw[e1];rfl)).trans e3,r⟩
def TyO(bt:Option TypeId):Type:={y:TypeId//∀T,bt=some T→y=T}
def MIt(w:World)(M:MM)(mo:Option Nat)(since:Nat)(seen:Array Nat)(ks vs:List CV)(cur:Option (CV×CV)):Prop:=
 (mo=none∧ks= []∧vs= []∧cur=none)∨∃(m:Nat) (ens rem:List MapEntry),mo=some m∧¬M m∧w.heap[m]? =some (.map ⟨ens⟩ since)∧Ens ens since∧rem.Perm (ens.filter fun e=> !seen.contains e.born)∧
  RelL w M ks (rem.map (·.key))∧RelL w M vs (rem.map (·.val))∧(∀p,cur=some p→∃(seen0:Array Nat) (en:MapEntry),seen=seen0.push en.born∧en∈ens∧RelC w M p.1 en.key∧RelC w M p.2 en.val)
theorem MIt.keep{w w':World}{M M':MM}(h:Br w M w' M'){mo:Option Nat}{since:Nat}{seen:Array Nat}{ks vs:List CV}{cur:Option (CV×CV)}(hm:MIt w M mo since seen ks vs cur):MIt w' M' mo since seen ks vs cur:=by
 rcases hm with hm|⟨m,ens,rem,e1,e2,e3,e4,e5,e6,e7,e8⟩
 ·exact .inl hm
 ·refine .inr ⟨m,ens,rem,e1,fun hh=>e2 (h.less m (heap_lt e3) hh),(h.heap m (heap_lt e3) e2).trans e3,e4,e5,RelL.keep h _ _ e6,RelL.keep h _ _ e7,fun p hp=> ?_⟩;obtain⟨s0,en,g1,g2,g3,g4⟩:=e8 p hp;exact⟨s0,en,g1,g2,RelC.keep h _ _ g3,RelC.keep h _ _ g4⟩
def Bf(P:Program)(w:World)(M:MM)(B:Nat)(z:Cz)(ob:Nat→Ob)(id:Nat)(v:Value):Ob→Prop
 | .none=>True
 | .box cs bt=>∃(g:Nat) (ty:TyO bt) (vs:List Value),v=.pointer (some ⟨g,0,none⟩)∧w.heap[g]? =some (.cells ⟨vs⟩ ty.1 (0,0))∧Az w M z ob cs vs
 | .arr e size es=>∃xs,Ds P w B e size v es.length xs∧AW w M size es xs
 | .map mt kt zc ks vs=>Fk P mt=some (kt,zc)∧∃(ks' vs':List CV) (r:Nat) (ens:List MapEntry) (clk:Nat),MP ks vs ks' vs'∧v=.map (some r)∧w.heap[r]? =some (.map ⟨ens⟩ clk)∧JI w M (z.β id) kt ks' vs' ens clk
 | .siter s pos=>∃r,v=.pointer (some ⟨r,0,none⟩)∧w.heap[r]? =some (.stringIter ⟨⟨s⟩⟩ pos)
 | .miter ks vs cur=>∃(r:Nat) (mo:Option Nat) (since:Nat) (seen:Array Nat),v=.pointer (some ⟨r,0,none⟩)∧w.heap[r]? =some (.mapIter mo since seen since)∧MIt w M mo since seen ks vs cur
 | .buf e s=>w.ownsRowF B e 1 v s.length (Lib.byteCells s)
def own(z:Cz)(ob:Nat→Ob)(g:Nat):Prop:=∃id,ob id≠ .none∧blk (z.σ id)=some g
def Ao(M0:MM)(z:Cz)(ob:Nat→Ob):MM:=⟨fun g=>M0 g∨own z ob g,z.al⟩
def GOk(G:Nat→List CV)(w:World)(M:MM):Prop:=∀i,G i≠ []→RelC w M (.rp (G i)) (.pointer (some ⟨i,0,none⟩))∧∃cs t fr,w.heap[i]? =some (.cells cs t fr)∧cs.size=(G i).length∧noNamL (fun _=>false) (G i)=true
theorem GOk.keep{G:Nat→List CV}{w w':World}{M M':MM}(h:GOk G w M)(hs:w.heap.size≤w'.heap.size)(hh:∀g,g<w.heap.size→¬M g→w'.heap[g]? =w.heap[g]?)(hl:∀g,g<w.heap.size→M' g→M g):GOk G w' M':=by
 intro i hi;obtain⟨h1,cs,t,fr,h2,h3,h4⟩:=h i hi
 have hM:¬M i:=by
  unfold RelC at h1;obtain⟨ad,vs,e,_,hm,_⟩:=h1;simp only[Value.pointer.injEq,Ac]at e;subst e;exact hm
 refine⟨RelC.named (T:=fun _=>false) ⟨hs,hh,hl,fun N hN=>by cases hN⟩ _ _ (by unfold BQ;exact h4) h1,cs,t,fr, ?_,h3,h4⟩;rw[hh i (heap_lt h2) hM];exact h2
structure Gc (w0:WL) (M0:MM) (n:Nat) (z:Cz) (ob:Nat→Ob):Prop where
 lent:∀id g,w0.L id g→M0 g∧w0.le.I id
 told:∀{bt} N cs,As≤N→ob N=.box cs bt→z.σ N=.pointer (some ⟨z.al N,0,none⟩)
 names:∀N,w0.le.T N→z.al N=M0.al N
 low:n≤As
theorem Gc.of{w0:WL}{M0:MM}{n:Nat}{z z':Cz}{ob ob':Nat→Ob}(h:Gc w0 M0 n z ob)(hal:z'.al=z.al)(hb:∀{bt} N cs',As≤N→ob' N=.box cs' bt→∃cs bt',ob N=.box cs bt'∧z'.σ N=z.σ N):Gc w0 M0 n z' ob':=
 ⟨h.lent,fun N cs hN hc=>by
  obtain⟨cs',_,h1,h2⟩:=hb N cs hN hc;rw[h2,hal]
  exact h.told N cs' hN h1,fun N hN=>by rw[hal];exact h.names N hN,h.low⟩
structure SR (P:Program) (G:Nat→List CV) (w0:WL) (M0:MM) (n:Nat) (st:St) (a:Act) (w:World) (z:Cz):Prop where
 size:a.tmps.size=n
 defers:a.defers= []
 below:w0.To w
 outer:∀g,M0 g→g<w0.heap.size
 nam:Gc w0 M0 n z st.ob
 glob:GOk G w0.toWorld M0
 fr:∀i,Ar w (Ao M0 z st.ob) z st.ob (st.fr i) (a.tmps.getD i undef)
 ob:∀id,Bf P w (Ao M0 z st.ob) 0 z st.ob id (z.σ id) (st.ob id)
 lo:∀id g,st.ob id≠ .none→blk (z.σ id)=some g→(w0.heap.size≤g∨w0.L id g)∧g<w.heap.size
 apart:∀i j g,i≠j→st.ob i≠ .none→st.ob j≠ .none→blk (z.σ i)=some g→blk (z.σ j)≠some g
section
variable {P:Program} {w w':World} {M M':MM} {z z':Cz} {ob ob':Nat→Ob}
structure E8 (ob:Nat→Ob) (z:Cz) (ob':Nat→Ob) (z':Cz) (s:SV):Prop where
 live:∀id,s.ref=some id→ob id≠ .none→ob' id≠ .none
 at_:∀id,s.ref=some id→ob id≠ .none→z'.σ id=z.σ id
 born:∀id,s.ref=some id→ob id≠ .none→∀k b,z.β id k b→z'.β id k b
theorem Ar.keep(h:Br w M w' M'):∀{s:SV} {v:Value},E8 ob z ob' z' s→Ar w M z ob s v→Ar w' M' z' ob' s v
 | .c cv,v,_,hv=>RelC.keep h cv v hv
 | .ptr id o,v,k,hv=>by
  obtain⟨hl,g,e,e2⟩:=hv;exact⟨k.live id rfl hl,g,(k.at_ id rfl hl).trans e,e2⟩
 | .eptr id i s o,v,k,hv=>by
  obtain⟨hl,g,n,c,e,e2⟩:=hv;exact⟨k.live id rfl hl,g,n,c,(k.at_ id rfl hl).trans e,e2⟩
 | .osl id,v,k,hv=>⟨k.live id rfl hv.1,hv.2.trans (k.at_ id rfl hv.1).symm⟩
 | .omap id,v,k,hv=>⟨k.live id rfl hv.1,hv.2.trans (k.at_ id rfl hv.1).symm⟩
 | .iter id,v,k,hv=>⟨k.live id rfl hv.1,hv.2.trans (k.at_ id rfl hv.1).symm⟩
 | .stamp id key,v,k,hv=>by
  obtain⟨hl,b,e,e2⟩:=hv;exact⟨k.live id rfl hl,b,k.born id rfl hl _ _ e,e2⟩
 | .ent id key cv,v,k,hv=>by
  obtain⟨hl,b,u,e,e2,e3⟩:=hv;exact⟨k.live id rfl hl,b,u,k.born id rfl hl _ _ e,e2,RelC.keep h cv u e3⟩
 | .undef,_,_,_=>trivial
theorem Az.keep(h:Br w M w' M'):∀{cs:List SV} {vs:List Value},(∀s∈cs,E8 ob z ob' z' s)→Az w M z ob cs vs→Az w' M' z' ob' cs vs
 | [],_,_,hv=>hv
 |c::cs,vs,k,hv=>by
  obtain⟨v,vs',e,h1,h2⟩:=hv;exact⟨v,vs',e,Ar.keep h (k c (by simp)) h1,Az.keep h (fun s hs=>k s (by simp[hs])) h2⟩
theorem AW.keep(h:Br w M w' M'){size:Nat}:∀{es:List CV} {xs:List Value},AW w M size es xs→AW w' M' size es xs
 | [],_,hv=>hv
 |e::es,xs,hv=>by
  obtain⟨v,xs',e1,h1,h2,h3⟩:=hv;exact⟨v,xs',e1,h1,RelC.keep h e v h2,AW.keep h h3⟩
theorem Bf.keep(h:Br w M w' M'){B id:Nat}{v:Value}:∀{o:Ob},(∀g,blk v=some g→w'.heap[g]? =w.heap[g]?)→
  (∀{bt} cs,o=.box cs bt→∀s∈cs,E8 ob z ob' z' s)→(∀k b,z'.β id k b→z.β id k b)→Bf P w M B z ob id v o→Bf P w' M' B z' ob' id v o
 | .none,_,_,_,_=>trivial
 | .box cs bt,hb,hc,_,hv=>by
  obtain⟨g,ty,vs,e,hh,hs⟩:=hv;exact⟨g,ty,vs,e,(hb g (by rw[e];rfl)).trans hh,Az.keep h (hc cs rfl) hs⟩
 | .arr e size es,hb,_,_,hv=>by
  obtain⟨xs,ho,hf⟩:=hv;exact⟨xs,ho.blk hb (Nat.le_refl _),AW.keep h hf⟩
 | .map mt kt zz ks vs,hb,_,hβ,hv=>by
  obtain⟨hmt,ks',vs',r,ens,clk,hp,e,hh,h1,h2,h3,h7,h4,h5,h6⟩:=hv;exact⟨hmt,ks',vs',r,ens,clk,hp,e,(hb r (by rw[e];rfl)).trans hh,RelL.keep h _ _ h1,RelL.keep h _ _ h2,h3,h7,h4,h5,fun k b hk=>h6 k b (hβ k b hk)⟩
 | .siter s pos,hb,_,_,hv=>by
  obtain⟨r,e,hh⟩:=hv;exact⟨r,e,(hb r (by rw[e];rfl)).trans hh⟩
 | .miter ks vs cur,hb,_,_,hv=>by
  obtain⟨r,mo,since,seen,e,hh,hm⟩:=hv;exact⟨r,mo,since,seen,e,(hb r (by rw[e];rfl)).trans hh,hm.keep h⟩
 | .buf e s,hb,_,_,hv=>by
  refine⟨hv.1, ?_⟩;rcases hv.2 with h2|⟨g,cap,cur,fz,e1,e2,e3,r⟩
  ·exact .inl h2
  ·exact .inr ⟨g,cap,cur,fz,e1,e2,(hb g (by rw[e1];rfl)).trans e3,r⟩
end
theorem AW.named{w w':World}{M M':MM}{T:Nat→Bool}(h:Gd T w M w' M'){size:Nat}:∀{es:List CV} {xs:List Value},noNamL T es=true→AW w M size es xs→AW w' M' size es xs
 | [],_,_,hv=>hv
 |e::es,xs,hn,hv=>by
  simp only[noNamL,Af]at hn;obtain⟨v,xs',e1,h1,h2,h3⟩:=hv;exact⟨v,xs',e1,h1,RelC.named h e v hn.1 h2,AW.named h hn.2 h3⟩
theorem H9{T:Nat→Bool}:∀{l:List CV},noNamL T l=true↔∀c∈l,BQ T c=true
 | []=>by simp[noNamL]
 |c::l=>by simp[noNamL,H9 (l:=l)]
theorem Xh{D:List Nat}{s:SV}{id:Nat}(h:(Au D s).ref=some id):s.ref=some id∧id∉D∧Au D s=s:=by
 cases s<;>simp only[Au]at h⊢ <;>first
  |(simp[SV.ref]at h;done)
  |(split at h<;>simp_all[SV.ref])
theorem Ar.killed{w:World}{M M':MM}{z:Cz}{ob ob':Nat→Ob}{D:List Nat}{s:SV}{v:Value}(h:Br w M w M')
  (hl:∀id,id∉D→ob id≠ .none→ob' id≠ .none) (hv:Ar w M z ob s v):Ar w M' z ob' (Au D s) v:=by
 have key:∀id,s.ref=some id→Au D s=s∨Au D s=.undef:=by
  intro id hid;cases s<;>simp only[Au]<;>first|(split<;>simp;done)|(simp;done)
 cases hr:s.ref with
 |none=>
  cases s<;>simp[SV.ref]at hr
  ·exact RelC.keep h _ _ hv
  ·trivial
 |some id=>
  rcases key id hr with e|e
  ·rw[e];have hd:=(Xh (D:=D) (s:=s) (id:=id) (by rw[e];exact hr)).2.1;exact Ar.keep h ⟨fun i hi hn=>by rw[hr]at hi;cases hi;exact hl _ hd hn,fun _ _ _=>rfl,fun _ _ _ _ _ hh=>hh⟩ hv
  ·rw[e];trivial
theorem Az.killed{w:World}{M M':MM}{z:Cz}{ob ob':Nat→Ob}{D:List Nat}(h:Br w M w M')
  (hl:∀id,id∉D→ob id≠ .none→ob' id≠ .none):∀{cs:List SV} {vs:List Value},Az w M z ob cs vs→Az w M' z ob' (cs.map (Au D)) vs
 | [],_,hv=>hv
 |c::cs,vs,hv=>by
  obtain⟨v,vs',e,h1,h2⟩:=hv;exact⟨v,vs',e,Ar.killed h hl h1,Az.killed h hl h2⟩
theorem R4{D:List Nat}{o:Ob}:BZ D o=.none↔o=.none:=by
 cases o<;>simp[BZ]
theorem Fi{D:List Nat}{st:St}{id:Nat}:(kill D st).ob id≠ .none↔id∉D∧st.ob id≠ .none:=by
 unfold kill;by_cases h:id∈D
 ·simp[h]
 ·simp[h,R4]
theorem Je{z:Cz}{D:List Nat}{st:St}{g:Nat}(h:own z (kill D st).ob g):own z st.ob g:=by
 obtain⟨id,hl,hb⟩:=h;exact⟨id,(Fi.1 hl).2,hb⟩
section
variable {P:Program} {G:Nat→List CV} {w0:WL} {M0:MM} {n:Nat} {st:St} {a:Act} {w:World} {z:Cz}
theorem SR.killed(h:SR P G w0 M0 n st a w z)(D:List Nat):SR P G w0 M0 n (kill D st) a w z:=by
 have hk:Br w (Ao M0 z st.ob) w (Ao M0 z (WB.kill D st).ob):=⟨Nat.le_refl _,fun _ _ _=>rfl,fun g _ hg=>Or.imp id Je hg,rfl⟩;have hl:∀id,id∉D→st.ob id≠ .none→(WB.kill D st).ob id≠ .none:=fun id h1 h2=>Fi.2 ⟨h1,h2⟩
 have hn:Gc w0 M0 n z (WB.kill D st).ob:=h.nam.of rfl fun N cs hN hc=>by
  unfold WB.kill at hc;simp only at hc;split at hc
  ·cases hc
  ·cases hob:st.ob N<;>rw[hob]at hc<;>cases hc;exact⟨_,_,rfl,rfl⟩
 refine⟨h.size,h.defers,h.below,h.outer,hn,h.glob,fun i=>Ar.killed hk hl (h.fr i),fun id=> ?_,fun id g h1 h2=>h.lo id g (Fi.1 h1).2 h2,
  fun i j g hij h1 h2=>h.apart i j g hij (Fi.1 h1).2 (Fi.1 h2).2⟩
 by_cases hid:id∈D
 ·have:(WB.kill D st).ob id=.none:=by simp[WB.kill,hid]
  rw[this];trivial
 ·have e:(WB.kill D st).ob id=BZ D (st.ob id):=by simp[WB.kill,hid]
  rw[e];have ho:=h.ob id
  cases hob:st.ob id with
  |box cs=>
   rw[hob]at ho;obtain⟨g,ty,vs,e1,e2,e3⟩:=ho;exact⟨g,ty,vs,e1,e2,Az.killed hk hl e3⟩
  |none=>trivial
  |arr e size es=>rw[hob]at ho;exact Bf.keep hk (fun _ _=>rfl) (fun cs hc=>by cases hc) (fun _ _ hh=>hh) ho
  |map mt kt zz ks vs=>rw[hob]at ho;exact Bf.keep hk (fun _ _=>rfl) (fun cs hc=>by cases hc) (fun _ _ hh=>hh) ho
  |siter s pos=>rw[hob]at ho;exact Bf.keep hk (fun _ _=>rfl) (fun cs hc=>by cases hc) (fun _ _ hh=>hh) ho
  |miter ks vs cur=>rw[hob]at ho;exact Bf.keep hk (fun _ _=>rfl) (fun cs hc=>by cases hc) (fun _ _ hh=>hh) ho
  |buf e s=>rw[hob]at ho;exact Bf.keep hk (fun _ _=>rfl) (fun cs hc=>by cases hc) (fun _ _ hh=>hh) ho
theorem S1(a:Act)(d:Nat)(v:Value)(i:Nat):(a.put (some d) v).tmps.getD i undef=if i=d∧d<a.tmps.size then v else a.tmps.getD i undef:=by
 simp only[Act.put,Array.getD_eq_getD_getElem?,Array.getElem?_setIfInBounds];by_cases h:d=i
 ·subst h;by_cases hd:d<a.tmps.size
  ·simp[hd]
  ·simp[hd]
 ·simp[h,Ne.symm h]
theorem SR.put(h:SR P G w0 M0 n st a w z){d:Option Nat}(hd:∀i,d=some i→i<n){s:SV}{v:Value}(hs:Ar w (Ao M0 z st.ob) z st.ob s v):
  SR P G w0 M0 n (st.set d s) (a.put d v) w z:=by
 cases d with
 |none=>exact h
 |some d=>
  have hlt:=hd d rfl;refine⟨by simpa[Act.put]using h.size,h.defers,h.below,h.outer,h.nam,h.glob,fun i=> ?_,h.ob,h.lo,h.apart⟩;rw[S1];by_cases hi:i=d
  ·subst hi;rw[if_pos ⟨rfl,by rw[h.size];exact hlt⟩];simpa[St.set,upd]using hs
  ·rw[if_neg (fun hh=>hi hh.1)];simpa[St.set,upd,hi]using h.fr i
end
mutual
theorem ED(w:World)(M:MM):∀(v:Value) (c:CV),Cp v=some c→RelC w M c v
 | .int k n,c,h=>by simp only[Cp,Ac]at h;subst h;unfold RelC;rfl
 | .bool b,c,h=>by simp only[Cp,Ac]at h;subst h;unfold RelC;rfl
 | .string s,c,h=>by simp only[Cp,Ac]at h;subst h;unfold RelC;rfl
 | .slice none 0 0,c,h=>by
  simp only[Cp,Ac]at h;subst h;unfold RelC;exact⟨none,0,0,rfl,rfl,Nat.le_refl _,fun _=>rfl,(by intro hh;cases hh),fun _=>rfl,fun hh=>absurd rfl hh⟩
 | .map none,c,h=>by
  simp only[Cp,Ac]at h;subst h;unfold RelC;exact⟨none,rfl,fun _=>rfl,(by intro hh;cases hh),fun _=>⟨rfl,rfl⟩,fun b hb=>by cases hb⟩
 | .nilIface,c,h=>by simp only[Cp,Ac]at h;subst h;unfold RelC;rfl
 | .nilFunc,c,h=>by simp only[Cp,Ac]at h;subst h;unfold RelC;rfl
 | .pointer none,c,h=>by simp only[Cp,Ac]at h;subst h;unfold RelC;rfl
 | .agg ⟨cs⟩,c,h=>by
  simp only[Cp,Aa]at h;obtain⟨l,hl,rfl⟩:=h;unfold RelC;exact⟨cs,rfl,Qn w M cs l hl⟩
theorem Qn(w:World)(M:MM):∀(vs:List Value) (cs:List CV),Iq vs=some cs→RelL w M cs vs
 | [],cs,h=>by simp only[Iq,Ac]at h;subst h;exact RelL.nil
 |v::vs,cs,h=>by
  simp only[Iq,Ab,Aa]at h;obtain⟨c,hc,l,hl,rfl⟩:=h;exact RelL.cons (ED w M v c hc) (Qn w M vs l hl)
end
def An:Operand→Option SO
 | .tmp t=>some (.t t)
 | .const v=>(Cp v).map .k
 | .global g=>some (.g g)
 | .func f=>if Nat.blt f FM then some (.k (.fn f []))else none
def Dj(P:Program)(t:TypeId):Option (Option Nat):=
 match P.underlying t,P.info? t with
 |some (.struct _),some i|some (.array _ _),some i=>some (some i.size)
 |some _,some i=>if i.size=1 then some none else none
 |_,_=>none
def Og(P:Program)(t:TypeId)(AK:List (Nat×Operand)):Option (List (Nat×Nat×SO)):=
 match P.underlying t with
 |some (.struct fs)=>if !(fs.toList.all fun f=>(P.info? f.type).isSome)then none else Aq (fun p=>(fs[p.1]?).bind fun f=>(P.info? f.type).bind fun i=>(An p.2).map fun x=>(f.offset,i.size,x)) AK
 |some (.array _ e)=>(P.info? e).bind fun i=>Aq (fun p=>(An p.2).map fun x=>(p.1*i.size,i.size,x)) AK
 |_=>none
def IY:TypeDesc→Operand→Option Nat
 | .slice _,.const (.slice none 0 0)=>some 1
 | .map _ _,.const (.map none)=>some 2
 | .interface _,.const .nilIface=>some 3
 |_,_=>none
def HN:Nat→List (Nat×Operand)→Option (List SO)
 |_,[]=>some []
 |i,(j,x)::ps=>if i=j then(An x).bind fun a=>(HN (i+1) ps).map fun l=>a::l else none
def Bs(P:Program)(f:FuncId):Bool:=
 match P.funcs[f]? with
 |some fn=>fn.body.isSome&& !(fn.name== "runtime.NumGoroutine")&&Nat.blt f FM
 |none=>false
theorem I9{P:Program}{f:FuncId}(h:Bs P f=true):DF f=none:=by
 unfold Bs at h;split at h
 ·simp only[Af]at h;exact RU h.2
 ·cases h
def XA(P:Program)(f:FuncId):Bool:=
 match P.funcs[f]? with
 |some fn=>fn.results.isEmpty&&(match (fn.params[0]?).bind P.underlying with
  |some (.map _ _)=>true
  |_=>false)
 |none=>false
def Na(P:Program)(t:TypeId)(f:Nat):Bool:=
 match P.underlying t with
 |some (.struct fs)=>match fs[f]? with
  |some fd=>match P.underlying fd.type,P.info? fd.type with
   |some (.struct _),some i=>fs.size==1&&fd.offset==0&&i.size !=0
   |_,_=>false
  |none=>false
 |_=>false
def JZ(P:Program)(op:BinOp)(t:TypeId)(x y:Operand):Option SOp:=
 match op with
 | .eql| .neq=>
  match P.underlying t with
  |some (.int _)|some .string=>(An x).bind fun a=>(An y).map fun b=>.bin op a b
  |some .bool=>(An x).bind fun a=>(An y).map fun b=>.beq (Dg op) a b
  |some (.struct fs)=>if P.stoodInHeld t||P.eqGuardType P.depth t then none else
   (Ev P 0 fs.toList).bind fun ts=>(An x).bind fun a=>(An y).map fun b=>.eqs (Dg op) ts a b
  |some d=>(IY d y).bind fun kd=>(An x).map fun a=>.isnil kd (Dg op) a
  |_=>none
 |_=>
  match P.underlying t with
  |some (.int _)|some .string=>(An x).bind fun a=>(An y).map fun b=>.bin op a b
  |_=>none
def F7(P:Program)(src dst:TypeId)(x:Operand):Option SOp:=
 match P.underlying src,P.underlying dst with
 |some (.int _),some (.int k)=>(An x).map (.cvi k)
 |some (.int _),some .string=>(An x).map .cvrune
 |some .string,some .string=>(An x).map .cvid
 |some .string,some (.slice e)=>match P.underlying e with
  |some (.int .u8)=>(An x).map (.bytes e)
  |_=>none
 |some (.slice e),some .string=>match P.underlying e with
  |some (.int .u8)=>(An x).map .cvbs
  |_=>none
 |_,_=>none
def Dq:Option Operand→Option (Option SO)
 |none=>some none
 |some x=>(An x).map some
def MA(P:Program)(f:FuncId)(args:List Operand):Option SOp:=
 match XA P f,args with
 |true,[x,y]=>(An x).bind fun a=>(An y).map fun b=>.mcopy f a b
 |_,l=>(Aq An l).map (.call f)
theorem EA{P:Program}{f:FuncId}{args:List Operand}{sop:SOp}(h:MA P f args=some sop):
  (∃l,Aq An args=some l∧sop=.call f l)∨∃x y a b,args= [x,y]∧An x=some a∧An y=some b∧sop=.mcopy f a b:=by
 unfold MA at h;split at h
 ·rename_i x y _;simp only[Ab,Aa]at h;obtain⟨a,h1,b,h2,rfl⟩:=h;exact .inr ⟨x,y,a,b,rfl,h1,h2,rfl⟩
 ·simp only[Aa]at h;obtain⟨l,h1,rfl⟩:=h;exact .inl ⟨l,h1,rfl⟩
def DX(P:Program)(c:Call):Option SOp:=
 match c.callee with
 | .builtin .len=>match (c.argTypes[0]?).bind P.underlying,c.args.toList with
  |some .string,[x]=>(An x).map (.len 0)
  |some (.slice _),[x]=>(An x).map (.len 1)
  |some (.map _ _),[x]=>(An x).map (.len 2)
  |some (.array n _),[_]=>some (.mov (.k (.int .i64 n)))
  |_,_=>none
 | .builtin .min=>(Aq An c.args.toList).map (.minmax false)
 | .builtin .max=>(Aq An c.args.toList).map (.minmax true)
 | .builtin .append=>match c.args.toList,c.argTypes.toList with
  | [x,y],[t,u]=>match P.underlying t,P.underlying u with
   |some (.slice e),some (.slice _)=>(P.info? e).bind fun i=>(i.zero).bind fun zv=>(An x).bind fun a=>(An y).bind fun b=>
     if t=u∧0<i.size∧zv.cells.size=i.size then some (.append e i.size i.bytes a b)else none
   |_,_=>none
  |_,_=>none
 | .builtin .copy=>match c.args.toList,c.argTypes.toList with
  | [x,y],[t,u]=>match P.underlying t,P.underlying u with
   |some (.slice e),some (.slice _)=>(P.info? e).bind fun i=>(An x).bind fun a=>(An y).bind fun b=>
     if t=u∧0<i.size then some (.cpy e i.size a b)else none
   |_,_=>none
  |_,_=>none
 | .value (.func f)=>if Bs P f then MA P f c.args.toList else none
 | .value (.tmp t)=>(Aq An c.args.toList).map (.callv (.t t))
 |_=>none
def UB:List CV→Bool
 | [.nilp,.sl (some true) []]=>true
 |_=>false
def UA(P:Program)(t:TypeId):Bool:=
 match (P.info? t).bind fun i=>i.zero with
 |some z=>match Cp z with
  |some c=>UB c.cells
  |none=>false
 |none=>false
def BC(P:Program)(o:Oper):Option SOp:=
 match o.op with
 | .move x| .assign x=>(An x).map .mov
 | .pick c a b=>(An c).bind fun c=>(An a).bind fun a=>(An b).map fun b=>.pick c a b
 | .alloc t=>match UA P t with
  |true=>(P.info? t).bind fun i=>(i.zero).bind fun z=>(Cp z).map fun c=>.allocT t c.cells
  |false=>(P.info? t).bind fun i=>(i.zero).bind fun z=>(Cp z).map fun c=>.alloc c.cells
 | .box _ x=>(An x).map .box
 | .build t AK=>(P.info? t).bind fun i=>(i.zero).bind fun z=>(Cp z).bind fun c=>(Og P t AK.toList).map fun ps=>.build c.cells ps
 | .buildSlice t len AK=>match P.underlying t with
  |some (.slice e)=>(P.info? e).bind fun i=>(i.zero).bind fun z=>(Cp z).bind fun c=>(HN 0 AK.toList).bind fun xs=>
    if xs.length=len∧0<i.size∧Bq c=i.size∧len*i.size≤16777216 then some (.mksl e i.size xs)else none
  |_=>none
 | .load t x=>(Dj P t).bind fun s=>(An x).map fun a=>.load s a
 | .store t a x=>(P.info? t).bind fun i=>(An a).bind fun a=>(An x).map fun x=>.store i.size a x
 | .binOp op t x y _=>JZ P op t x y
 | .unOp op _ x=>(An x).map (.un op)
 | .convert src dst x=>F7 P src dst x
 | .nilCheck x=>(An x).map .nchk
 | .makeFunc (.func f) first captured=>match first.toList,captured.toList with
  | [],l=>if Bs P f then(Aq An l).map (.fnv f)else none
  | [x],[]=>if Bs P f then(Aq An [x]).map (.fnv (FM+f))else none
  |_,_=>none
 | .makeMap t none=>(Fk P t).map fun p=>.mkmap t p.1 p.2
 | .makeSlice t x y=>match P.underlying t with
  |some (.slice e)=>(P.info? e).bind fun i=>(i.zero).bind fun z=>(Cp z).bind fun c=>(An x).bind fun a=>(An y).bind fun b=>
    if 0<i.size∧Bq c=i.size then some (.make e i.size i.bytes c a b)else none
  |_=>none
 | .slice t x lo (some hi) (some mx)=>match P.underlying t with
  |some (.slice e)=>(P.info? e).bind fun i=>(An x).bind fun a=>(Dq lo).bind fun l=>(An hi).bind fun h=>(An mx).map fun m=>.slice3 i.size a l h m
  |_=>none
 | .slice t x lo hi none=>match P.underlying t with
  |some .string=>(An x).bind fun a=>(Dq lo).bind fun l=>(Dq hi).map fun h=>.sslice a l h
  |some (.slice e)=>(P.info? e).bind fun i=>(An x).bind fun a=>(Dq lo).bind fun l=>(Dq hi).map fun h=>.slice i.size a l h
  |some (.array n e)=>match lo,hi with
   |none,none=>(P.info? e).bind fun i=>if i.size=1 then(An x).map fun a=>.asl n a else none
   |_,_=>none
  |_=>none
 | .fieldAddr t x f=>match Na P t f,P.underlying t with
  |true,_=>(An x).map .nchk
  |false,some (.struct fs)=>(fs[f]?).bind fun fd=>(P.info? fd.type).bind fun i=>if i.size=0 then none else(An x).map fun a=>.faddr fd.offset a
  |_,_=>none
 | .field t x f=>match P.underlying t with
  |some (.struct fs)=>(fs[f]?).bind fun fd=>(Dj P fd.type).bind fun s=>(An x).map fun a=>.field fd.offset s a
  |_=>none
 | .indexAddr t x ix=>match P.underlying t with
  |some (.slice e)=>(P.info? e).bind fun i=>if i.size=0 then none else(An x).bind fun a=>(An ix).map fun b=>.iaddr i.size a b
  |some (.array n e)=>(P.info? e).bind fun i=>if i.size=0 then none else(An x).bind fun a=>(An ix).map fun b=>.aaddr n i.size a b
  |_=>none
 | .index t x ix=>match P.underlying t with
  |some .string=>(An x).bind fun a=>(An ix).map fun b=>.sidx a b
  |some (.array n e)=>(P.info? e).bind fun i=>(Dj P e).bind fun s=>(An x).bind fun a=>(An ix).map fun b=>.aidx n i.size s a b
  |_=>none
 | .lookup t x k ok=>(Fk P t).bind fun p=>(An x).bind fun a=>(An k).map fun b=>.lookup t p.1 p.2 ok a b
 | .mapUpdate t m k x=>match P.underlying t with
  |some (.map _ _)=>(An m).bind fun a=>(An k).bind fun b=>(An x).map fun c=>.mapupd t a b c
  |_=>none
 | .insert t m k x=>match P.underlying t with
  |some (.map _ _)=>(An m).bind fun a=>(An k).bind fun b=>(An x).map fun c=>.mapupd t a b c
  |_=>none
 | .mapEntry t m k=>match P.underlying t with
  |some (.map _ _)=>(An m).bind fun a=>(An k).map fun b=>.mapent t a b
  |_=>none
 | .entryStore _ m s x=>(An m).bind fun a=>(An s).bind fun b=>(An x).map fun c=>.entst a b c
 | .range t x=>match P.underlying t with
  |some .string=>(An x).map .siter
  |some (.map _ _)=>(An x).map .mrange
  |_=>none
 | .next it true=>(An it).map .snext
 | .entry it=>(An it).map .mentry
 | .extract t i=>(An t).map fun a=>.ext a i
 | .call c=>DX P c
 |_=>none
theorem DB{α β:Type}{f:α→Option β}:∀{l:List α} {r:List β},Aq f l=some r→r.length=l.length
 | [],r,h=>by simp only[Aq,Ac]at h;subst h;rfl
 |a::as,r,h=>by
  simp only[Aq,Ab,Aa]at h;obtain⟨b,_,bs,h2,rfl⟩:=h;simp[DB h2]
theorem If{α β:Type}{f:α→Option β}:∀{l:List α} {r:List β} {i:Nat} {a:α},Aq f l=some r→l[i]? =some a→∃b,r[i]? =some b∧f a=some b
 | [],_,_,_,_,hi=>by simp at hi
 |x::xs,r,i,a,h,hi=>by
  simp only[Aq,Ab,Aa]at h;obtain⟨b,hb,bs,h2,rfl⟩:=h
  cases i with
  |zero=>simp at hi;subst hi;exact⟨b,rfl,hb⟩
  |succ i=>simp only[List.getElem?_cons_succ]at hi⊢;exact If h2 hi
theorem NY{w:World}{M:MM}{c:CV}{v:Value}(h:RelC w M c v)(hc:∀cs,c≠ .agg cs):v.cells= #[v]:=by
 cases c<;>unfold RelC at h<;>first
  |(rcases h with rfl|rfl<;>rfl)
  |(subst h;rfl)
  |(obtain⟨_,_,rfl⟩:=h;rfl)
  |(exact absurd rfl (hc _))
  |(obtain⟨_,_,_,rfl,_⟩:=h;rfl)
  |(obtain⟨_,hf,_⟩:=h;exact FnV.cells hf)
  |(obtain⟨_,rfl,_⟩:=h;rfl)
  |(obtain⟨_,_,rfl,_⟩:=h;rfl)
theorem RelC.cells_size{w:World}{M:MM}{c:CV}{v:Value}(h:RelC w M c v):v.cells.size=Bq c:=by
 have:=(RelC.cells h).length;rw[Array.length_toList]at this;rw[this];cases c<;>rfl
section
variable {G:Nat→List CV} {P:Program} {w:World} {M:MM} {B:Nat} {z:Cz} {ob rd:Nat→Ob} {fr:Nat→SV} {a:Act}
theorem Ta{t:TypeId}{s:Option Nat}(h:Dj P t=some s)(w:World):(isAgg t).run P w=.ok s.isSome w:=by
 unfold Dj at h
 have hd:∃d,P.underlying t=some d:=by
  cases hu:P.underlying t with
  |none=>rw[hu]at h;cases hi:P.info? t<;>rw[hi]at h<;>simp at h
  |some d=>exact⟨d,rfl⟩
 obtain⟨d,hu⟩:=hd;simp only[isAgg,Sem.run_bind,run_underlying hu,Result.andThen_ok];rw[hu]at h
 cases hi:P.info? t with
 |none=>rw[hi]at h;cases d<;>simp at h
 |some i=>
  rw[hi]at h
  cases d<;>simp only[]at h<;>first
   |(simp only[Ac]at h;subst h;rfl)
   |(split at h<;>first|(simp only[Ac]at h;subst h;rfl)|cases h)
theorem CX{t:TypeId}{i:TypeInfo}(h:P.info? t=some i)(w:World):(Go.sizeOf t).run P w=.ok i.size w:=by
 simp[Go.sizeOf,typeInfo,h]
theorem YK(ad:Addr)(vs:List Value)(h:∀(j:Nat) u,vs[j]? =some u→w.cell? (ad.add j)=some u):
  (loadCells ad vs.length).run P w=.ok ⟨vs⟩ w:=by
 have:=run_loadCells_list (P:=P) (w:=w) ad vs h;simpa using this
theorem LQ{t:TypeId}{s:Option Nat}(h:Dj P t=some s)(ad:Addr):
  (∀n (vs:List Value),s=some n→vs.length=n→(∀(j:Nat) u,vs[j]? =some u→w.cell? (ad.add j)=some u)→(loadVar t ad).run P w=.ok (.agg ⟨vs⟩) w)∧
  (∀u,s=none→w.cell? ad=some u→(loadVar t ad).run P w=.ok u w):=by
 have ha:=Ta h w;constructor
 ·intro n vs hs hn hc;subst hs
  have hi:∃i,P.info? t=some i∧i.size=n:=by
   unfold Dj at h
   cases hu:P.underlying t with
   |none=>rw[hu]at h;cases hi:P.info? t<;>rw[hi]at h<;>simp at h
   |some d=>
    cases hi:P.info? t with
    |none=>rw[hu,hi]at h;cases d<;>simp at h
    |some i=>
     rw[hu,hi]at h;refine⟨i,rfl, ?_⟩
     cases d<;>simp only[Ac]at h<;>first
      |exact h
      |(split at h<;>simp at h)
  obtain⟨i,hi,hsz⟩:=hi;simp only[loadVar,Sem.run_bind,ha,Result.andThen_ok,Option.isSome_some,if_true,CX hi,hsz];subst hn;simp[YK ad vs hc]
 ·intro u hs hc;subst hs;simp[loadVar,ha,hc]
variable (hfr:∀i,Ar w M z ob (fr i) (a.tmps.getD i undef)) (hglob:∀i,G i≠ []→RelC w M (.rp (G i)) (.pointer (some ⟨i,0,none⟩)))
include hfr hglob
theorem opd{x:Operand}{sx:SO}(h:An x=some sx):Ar w M z ob (so G fr sx) (a.eval x):=by
 cases x with
 |tmp t=>simp only[An,Ac]at h;subst h;exact hfr t
 |const v=>
  simp only[An,Aa]at h;obtain⟨c,hc,rfl⟩:=h;exact ED w M v c hc
 |global g=>
  simp only[An,Ac]at h;subst h;have e:so G fr (.g g)=match G g with| []=>.undef|cs=>.c (.rp cs):=rfl
  rw[e]
  cases hg:G g with
  |nil=>trivial
  |cons c cs=>
   have:=hglob g (by rw[hg];simp);rw[hg]at this;exact this
 |func f=>
  simp only[An,Ad,Ac]at h;obtain⟨hb,rfl⟩:=h;show RelC _ _ _ _;unfold RelC;refine⟨[], ?_,RelL.nil⟩;unfold FnV;rw[RU hb];rfl
theorem Sg{x:Operand}{sx:SO}(h:An x=some sx){c:CV}(hc:so G fr sx=.c c):RelC w M c (a.eval x):=by
 have:=opd hfr hglob h;rw[hc]at this;exact this
theorem Lt:∀{xs:List Operand} {sxs:List SO} {l:List CV},Aq An xs=some sxs→Aq (fun x=>closed (so G fr x)) sxs=some l→RelL w M l (xs.map a.eval)
 | [],sxs,l,h,hl=>by
  simp only[Aq,Ac]at h;subst h;simp only[Aq,Ac]at hl;subst hl;exact RelL.nil
 |x::xs,sxs,l,h,hl=>by
  simp only[Aq,Ab,Aa]at h;obtain⟨s,hs,ss,hss,rfl⟩:=h;simp only[Aq,Ab,Aa]at hl;obtain⟨c,hc,cs,hcs,rfl⟩:=hl
  have e:so G fr s=.c c:=by
   cases hh:so G fr s<;>rw[hh]at hc<;>simp[closed]at hc;rw[hc]
  exact RelL.cons (Sg hfr hglob hs e) (Lt hss hcs)
end
section
variable {P:Program} {w:World} {M:MM}
theorem D8{k:IntKind}{n:Int}:RelC w M (.int k n) (.int k n):=by unfold RelC;rfl
theorem DH{b:Bool}:RelC w M (.bool b) (.bool b):=by unfold RelC;rfl
theorem LN{s:List UInt8}:RelC w M (.str s) (.string ⟨⟨s⟩⟩):=by unfold RelC;rfl
theorem BR{k:IntKind}{n:Int}{v:Value}(h:RelC w M (.int k n) v):v=.int k n:=by unfold RelC at h;exact h
theorem Dp{b:Bool}{v:Value}(h:RelC w M (.bool b) v):v=.bool b:=by unfold RelC at h;exact h
theorem CH{s:List UInt8}{v:Value}(h:RelC w M (.str s) v):v=.string ⟨⟨s⟩⟩:=by unfold RelC at h;exact h
theorem YG{op:BinOp}{t:TypeId}{k:IntKind}{a b:Int}{c:CV}(h:Gg op k a b=some c):
  ∃v,(binOp op t (.int k a) (.int k b)).run P w=.ok v w∧RelC w M c v:=by
 cases op<;>simp only[Gg,JN,PY,Option.map_some,Ac,reduceCtorEq,Option.ite_none_left_eq_some]at h
 all_goals first
  |(obtain⟨hb,rfl⟩:=h;simp only[binOp,Op.intDiv,ne_eq,not_true_eq_false,if_false,if_neg hb];exact⟨_,rfl,D8⟩)
  |(subst h;simp only[binOp,Op.intArith,Op.intCmp,Op.intBits,ne_eq,not_true_eq_false,if_false];first|exact⟨_,rfl,D8⟩|exact⟨_,rfl,DH⟩)
theorem YH{op:BinOp}{t:TypeId}{a b:List UInt8}{c:CV}(h:Ih op a b=some c):
  ∃v,(binOp op t (.string ⟨⟨a⟩⟩) (.string ⟨⟨b⟩⟩)).run P w=.ok v w∧RelC w M c v:=by
 have e1:(⟨⟨a⟩⟩:ByteArray).toList=a:=ByteArray.toList_mk a;have e2:(⟨⟨b⟩⟩:ByteArray).toList=b:=ByteArray.toList_mk b;cases op<;>simp only[Ih,Ac,reduceCtorEq,Ad]at h
 case add=>
  obtain⟨hle,rfl⟩:=h
  have hs:¬(((⟨⟨a⟩⟩:ByteArray).size+(⟨⟨b⟩⟩:ByteArray).size:Nat):Int)>IntKind.i64.max:=by
   show ¬((a.length+b.length:Nat):Int)>9223372036854775807;omega
  refine⟨.string (⟨⟨a⟩⟩++⟨⟨b⟩⟩),by simp only[binOp,Op.stringOp,if_neg hs,Sem.run_pure], ?_⟩;unfold RelC;rw[ByteArray.mk_append_mk]
 all_goals
  subst h;simp only[binOp,Op.stringOp,e1,e2,Fp];exact⟨_,rfl,DH⟩
theorem YF{op:BinOp}{t:TypeId}{x y c:CV}{vx vy:Value}(hx:RelC w M x vx)(hy:RelC w M y vy)(h:DT op x y=some c):
  ∃v,(binOp op t vx vy).run P w=.ok v w∧RelC w M c v:=by
 cases x<;>(try simp only[DT,reduceCtorEq]at h;done)
 case int k a=>
  cases y<;>(try simp only[DT,reduceCtorEq]at h;done)
  case int k' b=>
   have:=BR hx;subst this;have:=BR hy;subst this;by_cases hs:op=.shl∨op=.shr
   ·rcases hs with rfl|rfl
    all_goals
     simp only[DT,Option.ite_none_left_eq_some]at h;obtain⟨hb,h⟩:=h;simp only[Ac]at h;subst h;simp only[binOp,Op.shift,if_neg hb];exact⟨_,rfl,D8⟩
   ·have h':(if k=k' then Gg op k a b else none)=some c:=by
     cases op<;>first|exact h|(exact absurd (.inl rfl) hs)|(exact absurd (.inr rfl) hs)
    split at h'
    ·rename_i hk;subst hk;exact YG h'
    ·cases h'
 case str a=>
  cases y<;>(try simp only[DT,reduceCtorEq]at h;done)
  case str b=>
   have:=CH hx;subst this;have:=CH hy;subst this;exact YH h
theorem YM{op:UnOp}{x c:CV}{vx:Value}(hx:RelC w M x vx)(h:unC op x=some c):∃v,(Op.unary op vx).run P w=.ok v w∧RelC w M c v:=by
 cases x<;>(try simp only[unC,reduceCtorEq]at h;done)
 case int k n=>
  have:=BR hx;subst this;cases op<;>simp only[unC,JN,Option.map_some,Ac,reduceCtorEq]at h
  all_goals
   subst h;simp only[Op.unary,Op.intArith,Op.intBits];exact⟨_,rfl,D8⟩
 case bool b=>
  have:=Dp hx;subst this;cases op<;>simp only[unC,Ac,reduceCtorEq]at h
  all_goals
   subst h;simp only[Op.unary];exact⟨_,rfl,DH⟩
theorem YE{t:TypeId}(hu:P.underlying t=some .bool)(a b:Bool):
  (binOp .eql t (.bool a) (.bool b)).run P w=.ok (.bool (a==b)) w∧(binOp .neq t (.bool a) (.bool b)).run P w=.ok (.bool (!(a==b))) w:=by
 have h:∀d:Nat,(Op.equalIn (d+1) t (.bool a) (.bool b)).run P w=.ok (a==b) w:=fun d=>run_equalIn_bool' w d t a b hu;have h':=h 9999;constructor<;>(simp only[binOp];simp[Op.equal,Op.maxDepth,h'])
theorem SU{kt:KT}{t:TypeId}(hk:Ee P t=some kt){x y:CV}{vx vy:Value}(hx:RelC w M x vx)(hy:RelC w M y vy){r:Bool}(h:eq1 kt x y=some r)(d:Nat):
  (Op.equalIn (d+1) t vx vy).run P w=.ok r w:=by
 unfold Ee at hk;split at hk<;>simp only[Ac,reduceCtorEq]at hk<;>subst hk<;>rename_i hu
 ·cases x<;>(try simp only[eq1,reduceCtorEq]at h;done);cases y<;>(try simp only[eq1,reduceCtorEq]at h;done);have:=BR hx;subst this;have:=BR hy;subst this;simp only[eq1,Ad]at h;obtain⟨rfl,h⟩:=h;simp only[Ac]at h;subst h;exact run_equalIn_int w d t _ _ _ _ hu
 ·cases x<;>(try simp only[eq1,reduceCtorEq]at h;done);cases y<;>(try simp only[eq1,reduceCtorEq]at h;done);have:=CH hx;subst this;have:=CH hy;subst this;simp only[eq1,Ac]at h;subst h;rw[run_equalIn_string w d t _ _ hu];simp
 ·cases x<;>(try simp only[eq1,reduceCtorEq]at h;done);cases y<;>(try simp only[eq1,reduceCtorEq]at h;done);have:=Dp hx;subst this;have:=Dp hy;subst this;simp only[eq1,Ac]at h;subst h;exact run_equalIn_bool' w d t _ _ hu
theorem N0{t:TypeId}{kt:KT}(hk:Ee P t=some kt){xs:List Value}{i:Nat}{v:Value}(h:xs[i]? =some v):(part t ⟨xs⟩ i).run P w=.ok v w:=by
 have ha:(isAgg t).run P w=.ok false w:=by
  unfold Ee at hk;split at hk<;>first|(rename_i hu;simp[isAgg,run_underlying hu];done)|cases hk
 simp[part,ha,h]
theorem SW(d:Nat):∀(fs:List Field) (i:Nat) (ts:List KT) (as bs:List CV) (xs ys:List Value) (r:Bool),Ev P i fs=some ts→eqL ts as bs=some r→
  RelL w M as (xs.drop i)→RelL w M bs (ys.drop i)→(Op.eqFields (d+1) ⟨xs⟩ ⟨ys⟩ fs).run P w=.ok r w
 | [],i,ts,as,bs,xs,ys,r,hk,hr,ha,hb=>by
  simp only[Ev,Ac]at hk;subst hk;cases as<;>cases bs<;>simp only[eqL,reduceCtorEq,Ac]at hr;subst hr;rfl
 |f::fs,i,ts,as,bs,xs,ys,r,hk,hr,ha,hb=>by
  simp only[Ev,Ad,Ab,Aa]at hk;obtain⟨⟨hoff,hname⟩,k,hk1,ks,hks,rfl⟩:=hk
  cases as with
  |nil=>simp only[eqL,reduceCtorEq]at hr
  |cons a as=>
   cases bs with
   |nil=>simp only[eqL,reduceCtorEq]at hr
   |cons b bs=>
    simp only[eqL,Ab,Aa]at hr;obtain⟨x,hx,y,hy,rfl⟩:=hr;unfold RelL at ha hb;obtain⟨va,as',ea,ha1,ha2⟩:=ha;obtain⟨vb,bs',eb,hb1,hb2⟩:=hb;have ga:xs[i]? =some va:=by have:=congrArg (·[0]?) ea;simpa using this
    have gb:ys[i]? =some vb:=by have:=congrArg (·[0]?) eb;simpa using this
    have da:xs.drop (i+1)=as':=by have:=congrArg (List.drop 1) ea;simpa[List.drop_drop]using this
    have db:ys.drop (i+1)=bs':=by have:=congrArg (List.drop 1) eb;simpa[List.drop_drop]using this
    rw[←da]at ha2;rw[←db]at hb2;subst hoff;have ih:=SW d fs (f.offset+1) ks as bs xs ys y hks hy ha2 hb2;simp only[Op.eqFields,if_pos hname,Sem.run_bind,N0 hk1 ga,N0 hk1 gb,Result.andThen_ok,SU hk1 ha1 hb1 hx d];cases x
    ·simp
    ·simpa using ih
theorem SX{t:TypeId}{fs:Array Field}(hu:P.underlying t=some (.struct fs))(hp:P.stoodInHeld t=false){ts:List KT}(hk:Ev P 0 fs.toList=some ts){x y:CV}{vx vy:Value}
  (hx:RelC w M x vx) (hy:RelC w M y vy) {r:Bool} (h:eqA ts x y=some r):
  (∃xs,vx=.agg xs)∧(∃ys,vy=.agg ys)∧(∀d,(Op.equalIn (d+2) t vx vy).run P w=.ok r w):=by
 cases x<;>(try simp only[eqA,reduceCtorEq]at h;done);cases y<;>(try simp only[eqA,reduceCtorEq]at h;done);unfold RelC at hx hy;obtain⟨xs,rfl,hx⟩:=hx;obtain⟨ys,rfl,hy⟩:=hy;refine⟨⟨_,rfl⟩,⟨_,rfl⟩,fun d=> ?_⟩;have hf:P.fieldsOf t=fs:=by simp[Program.fieldsOf,hu]
 rw[run_equalIn_struct w (d+1) t _ _ (by rw[hf];exact hu) hp,hf];exact SW d fs.toList 0 ts _ _ xs ys r hk h hx hy
end
section
variable {P:Program} {w:World} {M:MM}
theorem E9{ad:Addr}{size:Nat}:∀{i:Nat} {es:List CV},(∀(k:Nat) e,es[k]? =some e→∃v,RelC w M e v∧v.cells.size=size∧∀(j:Nat) u,v.cells[j]? =some u→w.cell? (ad.add ((i+k)*size+j))=some u)→
  Bo w M ad size i es
 |_,[],_=>by unfold Bo;trivial
 |i,e::es,h=>by
  unfold Bo;refine⟨by simpa using h 0 e rfl,E9 fun k e' he=> ?_⟩;have:=h (k+1) e' (by simpa using he);rw[show i+(k+1)=i+1+k by omega]at this;exact this
theorem Ps{ad:Addr}{size l h:Nat}{es:List CV}(hr:Bo w M ad size 0 es):Bo w M (ad.add (l*size)) size 0 ((es.take h).drop l):=by
 refine E9 fun k e he=> ?_
 have he':es[l+k]? =some e:=by
  rw[List.getElem?_drop,List.getElem?_take]at he;split at he
  ·exact he
  ·cases he
 obtain⟨v,h1,h2,h3⟩:=Bo.get hr he';refine⟨v,h1,h2,fun j u hu=> ?_⟩;rw[GW];have:=h3 j u hu;rw[show l*size+((0+k)*size+j)=(0+(l+k))*size+j by rw[Nat.zero_add,Nat.zero_add,Nat.add_mul];omega];exact this
theorem Fw{size:Nat}:∀{es:List CV} {xs:List Value} {i:Nat} {e:CV},AW w M size es xs→es[i]? =some e→
  ∃v,RelC w M e v∧v.cells.size=size∧∀(j:Nat) u,v.cells[j]? =some u→xs[i*size+j]? =some u
 | [],_,_,_,_,hi=>by simp at hi
 |e::es,xs,0,e',h,hi=>by
  obtain⟨v,xs',rfl,h1,h2,h3⟩:=h;simp at hi;subst hi;refine⟨v,h2,h1,fun j u hu=> ?_⟩;rw[Nat.zero_mul,Nat.zero_add,List.getElem?_append_left]
  ·simpa using hu
  ·have:=(Array.getElem?_eq_some_iff.1 hu).1;simpa using this
 |e::es,xs,i+1,e',h,hi=>by
  obtain⟨v,xs',rfl,h1,h2,h3⟩:=h;simp only[List.getElem?_cons_succ]at hi;obtain⟨u,g1,g2,g3⟩:=Fw h3 hi;refine⟨u,g1,g2,fun j u' hu=> ?_⟩;have hl:v.cells.toList.length=size:=by simpa using h1
  rw[List.getElem?_append_right (by rw[hl,Nat.add_mul];omega),hl];have:=g3 j u' hu;rw[show(i+1)*size+j-size=i*size+j by rw[Nat.add_mul];omega];exact this
theorem Ge{size:Nat}:∀{es:List CV} {xs:List Value},AW w M size es xs→xs.length=es.length*size
 | [],_,h=>by unfold AW at h;subst h;simp
 |e::es,xs,h=>by
  obtain⟨v,xs',rfl,h1,_,h3⟩:=h;simp[Ge h3,h1,Nat.add_mul];omega
theorem Mv{size:Nat}:∀{es fs:List CV} {xs ys:List Value},AW w M size es xs→AW w M size fs ys→AW w M size (es++fs) (xs++ys)
 | [],_,_,_,h,k=>by unfold AW at h;subst h;exact k
 |e::es,_,_,_,h,k=>by
  obtain⟨v,xs',rfl,h1,h2,h3⟩:=h;exact⟨v,xs'++_,by rw[List.append_assoc],h1,h2,Mv h3 k⟩
theorem Az.get{z:Cz}{ob:Nat→Ob}:∀{cs:List SV} {vs:List Value} {i:Nat} {s:SV},Az w M z ob cs vs→cs[i]? =some s→∃v,vs[i]? =some v∧Ar w M z ob s v
 | [],_,_,_,_,hi=>by simp at hi
 |_::_,_,0,_,h,hi=>by
  obtain⟨v,vs',rfl,h1,_⟩:=h;simp at hi;subst hi;exact⟨v,rfl,h1⟩
 |_::_,_,i+1,_,h,hi=>by
  obtain⟨v,vs',rfl,_,h2⟩:=h;simp only[List.getElem?_cons_succ]at hi⊢;exact Az.get h2 hi
theorem Az.length{z:Cz}{ob:Nat→Ob}:∀{cs:List SV} {vs:List Value},Az w M z ob cs vs→vs.length=cs.length
 | [],_,h=>by unfold Az at h;subst h;rfl
 |_::_,_,h=>by
  obtain⟨v,vs',rfl,_,h2⟩:=h;simp[Az.length h2]
theorem Az.drop{z:Cz}{ob:Nat→Ob}:∀{cs:List SV} {vs:List Value} (n:Nat),Az w M z ob cs vs→Az w M z ob (cs.drop n) (vs.drop n)
 |_,_,0,h=>h
 | [],_,n+1,h=>by unfold Az at h;subst h;simp[Az]
 |_::_,_,n+1,h=>by
  obtain⟨v,vs',rfl,_,h2⟩:=h;simpa using Az.drop n h2
theorem Az.take{z:Cz}{ob:Nat→Ob}:∀{cs:List SV} {vs:List Value} (n:Nat),Az w M z ob cs vs→Az w M z ob (cs.take n) (vs.take n)
 |_,_,0,_=>by simp[Az]
 | [],_,n+1,h=>by unfold Az at h;subst h;simp[Az]
 |_::_,_,n+1,h=>by
  obtain⟨v,vs',rfl,h1,h2⟩:=h;exact⟨v,vs'.take n,by simp,h1,Az.take n h2⟩
theorem Az.closed{z:Cz}{ob:Nat→Ob}:∀{cs:List SV} {vs:List Value} {l:List CV},Az w M z ob cs vs→Aq closed cs=some l→RelL w M l vs
 | [],_,_,h,hl=>by simp only[Aq,Ac]at hl;subst hl;unfold Az at h;subst h;exact RelL.nil
 |c::cs,_,l,h,hl=>by
  obtain⟨v,vs',rfl,h1,h2⟩:=h;simp only[Aq,Ab,Aa]at hl;obtain⟨x,hx,xs,hxs,rfl⟩:=hl;cases c<;>simp only[WB.closed,reduceCtorEq,Ac]at hx;subst hx;exact RelL.cons h1 (Az.closed h2 hxs)
theorem Az.of_c{z:Cz}{ob:Nat→Ob}:∀{cs:List CV} {vs:List Value},RelL w M cs vs→Az w M z ob (cs.map .c) vs
 | [],_,h=>by unfold RelL at h;subst h;rfl
 |c::cs,_,h=>by
  unfold RelL at h;obtain⟨v,vs',rfl,h1,h2⟩:=h;exact⟨v,vs',rfl,h1,Az.of_c h2⟩
theorem PM{g o:Nat}{vs:List Value}{t:TypeId}{fz:Nat×Nat}(h:w.heap[g]? =some (.cells ⟨vs⟩ t fz)):w.cell? ⟨g,o,none⟩=vs[o]? :=by
 have:=cell_of_row w g o ⟨vs⟩ t fz h;simpa using this
theorem Do(g o n:Nat):(⟨g,o,none⟩:Addr).add n=⟨g,o+n,none⟩:=by
 unfold Addr.add;by_cases h:n=0<;>simp[h]
theorem Vy{kt:KT}{t:TypeId}(h:Ee P t=some kt):∀fs,kt≠ .struct fs:=by
 intro fs e;unfold Ee at h;split at h<;>simp_all
theorem QB{kt:KT}{a b:CV}(ha:B1 kt a=true)(hb:B1 kt b=true):∃r,eq1 kt a b=some r:=by
 cases kt<;>cases a<;>simp[B1]at ha<;>cases b<;>simp[B1]at hb
 ·subst ha;subst hb;exact⟨_,if_pos rfl⟩
 ·exact⟨_,rfl⟩
 ·exact⟨_,rfl⟩
theorem QE:∀{ts:List KT} {as bs:List CV},B8 ts as=true→B8 ts bs=true→∃r,eqL ts as bs=some r
 | [],[],[],_,_=>⟨true,rfl⟩
 | [],_::_,_,h,_=>by simp[B8]at h
 | [],[],_::_,_,h=>by simp[B8]at h
 |_::_,[],_,h,_=>by simp[B8]at h
 |_::_,_::_,[],_,h=>by simp[B8]at h
 |t::ts,a::as,b::bs,ha,hb=>by
  simp only[B8,Af]at ha hb;obtain⟨r,hr⟩:=QB ha.1 hb.1;obtain⟨r',hr'⟩:=QE ha.2 hb.2;exact⟨r&&r',by simp[eqL,hr,hr']⟩
theorem YJ{kt:KT}{t:TypeId}(hk:Ed P t=some kt){x y:CV}{vx vy:Value}(hx:RelC w M x vx)(hy:RelC w M y vy)(cx:AI kt x=true)(cy:AI kt y=true):
  (Op.equal t vx vy).run P w=.ok (Cf kt x y) w:=by
 have key:∀r,(∀d,(Op.equalIn (d+2) t vx vy).run P w=.ok r w)→(Op.equal t vx vy).run P w=.ok r w:=by
  intro r h;have:=h 9998;simpa[Op.equal,Op.maxDepth]using this
 unfold Ed at hk;split at hk
 ·rename_i fs hu;split at hk
  ·cases hk
  ·rename_i hp;simp only[Aa]at hk;obtain⟨ts,hts,rfl⟩:=hk;have hp':P.stoodInHeld t=false:=by simpa using hp
   cases x<;>(try simp[AI,B1]at cx;done);cases y<;>(try simp[AI,B1]at cy;done);simp only[AI]at cx cy;obtain⟨r,hr⟩:=QE cx cy;have:=(SX (w:=w) (M:=M) hu hp' hts hx hy (r:=r) hr).2.2;rename_i as bs;have e:Cf (.struct ts) (.agg as) (.agg bs)=r:=by simp only[Cf,hr,Option.getD_some]
   rw[e];exact key r this
 ·have hns:=Vy hk
  have c1:B1 kt x=true:=by
   cases kt<;>first|exact absurd rfl (hns _)|(simpa[AI]using cx)
  have c2:B1 kt y=true:=by
   cases kt<;>first|exact absurd rfl (hns _)|(simpa[AI]using cy)
  obtain⟨r,hr⟩:=QB c1 c2
  have e:Cf kt x y=r:=by
   cases kt<;>first|exact absurd rfl (hns _)|(simp only[Cf,hr,Option.getD_some])
  rw[e];exact key r fun d=>SU hk hx hy hr (d+1)
def BG(ens:List MapEntry)(o:Option Nat):Option (Nat×Value):=o.bind fun i=>(ens[i]?).map fun e=>(i,e.val)
theorem SZ{kt:KT}{t:TypeId}(hk:Ed P t=some kt){k:CV}{vk:Value}(hx:RelC w M k vk)(cx:AI kt k=true):
  ∀(ks:List CV) (ens:List MapEntry) (i:Nat),RelL w M ks (ens.map (·.key))→(∀c∈ks,AI kt c=true)→
   (Instr.findAsking t vk ens i).run P w=.ok ((BG ens (AJ kt k ks)).map fun p=>(p.1+i,p.2)) w
 | [],ens,i,h,_=>by
  have:ens= []:=by unfold RelL at h;simpa using h
  subst this;rfl
 |c::ks,ens,i,h,hc=>by
  unfold RelL at h;obtain⟨v,vs',e,h1,h2⟩:=h
  cases ens with
  |nil=>simp at e
  |cons en ens=>
   simp only[List.map_cons,List.cons.injEq]at e;obtain⟨e1,e2⟩:=e;subst e1;subst e2;have hq:=YJ hk hx h1 cx (hc c (by simp));have ih:=SZ hk hx cx ks ens (i+1) h2 (fun c' hc'=>hc c' (by simp[hc']));simp only[Instr.findAsking,Sem.run_bind,hq,Result.andThen_ok,AJ];by_cases hb:Cf kt k c=true
   ·simp[hb,BG]
   ·simp only[hb,Ag,if_false,ih]
    congr 1
    cases hi:AJ kt k ks with
    |none=>simp[BG]
    |some j=>
     cases hj:ens[j]? <;>simp[BG,hj];omega
theorem QX{kt:KT}{t:TypeId}{d:TypeDesc}(hu:P.underlying t=some d)(hk:Ed P t=some kt){k:CV}{vk:Value}(hx:RelC w M k vk)(cx:AI kt k=true):
  ∀(ks:List CV) (ens:List MapEntry) (i:Nat),RelL w M ks (ens.map (·.key))→(∀c∈ks,AI kt c=true)→
   Instr.findNow d vk ens i=none∨Instr.findNow d vk ens i=some ((BG ens (AJ kt k ks)).map fun p=>(p.1+i,p.2))
 | [],ens,i,h,_=>by
  have:ens= []:=by unfold RelL at h;simpa using h
  subst this;exact .inr rfl
 |c::ks,ens,i,h,hc=>by
  unfold RelL at h;obtain⟨v,vs',e,h1,h2⟩:=h
  cases ens with
  |nil=>simp at e
  |cons en ens=>
   simp only[List.map_cons,List.cons.injEq]at e;obtain⟨e1,e2⟩:=e;subst e1;subst e2;have hcc:=hc c (by simp);have ih:=QX hu hk hx cx ks ens (i+1) h2 (fun c' hc'=>hc c' (by simp[hc']))
   have hsn:Instr.sameNow d vk en.key=none∨Instr.sameNow d vk en.key=some (Cf kt k c):=by
    unfold Ed Ee at hk;rw[hu]at hk;cases d<;>simp only[reduceCtorEq,Ac]at hk
    ·subst hk;cases k<;>simp[AI,B1]at cx;cases c<;>simp[AI,B1]at hcc;have e1:=Dp hx;have e2:=Dp h1;rw[e1,e2];exact .inr rfl
    ·subst hk;cases k<;>simp[AI,B1]at cx;cases c<;>simp[AI,B1]at hcc;have e1:=BR hx;have e2:=BR h1;subst cx;subst hcc;rw[e1,e2];refine .inr ?_;simp[Instr.sameNow,Cf,eq1]
    ·subst hk;cases k<;>simp[AI,B1]at cx;cases c<;>simp[AI,B1]at hcc;have e1:=CH hx;have e2:=CH h1;rw[e1,e2];refine .inr ?_;simp[Instr.sameNow,Cf,eq1,beq_toListBytes]
    ·left;rfl
   simp only[Instr.findNow,AJ];rcases hsn with e|e
   ·rw[e];exact .inl rfl
   ·rw[e];by_cases hb:Cf kt k c=true
    ·simp[hb,BG]
    ·simp only[hb,Ag,if_false];rcases ih with e|e
     ·rw[e];exact .inl rfl
     ·rw[e];refine .inr ?_
      congr 1
      cases hi:AJ kt k ks with
      |none=>simp[BG]
      |some j=>
       cases hj:ens[j]? <;>simp[BG,hj];omega
theorem ZK{t:TypeId}{kt:KT}(hk:Ed P t=some kt):∃d,P.underlying t=some d:=by
 unfold Ed Ee at hk
 cases hu:P.underlying t with
 |none=>rw[hu]at hk;simp at hk
 |some d=>exact⟨d,rfl⟩
theorem O3{kt:KT}{t:TypeId}(hk:Ed P t=some kt){k:CV}{vk:Value}(hx:RelC w M k vk)(cx:AI kt k=true)
  {ks:List CV} {ens:List MapEntry} (h:RelL w M ks (ens.map (·.key))) (hc:∀c∈ks,AI kt c=true):
  (Instr.findKey t vk ens).run P w=.ok (BG ens (AJ kt k ks)) w:=by
 obtain⟨d,hu⟩:=ZK hk;have h1:=SZ hk hx cx ks ens 0 h hc;have h2:=QX hu hk hx cx ks ens 0 h hc
 have e:(BG ens (AJ kt k ks)).map (fun p=>(p.1+0,p.2))=BG ens (AJ kt k ks):=by
  cases BG ens (AJ kt k ks)<;>rfl
 rw[e]at h1 h2;simp only[Instr.findKey,Sem.run_bind,run_underlying hu,Result.andThen_ok];rcases h2 with h2|h2
 ·rw[h2];exact h1
 ·rw[h2];rfl
theorem ST{t:TypeId}{kt:KT}(hk:Ee P t=some kt)(em:Bool)(n:Nat)(v:Value):(Instr.checkKey em (n+1) t v).run P w=.ok () w:=by
 unfold Ee at hk;split at hk<;>first|cases hk;done|skip
 all_goals
  rename_i hu;simp only[Instr.checkKey,Sem.run_bind,run_underlying hu,Result.andThen_ok];rfl
theorem O2{t:TypeId}{kt:KT}(hk:Ed P t=some kt)(em:Bool){k:CV}{vk:Value}(hx:RelC w M k vk)(cx:AI kt k=true):(Instr.checkKey em 10000 t vk).run P w=.ok () w:=by
 have hk':=hk;unfold Ed at hk';split at hk'
 ·rename_i fs hu;split at hk'
  ·cases hk'
  ·simp only[Aa]at hk';obtain⟨ts,hts,rfl⟩:=hk';cases k<;>(try simp[AI,B1]at cx;done);rename_i cs;simp only[AI]at cx;unfold RelC at hx;obtain⟨xs,rfl,hx⟩:=hx
   have key:∀(m:Nat) (l:List Field) (i:Nat) (ts:List KT) (cs:List CV),Ev P i l=some ts→B8 ts cs=true→RelL w M cs (xs.drop i)→
     (forIn l PUnit.unit (fun f (_:PUnit)=>(do
      if f.name≠ "_" then Instr.checkKey em (m+1) f.type (←part f.type ⟨xs⟩ f.offset)
      pure (ForInStep.yield PUnit.unit):Sem (ForInStep PUnit)))).run P w=.ok PUnit.unit w:=by
    intro m l
    induction l with
    |nil=>intro i ts cs _ _ _;rfl
    |cons f l ih=>
     intro i ts cs hk hc hr;simp only[Ev,Ad,Ab,Aa]at hk;obtain⟨⟨hoff,hname⟩,kt,hk1,kts,hks,rfl⟩:=hk
     cases cs with
     |nil=>simp[B8]at hc
     |cons c cs=>
      simp only[B8,Af]at hc;unfold RelL at hr;obtain⟨v,vs',ea,h1,h2⟩:=hr;have ga:xs[i]? =some v:=by have:=congrArg (·[0]?) ea;simpa using this
      have da:xs.drop (i+1)=vs':=by have:=congrArg (List.drop 1) ea;simpa[List.drop_drop]using this
      subst hoff;rw[←da]at h2;have ih':=ih (f.offset+1) kts cs hks hc.2 h2;simp only[List.forIn_cons,Sem.run_bind,if_pos hname,N0 hk1 ga,Result.andThen_ok,ST hk1 em m v,Sem.run_pure];exact ih'
   have all:∀m,(Instr.checkKey em (m+2) t (.agg ⟨xs⟩)).run P w=.ok () w:=by
    intro m;have:=key m fs.toList 0 ts cs hts cx (by simpa using hx);rw[Instr.checkKey];simp only[Sem.run_bind,run_underlying hu,Result.andThen_ok];rw[←Array.forIn_toList];exact congrArg (fun r=>Result.andThen r fun _ w'=>Sem.run P (pure ()) w') this
   exact all 9998
 ·exact ST hk' em 9999 vk
end
structure Ctx (P:Program) (G:Nat→List CV) (w:World) (M:MM) (B:Nat) (z:Cz) (ob:Nat→Ob) (fr:Nat→SV) (a:Act):Prop where
 fr:∀i,Ar w M z ob (fr i) (a.tmps.getD i undef)
 glob:∀i,G i≠ []→RelC w M (.rp (G i)) (.pointer (some ⟨i,0,none⟩))
 told:∀{bt} N cs,As≤N→ob N=.box cs bt→z.σ N=.pointer (some ⟨M.al N,0,none⟩)
 ob:∀id,Bf P w M B z ob id (z.σ id) (ob id)
def Yes(P:Program)(w:World)(M:MM)(z:Cz)(ob:Nat→Ob)(a:Act)(o:Oper)(sv:SV):Prop:=
 ∃v,(execOp a.eval o).run P w=.ok (.value v) w∧Ar w M z ob sv v
section
variable {G:Nat→List CV} {P:Program} {w:World} {M:MM} {B:Nat} {z:Cz} {ob rd:Nat→Ob} {fr:Nat→SV} {a:Act} {o:Oper}
theorem Ctx.opd(h:Ctx P G w M B z ob fr a){x:Operand}{sx:SO}(hx:An x=some sx):Ar w M z ob (so G fr sx) (a.eval x):=WB.opd h.fr h.glob hx
theorem Ctx.c(h:Ctx P G w M B z ob fr a){x:Operand}{sx:SO}(hx:An x=some sx){c:CV}(hc:so G fr sx=.c c):RelC w M c (a.eval x):=WB.Sg h.fr h.glob hx hc
theorem Ctx.int(h:Ctx P G w M B z ob fr a){x:Operand}{sx:SO}(hx:An x=some sx){k:IntKind}{n:Int}(hc:so G fr sx=.c (.int k n)):a.eval x=.int k n:=BR (h.c hx hc)
theorem Ctx.deref(h:Ctx P G w M B z ob fr a)(hrd:∀id,rd id=.none∨rd id=ob id){s:SV}{v:Value}(hs:Ar w M z ob s v):Ar w M z ob (WB.deref rd s) v:=by
 cases s<;>try exact hs
 rename_i cv;cases cv<;>try exact hs
 rename_i N;simp only[WB.deref];split<;>try trivial
 rename_i hN;rcases hrd N with e|e
 ·rw[e];trivial
 ·rw[e];cases hob:ob N<;>try trivial
  rename_i cs _;have hv:v=.pointer (some ⟨M.al N,0,none⟩):=by unfold Ar RelC at hs;exact hs
  exact⟨by rw[hob];simp,M.al N,h.told N cs hN hob,hv⟩
theorem Z1{t:TypeId}{s:Option Nat}(h:Dj P t=some s):∃i,P.info? t=some i∧(∀n,s=some n→i.size=n)∧(s=none→i.size=1):=by
 unfold Dj at h
 cases hu:P.underlying t with
 |none=>rw[hu]at h;cases hi:P.info? t<;>rw[hi]at h<;>simp at h
 |some d=>
  cases hi:P.info? t with
  |none=>rw[hu,hi]at h;cases d<;>simp at h
  |some i=>
   rw[hu,hi]at h;refine⟨i,rfl, ?_, ?_⟩
   ·intro n hn;subst hn
    cases d<;>simp only[Ac]at h<;>first
     |exact h
     |(split at h<;>simp at h)
   ·intro hn;subst hn
    cases d<;>simp only[Ac,reduceCtorEq]at h<;>first
     |(split at h<;>first|assumption|cases h)
theorem Td{t:TypeId}{s:Option Nat}(hs:Dj P t=some s){cs:List CV}{vs:List Value}(hl:RelL w M cs vs){off:Nat}{c:CV}(h:Cx cs off s=some c):
  ∃v,(part t ⟨vs⟩ off).run P w=.ok v w∧RelC w M c v:=by
 have ha:=Ta hs w;obtain⟨i,hi,h1,_⟩:=Z1 hs
 cases s with
 |none=>
  simp only[Cx]at h;obtain⟨v,hv,hr⟩:=RelL.get hl h;exact⟨v,by simp[part,ha,hv],hr⟩
 |some n=>
  simp only[Cx,Ad,Ac]at h;obtain⟨hle,rfl⟩:=h;have hn:=h1 n rfl;refine⟨.agg ⟨(vs.drop off).take n⟩, ?_,by unfold RelC;exact⟨_,rfl,(hl.drop off).take n⟩⟩;simp[part,ha,CX hi,hn]
theorem Tb{t:TypeId}{s:Option Nat}(hs:Dj P t=some s){cs:List CV}{vs:List Value}(hl:RelL w M cs vs){ad:Addr}(hc:∀(j:Nat) u,vs[j]? =some u→w.cell? (ad.add j)=some u)
  {off:Nat} {c:CV} (h:Cx cs off s=some c):∃v,(loadVar t (ad.add off)).run P w=.ok v w∧RelC w M c v:=by
 cases s with
 |none=>
  simp only[Cx]at h;obtain⟨v,hv,hr⟩:=RelL.get hl h;exact⟨v,(LQ hs (ad.add off)).2 v rfl (hc off v hv),hr⟩
 |some n=>
  simp only[Cx,Ad,Ac]at h;obtain⟨hle,rfl⟩:=h;have hlen:=RelL.length hl;refine⟨.agg ⟨(vs.drop off).take n⟩,(LQ hs (ad.add off)).1 n _ rfl (by simp;omega) fun j u hu=> ?_,by unfold RelC;exact⟨_,rfl,(hl.drop off).take n⟩⟩;rw[GW];refine hc _ u ?_;rw[List.getElem?_take]at hu;split at hu
  ·rw[List.getElem?_drop]at hu;exact hu
  ·cases hu
theorem Hw(op:BinOp)(t:TypeId)(x y:Operand){va vb:Value}(h:(∀cs,va≠ .agg cs)∧va≠ .nilIface):(eqGuard op t x y va vb).run P w=.ok () w:=by
 unfold eqGuard;cases op<;>simp
 all_goals
  cases va<;>first|exact absurd rfl (h.1 _)|exact absurd rfl h.2|rfl
theorem Hx{n:Int}{len i:Nat}(h:idxOf n len=some i):0≤n∧n<len∧i=n.toNat:=by
 unfold idxOf at h;split at h
 ·rename_i hh;simp only[Ac]at h;exact⟨hh.1,hh.2,h.symm⟩
 ·cases h
theorem Lw{B:Nat}{e size n:Nat}{v:Value}{xs:List Value}(h:Ds P w B e size v n xs)(hn:0<n):
  ∃g cap cur,v=.slice (some ⟨g,0,none⟩) n cap∧(∃ty fz,w.heap[g]? =some (.cells cur ty fz))∧(∀(j:Nat) u,xs[j]? =some u→w.cell? ⟨g,j,none⟩=some u):=by
 rcases h.2 with h2|⟨g,cap,cur,ty,fz,e1,_,e3,_,_,_,_,_,e6⟩
 ·omega
 ·refine⟨g,cap,cur,e1,⟨ty,fz,e3⟩,fun j u hu=> ?_⟩;rw[cell_of_row w g j cur ty fz e3];rw[←e6,List.getElem?_take]at hu;split at hu
  ·simpa using hu
  ·cases hu
theorem TU(h:Ctx P G w M B z ob fr a)(hrd:∀id,rd id=.none∨rd id=ob id){t:TypeId}{x:Operand}{s:Option Nat}{sx:SO}(hs:Dj P t=some s)(hx:An x=some sx){sv:SV}
  (hv:Bj rd s (WB.deref rd (so G fr sx))=some sv):∃v,(Instr.loadAt t (a.eval x)).run P w=.ok v w∧Ar w M z ob sv v:=by
 have hr:=h.deref hrd (h.opd hx);generalize WB.deref rd (so G fr sx)=q at hr hv;cases q<;>(try simp only[Bj,reduceCtorEq]at hv;done)
 case c cv=>
  have hcv:∃cs,cv=.rp cs∨cv=.wp cs:=by
   cases cv<;>first
    |exact⟨_,.inl rfl⟩
    |exact⟨_,.inr rfl⟩
    |(simp only[Bj,reduceCtorEq]at hv;done)
  obtain⟨cs,hcv⟩:=hcv
  have hr:RelC w M (.rp cs) (a.eval x):=by
   rcases hcv with rfl|rfl
   ·exact hr
   ·exact RelC.of_wp hr
  unfold RelC at hr;obtain⟨ad,vs,e,_,_,hl,hc⟩:=hr
  have hv':(Cx cs 0 s).map SV.c=some sv:=by
   rcases hcv with rfl|rfl<;>cases s<;>exact hv
  simp only[Aa]at hv';obtain⟨c,hc',rfl⟩:=hv';obtain⟨v,h1,h2⟩:=Tb (P:=P) hs hl hc hc';rw[add_zero]at h1;exact⟨v,by simp[Instr.loadAt,Instr.sureAddr,e,h1],h2⟩
 case ptr id o=>
  obtain⟨hlive,g,e1,e2⟩:=hr;have ho:=h.ob id;rcases hrd id with e|e
  ·simp only[Bj,e,reduceCtorEq]at hv
  ·simp only[Bj,e]at hv;cases hob:ob id<;>rw[hob]at hv<;>(try simp only[reduceCtorEq]at hv;done);rename_i cs;rw[hob]at ho;obtain⟨g',ty,vs,e3,e4,hs'⟩:=ho;rw[e1]at e3;simp only[Value.pointer.injEq,Ac,Addr.mk.injEq,and_true]at e3;subst e3;have hcell:∀j,w.cell? ((⟨g,o,none⟩:Addr).add j)=vs[o+j]? :=fun j=>by rw[Do,PM e4]
   cases s with
   |none=>
    obtain⟨v,h1,h2⟩:=Az.get hs' hv;refine⟨v, ?_,h2⟩;have:=(LQ (w:=w) hs ⟨g,o,none⟩).2 v rfl (by rw[PM e4];exact h1);simp[Instr.loadAt,Instr.sureAddr,e2,this]
   |some n=>
    simp only[Ad,Aa]at hv;obtain⟨hle,l,hl,rfl⟩:=hv;have hlen:=Az.length hs';have hl':=Az.closed ((hs'.drop o).take n) hl;refine⟨.agg ⟨(vs.drop o).take n⟩, ?_,by show RelC _ _ _ _;unfold RelC;exact⟨_,rfl,hl'⟩⟩
    have:=(LQ (w:=w) hs ⟨g,o,none⟩).1 n ((vs.drop o).take n) rfl (by simp;omega) fun j u hu=>by
     rw[hcell];rw[List.getElem?_take]at hu;split at hu
     ·rw[List.getElem?_drop]at hu;exact hu
     ·cases hu
    simp[Instr.loadAt,Instr.sureAddr,e2,this]
 case eptr id i size o=>
  obtain⟨hlive,g,n,c,e1,e2⟩:=hr;have ho:=h.ob id;rcases hrd id with e|e
  ·simp only[Bj,e,reduceCtorEq]at hv
  ·simp only[Bj,e]at hv;cases hob:ob id<;>rw[hob]at hv<;>(try simp only[reduceCtorEq]at hv;done);rename_i et sz es;rw[hob]at ho;obtain⟨xs,hown,hf⟩:=ho;simp only[Ad,Ab,Aa]at hv;obtain⟨rfl,el,hel,cv,hcv,rfl⟩:=hv;obtain⟨v,hv1,hv2,hv3⟩:=Fw hf hel;have hpos:0<es.length:=by have:=(Ae.1 hel).1;omega
   obtain⟨g',cap,cur,e3,_,hcells⟩:=Lw hown hpos;rw[e1]at e3;simp only[Value.slice.injEq,Ac,Addr.mk.injEq,and_true]at e3;obtain⟨rfl,_⟩:=e3;have hcl:RelL w M el.cells v.cells.toList:=RelC.cells hv1
   have hpart:Cx el.cells o s=some cv:=by
    cases el<;>exact hcv
   have hcc:∀(j:Nat) u,v.cells.toList[j]? =some u→w.cell? ((⟨g,i*size,none⟩:Addr).add j)=some u:=fun j u hu=>by
    rw[Do];exact hcells _ _ (hv3 j u (by simpa using hu))
   obtain⟨u,h1,h2⟩:=Tb (P:=P) hs hcl hcc hpart;rw[Do]at h1;exact⟨u,by simp[Instr.loadAt,Instr.sureAddr,e2,h1],h2⟩
end
theorem QA{kt:KT}{a b:CV}(h:eq1 kt a b=some true):a=b:=by
 cases kt<;>cases a<;>(try(simp only[eq1,reduceCtorEq]at h;done))<;>cases b<;>(try(simp only[eq1,reduceCtorEq]at h;done))<;>simp only[eq1]at h
 ·simp only[Ad,Ac,beq_iff_eq]at h;rw[h.1,h.2]
 ·simp only[Ac,beq_iff_eq]at h;rw[h]
 ·simp only[Ac,beq_iff_eq]at h;rw[h]
theorem QC:∀{ts:List KT} {as bs:List CV},eqL ts as bs=some true→as=bs
 | [],[],[],_=>rfl
 | [],_::_,_,h=>by simp[eqL]at h
 | [],[],_::_,h=>by simp[eqL]at h
 |_::_,[],_,h=>by simp[eqL]at h
 |_::_,_::_,[],h=>by simp[eqL]at h
 |t::ts,a::as,b::bs,h=>by
  simp only[eqL,Ab,Aa]at h;obtain⟨x,hx,y,hy,hxy⟩:=h;simp only[Af]at hxy;obtain⟨rfl,rfl⟩:=hxy;rw[QA hx,QC hy]
theorem Re{o:Option Bool}(h:o.getD false=true):o=some true:=by
 cases o with
 |none=>simp at h
 |some r=>simp at h;rw[h]
theorem Xf{kt:KT}{a b:CV}(h:Cf kt a b=true):a=b:=by
 unfold Cf at h;split at h
 ·rw[QC (Re h)]
 ·exact QA (Re h)
theorem Kl{kt:KT}{a:CV}(h:B1 kt a=true):eq1 kt a a=some true:=by
 cases kt<;>cases a<;>simp[B1]at h<;>simp[eq1]
theorem QD:∀{ts:List KT} {as:List CV},B8 ts as=true→eqL ts as as=some true
 | [],[],_=>rfl
 | [],_::_,h=>by simp[B8]at h
 |_::_,[],h=>by simp[B8]at h
 |t::ts,a::as,h=>by
  simp only[B8,Af]at h;simp[eqL,Kl h.1,QD h.2]
theorem Xg{kt:KT}{a:CV}(h:AI kt a=true):Cf kt a a=true:=by
 cases kt with
 |struct ts=>
  cases a<;>(try simp[AI,B1]at h;done);simp only[AI]at h;simp[Cf,QD h]
 |int k=>simp only[AI]at h;simp[Cf,Kl h]
 |str=>simp only[AI]at h;simp[Cf,Kl h]
 |bool=>simp only[AI]at h;simp[Cf,Kl h]
theorem FI{kt:KT}{k:CV}:∀{ks:List CV} {i:Nat},AJ kt k ks=some i→ks[i]? =some k
 | [],i,h=>by simp[AJ]at h
 |c::cs,i,h=>by
  simp only[AJ]at h;split at h
  ·rename_i hk;simp only[Ac]at h;subst h;rw[Xf hk];rfl
  ·simp only[Aa]at h;obtain⟨j,hj,rfl⟩:=h;simpa using FI hj
theorem H0{kt:KT}{k:CV}(hc:AI kt k=true):∀{ks:List CV},AJ kt k ks=none→k∉ks
 | [],_=>by simp
 |c::cs,h=>by
  simp only[AJ]at h;split at h
  ·cases h
  ·rename_i hk;simp only[Option.map_eq_none_iff]at h;have:=H0 hc h;simp only[List.mem_cons,not_or];exact⟨fun e=>hk (by rw[←e];exact Xg hc),this⟩
theorem KQ{kt:KT}{k:CV}(hc:AI kt k=true){ks:List CV}(hn:ks.Nodup){i:Nat}(h:ks[i]? =some k):AJ kt k ks=some i:=by
 cases hi:AJ kt k ks with
 |none=>exact absurd (List.mem_of_getElem? h) (H0 hc hi)
 |some j=>
  have hj:=FI hi;have h1:=(Ae.1 h).1
  congr 1
  exact((List.getElem?_inj h1 hn).1 (h.trans hj.symm)).symm
theorem KP{kt:KT}{k:CV}:∀{ks:List CV} {i:Nat},AJ kt k ks=some i→i<ks.length
 | [],i,h=>by simp[AJ]at h
 |c::cs,i,h=>by
  simp only[AJ]at h;split at h
  ·simp only[Ac]at h;subst h;simp
  ·simp only[Aa]at h;obtain⟨j,hj,rfl⟩:=h;have:=KP hj;simp;omega
section
variable {P:Program} {G:Nat→List CV} {w0:WL} {M0:MM} {n:Nat} {st:St} {a:Act} {w w':World} {z:Cz}
theorem Qe{M M':MM}{kt:KT}{c:CV}{u v:Value}(hc:B1 kt c=true)(hu:RelC w M c u)(hv:RelC w M' c v):u=v∧∀n,Instr.sameBits n u u=true:=by
 cases kt<;>cases c<;>simp[B1]at hc
 ·rw[BR hu,BR hv];exact⟨rfl,fun n=>by simp[Instr.sameBits]⟩
 ·rw[CH hu,CH hv];exact⟨rfl,fun n=>by simp[Instr.sameBits,beq_toListBytes]⟩
 ·rw[Dp hu,Dp hv];exact⟨rfl,fun n=>by simp[Instr.sameBits]⟩
theorem Qg{M M':MM}:∀{ts:List KT} {cs:List CV} {us vs:List Value},B8 ts cs=true→RelL w M cs us→RelL w M' cs vs→us=vs∧∀n,(us.zip us).all (fun(x,y)=>Instr.sameBits n x y)=true
 | [],[],us,vs,_,hu,hv=>by unfold RelL at hu hv;subst hu;subst hv;exact⟨rfl,fun n=>rfl⟩
 | [],_::_,_,_,h,_,_=>by simp[B8]at h
 |_::_,[],_,_,h,_,_=>by simp[B8]at h
 |t::ts,c::cs,us,vs,h,hu,hv=>by
  simp only[B8,Af]at h;unfold RelL at hu hv;obtain⟨u,us',rfl,h1,h2⟩:=hu;obtain⟨v,vs',rfl,g1,g2⟩:=hv;obtain⟨e1,e2⟩:=Qe h.1 h1 g1;obtain⟨e3,e4⟩:=Qg h.2 h2 g2;exact⟨by rw[e1,e3],fun n=>by simp[e2 n,e4 n]⟩
theorem MO{M M':MM}{kt:KT}{c:CV}{u v:Value}(hc:AI kt c=true)(hu:RelC w M c u)(hv:RelC w M' c v):u=v∧∀n,Instr.sameBits (n+1) u u=true:=by
 unfold AI at hc;split at hc
 ·unfold RelC at hu hv;obtain⟨us,rfl,hu⟩:=hu;obtain⟨vs,rfl,hv⟩:=hv;obtain⟨e1,e2⟩:=Qg hc hu hv;subst e1;exact⟨rfl,fun n=>by simpa[Instr.sameBits]using e2 n⟩
 ·obtain⟨e1,e2⟩:=Qe hc hu hv;exact⟨e1,fun n=>e2 (n+1)⟩
theorem T1{M M':MM}{kt:KT}{c:CV}{u v:Value}(hc:AI kt c=true)(hu:RelC w M c u)(hv:RelC w M' c v)(w':World):(Instr.keyThatStays u v).run P w'=.ok v w':=by
 obtain⟨rfl,h⟩:=MO hc hu hv;have:=h 9999;simp[Instr.keyThatStays,this]
theorem Ka{M M':MM}{kt:KT}{c d:CV}{v:Value}(hc:B1 kt c=true)(hd:B1 kt d=true)(h1:RelC w M c v)(h2:RelC w M' d v):c=d:=by
 cases kt<;>cases c<;>simp[B1]at hc<;>cases d<;>simp[B1]at hd
 ·have:=(BR h1).symm.trans (BR h2);simp only[Value.int.injEq]at this;rw[this.1,this.2]
 ·have:=(CH h1).symm.trans (CH h2);simp only[Value.string.injEq,ByteArray.mk.injEq,Array.mk.injEq]at this;rw[this]
 ·have:=(Dp h1).symm.trans (Dp h2);simp only[Value.bool.injEq]at this;rw[this]
theorem Qf{M M':MM}:∀{ts:List KT} {cs ds:List CV} {us:List Value},B8 ts cs=true→B8 ts ds=true→RelL w M cs us→RelL w M' ds us→cs=ds
 | [],[],[],_,_,_,_,_=>rfl
 | [],[],_::_,_,_,h,_,_=>by simp[B8]at h
 | [],_::_,_,_,h,_,_,_=>by simp[B8]at h
 |_::_,[],_,_,h,_,_,_=>by simp[B8]at h
 |_::_,_::_,[],_,_,h,_,_=>by simp[B8]at h
 |t::ts,c::cs,d::ds,us,h,h',hu,hv=>by
  simp only[B8,Af]at h h';unfold RelL at hu hv;obtain⟨u,us',rfl,h1,h2⟩:=hu;obtain⟨v,vs',e,g1,g2⟩:=hv;simp only[List.cons.injEq]at e;obtain⟨rfl,rfl⟩:=e;rw[Ka h.1 h'.1 h1 g1,Qf h.2 h'.2 h2 g2]
theorem Vx{M M':MM}{kt:KT}{c d:CV}{v:Value}(hc:AI kt c=true)(hd:AI kt d=true)(h1:RelC w M c v)(h2:RelC w M' d v):c=d:=by
 cases kt with
 |struct ts=>
  cases c<;>(try simp[AI,B1]at hc;done);cases d<;>(try simp[AI,B1]at hd;done);simp only[AI]at hc hd;unfold RelC at h1 h2;obtain⟨us,rfl,h1⟩:=h1;obtain⟨vs,e,h2⟩:=h2;simp only[Value.agg.injEq,Array.mk.injEq]at e;subst e;rw[Qf hc hd h1 h2]
 |int k=>simp only[AI]at hc hd;exact Ka hc hd h1 h2
 |str=>simp only[AI]at hc hd;exact Ka hc hd h1 h2
 |bool=>simp only[AI]at hc hd;exact Ka hc hd h1 h2
theorem NS{M:MM}{kt:KT}:∀{ks:List CV} {us:List Value},(∀k∈ks,AI kt k=true)→RelL w M ks us→us.Nodup→ks.Nodup
 | [],_,_,_,_=>by simp
 |k::ks,us,hc,h,hn=>by
  unfold RelL at h;obtain⟨u,us',rfl,h1,h2⟩:=h;rw[List.nodup_cons]at hn⊢;refine⟨fun hm=>hn.1 ?_,NS (fun k' hk'=>hc k' (by simp[hk'])) h2 hn.2⟩;obtain⟨i,hi⟩:=List.mem_iff_getElem?.1 hm;obtain⟨v,g1,g2⟩:=h2.get hi;rw[(MO (hc k (by simp)) h1 g2).1];exact List.mem_of_getElem? g1
theorem RelL.getR{M:MM}:∀{cs:List CV} {vs:List Value} {i:Nat} {v:Value},RelL w M cs vs→vs[i]? =some v→∃c,cs[i]? =some c∧RelC w M c v
 | [],_,_,_,h,hi=>by unfold RelL at h;subst h;simp at hi
 |c::_,_,0,_,h,hi=>by
  unfold RelL at h;obtain⟨v,vs',rfl,h1,_⟩:=h;simp at hi;subst hi;exact⟨c,rfl,h1⟩
 |_::_,_,i+1,_,h,hi=>by
  unfold RelL at h;obtain⟨v,vs',rfl,_,h2⟩:=h;simp only[List.getElem?_cons_succ]at hi⊢;exact RelL.getR h2 hi
theorem NU{M:MM}{kt:KT}:∀{ks:List CV} {us:List Value},(∀k∈ks,AI kt k=true)→RelL w M ks us→ks.Nodup→us.Nodup
 | [],_,_,h,_=>by unfold RelL at h;subst h;simp
 |k::ks,us,hc,h,hn=>by
  unfold RelL at h;obtain⟨u,us',rfl,h1,h2⟩:=h;rw[List.nodup_cons]at hn⊢;refine⟨fun hm=>hn.1 ?_,NU (fun k' hk'=>hc k' (by simp[hk'])) h2 hn.2⟩;obtain⟨i,hi⟩:=List.mem_iff_getElem?.1 hm;obtain⟨c,g1,g2⟩:=h2.getR hi;have hcm:=List.mem_of_getElem? g1;rw[Vx (hc k (by simp)) (hc c (by simp[hcm])) h1 g2];exact hcm
end
theorem Mu{ks vs:List CV}{i:Nat}{k v:CV}(h1:ks[i]? =some k)(h2:vs[i]? =some v):(ks.zip vs)[i]? =some (k,v):=by
 rw[List.getElem?_zip_eq_some];exact⟨h1,h2⟩
theorem MP.at_{ks vs ks' vs':List CV}(h:MP ks vs ks' vs'){i:Nat}{k:CV}(hi:ks[i]? =some k):∃(j:Nat) (v:CV),vs[i]? =some v∧ks'[j]? =some k∧vs'[j]? =some v:=by
 have hl:=(Ae.1 hi).1;have hv:vs[i]? =some (vs[i]'(by have:=h.1;omega)):=Ai _;have hm:=List.mem_of_getElem? (Mu hi hv);obtain⟨j,hj⟩:=List.mem_iff_getElem?.1 (h.2.2.mem_iff.2 hm);rw[List.getElem?_zip_eq_some]at hj;exact⟨j,_,hv,hj.1,hj.2⟩
theorem MP.vs{ks vs ks' vs':List CV}(h:MP ks vs ks' vs'):vs'.Perm vs:=by
 have:=h.2.2.map Prod.snd
 rwa [List.map_snd_zip (by have:=h.2.1;omega),List.map_snd_zip (by have:=h.1;omega)]at this
theorem MP.symm{ks vs ks' vs':List CV}(h:MP ks vs ks' vs'):MP ks' vs' ks vs:=⟨h.2.1,h.1,h.2.2.symm⟩
theorem NF{kt:KT}{zc:CV}{ks vs ks' vs':List CV}(h:MP ks vs ks' vs')(hn:ks'.Nodup){k:CV}(hc:AI kt k=true):AX kt zc ks vs k=AX kt zc ks' vs' k:=by
 unfold AX
 cases hi:AJ kt k ks with
 |none=>
  have h1:k∉ks':=fun hm=>H0 hc hi (h.ks.mem_iff.1 hm)
  cases hj:AJ kt k ks' with
  |none=>rfl
  |some j=>exact absurd (List.mem_of_getElem? (FI hj)) h1
 |some i=>
  obtain⟨j,v,h1,h2,h3⟩:=h.at_ (FI hi);rw[KQ hc hn h2];simp[List.getD,h1,h3]
theorem Ns{kt:KT}{ks vs ks' vs':List CV}(h:MP ks vs ks' vs')(hn:ks'.Nodup){k:CV}(hc:AI kt k=true)(v:CV):MP (Bk kt ks k) (Bl kt ks vs k v) (Bk kt ks' k) (Bl kt ks' vs' k v):=by
 unfold Bk Bl
 cases hi:AJ kt k ks with
 |none=>
  have h1:k∉ks':=fun hm=>H0 hc hi (h.ks.mem_iff.1 hm)
  cases hj:AJ kt k ks' with
  |none=>exact h.app k v
  |some j=>exact absurd (List.mem_of_getElem? (FI hj)) h1
 |some i=>
  have hki:=FI hi;obtain⟨j,u,h1,h2,h3⟩:=h.at_ hki;rw[KQ hc hn h2];refine⟨by simp[h.1],by simp[h.2.1], ?_⟩
  have set_zip:∀(ks vs:List CV) (i:Nat),ks[i]? =some k→vs[i]? =some u→((ks.zip vs).set i (k,v))=ks.zip (vs.set i v):=by
   intro ks vs i e1 e2;apply List.ext_getElem?;intro m;have hl1:=(Ae.1 e1).1;have hl2:=(Ae.1 e2).1;rw[List.getElem?_set];by_cases hm:i=m
   ·subst hm;simp only[if_true];rw[if_pos (by simp;omega)];symm;exact Mu e1 (by simp[hl2])
   ·rw[if_neg hm];simp only[List.zip_eq_zipWith,List.getElem?_zipWith,List.getElem?_set,if_neg hm]
  have perm_set:∀(l:List (CV×CV)) (i:Nat) (x y:CV×CV),l[i]? =some x→(l.set i y).Perm (y::l.eraseIdx i):=by
   intro l
   induction l with
   |nil=>intro i x y h;simp at h
   |cons a l ih=>
    intro i x y h
    cases i with
    |zero=>simp
    |succ i=>
     simp only[List.getElem?_cons_succ]at h;simp only[List.set_cons_succ,List.eraseIdx_cons_succ];exact((ih i x y h).cons a).trans (.swap _ _ _)
  have perm_get:∀(l:List (CV×CV)) (i:Nat) (x:CV×CV),l[i]? =some x→l.Perm (x::l.eraseIdx i):=by
   intro l i x h;have:=perm_set l i x x h
   have e:l.set i x=l:=by
    apply List.ext_getElem?;intro m;rw[List.getElem?_set];by_cases hm:i=m
    ·subst hm;rw[if_pos rfl,if_pos (Ae.1 h).1,h]
    ·rw[if_neg hm]
   rwa [e]at this
  rw[←set_zip ks vs i hki h1,←set_zip ks' vs' j h2 h3];have z1:=Mu hki h1;have z2:=Mu h2 h3;have e:=((perm_get _ _ _ z2).symm.trans h.2.2).trans (perm_get _ _ _ z1);exact((perm_set _ _ _ (k,v) z2).trans (e.cons_inv.cons _)).trans (perm_set _ _ _ (k,v) z1).symm
section
variable {G:Nat→List CV} {P:Program} {w:World} {M:MM} {B:Nat} {z:Cz} {ob rd:Nat→Ob} {fr:Nat→SV} {a:Act} {o:Oper}
theorem Aab(h:Ctx P G w M B z ob fr a)(hrd:∀id,rd id=.none∨rd id=ob id){t e:TypeId}{i:TypeInfo}(ht:P.underlying t=some (.slice e))(hi:P.info? e=some i)
  {x ix:Operand} {sx si:SO} (hx:An x=some sx) (hix:An ix=some si) {sv:SV} (hv:D1 rd i.size (so G fr sx) (so G fr si)=some sv):
  ∃v,(Instr.indexAt t (a.eval x) (a.eval ix)).run P w=.ok v w∧Ar w M z ob sv v:=by
 have hr:=h.opd hx;have hr2:=h.opd hix;generalize so G fr sx=q at hr hv;generalize so G fr si=q2 at hr2 hv;cases q<;>(try simp only[D1,reduceCtorEq]at hv;done)
 case c cv=>
  cases cv<;>(try simp only[D1,reduceCtorEq]at hv;done);rename_i nl es;cases q2<;>(try simp only[D1,reduceCtorEq]at hv;done);rename_i c2;cases c2<;>(try simp only[D1,reduceCtorEq]at hv;done);rename_i k n;have en:=BR (w:=w) (M:=M) hr2;simp only[D1,Ab,Ad,Ac]at hv;obtain⟨j,hj,el,hel,hsz,rfl⟩:=hv;obtain⟨h0,h1,rfl⟩:=Hx hj;unfold Ar RelC at hr;obtain⟨ad,len,c,e1,e2,_,_,_,_,hE⟩:=hr;have hne:es≠ []:=by intro hh;subst hh;simp at hel
  obtain⟨ad',size,e3,hlt,hm,hE⟩:=hE hne;obtain⟨v,hv1,hv2,hv3⟩:=Bo.get hE hel;have hss:size=i.size:=by rw[←hv2,hv1.cells_size,hsz]
  subst hss;subst e3;refine⟨.pointer (some (ad'.add (n.toNat*i.size))), ?_, ?_⟩
  ·subst e2;simp[Instr.indexAt,e1,en,asIntOf,run_underlying ht,h0,h1,CX hi]
  ·show RelC _ _ _ _;unfold RelC;refine⟨_,v.cells.toList,rfl,by rw[Db];exact hlt,by rw[Db];exact hm,RelC.cells hv1,fun j u hu=> ?_⟩;rw[GW];have:=hv3 j u (by simpa using hu);rw[Nat.zero_add]at this;exact this
 case osl id=>
  cases q2<;>(try simp only[D1,reduceCtorEq]at hv;done);rename_i c2;cases c2<;>(try simp only[D1,reduceCtorEq]at hv;done);rename_i k n;have en:=BR (w:=w) (M:=M) hr2;obtain⟨hlive,e1⟩:=hr;have ho:=h.ob id;rcases hrd id with e'|e'
  ·simp only[D1,e',reduceCtorEq]at hv
  ·simp only[D1,e']at hv;cases hob:ob id<;>rw[hob]at hv<;>(try simp only[reduceCtorEq]at hv;done);rename_i et sz es;rw[hob]at ho;obtain⟨xs,hown,hf⟩:=ho;simp only[Ad,Aa]at hv;obtain⟨rfl,j,hj,rfl⟩:=hv;obtain⟨h0,h1,rfl⟩:=Hx hj;obtain⟨g,cap,cur,e3,_,_⟩:=Lw hown (by omega);refine⟨.pointer (some ((⟨g,0,none⟩:Addr).add (n.toNat*i.size))), ?_,hlive,g,es.length,cap,e3,by rw[Do];simp⟩;simp[Instr.indexAt,e1,e3,en,asIntOf,run_underlying ht,h0,h1,CX hi]
theorem ZM(h:Ctx P G w M B z ob fr a){t e:TypeId}{i:TypeInfo}{len:Nat}(ht:P.underlying t=some (.array len e))(hi:P.info? e=some i)
  {x ix:Operand} {sx si:SO} (hx:An x=some sx) (hix:An ix=some si) {sv:SV} (hv:DA len i.size (so G fr sx) (so G fr si)=some sv):
  ∃v,(Instr.indexAt t (a.eval x) (a.eval ix)).run P w=.ok v w∧Ar w M z ob sv v:=by
 have hr:=h.opd hx;have hr2:=h.opd hix;generalize so G fr sx=q at hr hv;generalize so G fr si=q2 at hr2 hv;cases q<;>(try simp only[DA,reduceCtorEq]at hv;done)
 case c cv=>
  cases cv<;>(try simp only[DA,reduceCtorEq]at hv;done);rename_i cs;cases q2<;>(try simp only[DA,reduceCtorEq]at hv;done);rename_i c2;cases c2<;>(try simp only[DA,reduceCtorEq]at hv;done);rename_i k n;have en:=BR (w:=w) (M:=M) hr2;simp only[DA,Ad,Aa]at hv;obtain⟨hl,j,hj,rfl⟩:=hv;obtain⟨h0,h1,rfl⟩:=Hx hj;unfold Ar RelC at hr;obtain⟨ad,vs,e1,hlt,hm,hrl,hc⟩:=hr;refine⟨.pointer (some (ad.add (n.toNat*i.size))), ?_, ?_⟩
  ·simp[Instr.indexAt,Instr.sureAddr,e1,en,asIntOf,run_underlying ht,h0,h1,CX hi]
  ·show RelC _ _ _ _;unfold RelC;refine⟨_,vs.drop (n.toNat*i.size),rfl,by rw[Db];exact hlt,by rw[Db];exact hm,hrl.drop _,fun j u hu=> ?_⟩;rw[GW];rw[List.getElem?_drop]at hu;exact hc _ u hu
 case ptr id o=>
  cases q2<;>(try simp only[DA,reduceCtorEq]at hv;done);rename_i c2;cases c2<;>(try simp only[DA,reduceCtorEq]at hv;done);rename_i k n;have en:=BR (w:=w) (M:=M) hr2;obtain⟨hlive,g,e1,e2⟩:=hr;simp only[DA,Aa]at hv;obtain⟨j,hj,rfl⟩:=hv;obtain⟨h0,h1,rfl⟩:=Hx hj;refine⟨.pointer (some ((⟨g,o,none⟩:Addr).add (n.toNat*i.size))), ?_,hlive,g,e1,by rw[Do]⟩;simp[Instr.indexAt,Instr.sureAddr,e2,en,asIntOf,run_underlying ht,h0,h1,CX hi]
theorem ZX(h:Ctx P G w M B z ob fr a)(hrd:∀id,rd id=.none∨rd id=ob id){t:TypeId}{fs:Array Field}{f:Nat}{fd:Field}{i:TypeInfo}(ht:P.underlying t=some (.struct fs))(hf:fs[f]? =some fd)(hi:P.info? fd.type=some i)(h0:i.size≠0)
  {x:Operand} {sx:SO} (hx:An x=some sx) {sv:SV} (hv:Am rd (so G fr) (.faddr fd.offset sx)=some sv):
  ∃v,(Instr.fieldAt t (a.eval x) f).run P w=.ok v w∧Ar w M z ob sv v:=by
 have hr:=h.deref hrd (h.opd hx);simp only[Am]at hv;generalize WB.deref rd (so G fr sx)=q at hr hv
 have run:∀ad,a.eval x=.pointer (some ad)→(Instr.fieldAt t (a.eval x) f).run P w=.ok (.pointer (some (ad.add fd.offset))) w:=fun ad e=>by
  simp[Instr.fieldAt,Instr.sureAddr,run_underlying ht,hf,e,fieldPlace,CX hi,h0]
 cases q<;>(try simp only[reduceCtorEq]at hv;done)
 case c cv=>
  have hcv:∃cs,RelC w M (.rp cs) (a.eval x)∧(if fd.offset≤cs.length then some (SV.c (CV.rp (List.drop fd.offset cs)))else none)=some sv:=by
   cases cv<;>first
    |exact⟨_,hr,hv⟩
    |exact⟨_,RelC.of_wp hr,hv⟩
    |(simp only[reduceCtorEq]at hv;done)
  obtain⟨cs,hr,hv⟩:=hcv;simp only[Ad,Ac]at hv;obtain⟨_,rfl⟩:=hv;unfold RelC at hr;obtain⟨ad,vs,e1,hlt,hm,hrl,hc⟩:=hr;refine⟨_,run ad e1, ?_⟩;show RelC _ _ _ _;unfold RelC;refine⟨_,vs.drop fd.offset,rfl,by rw[Db];exact hlt,by rw[Db];exact hm,hrl.drop _,fun j u hu=> ?_⟩;rw[GW];rw[List.getElem?_drop]at hu;exact hc _ u hu
 case ptr id o=>
  simp only[Ac]at hv;subst hv;obtain⟨hlive,g,e1,e2⟩:=hr;exact⟨_,run _ e2,hlive,g,e1,by rw[Do]⟩
 case eptr id k s o=>
  simp only[Ac]at hv;subst hv;obtain⟨hlive,g,n,c,e1,e2⟩:=hr;exact⟨_,run _ e2,hlive,g,n,c,e1,by rw[Do];simp[Nat.add_assoc]⟩
theorem OU(h:Ctx P G w M B z ob fr a)(hrd:∀id,rd id=.none∨rd id=ob id){t ty:TypeId}{d:TypeDesc}{kd:Nat}(ht:P.underlying t=some d)
  (hd:(kd=0∧d=.string)∨(kd=1∧∃e,d=.slice e)∨(kd=2∧∃k e,d=.map k e))
  {x:Operand} {sx:SO} (hx:An x=some sx) {n:Int} (hv:C2 rd kd (so G fr sx)=some n):(Builtin.len_ #[t] ty #[a.eval x]).run P w=.ok (.int .i64 n) w:=by
 have hr:=h.opd hx;generalize so G fr sx=q at hr hv;rcases hd with⟨rfl,rfl⟩|⟨rfl,e,rfl⟩|⟨rfl,k,e,rfl⟩
 ·cases q<;>(try simp only[C2,reduceCtorEq]at hv;done);rename_i cv;cases cv<;>(try simp only[C2,reduceCtorEq]at hv;done);simp only[C2,Ac]at hv;subst hv;have:=CH (w:=w) (M:=M) hr;rw[this];simp[Builtin.len_,run_underlying ht,goInt];rfl
 ·cases q<;>(try simp only[C2,reduceCtorEq]at hv;done)
  ·rename_i cv;cases cv<;>(try simp only[C2,reduceCtorEq]at hv;done);simp only[C2,Ac]at hv;subst hv;unfold Ar RelC at hr;obtain⟨ad,len,c,e1,e2,_⟩:=hr;rw[e1,e2];simp[Builtin.len_,run_underlying ht,goInt]
  ·rename_i id;obtain⟨hlive,e1⟩:=hr;have ho:=h.ob id;rcases hrd id with e'|e'
   ·simp only[C2,e',reduceCtorEq]at hv
   ·simp only[C2,e']at hv;cases hob:ob id<;>rw[hob]at hv<;>(try simp only[reduceCtorEq]at hv;done);rename_i et sz es;rw[hob]at ho;obtain⟨xs,hown,_⟩:=ho;simp only[Ac]at hv;subst hv;rcases hown.2 with⟨e2,e3⟩|⟨g,cap,cur,_,_,e2,_⟩
    ·rw[e1,e2,e3];simp[Builtin.len_,run_underlying ht,goInt]
    ·rw[e1,e2];simp[Builtin.len_,run_underlying ht,goInt]
 ·cases q<;>(try simp only[C2,reduceCtorEq]at hv;done)
  ·rename_i cv;cases cv<;>(try simp only[C2,reduceCtorEq]at hv;done);rename_i nl ks vs;simp only[C2,Ac]at hv;subst hv;unfold Ar RelC at hr;obtain⟨r,e1,_,_,e4,e5⟩:=hr;rw[e1]
   cases r with
   |none=>
    have:=(e4 rfl).1;subst this;simp[Builtin.len_,run_underlying ht,goInt]
   |some b=>
    obtain⟨_,ens,ens',clk,hh,_,hp,hk,_⟩:=e5 b rfl;have hl:=hk.length;rw[List.length_map,hp.length_eq]at hl;simp[Builtin.len_,run_underlying ht,goInt,getObj,Sem.run,hh,hl]
  ·rename_i id;obtain⟨hlive,e1⟩:=hr;have ho:=h.ob id;rcases hrd id with e'|e'
   ·simp only[C2,e',reduceCtorEq]at hv
   ·simp only[C2,e']at hv;cases hob:ob id<;>rw[hob]at hv<;>(try simp only[reduceCtorEq]at hv;done);rw[hob]at ho;obtain⟨_,ks',vs',r,ens,clk,hp,e2,hh,hk,_⟩:=ho;simp only[Ac]at hv;subst hv;have hl:=hk.length;rw[List.length_map,hp.ks.length_eq]at hl;rw[e1,e2];simp[Builtin.len_,run_underlying ht,goInt,getObj,Sem.run,hh,hl]
theorem Gi{dflt:Nat}{x:Option Operand}{sx:Option SO}(h:Ctx P G w M B z ob fr a)(hx:Dq x=some sx){b:Nat}(hb:BL dflt (sx.map (so G fr))=some b):
  (x=none∧b=dflt)∨∃y k,x=some y∧a.eval y=.int k (b:Int):=by
 cases x with
 |none=>
  simp only[Dq,Ac]at hx;subst hx;simp only[Option.map_none,BL,Ac]at hb;exact .inl ⟨rfl,hb.symm⟩
 |some y=>
  simp only[Dq,Aa]at hx;obtain⟨s,hs,rfl⟩:=hx;have hr:=h.opd hs;simp only[Option.map_some]at hb;generalize so G fr s=q at hr hb;cases q<;>(try simp only[BL,reduceCtorEq]at hb;done);rename_i cv;cases cv<;>(try simp only[BL,reduceCtorEq]at hb;done);rename_i k n;simp only[BL,Ad,Ac]at hb;obtain⟨h0,rfl⟩:=hb;refine .inr ⟨y,k,rfl, ?_⟩;rw[BR (w:=w) (M:=M) hr,Int.toNat_of_nonneg h0]
theorem Te(isS:Bool){len cap:Nat}{lo hi:Option Operand}{b c:Nat}(hh:(hi=none∧c=len)∨∃y k,hi=some y∧a.eval y=.int k (c:Int))(hl:(lo=none∧b=0)∨∃y k,lo=some y∧a.eval y=.int k (b:Int))
  (h1:b≤c) (h2:c≤cap):(Instr.sliceBounds isS len cap (lo.map a.eval) (hi.map a.eval) none).run P w=.ok (b,c,cap) w:=by
 rcases hh with⟨rfl,rfl⟩|⟨y,k,rfl,e⟩<;>rcases hl with⟨rfl,rfl⟩|⟨y',k',rfl,e'⟩
 ·simp[Instr.sliceBounds]
 ·simp[Instr.sliceBounds,Instr.sliceBound,e',asIntOf,h1]
 ·simp[Instr.sliceBounds,Instr.sliceBound,e,asIntOf,h2]
 ·simp[Instr.sliceBounds,Instr.sliceBound,e,e',asIntOf,h1,h2]
theorem Aaj(h:Ctx P G w M B z ob fr a){t:TypeId}(ht:P.underlying t=some .string){x:Operand}{lo hi:Option Operand}{sx:SO}{sl sh:Option SO}(hx:An x=some sx)(hlo:Dq lo=some sl)(hhi:Dq hi=some sh)
  {sv:SV} (hv:Am rd (so G fr) (.sslice sx sl sh)=some sv):∃v,(Instr.sliceAt t (a.eval x) (lo.map a.eval) (hi.map a.eval) none).run P w=.ok v w∧Ar w M z ob sv v:=by
 have hr:=h.opd hx;simp only[Am]at hv;generalize so G fr sx=q at hr hv;cases q<;>(try simp only[reduceCtorEq]at hv;done);rename_i cv;cases cv<;>(try simp only[reduceCtorEq]at hv;done);rename_i s;simp only[Ab,Ad,Ac]at hv;obtain⟨c,hc,b,hb,⟨h1,h2⟩,rfl⟩:=hv;have e:=CH (w:=w) (M:=M) hr;have r:=Te (P:=P) (w:=w) (a:=a) false (len:=s.length) (cap:=s.length) (Gi h hhi hc) (Gi h hlo hb) h1 h2;refine⟨.string ((⟨⟨s⟩⟩:ByteArray).extract b c), ?_, ?_⟩
 ·have hsz:(⟨⟨s⟩⟩:ByteArray).size=s.length:=rfl;simp[Instr.sliceAt,Instr.slice,run_underlying ht,e,hsz,r]
 ·show RelC _ _ _ _;unfold RelC;rw[ByteArray.extract_mk];have:(s.take c).drop b=(s.drop b).take (c-b):=by rw[List.drop_take]
  rw[this]
theorem P0{M:MM}{w:World}:∀{cs:List CV} {vs:List Value},RelL w M cs vs→cs.all ID=true→∀(j:Nat) (c:CV),cs[j]? =some c→∃v,vs[j]? =some v∧RelC w M c v∧v.cells= #[v]
 | [],_,_,_,j,c,h=>by simp at h
 |c0::cs,vs,hr,ha,j,c,h=>by
  unfold RelL at hr;obtain⟨v,vs',rfl,h1,h2⟩:=hr;simp only[List.all_cons,Af]at ha
  cases j with
  |zero=>
   simp only[List.getElem?_cons_zero,Ac]at h;subst h;refine⟨v,rfl,h1, ?_⟩;have:=ha.1;cases c0<;>simp only[ID,Ag]at this;unfold RelC at h1;subst h1;rfl
  |succ j=>exact P0 h2 ha.2 j c (by simpa using h)
theorem ZO(h:Ctx P G w M B z ob fr a){t e:TypeId}{i:TypeInfo}{n:Nat}(ht:P.underlying t=some (.array n e))(hi:P.info? e=some i)(h1:i.size=1){x:Operand}{sx:SO}(hx:An x=some sx)
  {sv:SV} (hv:Am rd (so G fr) (.asl n sx)=some sv):∃v,(Instr.sliceAt t (a.eval x) none none none).run P w=.ok v w∧Ar w M z ob sv v:=by
 have hr:=h.opd hx;simp only[Am]at hv;generalize so G fr sx=q at hr hv;cases q<;>(try simp only[reduceCtorEq]at hv;done);rename_i cv;cases cv<;>(try simp only[reduceCtorEq]at hv;done);rename_i cs;simp only[Ad,Ac]at hv;obtain⟨⟨hlen,hall⟩,rfl⟩:=hv;unfold Ar RelC at hr;obtain⟨ad,vs,e1,hlt,hm,hrl,hc⟩:=hr;have hal:P.arrayLen t=n:=by simp[Program.arrayLen,ht]
 have hel:P.elem t=e:=by simp[Program.elem,ht]
 refine⟨.slice (some ad) n n, ?_, ?_⟩
 ·rw[e1,run_sliceAt_array_all w t ad (by rw[hal,hel];exact ht),hal,hel,CX hi];simp[slicedAt,add_zero]
 ·show RelC _ _ _ _;unfold RelC;refine⟨some ad,n,n,rfl,hlen.symm,Nat.le_refl _,(fun hh=>by cases hh),(fun _ hh=>by cases hh),(fun hh=>by cases hh),fun _=>⟨ad,1,rfl,hlt,hm,E9 fun k el hel2=> ?_⟩⟩;obtain⟨v,hv1,hv2,hv3⟩:=P0 hrl hall k el hel2;refine⟨v,hv2,by rw[hv3];rfl,fun j u hu=> ?_⟩;rw[hv3]at hu
  cases j with
  |zero=>
   simp only[List.getElem?_toArray,List.getElem?_cons_zero,Ac]at hu;subst hu;rw[Nat.mul_one,Nat.add_zero,Nat.zero_add];exact hc k v hv1
  |succ j=>simp at hu
theorem Aag(h:Ctx P G w M B z ob fr a){t e:TypeId}{i:TypeInfo}(ht:P.underlying t=some (.slice e))(hi:P.info? e=some i){x:Operand}{lo hi':Option Operand}{sx:SO}{sl sh:Option SO}(hx:An x=some sx)(hlo:Dq lo=some sl)(hhi:Dq hi'=some sh)
  {sv:SV} (hv:Am rd (so G fr) (.slice i.size sx sl sh)=some sv):∃v,(Instr.sliceAt t (a.eval x) (lo.map a.eval) (hi'.map a.eval) none).run P w=.ok v w∧Ar w M z ob sv v:=by
 have hr:=h.opd hx;simp only[Am]at hv;generalize so G fr sx=q at hr hv;cases q<;>(try simp only[reduceCtorEq]at hv;done);rename_i cv;cases cv<;>(try simp only[reduceCtorEq]at hv;done);rename_i nl es;simp only[Ab,Ad,Ac]at hv;obtain⟨c,hc,b,hb,⟨⟨h1,h2⟩,h3⟩,rfl⟩:=hv;unfold Ar RelC at hr;obtain⟨ad,n,cap,e1,e2,e3,e4,e5,e6,e7⟩:=hr;subst e2;have r:=Te (P:=P) (w:=w) (a:=a) true (len:=es.length) (cap:=cap) (Gi h hhi hc) (Gi h hlo hb) h1 (Nat.le_trans h2 e3);refine⟨.slice (if cap=b then ad else ad.map (·.add (b*i.size))) (c-b) (cap-b), ?_, ?_⟩
 ·simp[Instr.sliceAt,Instr.slice,run_underlying ht,e1,r,CX hi]
 ·show RelC _ _ _ _;unfold RelC;refine⟨_,_,_,rfl,by simp;omega,by omega,fun hh=> ?_,fun hh=> ?_,fun hh=> ?_,fun hne=> ?_⟩
  ·have:=e4 hh;subst this;split<;>rfl
  ·have:=e5 hh;split
   ·exact this
   ·intro hn;exact this (by simpa using hn)
  ·split at hh
   ·rename_i hcb;omega
   ·have:ad=none:=by simpa using hh
    have:=e6 this;omega
  ·have hes:es≠ []:=by
    intro hh;subst hh;simp at hne
   obtain⟨ad',size,rfl,hlt,hm,hE⟩:=e7 hes
   have hlen:b<c:=by
    rcases Nat.lt_or_ge b c with hlt|hge
    ·exact hlt
    ·exfalso;apply hne;rw[List.drop_eq_nil_iff];simp;omega
   have hsz:size=i.size:=by
    obtain⟨el,hel⟩:∃el,es[0]? =some el:=by
     cases es with
     |nil=>exact absurd rfl hes
     |cons el es=>exact⟨el,rfl⟩
    obtain⟨v,hv1,hv2,_⟩:=Bo.get hE hel
    have:Bq el=i.size:=by
     have:=List.all_eq_true.1 h3 el (List.mem_of_getElem? hel);simpa using this
    rw[←hv2,hv1.cells_size,this]
   subst hsz;rw[if_neg (by omega)];exact⟨ad'.add (b*i.size),i.size,rfl,by rw[Db];exact hlt,by rw[Db];exact hm,Ps hE⟩
theorem YL{len cap:Nat}{lo:Option Operand}{hi mx:Operand}{b c:Nat}{k k':IntKind}(hh:a.eval hi=.int k (c:Int))(hm:a.eval mx=.int k' (c:Int))(hl:(lo=none∧b=0)∨∃y k,lo=some y∧a.eval y=.int k (b:Int))
  (h1:b≤c) (h2:c≤cap):(Instr.sliceBounds true len cap (lo.map a.eval) (some (a.eval hi)) (some (a.eval mx))).run P w=.ok (b,c,c) w:=by
 rcases hl with⟨rfl,rfl⟩|⟨y',k',rfl,e'⟩
 ·simp[Instr.sliceBounds,Instr.sliceBound,hh,hm,asIntOf,h2]
 ·simp[Instr.sliceBounds,Instr.sliceBound,hh,hm,e',asIntOf,h1,h2]
theorem Aah(h:Ctx P G w M B z ob fr a){t e:TypeId}{i:TypeInfo}(ht:P.underlying t=some (.slice e))(hi:P.info? e=some i){x:Operand}{lo:Option Operand}{hi' mx:Operand}{sx sh sm:SO}{sl:Option SO}(hx:An x=some sx)(hlo:Dq lo=some sl)(hhi:An hi'=some sh)(hmx:An mx=some sm)
  {sv:SV} (hv:Am rd (so G fr) (.slice3 i.size sx sl sh sm)=some sv):∃v,(Instr.sliceAt t (a.eval x) (lo.map a.eval) (some (a.eval hi')) (some (a.eval mx))).run P w=.ok v w∧Ar w M z ob sv v:=by
 have hr:=h.opd hx;simp only[Am]at hv;generalize hq:so G fr sx=q at hr hv;cases q<;>(try simp only[reduceCtorEq]at hv;done);rename_i cv;cases cv<;>(try simp only[reduceCtorEq]at hv;done);rename_i nl es;simp only[Ab,Ad,Ac]at hv;obtain⟨c,hc,m,hm',b,hb,⟨⟨h1,h2,rfl⟩,h3⟩,rfl⟩:=hv;unfold Ar RelC at hr;obtain⟨ad,n,cap,e1,e2,e3,e4,e5,e6,e7⟩:=hr;subst e2
 have hc1:∃k,a.eval hi'=.int k (c:Int):=by
  rcases Gi (x:=some hi') (sx:=some sh) (dflt:=es.length) h (by simp[Dq,hhi]) (by simpa using hc)with⟨hh,_⟩|⟨y,k,hy,e⟩
  ·cases hh
  ·cases hy;exact⟨k,e⟩
 have hm1:∃k,a.eval mx=.int k (c:Int):=by
  rcases Gi (x:=some mx) (sx:=some sm) (dflt:=es.length) h (by simp[Dq,hmx]) (by simpa using hm')with⟨hh,_⟩|⟨y,k,hy,e⟩
  ·cases hh
  ·cases hy;exact⟨k,e⟩
 obtain⟨k1,hc1⟩:=hc1;obtain⟨k2,hm1⟩:=hm1;have r:=YL (P:=P) (w:=w) (a:=a) (len:=es.length) (cap:=cap) hc1 hm1 (Gi h hlo hb) h1 (Nat.le_trans h2 e3);refine⟨.slice (if c=b then ad else ad.map (·.add (b*i.size))) (c-b) (c-b), ?_, ?_⟩
 ·simp[Instr.sliceAt,Instr.slice,run_underlying ht,e1,r,CX hi]
 ·show RelC _ _ _ _;unfold RelC;refine⟨_,_,_,rfl,by simp;omega,Nat.le_refl _,fun hh=> ?_,fun hh=> ?_,fun hh=> ?_,fun hne=> ?_⟩
  ·have:=e4 hh;subst this;split<;>rfl
  ·have:=e5 hh;split
   ·exact this
   ·intro hn;exact this (by simpa using hn)
  ·split at hh
   ·rename_i hcb;omega
   ·have:ad=none:=by simpa using hh
    have:=e6 this;omega
  ·have hes:es≠ []:=by
    intro hh;subst hh;simp at hne
   obtain⟨ad',size,rfl,hlt,hm,hE⟩:=e7 hes
   have hlen:b<c:=by
    rcases Nat.lt_or_ge b c with hlt|hge
    ·exact hlt
    ·exfalso;apply hne;rw[List.drop_eq_nil_iff];simp;omega
   have hsz:size=i.size:=by
    obtain⟨el,hel⟩:∃el,es[0]? =some el:=by
     cases es with
     |nil=>exact absurd rfl hes
     |cons el es=>exact⟨el,rfl⟩
    obtain⟨v,hv1,hv2,_⟩:=Bo.get hE hel
    have:Bq el=i.size:=by
     have:=List.all_eq_true.1 h3 el (List.mem_of_getElem? hel);simpa using this
    rw[←hv2,hv1.cells_size,this]
   subst hsz;rw[if_neg (by omega)];exact⟨ad'.add (b*i.size),i.size,rfl,by rw[Db];exact hlt,by rw[Db];exact hm,Ps hE⟩
theorem X0{kt:KT}{zc:CV}{ks vs:List CV}{ens:List MapEntry}(hk:RelL w M ks (ens.map (·.key)))(hv:RelL w M vs (ens.map (·.val)))(k:CV):
  (AJ kt k ks=none∧BG ens (AJ kt k ks)=none∧AX kt zc ks vs k=(zc,false))∨
  ∃i e c,AJ kt k ks=some i∧ens[i]? =some e∧BG ens (AJ kt k ks)=some (i,e.val)∧AX kt zc ks vs k=(c,true)∧RelC w M c e.val∧vs[i]? =some c:=by
 have l1:=hk.length;have l2:=hv.length;rw[List.length_map]at l1 l2
 cases hi:AJ kt k ks with
 |none=>exact .inl ⟨rfl,rfl,by simp[AX,hi]⟩
 |some i=>
  have hlt:=KP hi;have hE:ens[i]? =some (ens[i]'(by omega)):=Ai _;have hV:vs[i]? =some (vs[i]'(by omega)):=Ai _;obtain⟨v,h1,h2⟩:=RelL.get hv hV;rw[List.getElem?_map,hE]at h1;simp only[Option.map_some,Ac]at h1;subst h1;exact .inr ⟨i,_,_,rfl,hE,by simp[BG,hE],by simp[AX,hi,hV],h2,hV⟩
theorem Jt{t:TypeId}{i:TypeInfo}{v:Value}(hi:P.info? t=some i)(hz:i.zero=some v)(w:World):(zeroValue t).run P w=.ok v w:=by
 simp[zeroValue,typeInfo,hi,hz]
theorem NJ{t:TypeId}{kt:KT}{zc:CV}(h:Fk P t=some (kt,zc)):∃kty e i vz,P.underlying t=some (.map kty e)∧Ed P kty=some kt∧P.info? e=some i∧i.zero=some vz∧Cp vz=some zc:=by
 unfold Fk at h;split at h
 ·rename_i k e hu;simp only[Ab,Aa,Prod.mk.injEq]at h;obtain⟨a,h1,i,h2,z,h3,c,h4,rfl,rfl⟩:=h;exact⟨k,e,i,z,hu,h1,h2,h3,h4⟩
 ·cases h
theorem Aad(h:Ctx P G w M B z ob fr a)(hrd:∀id,rd id=.none∨rd id=ob id){t:TypeId}{kt:KT}{zc:CV}(hmt:Fk P t=some (kt,zc)){x k:Operand}{sx sk:SO}(hx:An x=some sx)(hkx:An k=some sk)(ok:Bool)
  {c:CV} (hv:D4 rd t kt zc ok (so G fr sx) (so G fr sk)=some c):
  ∃v,(Instr.lookup t (a.eval x) (a.eval k) ok).run P w=.ok v w∧RelC w M c v:=by
 have hr:=h.opd hx;have hr2:=h.opd hkx;generalize so G fr sx=q at hr hv;generalize so G fr sk=q2 at hr2 hv;obtain⟨kty,e,i,vz,ht,hk,hi,hz,hzc⟩:=NJ hmt;have zr:RelC w M zc vz:=ED w M vz zc hzc
 have fin:∀(ks vs:List CV) (ens:List MapEntry) (kc:CV),RelC w M kc (a.eval k)→AI kt kc=true→RelL w M ks (ens.map (·.key))→RelL w M vs (ens.map (·.val))→(∀c∈ks,AI kt c=true)→
   (a.eval x=.map none∧ens= []∨∃r clk,a.eval x=.map (some r)∧w.heap[r]? =some (.map ⟨ens⟩ clk))→
   (if ok then CV.tup [(AX kt zc ks vs kc).1,.bool (AX kt zc ks vs kc).2]else(AX kt zc ks vs kc).1)=c→
   ∃v,(Instr.lookup t (a.eval x) (a.eval k) ok).run P w=.ok v w∧RelC w M c v:=by
  intro ks vs ens kc hkc hcf h1 h2 h3 h4 h5;have rc:=fun em=>O2 (P:=P) hk em hkc hcf;have rf:=O3 (P:=P) hk hkc hcf h1 h3;have rz:=Jt (P:=P) hi hz w
  have base:∀r0,r0=BG ens (AJ kt kc ks)→∃v b,(match r0 with|some (_,v)=>(v,true)|none=>(vz,false))=(v,b)∧RelC w M (AX kt zc ks vs kc).1 v∧b=(AX kt zc ks vs kc).2:=by
   rintro r0 rfl
   rcases X0 (kt:=kt) (zc:=zc) h1 h2 kc with⟨_,e2,e3⟩|⟨i,en,c',_,_,e2,e3,e4,_⟩
   ·rw[e2,e3];exact⟨vz,false,rfl,zr,rfl⟩
   ·rw[e2,e3];exact⟨en.val,true,rfl,e4,rfl⟩
  obtain⟨v,b,e1,e2,e3⟩:=base _ rfl
  have run:(Instr.lookup t (a.eval x) (a.eval k) ok).run P w=.ok (if ok then .tuple #[v,.bool b]else v) w:=by
   rcases h4 with⟨ex,rfl⟩|⟨r,clk,ex,hh⟩
   ·rw[ex];simp only[Instr.lookup,Sem.run_bind,run_underlying ht,Result.andThen_ok,Sem.run_pure,rc,rf]
    cases hf:BG [] (AJ kt kc ks)with
    |none=>rw[hf]at e1;simp only[Prod.mk.injEq]at e1;simp[rz,e1]
    |some p=>rw[hf]at e1;simp only[Prod.mk.injEq]at e1;simp[e1]
   ·rw[ex];simp only[Instr.lookup,Sem.run_bind,run_underlying ht,Result.andThen_ok,Sem.run_pure,getObj,Sem.run,hh,rc,rf]
    cases hf:BG ens (AJ kt kc ks)with
    |none=>rw[hf]at e1;simp only[Prod.mk.injEq]at e1;simp[rz,e1]
    |some p=>rw[hf]at e1;simp only[Prod.mk.injEq]at e1;simp[e1]
  refine⟨_,run, ?_⟩;rw[←h5];cases ok
  ·exact e2
  ·show RelC _ _ (.tup _) _;unfold RelC;exact⟨_,rfl,RelL.cons e2 (RelL.cons (by rw[e3];exact DH) RelL.nil)⟩
 cases q<;>(try simp only[D4,reduceCtorEq]at hv;done)
 case c cv=>
  cases cv<;>(try simp only[D4,reduceCtorEq]at hv;done);rename_i nl ks vs;cases q2<;>(try simp only[D4,reduceCtorEq]at hv;done);rename_i kc;simp only[D4,Ad,Ac,Af]at hv;obtain⟨⟨hc1,hc2⟩,hv⟩:=hv;unfold Ar RelC at hr;obtain⟨r,e1,_,_,e4,e5⟩:=hr;have hall:∀c∈ks,AI kt c=true:=List.all_eq_true.1 hc2
  cases r with
  |none=>
   obtain⟨rfl,rfl⟩:=e4 rfl;exact fin [] [] [] kc hr2 hc1 RelL.nil RelL.nil (fun _ h=>by cases h) (.inl ⟨e1,rfl⟩) hv
  |some b=>
   obtain⟨_,ens,ens',clk,hh,hE,hp,hk0,hv0⟩:=e5 b rfl;obtain⟨ks',vs',hmp,hk1,hv1⟩:=SE hp hk0 hv0;have hall':∀c∈ks',AI kt c=true:=fun c hc=>hall c (hmp.ks.mem_iff.1 hc);have hv':=hv;rw[NF hmp (NS hall' hk1 hE.1) hc1]at hv';exact fin ks' vs' ens kc hr2 hc1 hk1 hv1 hall' (.inr ⟨b,clk,e1,hh⟩) hv'
 case omap id=>
  cases q2<;>(try simp only[D4,reduceCtorEq]at hv;done);rename_i kc;obtain⟨hlive,e1⟩:=hr;have ho:=h.ob id;rcases hrd id with e'|e'
  ·simp only[D4,e',reduceCtorEq]at hv
  ·simp only[D4,e']at hv;cases hob:ob id<;>rw[hob]at hv<;>(try simp only[reduceCtorEq]at hv;done);rename_i mt' kt' z' ks vs;rw[hob]at ho;obtain⟨hm2,ks',vs',r,ens,clk,hmp,e2,hh,hk1,hv1,hcf,hnd,_⟩:=ho;simp only[Ad,Ac]at hv;obtain⟨⟨rfl,hc1⟩,hv⟩:=hv;rw[hmt]at hm2;simp only[Ac,Prod.mk.injEq]at hm2;obtain⟨rfl,rfl⟩:=hm2;rw[NF hmp hnd hc1]at hv;exact fin ks' vs' ens kc hr2 hc1 hk1 hv1 hcf (.inr ⟨r,clk,e1.trans e2,hh⟩) hv
end
section
variable {G:Nat→List CV} {P:Program} {w:World} {M:MM} {B:Nat} {z:Cz} {ob rd:Nat→Ob} {fr:Nat→SV} {a:Act} {o:Oper}
theorem Nj:∀(vs:List Value) (cs:Array Value) (off k:Nat),off+k+vs.length≤cs.size→
  ((vs.zipIdx k).foldl (fun(cs:Array Value) (p:Value×Nat)=>cs.setIfInBounds (off+p.2) p.1) cs).toList=cs.toList.take (off+k)++vs++cs.toList.drop (off+k+vs.length)
 | [],cs,off,k,_=>by simp
 |v::vs,cs,off,k,h=>by
  simp only[List.zipIdx_cons,List.foldl_cons];rw[Nj vs _ off (k+1) (by simpa using by simp at h;omega)];simp only[Array.toList_setIfInBounds,List.length_cons]at h⊢;have hk:off+k<cs.toList.length:=by simp;omega
  have e1:(cs.toList.set (off+k) v).take (off+(k+1))=cs.toList.take (off+k)++ [v]:=by
   rw[show off+(k+1)=off+k+1 by omega,List.take_succ_eq_append_getElem (by simpa using hk)];simp only[List.getElem_set_self,List.take_set];rw[List.set_eq_of_length_le (by simp;omega)]
  have e2:(cs.toList.set (off+k) v).drop (off+(k+1)+vs.length)=cs.toList.drop (off+k+(vs.length+1)):=by
   rw[List.drop_set_of_lt (by omega)]
   congr 1
   omega
  rw[e1,e2];simp
theorem SY(place:Nat→Option (Nat×Nat)):∀(ps:List (Nat×Nat×CV)) (is:List Nat) (vs:List Value) (cs:List CV) (us:List Value) (r:List CV),
  is.length=ps.length→vs.length=ps.length→(∀(j:Nat) i p v,is[j]? =some i→ps[j]? =some p→vs[j]? =some v→place i=some (p.1,p.2.1)∧RelC w M p.2.2 v)→
  RelL w M cs us→Gy cs ps=some r→∃rs:List Value,Instr.fill place ⟨us⟩ (is.zip vs)=some ⟨rs⟩∧RelL w M r rs
 | [],is,vs,cs,us,r,h1,h2,_,hl,hr=>by
  simp only[Gy,Ac]at hr;subst hr;have:is= []:=List.eq_nil_of_length_eq_zero h1;subst this;exact⟨us,rfl,hl⟩
 |p::ps,[],vs,cs,us,r,h1,_,_,_,_=>by simp at h1
 |p::ps,i::is,[],cs,us,r,_,h2,_,_,_=>by simp at h2
 |(off,size,c)::ps,i::is,v::vs,cs,us,r,h1,h2,hp,hl,hr=>by
  obtain⟨hpl,hrel⟩:=hp 0 i (off,size,c) v rfl rfl rfl;simp only[Gy,Ad]at hr;obtain⟨⟨hs,hle⟩,hr⟩:=hr;have hsz:v.cells.size=size:=by rw[hrel.cells_size,hs]
  have hlen:=hl.length
  have hfold:(v.cells.zipIdx.foldl (fun(cs:Array Value) (p:Value×Nat)=>cs.setIfInBounds (off+p.2) p.1) (⟨us⟩:Array Value))=⟨us.take off++v.cells.toList++us.drop (off+size)⟩:=by
   apply Array.toList_inj.1;rw[←Array.foldl_toList,Array.toList_zipIdx];have:=Nj v.cells.toList ⟨us⟩ off 0 (by simp[hsz];omega);rw[this];simp[hsz]
  have hl':RelL w M (cs.take off++c.cells++cs.drop (off+size)) (us.take off++v.cells.toList++us.drop (off+size)):=
   ((hl.take off).append hrel.cells).append (hl.drop _)
  obtain⟨rs,h3,h4⟩:=SY place ps is vs _ _ r (by simpa using h1) (by simpa using h2) (fun j i p v hi hps hv=>hp (j+1) i p v (by simpa using hi) (by simpa using hps) (by simpa using hv)) hl' hr;refine⟨rs, ?_,h4⟩;simp only[List.zip_cons_cons,Instr.fill,hpl];rw[if_neg (by simp[hsz,hlen];omega)];rw[←h3]
  congr 1
theorem Su(h:Ctx P G w M B z ob fr a){pick:Nat→Option (Nat×Nat)}:∀{AK:List (Nat×Operand)} {sps:List (Nat×Nat×SO)} {ps:List (Nat×Nat×CV)},
  Aq (fun p:Nat×Operand=>(pick p.1).bind fun os=>(An p.2).map fun x=>(os.1,os.2,x)) AK=some sps→
  Aq (fun p:Nat×Nat×SO=>(closed (so G fr p.2.2)).map fun v=>(p.1,p.2.1,v)) sps=some ps→
  ∃(is:List Nat) (vs:List Value),(AK.map fun p=>(p.1,a.eval p.2))=is.zip vs∧is.length=ps.length∧vs.length=ps.length∧
   (∀(j:Nat) i p v,is[j]? =some i→ps[j]? =some p→vs[j]? =some v→pick i=some (p.1,p.2.1)∧RelC w M p.2.2 v)
 | [],sps,ps,h1,h2=>by
  simp only[Aq,Ac]at h1;subst h1;simp only[Aq,Ac]at h2;subst h2;exact⟨[],[],rfl,rfl,rfl,fun j i p v hi=>by simp at hi⟩
 |(i,x)::AK,sps,ps,h1,h2=>by
  simp only[Aq,Ab,Aa]at h1;obtain⟨q,⟨os,ho,sx,hsx,rfl⟩,qs,hqs,rfl⟩:=h1;simp only[Aq,Ab,Aa]at h2;obtain⟨p,⟨c,hc,rfl⟩,ps',hps',rfl⟩:=h2;obtain⟨is,vs,e1,e2,e3,e4⟩:=Su h hqs hps'
  have hcl:so G fr sx=.c c:=by
   cases hh:so G fr sx<;>rw[hh]at hc<;>simp[closed]at hc;rw[hc]
  refine⟨i::is,a.eval x::vs,by simp[e1],by simp[e2],by simp[e3],fun j i' p v hi hp hv=> ?_⟩
  cases j with
  |zero=>
   simp at hi hp hv;subst hi;subst hp;subst hv;exact⟨ho,h.c hsx hcl⟩
  |succ j=>exact e4 j i' p v (by simpa using hi) (by simpa using hp) (by simpa using hv)
theorem ZQ(h:Ctx P G w M B z ob fr a){t:TypeId}{i:TypeInfo}{vz:Value}{zc:CV}{AK:Array (Nat×Operand)}{sps:List (Nat×Nat×SO)}(hi:P.info? t=some i)(hz:i.zero=some vz)(hzc:Cp vz=some zc)
  (hp:Og P t AK.toList=some sps) {sv:SV} (hv:Am rd (so G fr) (.build zc.cells sps)=some sv):
  ∃v,(Instr.build t (AK.map fun(i,x)=>(i,a.eval x))).run P w=.ok v w∧Ar w M z ob sv v:=by
 simp only[Am,Ab,Aa]at hv;obtain⟨ps,hps,r,hr,rfl⟩:=hv;have zr:RelL w M zc.cells vz.cells.toList:=RelC.cells (ED w M vz zc hzc);have rz:=Jt (P:=P) hi hz w
 have pick:∀(pk:Nat→Option (Nat×Nat)),Aq (fun p:Nat×Operand=>(pk p.1).bind fun os=>(An p.2).map fun x=>(os.1,os.2,x)) AK.toList=some sps→
   ∃rs:List Value,Instr.fill pk vz.cells (AK.toList.map fun p=>(p.1,a.eval p.2))=some ⟨rs⟩∧RelL w M r rs:=by
  intro pk hpk;obtain⟨is,vs,e1,e2,e3,e4⟩:=Su h hpk hps;obtain⟨rs,h1,h2⟩:=SY pk ps is vs zc.cells vz.cells.toList r e2 e3 e4 zr hr;refine⟨rs, ?_,h2⟩;rw[e1];exact h1
 unfold Og at hp;split at hp
 ·rename_i fs hu;split at hp
  ·cases hp
  ·rename_i hall
   have hall':∀f∈fs.toList,(P.info? f.type).isSome=true:=by
    cases hb:(fs.toList.all fun f=>(P.info? f.type).isSome)with
    |true=>exact List.all_eq_true.1 hb
    |false=>rw[hb]at hall;exact absurd rfl hall
   have hp':Aq (fun p:Nat×Operand=>(((fs[p.1]?).bind fun f=>(P.info? f.type).map fun i=>(f.offset,i.size))).bind fun os=>(An p.2).map fun x=>(os.1,os.2,x)) AK.toList=some sps:=by
    rw[←hp]
    congr 1
    funext p
    cases fs[p.1]? with
    |none=>rfl
    |some f=>simp only[Option.bind_some];cases P.info? f.type<;>rfl
   obtain⟨rs,h1,h2⟩:=pick (fun i=>((fs[i]?).bind fun f=>(P.info? f.type).map fun i=>(f.offset,i.size))) hp'
   have hm:∀l:List Field,(∀f∈l,(P.info? f.type).isSome=true)→(l.mapM (fun(f:Field)=>Prod.mk f.offset<$>Go.sizeOf f.type)).run P w=.ok (l.map fun f=>(f.offset,P.cellsOf f.type)) w:=by
    intro l
    induction l with
    |nil=>intro _;rfl
    |cons f l ih=>
     intro hl;obtain⟨i',hi'⟩:=Option.isSome_iff_exists.1 (hl f (by simp));rw[List.mapM_cons];simp[CX hi',Program.cellsOf,hi',ih (fun f hf=>hl f (by simp[hf]))]
   have hpl:(fs.mapM (fun(f:Field)=>Prod.mk f.offset<$>Go.sizeOf f.type)).run P w=.ok (fs.map fun f=>(f.offset,P.cellsOf f.type)) w:=by
    rw[Array.mapM_eq_mapM_toList];simp[hm fs.toList hall'];apply Array.toList_inj.1;simp
   have hpk:(fun(i:Nat)=>((fs[i]?).bind fun(f:Field)=>(P.info? f.type).map fun i=>(f.offset,i.size)))=fun i=>(fs[i]?).map fun(f:Field)=>(f.offset,P.cellsOf f.type):=by
    funext i
    cases hf:fs[i]? with
    |none=>rfl
    |some f=>
     obtain⟨i',hi'⟩:=Option.isSome_iff_exists.1 (hall' f (by simpa using Array.mem_of_getElem? hf));simp[hi',Program.cellsOf]
   rw[hpk]at h1;refine⟨.agg ⟨rs⟩, ?_,by show RelC _ _ _ _;unfold RelC;exact⟨rs,rfl,h2⟩⟩;simp[Instr.build,rz,run_underlying hu,hpl,h1]
 ·rename_i n e hu
  cases hie:P.info? e with
  |none=>rw[hie]at hp;cases hp
  |some ie=>
   rw[hie]at hp;have hp':Aq (fun p:Nat×Operand=>((fun i=>some (i*ie.size,ie.size)) p.1).bind fun os=>(An p.2).map fun x=>(os.1,os.2,x)) AK.toList=some sps:=hp;obtain⟨rs,h1,h2⟩:=pick (fun i=>some (i*ie.size,ie.size)) hp';refine⟨.agg ⟨rs⟩, ?_,by show RelC _ _ _ _;unfold RelC;exact⟨rs,rfl,h2⟩⟩;simp[Instr.build,rz,run_underlying hu,CX hie,h1]
 ·cases hp
end
section
variable {G:Nat→List CV} {P:Program} {w:World} {M:MM} {B:Nat} {z:Cz} {ob rd:Nat→Ob} {fr:Nat→SV} {a:Act} {o:Oper}
theorem RK(mx:Bool):∀(l:List CV) (vs:List Value) (c r:CV) (v:Value),RelC w M c v→RelL w M l vs→l.foldlM (G7 mx) c=some r→
  ∃u,(vs.foldlM (if mx then Builtin.max2 else Builtin.min2) v).run P w=.ok u w∧RelC w M r u
 | [],vs,c,r,v,hc,hl,h=>by
  unfold RelL at hl;subst hl;simp only[List.foldlM_nil]at h;cases h;exact⟨v,rfl,hc⟩
 |d::l,vs,c,r,v,hc,hl,h=>by
  unfold RelL at hl;obtain⟨u,us,rfl,h1,h2⟩:=hl;rw[List.foldlM_cons]at h;simp only[Option.bind_eq_bind,Ab]at h;obtain⟨e,he,h⟩:=h;cases c<;>(try simp only[G7,reduceCtorEq]at he;done);cases d<;>(try simp only[G7,reduceCtorEq]at he;done);simp only[G7,Ad,Ac]at he;obtain⟨rfl,rfl⟩:=he;have e1:=BR hc;have e2:=BR h1;subst e1;subst e2;rename_i k n m
  have step:((if mx then Builtin.max2 else Builtin.min2) (.int k n) (.int k m)).run P w=.ok (.int k (if mx then max n m else min n m)) w:=by
   cases mx
   ·simp only[Ag,if_false,Builtin.min2,Sem.run_pure]
    congr 2
    omega
   ·simp only[if_true,Builtin.max2,Sem.run_pure]
    congr 2
    omega
  obtain⟨u,g1,g2⟩:=RK mx l us _ r _ (D8 (w:=w) (M:=M)) h2 h;refine⟨u, ?_,g2⟩;rw[List.foldlM_cons];simp only[Sem.run_bind,step,Result.andThen_ok];exact g1
theorem TV(h:Ctx P G w M B z ob fr a){mx:Bool}{args:Array Operand}{l:List SO}(hl:Aq An args.toList=some l){sv:SV}(hv:Am rd (so G fr) (.minmax mx l)=some sv)(at_:Array TypeId)(ty:TypeId):
  ∃v,((if mx then Builtin.max_ else Builtin.min_) at_ ty (args.map a.eval)).run P w=.ok v w∧Ar w M z ob sv v:=by
 simp only[Am,Ab]at hv;obtain⟨cs,hcs,hv⟩:=hv;have hr:=Lt h.fr h.glob hl hcs
 cases cs with
 |nil=>cases hv
 |cons c cs=>
  simp only[Aa]at hv;obtain⟨r,hr',rfl⟩:=hv;unfold RelL at hr;obtain⟨v,vs,e,h1,h2⟩:=hr;obtain⟨u,g1,g2⟩:=RK (P:=P) mx cs vs c r v h1 h2 hr';refine⟨u, ?_,g2⟩;have e':(args.map a.eval).toList=v::vs:=by rw[Array.toList_map];exact e
  cases mx
  ·simp only[Ag,if_false,Builtin.min_,e']at g1⊢;exact g1
  ·simp only[if_true,Builtin.max_,e']at g1⊢;exact g1
theorem XJ{d:TypeDesc}{y:Operand}{kd:Nat}(h:IY d y=some kd):
  (kd=1∧(∃e,d=.slice e)∧y=.const (.slice none 0 0))∨(kd=2∧(∃k e,d=.map k e)∧y=.const (.map none))∨(kd=3∧(∃ms,d=.interface ms)∧y=.const .nilIface):=by
 unfold IY at h;split at h<;>simp only[Ac,reduceCtorEq]at h<;>subst h
 ·exact .inl ⟨rfl,⟨_,rfl⟩,rfl⟩
 ·exact .inr (.inl ⟨rfl,⟨_,_,rfl⟩,rfl⟩)
 ·exact .inr (.inr ⟨rfl,⟨_,rfl⟩,rfl⟩)
theorem LR{op:BinOp}(hop:op=.eql∨op=.neq){t:TypeId}{x y:Operand}{va vb:Value}{b:Bool}(hg:(eqGuard op t x y va vb).run P w=.ok () w)(he:∀n,(Op.equalIn (n+1) t va vb).run P w=.ok b w)
  (hb1:binOp .eql t va vb=(do pure (.bool (←Op.equal t va vb)))) (hb2:binOp .neq t va vb=(do pure (.bool (!(←Op.equal t va vb))))):
  (do eqGuard op t x y va vb;binOp op t va vb:Sem Value).run P w=.ok (.bool (if Dg op then !b else b)) w:=by
 have he':=he 9999;rcases hop with rfl|rfl
 ·simp[hg,hb1,Op.equal,Op.maxDepth,he',Dg]
 ·simp[hg,hb2,Op.equal,Op.maxDepth,he',Dg]
theorem Aac(h:Ctx P G w M B z ob fr a){op:BinOp}{t:TypeId}{d:TypeDesc}(hu:P.underlying t=some d)(hop:op=.eql∨op=.neq){x y:Operand}{kd:Nat}(hy:IY d y=some kd){sx:SO}(hx:An x=some sx)
  {sv:SV} (hv:Am rd (so G fr) (.isnil kd (Dg op) sx)=some sv):
  ∃v,(do eqGuard op t x y (a.eval x) (a.eval y);binOp op t (a.eval x) (a.eval y):Sem Value).run P w=.ok v w∧Ar w M z ob sv v:=by
 have hr:=h.opd hx;simp only[Am]at hv;generalize so G fr sx=q at hr hv;rcases XJ hy with⟨rfl,⟨e,rfl⟩,rfl⟩|⟨rfl,⟨k,e,rfl⟩,rfl⟩|⟨rfl,⟨ms,rfl⟩,rfl⟩
 ·cases q<;>(try simp only[reduceCtorEq]at hv;done);rename_i cv;cases cv<;>(try simp only[reduceCtorEq]at hv;done);rename_i nl es;cases nl<;>(try simp only[reduceCtorEq]at hv;done);rename_i b;simp only[Ac]at hv;subst hv;unfold Ar RelC at hr;obtain⟨ad,n,c,e1,_,_,e4,e5,_⟩:=hr;rw[e1];refine⟨_,LR hop (b:=b) (Hw op t x _ ⟨(fun _ hh=>by cases hh),(fun hh=>by cases hh)⟩) (fun n=> ?_) (by rfl) (by rfl),DH (w:=w) (M:=M)⟩
  cases ad with
  |none=>
   cases b with
   |true=>simp[Op.equalIn,run_underlying hu,Act.eval]
   |false=>exact absurd rfl (e5 rfl)
  |some ad=>
   cases b with
   |true=>have:=e4 rfl;cases this
   |false=>simp[Op.equalIn,run_underlying hu,Act.eval]
 ·cases q<;>(try simp only[reduceCtorEq]at hv;done);rename_i cv;cases cv<;>(try simp only[reduceCtorEq]at hv;done);rename_i nl ks vs;cases nl<;>(try simp only[reduceCtorEq]at hv;done);rename_i b;simp only[Ac]at hv;subst hv;unfold Ar RelC at hr;obtain⟨r,e1,e4,e5,_⟩:=hr;rw[e1];refine⟨_,LR hop (b:=b) (Hw op t x _ ⟨(fun _ hh=>by cases hh),(fun hh=>by cases hh)⟩) (fun n=> ?_) (by rfl) (by rfl),DH (w:=w) (M:=M)⟩
  cases r with
  |none=>
   cases b with
   |true=>simp[Op.equalIn,run_underlying hu,Act.eval]
   |false=>exact absurd rfl (e5 rfl)
  |some r=>
   cases b with
   |true=>have:=e4 rfl;cases this
   |false=>simp[Op.equalIn,run_underlying hu,Act.eval]
 ·cases q<;>(try simp only[reduceCtorEq]at hv;done);rename_i cv;cases cv<;>(try simp only[reduceCtorEq]at hv;done);all_goals simp only[Ac]at hv
  ·subst hv;unfold Ar RelC at hr;rw[hr];have:=LR (P:=P) (w:=w) hop (t:=t) (x:=x) (y:=.const .nilIface) (va:=.nilIface) (vb:=.nilIface) (b:=true) (by rcases hop with rfl|rfl<;>simp[eqGuard]) (fun n=>by simp[Op.equalIn,run_underlying hu]) (by rfl) (by rfl);refine⟨_,this, ?_⟩;rcases hop with rfl|rfl<;>exact DH (w:=w) (M:=M)
  ·subst hv;unfold Ar RelC at hr;obtain⟨t',x',hr⟩:=hr;rw[hr];have:=LR (P:=P) (w:=w) hop (t:=t) (x:=x) (y:=.const .nilIface) (va:=.iface t' x') (vb:=.nilIface) (b:=false) (Hw op t x _ ⟨(fun _ hh=>by cases hh),(fun hh=>by cases hh)⟩) (fun n=>by simp[Op.equalIn,run_underlying hu]) (by rfl) (by rfl);refine⟨_,this, ?_⟩;rcases hop with rfl|rfl<;>exact DH (w:=w) (M:=M)
theorem ZW(h:Ctx P G w M B z ob fr a){x:Operand}{i:Nat}{sx:SO}(hx:An x=some sx){sv:SV}(hv:Am rd (so G fr) (.ext sx i)=some sv):
  ∃v,(Instr.extract (a.eval x) i).run P w=.ok v w∧Ar w M z ob sv v:=by
 have hr:=h.opd hx;simp only[Am]at hv;generalize so G fr sx=q at hr hv;cases q<;>(try simp only[reduceCtorEq]at hv;done)
 ·rename_i cv;cases cv<;>(try simp only[reduceCtorEq]at hv;done);simp only[Aa]at hv;obtain⟨c,hc,rfl⟩:=hv;unfold Ar RelC at hr;obtain⟨vs,e,hl⟩:=hr;obtain⟨v,h1,h2⟩:=hl.get hc;exact⟨v,by rw[e];simp[Instr.extract,h1],h2⟩
 ·rename_i id k c;obtain⟨hlive,b,u,e1,e2,e3⟩:=hr;rw[e2];change(if i=0 then some (SV.c c)else if i=1 then some (SV.stamp id k)else none)=some sv at hv;split at hv
  ·rename_i h0;subst h0;simp only[Ac]at hv;subst hv;exact⟨u,by simp[Instr.extract],e3⟩
  ·split at hv
   ·rename_i _ h1;subst h1;simp only[Ac]at hv;subst hv;exact⟨.int .i64 b,by simp[Instr.extract],hlive,b,e1,rfl⟩
   ·cases hv
theorem Aaf(h:Ctx P G w M B z ob fr a){t:TypeId}(ht:P.underlying t=some .string){x ix:Operand}{sx si:SO}(hx:An x=some sx)(hix:An ix=some si){sv:SV}(hv:Am rd (so G fr) (.sidx sx si)=some sv):
  ∃v,(Instr.index t (a.eval x) (a.eval ix)).run P w=.ok v w∧Ar w M z ob sv v:=by
 have hr:=h.opd hx;have hr2:=h.opd hix;simp only[Am]at hv;generalize so G fr sx=q at hr hv;generalize so G fr si=q2 at hr2 hv;split at hv
 ·rename_i s k n;simp only[Ab,Aa]at hv;obtain⟨j,hj,b,hb,rfl⟩:=hv;obtain⟨h0,h1,rfl⟩:=Hx hj;have e1:=CH (w:=w) (M:=M) hr;have e2:=BR (w:=w) (M:=M) hr2
  have e3:(⟨⟨s⟩⟩:ByteArray)[n.toNat]? =some b:=by
   have hlt:n.toNat<(⟨⟨s⟩⟩:ByteArray).size:=by show n.toNat<s.length;omega
   rw[ByteArray.getElem?_lt' _ _ hlt];have:s[n.toNat]? =some (s[n.toNat]'(by omega)):=Ai _;rw[this]at hb;rw[←hb];rfl
  exact⟨_,by rw[e1,e2];simp[Instr.index,asIntOf,run_underlying ht,h0,e3],D8 (w:=w) (M:=M)⟩
 ·cases hv
theorem ZN(h:Ctx P G w M B z ob fr a){t e:TypeId}{n:Nat}{i:TypeInfo}{s:Option Nat}(ht:P.underlying t=some (.array n e))(hi:P.info? e=some i)(hs:Dj P e=some s)
  {x ix:Operand} {sx si:SO} (hx:An x=some sx) (hix:An ix=some si) {sv:SV} (hv:Am rd (so G fr) (.aidx n i.size s sx si)=some sv):
  ∃v,(Instr.index t (a.eval x) (a.eval ix)).run P w=.ok v w∧Ar w M z ob sv v:=by
 have hr:=h.opd hx;have hr2:=h.opd hix;simp only[Am]at hv;generalize so G fr sx=q at hr hv;generalize so G fr si=q2 at hr2 hv;split at hv
 ·rename_i cs k m;simp only[Ab,Aa]at hv;obtain⟨j,hj,c,hc,rfl⟩:=hv;obtain⟨h0,h1,rfl⟩:=Hx hj;unfold Ar RelC at hr;obtain⟨vs,e1,hl⟩:=hr;have e2:=BR (w:=w) (M:=M) hr2;obtain⟨v,g1,g2⟩:=Td (P:=P) hs hl hc;exact⟨v,by rw[e1,e2];simp[Instr.index,asIntOf,run_underlying ht,h0,h1,CX hi,g1],g2⟩
 ·cases hv
end
end WB
