/-
  TOP: band.Scaled, a range over a function, by hand.
-/
import Derived.RangeFuncNested
import Derived.RangeFuncBound
import Derived.RangeFuncCalls
import Derived.RangeFuncLeaves
import Derived.Shelf.Abstract
import Derived.Shelf.RegionOpen
import Derived.OwnWalkIn
import Derived.TacticsInMore
import Derived.LoopNIn
import Derived.LoopIn
import Derived.Test.YtefbaepigpomaaaGreatDoorK9
import Derived.Test.YtefbaepigpomaaaGreatDoorProg
set_option linter.unusedVariables false
set_option linter.unusedSimpArgs false
namespace WB
open Go Go.RowKit Go.Proofs Go.Sort
structure StillR (ops:Array Oper) (a0:Act) (vs:Nat->Value) (L:Array Bool) (A:Act):Prop where
 df:A.defers=a0.defers
 sz:A.tmps.size=a0.tmps.size
 dn:∀(i:Nat) (o:Oper) (d:Tmp),ops[i]? =some o->o.dst=some d->L.getD i false=true->A.tmps[d]? =some (vs i)
 ot:∀t,(∀(i:Nat) (o:Oper),ops[i]? =some o->o.dst≠some t)->A.tmps[t]? =a0.tmps[t]?
def ShutR(a:Array Oper)(L:Array Bool):Prop:=∀(j:Nat) (o:Oper),a[j]? =some o->L.getD j false=true->∀e∈o.after,Region.binds .any e=true->L.getD e.on false=true
def putsV(a:Array Oper)(vs:Nat->Value)(a0:Act):Nat->Act
 |0=>a0
 |k+1=>(putsV a vs a0 k).put ((a[k]?).bind (·.dst)) (vs k)
def calmB(a:Array Oper)(N:Nat):Bool:=
 a.toList.zipIdx.all fun p=>p.1.guard.isNone&&(match p.1.dst with|none=>true|some d=>Nat.blt d N&&a.toList.zipIdx.all fun q=>Nat.beq p.2 q.2||match q.1.dst with|none=>true|some d'=> !Nat.beq d d')
theorem calmB_get{a:Array Oper}{N:Nat}(h:calmB a N=true){i:Nat}{o:Oper}(c:a[i]? =some o):
  o.guard=none/\∀d,o.dst=some d->d<N/\∀j o',a[j]? =some o'->o'.dst=some d->j=i:=by
 unfold calmB at h;rw[List.all_eq_true]at h
 have k:∀{i:Nat} {o:Oper},a[i]? =some o->(o,i)∈a.toList.zipIdx:=by
  intro i o c;rw[List.mem_zipIdx_iff_getElem?];simpa using c
 have g:=h _ (k c);rw[Bool.and_eq_true]at g;refine⟨by simpa using g.1,fun d m=> ?_⟩;have b:=g.2;rw[m]at b;simp only[Bool.and_eq_true,List.all_eq_true,Bool.or_eq_true]at b;refine⟨Nat.le_of_ble_eq_true b.1,fun j o' l f=> ?_⟩;rcases b.2 _ (k l)with e|e
 ·exact(Nat.eq_of_beq_eq_true e).symm
 ·rw[f]at e;simp at e
theorem put_df(a:Act)(d:Option Tmp)(v:Value):(a.put d v).defers=a.defers:=by cases d<;>rfl
theorem put_sz(a:Act)(d:Option Tmp)(v:Value):(a.put d v).tmps.size=a.tmps.size:=by cases d<;>simp[Act.put]
theorem put_at(a:Act)(d:Tmp)(v:Value)(h:d<a.tmps.size):(a.put (some d) v).tmps[d]? =some v:=by simp[Act.put,h]
theorem put_ne(a:Act)(d:Option Tmp)(v:Value){t:Nat}(h:d≠some t):(a.put d v).tmps[t]? =a.tmps[t]? :=by
 cases d with
 |none=>rfl
 |some d=>
  have:d≠t:=fun e=>h (by rw[e]);simp[Act.put,Array.getElem?_setIfInBounds,this]
theorem StillR.put{a:Array Oper}{a0:Act}{vs:Nat->Value}{L:Array Bool}{A:Act}(l:calmB a a0.tmps.size=true)(h:StillR a a0 vs L A){i:Nat}{o:Oper}(b:a[i]? =some o)(hi:L.getD i true=false):
  StillR a a0 vs (L.setIfInBounds i true) (A.put o.dst (vs i)):=by
 refine⟨by rw[put_df,h.df],by rw[put_sz,h.sz],fun j p d c f g=> ?_,fun t k=>by rw[put_ne _ _ _ (k i o b),h.ot t k]⟩;rw[getD_set L i j false hi]at g;by_cases e:j=i
 ·subst e;rw[b]at c;cases c;rw[f];exact put_at _ _ _ (by rw[h.sz];exact((calmB_get l b).2 d f).1)
 ·rw[if_neg e]at g;rw[put_ne _ _ _ (fun m=>e (((calmB_get l b).2 d m).2 j p c f))];exact h.dn j p d c f g
theorem StillR.puts{a:Array Oper}{a0:Act}{vs:Nat->Value}(g:calmB a a0.tmps.size=true):∀k,k<=a.size->StillR a a0 vs (Array.replicate k true++Array.replicate (a.size-k) false) (putsV a vs a0 k)
 |0,_=>⟨rfl,rfl,fun i o d hi m c=>by
   exfalso;simp[Array.getD_eq_getD_getElem?,Array.getElem?_replicate]at c
   split at c<;>simp at c,fun t _=>rfl⟩
 |k+1,hk=>by
  have h:=StillR.puts (vs:=vs) g k (by omega);have b:k<a.size:=by omega
  have f:a[k]? =some a[k]:=Array.getElem?_eq_getElem b
  have e:(Array.replicate k true++Array.replicate (a.size-k) false).setIfInBounds k true=Array.replicate (k+1) true++Array.replicate (a.size-(k+1)) false:=by
   apply Array.ext_getElem?;intro j;rw[Array.getElem?_setIfInBounds,Array.getElem?_append,Array.getElem?_append];simp only[Array.size_append,Array.size_replicate,Array.getElem?_replicate]
   (repeat' split)<;>first|rfl|(exfalso;omega)
  have l:=h.put g f (by
   rw[Array.getD_eq_getD_getElem?,Array.getElem?_append,if_neg (by simp),Array.getElem?_replicate,if_pos (by simp;omega)]
   rfl)
  rw[e]at l;unfold putsV;rw[f];exact l
theorem StillR.uniq{a:Array Oper}{a0:Act}{vs:Nat->Value}{L j:Array Bool}{A B:Act}(h:StillR a a0 vs L A)(k:StillR a a0 vs j B)(l:∀i,i<a.size->L.getD i false=true)(f:∀i,i<a.size->j.getD i false=true):A=B:=by
 obtain⟨r,s⟩:=A;obtain⟨p,q⟩:=B;have n:s=q:=h.df.trans k.df.symm
 have m:r=p:=by
  apply Array.ext_getElem?;intro t;by_cases g:∃(i:Nat) (o:Oper),a[i]? =some o/\o.dst=some t
  ·obtain⟨i,o,c,e⟩:=g;have d:=(Array.getElem?_eq_some_iff.1 c).1;exact(h.dn i o t c e (l i d)).trans (k.dn i o t c e (f i d)).symm
  ·have b:∀(i:Nat) (o:Oper),a[i]? =some o->o.dst≠some t:=fun i o c e=>g ⟨i,o,c,e⟩;exact(h.ot t b).trans (k.ot t b).symm
 rw[n,m]
theorem calm_run{F:Fence}{n:Nat}{P:Program}{a:Array Oper}{Q:Exit->Act->World->Prop}{a0:Act}{vs:Nat->Value}{wd:Array Bool->World}(v:calmB a a0.tmps.size=true)
  (k:∀i o,a[i]? =some o->∀L A,L.size=a.size->StillR a a0 vs L A->L.getD i true=false->(∀e∈o.after,Region.binds .any e=true->L.getD e.on false=true)->ShutR a L->
   (∀f,o.about P (wd L) A.eval=some f->F.fn f)/\((o.semAt F.round A.eval).run P (wd L)=.ok (.value (vs i)) (wd (L.setIfInBounds i true))\/(vs i=undef/\(o.semAt F.round A.eval).run P (wd L)=.ok .skip (wd (L.setIfInBounds i true)))))
  (h:Q .normal (putsV a vs a0 a.size) (wd (Array.replicate a.size true))):
  ∀{L:Array Bool} {s:List Nat},Good a L s->L.size=a.size->ShutR a L->∀A,StillR a a0 vs L A->wpOpsIn F n P a Q s A (wd L):=by
 intro L s w
 induction w with
 | @nil L hl=>
  intro u _ A t
  have d:∀j,j<a.size->L.getD j false=true:=by
   intro j c;have b:j∉left a.size L:=by rw[hl];simp
   unfold left at b;rw[List.mem_filter]at b;have q:¬((!L.getD j true)=true):=fun D=>b ⟨List.mem_range.2 c,D⟩;rw[Array.getD_eq_getD_getElem?]at q⊢;rw[Array.getElem?_eq_getElem (by omega)]at q⊢;simpa using q
  have G:L=Array.replicate a.size true:=by
   apply Array.ext_getElem?;intro j;rw[Array.getElem?_replicate];by_cases c:j<a.size
   ·have:=d j c;rw[Array.getD_eq_getD_getElem?,Array.getElem?_eq_getElem (by omega)]at this;rw[if_pos c,Array.getElem?_eq_getElem (by omega)];simpa using this
   ·rw[if_neg c,Array.getElem?_eq_none (by omega)]
  have C:=StillR.puts (vs:=vs) v a.size (Nat.le_refl _)
  have H:=t.uniq C d (fun i hi=>by
   rw[Array.getD_eq_getD_getElem?,Array.getElem?_append]
   simp[hi])
  subst G H;exact h
 | @cons L i s hi hL hd w ih=>
  intro u p A t;have m:a[i]? =some a[i]:=Array.getElem?_eq_getElem hi;obtain⟨E,b⟩:=k i _ m L A u t hL (hd _ m) p
  have g:=ih (by simp[u]) (fun j o c l e x y=>by
   rw[getD_set L i j false hL]at l;rw[getD_set L i e.on false hL];by_cases z:j=i
   ·subst z;by_cases r:e.on=j
    ·rw[if_pos r]
    ·rw[if_neg r];exact hd o c e x y
   ·rw[if_neg z]at l;by_cases r:e.on=i
    ·rw[if_pos r]
    ·rw[if_neg r];exact p j o c l e x y) _ (t.put v m hL)
  unfold wpOpsIn;rw[m];have B:Region.wanted a[i] (yielded a A.tmps)=true:=by unfold Region.wanted;rw[(calmB_get v m).1]
  simp only[B,if_true];refine⟨E, ?_⟩;rcases b with b|⟨q,b⟩
  ·rw[b];exact g
  ·rw[b];rw[q]at g;exact g
theorem wpIn_calm{F:Fence}{n:Nat}{P:Program}{a:Array Oper}{id:Nat}{Q:Exit->Act->World->Prop}{a0:Act}{w:World}(vs:Nat->Value)(wd:Array Bool->World)(l:P.follows .mixedOrders=true)(v:calmB a a0.tmps.size=true)
  (b:(a.toList.zipIdx.all fun p=>p.1.after.all fun e=> !Region.binds .any e||Nat.blt e.on p.2)=true)
  (x:wd (Array.replicate a.size false)=w.drew)
  (c:∀i o,a[i]? =some o->∀L A,L.size=a.size->StillR a a0 vs L A->L.getD i true=false->(∀e∈o.after,Region.binds .any e=true->L.getD e.on false=true)->ShutR a L->
   (∀f,o.about P (wd L) A.eval=some f->F.fn f)/\((o.semAt F.round A.eval).run P (wd L)=.ok (.value (vs i)) (wd (L.setIfInBounds i true))\/(vs i=undef/\(o.semAt F.round A.eval).run P (wd L)=.ok .skip (wd (L.setIfInBounds i true)))))
  (h:Q .normal (putsV a vs a0 a.size) (wd (Array.replicate a.size true))):(Code.region id a true).wpIn F n P Q a0 w:=by
 refine wpIn_region_draw fun t=> ?_
 have q:∀i o,a[i]? =some o->∀e∈o.after,Region.binds .any e=true->e.on<i:=by
  intro i o r e s u;rw[List.all_eq_true]at b
  have k:(o,i)∈a.toList.zipIdx:=by
   rw[List.mem_zipIdx_iff_getElem?];simpa using r
  have:=b _ k;rw[Array.all_eq_true']at this;have:=this e s;rw[u]at this;simpa using this
 have m:Good a (Array.replicate a.size false) (Region.schedule (P.follows .mixedOrders) a t):=by
  simp only[Region.schedule,l,Bool.true_or,if_true,Region.linearise];exact lin_good q a.size t _ (by simp) (by rw[left_all];simp)
 have:=calm_run (F:=F) (n:=n) (P:=P) (Q:=Q) (a0:=a0) (vs:=vs) (wd:=wd) v c h m (by simp) (fun j o y g=>by
   exfalso;simp only[Array.getD_eq_getD_getElem?,Array.getElem?_replicate]at g
   split at g<;>simp at g) a0 ⟨rfl,rfl,fun i o d hi z g=>by
   exfalso;simp only[Array.getD_eq_getD_getElem?,Array.getElem?_replicate]at g
   split at g<;>simp at g,fun t _=>rfl⟩
 rw[x]at this;exact this
theorem StillR.eval_ot{a:Array Oper}{a0:Act}{vs:Nat->Value}{L:Array Bool}{A:Act}(h:StillR a a0 vs L A){t:Tmp}(b:(a.toList.all fun o=>match o.dst with|none=>true|some d=> !Nat.beq d t)=true):A.eval (.tmp t)=a0.eval (.tmp t):=by
 show A.tmps.getD t undef=a0.tmps.getD t undef;rw[Array.getD_eq_getD_getElem?,Array.getD_eq_getD_getElem?,h.ot t fun i o c e=> ?_];rw[List.all_eq_true]at b;have:=b o (by rw[List.mem_iff_getElem?];exact⟨i,by simpa using c⟩);rw[e]at this;simp at this
theorem StillR.gd{a:Array Oper}{a0:Act}{vs:Nat->Value}{L:Array Bool}{A:Act}(h:StillR a a0 vs L A){o:Oper}{d:Tmp}{v:Value}(i:Nat)(c:a[i]? =some o)(e:o.dst=some d)(b:vs i=v)(f:L.getD i false=true):A.tmps[d]?.getD undef=v:=by
 rw[h.dn i o d c e f,b];rfl
theorem StillR.go{a:Array Oper}{a0:Act}{vs:Nat->Value}{L:Array Bool}{A:Act}(h:StillR a a0 vs L A){t:Tmp}{v:Value}(b:(a.toList.all fun o=>match o.dst with|none=>true|some d=> !Nat.beq d t)=true)(c:a0.tmps[t]? =some v):A.tmps[t]?.getD undef=v:=by
 have:=h.eval_ot b;unfold Act.eval at this;simp only[Array.getD_eq_getD_getElem?]at this;rw[this,c];rfl
end WB
namespace Go.Proofs
open Go.RowKit Go.Shelf
attribute [local go_sem] Oper.semAt_some
def KeepsC(S:Nat->Prop)(A B:World):Prop:=∀(p:Addr) (v:Value),S p.block->A.cell? p=some v->B.cell? p=some v
theorem cellA{W:World}{p:Addr}{v:Value}(h:W.cell? p=some v)(o:Obj):(W.alloc o).cell? p=some v:=by
 have a:p.block<W.heap.size:=by
  unfold World.cell? at h;split at h
  ·rename_i b;exact(Array.getElem?_eq_some_iff.1 b).1
  ·cases h
 unfold World.cell? at h⊢;have e:(W.alloc o).heap=W.heap.push o:=rfl;rw[e,Array.getElem?_push_lt a];rw[Array.getElem?_eq_getElem a]at h;exact h
def pieces{p:Int×Int->Prop}(x fi r0 r1:Int)(b:0<min x fi->p (r0,min x fi))(a:fi<x->p (r1,x-fi)):List {y//p y}:=(if h:0<min x fi then [⟨(r0,min x fi),b h⟩]else [])++(if h:fi<x then [⟨(r1,x-fi),a h⟩]else [])
set_option maxRecDepth 100000 in
set_option maxHeartbeats 8000000 in
theorem Tryz.held336(F:Fence)(n:Nat)(h:F.fn 336)(m:F.round=none)(hn:1<=n)(l Bt Bi Bx b off cap:Nat)(x i f fi r0 r1:Int){p:Int×Int->Prop}(B:0<min x fi->p (r0,min x fi))(z:fi<x->p (r1,x-fi))(J Jx:List {y//p y}->World->Prop)
  (hfi:f*i=fi) (hf:0<=fi/\fi<=562949953421312) (hx:0<=x/\x<=562949953421312)
  (hY:∀pre y W,J pre W->pre.length<2->YieldAt F (n-1) Tryz.prog l #[.int .i64 y.1.1,.int .i64 y.1.2] W fun e Q=>
   (e=.returned (.bool true)/\J (pre++ [y]) Q/\KeepsC (fun g=>g=Bt\/g=Bi\/g=Bx\/g=b) W Q)\/(e=.returned (.bool false)/\Jx (pre++ [y]) Q))
  (W:World) (hT:W.cell? ⟨Bt,0,none⟩=some (.slice (some ⟨b,off,none⟩) 2 cap)) (hI:W.cell? ⟨Bi,0,none⟩=some (.int .i64 i)) (hX:W.cell? ⟨Bx,0,none⟩=some (.int .i64 x))
  (h00:W.cell? ⟨b,off,none⟩=some (.int .i64 0)) (h01:W.cell? ⟨b,off+1,none⟩=some (.int .i64 r0)) (h10:W.cell? ⟨b,off+2,none⟩=some (.int .i64 f)) (h11:W.cell? ⟨b,off+3,none⟩=some (.int .i64 r1))
  (O:AbidesFrom W.heap.size J) (hJx:AbidesFrom W.heap.size Jx) (h0:J [] W):
  CallsIn F n Tryz.prog 336 #[.func (.yield l) #[] #[],.pointer (some ⟨Bt,0,none⟩),.pointer (some ⟨Bi,0,none⟩),.pointer (some ⟨Bx,0,none⟩)] W fun e Q=>(∃v,e=.returned v)/\(J (pieces x fi r0 r1 B z) Q\/(∃pre,pre<+:pieces x fi r0 r1 B z/\Jx pre Q)):=by
 have hTa:=fun o=>cellA hT o;have hIa:=fun o=>cellA hI o;have hXa:=fun o=>cellA hX o;have h10a:=fun o=>cellA h10 o;have h11a:=fun o=>cellA h11 o;refine callsIn_of_wp Tryz.func336 rfl h ?_ m;simp only[Tryz.ntmps336,List.size_toArray,List.length_cons,List.length_nil,Nat.reduceAdd,Nat.reduceSub,Array.replicate_succ,Array.replicate_zero,List.push_toArray,List.append_toArray,List.nil_append,List.cons_append];have hw:IntKind.i64.wrap (f*i)=fi:=by rw[hfi];exact IntWalk.i64_in _ (by omega)
 gi_wp2
 refine wpIn_loop_rounds 3 ?_;rw[roundsIn_succ]
 gi_wp2
 refine WB.wpIn_calm (fun k=> [.int .i64 x,.slice (some ⟨b,off,none⟩) 2 cap,.int .i64 0,.int .i64 1,.pointer (some ⟨b,off+2,none⟩),.pointer (some ⟨b,off+2,none⟩),.int .i64 f,.int .i64 i,.int .i64 fi,.int .i64 (min x fi),.int .i64 (min x fi)].getD k undef) (fun _=>_) (by kernel_rfl) (by kernel_rfl) (by kernel_rfl) rfl ?_ ?_
 ·intro k o j L A hs d hL w _;have hk:k<11:=(Array.getElem?_eq_some_iff.1 j).1;have hk2:k=0\/k=1\/k=2\/k=3\/k=4\/k=5\/k=6\/k=7\/k=8\/k=9\/k=10:=by omega
  rcases hk2 with rfl|rfl|rfl|rfl|rfl|rfl|rfl|rfl|rfl|rfl|rfl;cases j;have a:=d.go (t:=3) (by kernel_rfl) rfl;rotate_left;cases j;have a:=d.go (t:=1) (by kernel_rfl) rfl;rotate_left;cases j;have a:=d.go (t:=5) (by kernel_rfl) rfl;rotate_left;cases j;have a:=d.gd 2 rfl rfl rfl (w ⟨2,.data⟩ (by simp) rfl);rotate_left
  ·cases j;have a:=d.gd 1 rfl rfl rfl (w ⟨1,.data⟩ (by simp) rfl);have C:=d.gd 3 rfl rfl rfl (w ⟨3,.data⟩ (by simp) rfl)
   (refine⟨fun f h=>(by first|cases h|exact absurd h (by go_simp;simp)),Or.inl ?_⟩;unfold Oper.semAt;rw[m];go_simp;first|done|(simp only[a,C];go_simp)|exact IntWalk.i64_in _ (by omega)|(split<;>omega)|(simp only[a,C];go_simp;first|exact IntWalk.i64_in _ (by omega)|(split<;>omega))|(simp only[a];go_simp;exact IntWalk.i64_in _ (by omega)))
  cases j;have a:=d.gd 4 rfl rfl rfl (w ⟨4,.data⟩ (by simp) rfl);rotate_left;cases j;have a:=d.gd 5 rfl rfl rfl (w ⟨5,.data⟩ (by simp) rfl);rotate_left;cases j;have a:=d.go (t:=2) (by kernel_rfl) rfl;rotate_left
  ·cases j;have a:=d.gd 6 rfl rfl rfl (w ⟨6,.data⟩ (by simp) rfl);have C:=d.gd 7 rfl rfl rfl (w ⟨7,.data⟩ (by simp) rfl)
   (refine⟨fun f h=>(by first|cases h|exact absurd h (by go_simp;simp)),Or.inl ?_⟩;unfold Oper.semAt;rw[m];go_simp;first|done|(simp only[a,C];go_simp)|exact IntWalk.i64_in _ (by omega)|(split<;>omega)|(simp only[a,C];go_simp;first|exact IntWalk.i64_in _ (by omega)|(split<;>omega))|(simp only[a];go_simp;exact IntWalk.i64_in _ (by omega)))
  ·cases j;have a:=d.gd 0 rfl rfl rfl (w ⟨0,.data⟩ (by simp) rfl);have C:=d.gd 8 rfl rfl rfl (w ⟨8,.data⟩ (by simp) rfl)
   (refine⟨fun f h=>(by first|cases h|exact absurd h (by go_simp;simp)),Or.inl ?_⟩;unfold Oper.semAt;rw[m];go_simp;first|done|(simp only[a,C];go_simp)|exact IntWalk.i64_in _ (by omega)|(split<;>omega)|(simp only[a,C];go_simp;first|exact IntWalk.i64_in _ (by omega)|(split<;>omega))|(simp only[a];go_simp;exact IntWalk.i64_in _ (by omega)))
  cases j;have a:=d.gd 9 rfl rfl rfl (w ⟨9,.data⟩ (by simp) rfl);rotate_left;all_goals(refine⟨fun f h=>(by first|cases h|exact absurd h (by go_simp;simp)),Or.inl ?_⟩;unfold Oper.semAt;rw[m];go_simp;first|done|(simp only[a];go_simp)|exact IntWalk.i64_in _ (by omega)|(split<;>omega)|((first|simp only[a,C]|simp only[a]);go_simp;first|exact IntWalk.i64_in _ (by omega)|(split<;>omega))|(simp only[a];go_simp;exact IntWalk.i64_in _ (by omega)))
 simp only[WB.putsV,List.size_toArray,List.length_cons,List.length_nil,Nat.reduceAdd];have hA1:J [] (W.alloc (Obj.cells #[.int .i64 0,.int .i64 r0] 164)).drew:=O _ _ _ none (O _ _ _ none h0 (World.grownBy_alloc W _ none) (by intro r e;cases e)) ⟨rfl,rfl,rfl,Nat.le_refl _,fun _ _ _=>rfl⟩ (by intro r e;cases e);have U:=hTa (Obj.cells #[.int .i64 0,.int .i64 r0] 164);have Y:=hIa (Obj.cells #[.int .i64 0,.int .i64 r0] 164);have S:=hXa (Obj.cells #[.int .i64 0,.int .i64 r0] 164);have Z:=h10a (Obj.cells #[.int .i64 0,.int .i64 r0] 164);have V:=h11a (Obj.cells #[.int .i64 0,.int .i64 r0] 164);by_cases P:0<min x fi
 ·obtain⟨fn,tmps,assign,body,hy,hR⟩:=hY [] ⟨(r0,min x fi),B P⟩ _ hA1 (by simp);dsimp only at hy
  gi_wp2
  refine hR.mono ?_
  rintro e u (⟨rfl,q,hk3⟩|⟨rfl,hJx3⟩)
  ·have H:=hk3 ⟨Bt,0,none⟩ _ (Or.inl rfl) U;have K:=hk3 ⟨Bi,0,none⟩ _ (Or.inr (Or.inl rfl)) Y;have G:=hk3 ⟨Bx,0,none⟩ _ (Or.inr (Or.inr (Or.inl rfl))) S;have hF3:=hk3 ⟨b,off+2,none⟩ _ (Or.inr (Or.inr (Or.inr rfl))) Z;have hR3:=hk3 ⟨b,off+3,none⟩ _ (Or.inr (Or.inr (Or.inr rfl))) V;have T:=fun o=>cellA H o;have X:=fun o=>cellA K o;have R:=fun o=>cellA G o
   gi_wp2
   rw[roundsIn_succ];by_cases M:fi<x
   ·obtain⟨fn2,D,s,N,E,I⟩:=hY [⟨(r0,min x fi),B P⟩] ⟨(r1,x-fi),z M⟩ _ (O _ _ _ none q (World.grownBy_alloc u (Obj.cells #[.int .i64 f,.int .i64 r1] 164) none) (by intro r e;cases e)) (by simp);dsimp only at E
    gi_wp2
    refine I.mono ?_
    rintro e W5 (⟨rfl,hJ5,hk5⟩|⟨rfl,hJx5⟩)
    ·gi_wp2
     rw[roundsIn_succ]
     gi_wp2
     go_end0
     refine⟨⟨_,rfl⟩,.inl ?_⟩;unfold pieces;rw[dif_pos P,dif_pos M];exact hJ5
    ·gi_wp2
     refine bodyPost_ret (results_none rfl _ _ _) rfl ⟨⟨_,rfl⟩,.inr ⟨_, ?_,hJx5⟩⟩;unfold pieces;rw[dif_pos P,dif_pos M];exact List.prefix_refl _
   ·gi_wp2
    refine⟨fun _ h=>(by cases h), ?_⟩
    gi_wp2
    rw[roundsIn_succ]
    gi_wp2
    go_end0
    refine⟨⟨_,rfl⟩,.inl ?_⟩;unfold pieces;rw[dif_pos P,dif_neg (by omega)];exact O _ _ _ none q (World.grownBy_alloc _ _ none) (by intro r e;cases e)
  ·gi_wp2
   refine bodyPost_ret (results_none rfl _ _ _) rfl ⟨⟨_,rfl⟩,.inr ⟨_, ?_,hJx3⟩⟩;unfold pieces;rw[dif_pos P];exact List.prefix_append _ _
 ·gi_wp2
  refine⟨fun _ h=>(by cases h), ?_⟩;obtain⟨u,c⟩:∃u,u=(W.alloc (Obj.cells #[.int .i64 0,.int .i64 r0] 164)).drew:=⟨_,rfl⟩;have q:J [] u:=by rw[c];exact hA1
  have H:u.cell? ⟨Bt,0,none⟩=some (.slice (some ⟨b,off,none⟩) 2 cap):=by rw[c];exact U
  have K:u.cell? ⟨Bi,0,none⟩=some (.int .i64 i):=by rw[c];exact Y
  have G:u.cell? ⟨Bx,0,none⟩=some (.int .i64 x):=by rw[c];exact S
  have hF3:u.cell? ⟨b,off+2,none⟩=some (.int .i64 f):=by rw[c];exact Z
  have hR3:u.cell? ⟨b,off+3,none⟩=some (.int .i64 r1):=by rw[c];exact V
  have T:=fun o=>cellA H o;have X:=fun o=>cellA K o;have R:=fun o=>cellA G o;rw[<-c];clear c
  gi_wp2
  rw[roundsIn_succ];by_cases M:fi<x
  ·obtain⟨fn2,D,s,N,E,I⟩:=hY [] ⟨(r1,x-fi),z M⟩ _ (O _ _ _ none q (World.grownBy_alloc u (Obj.cells #[.int .i64 f,.int .i64 r1] 164) none) (by intro r e;cases e)) (by simp);dsimp only at E
   gi_wp2
   refine I.mono ?_
   rintro e W5 (⟨rfl,hJ5,hk5⟩|⟨rfl,hJx5⟩)
   ·gi_wp2
    rw[roundsIn_succ]
    gi_wp2
    go_end0
    refine⟨⟨_,rfl⟩,.inl ?_⟩;unfold pieces;rw[dif_neg (by omega),dif_pos M];exact hJ5
   ·gi_wp2
    refine bodyPost_ret (results_none rfl _ _ _) rfl ⟨⟨_,rfl⟩,.inr ⟨_, ?_,hJx5⟩⟩;unfold pieces;rw[dif_neg (by omega),dif_pos M];exact List.prefix_refl _
  ·gi_wp2
   refine⟨fun _ h=>(by cases h), ?_⟩
   gi_wp2
   rw[roundsIn_succ]
   gi_wp2
   go_end0
   refine⟨⟨_,rfl⟩,.inl ?_⟩;unfold pieces;rw[dif_neg (by omega),dif_neg (by omega)];exact O _ _ _ none q (World.grownBy_alloc _ _ none) (by intro r e;cases e)
end Go.Proofs
namespace WB
def okP(y:Int×Int):Prop:=(0<=y.1/\y.1<=1000000)/\(0<=y.2/\y.2<=562949953421312)
def sumBd(den:Int)(pre:List {y//okP y}):Int×Int:=pre.foldl (fun p y=>stepB den p y.1.2 y.1.1) (0,0)
theorem sumP_snoc(den:Int)(pre:List {y//okP y})(y:{y//okP y}):sumBd den (pre++ [y])=stepB den (sumBd den pre) y.1.2 y.1.1:=by unfold sumBd;rw[List.foldl_append];rfl
theorem bandB_sum{den:Int}(a:0<den){p:Int×Int}{n r:Int}:(stepB den p n r).1*den+(stepB den p n r).2=p.1*den+p.2+n*r/\0<=(stepB den p n r).2/\(stepB den p n r).2<den:=by
 unfold stepB;dsimp only;have c:=Int.mul_ediv_add_emod (p.2+n % den*r) den;have b:=Int.mul_ediv_add_emod n den;refine⟨?_,Int.emod_nonneg _ (by omega),Int.emod_lt_of_pos _ a⟩;have g:n*r=den*(n/den)*r+n % den*r:=by rw[<-Int.add_mul,b]
 have f:(p.1+n/den*r+(p.2+n % den*r)/den)*den=p.1*den+n/den*r*den+(p.2+n % den*r)/den*den:=by rw[Int.add_mul,Int.add_mul]
 have e:n/den*r*den=den*(n/den)*r:=by rw[Int.mul_comm (n/den*r) den,Int.mul_assoc]
 have d:(p.2+n % den*r)/den*den=den*((p.2+n % den*r)/den):=Int.mul_comm _ _;omega
theorem band_dv{den n:Int}(b:1000000<=den/\den<=400000000)(a:0<=n/\n<=562949953421312):0<=n/den/\n/den<=562949953421312/\0<=n % den/\n % den<den:=by
 have c:=Int.ediv_le_self den a.1;exact⟨Int.ediv_nonneg a.1 (by omega),by omega,Int.emod_nonneg _ (by omega),Int.emod_lt_of_pos _ (by omega)⟩
theorem band_dr{den n r:Int}(e:1000000<=den/\den<=400000000)(d:0<=n/\n<=562949953421312)(a:0<=r/\r<=1000000):0<=n/den*r/\n/den*r<=562949953421312/\0<=n % den*r/\n % den*r<=400000000000000:=by
 obtain⟨c,k,b,j⟩:=band_dv e d;have i:=Int.mul_ediv_add_emod n den;have h:n/den*r<=n/den*den:=Int.mul_le_mul_of_nonneg_left (by omega) c;have g:n/den*den=den*(n/den):=Int.mul_comm _ _;have f:n % den*r<=n % den*1000000:=Int.mul_le_mul_of_nonneg_left (by omega) b;exact⟨Int.mul_nonneg c a.1,by omega,Int.mul_nonneg b a.1,by omega⟩
theorem bandB_nn{den:Int}(e:1000000<=den){p:Int×Int}{n r:Int}(d:0<=n)(c:0<=r)(g:0<=p.1)(f:0<=p.2):0<=(stepB den p n r).1:=by
 unfold stepB;dsimp only;have j:=Int.mul_nonneg (Int.ediv_nonneg d (by omega:0<=den)) c;have i:=Int.mul_nonneg (Int.emod_nonneg n (by omega:den≠0)) c;have h:=Int.ediv_nonneg (a:=p.2+n % den*r) (b:=den) (by omega) (by omega);omega
theorem sumP_ok{den:Int}(j:1000000<=den)(pre:List {y//okP y}):0<=(sumBd den pre).1/\0<=(sumBd den pre).2/\(sumBd den pre).2<den/\(sumBd den pre).1*den+(sumBd den pre).2<=(pre.length:Int)*562949953421312000000:=by
 suffices h:∀(pre:List {y//okP y}) (p:Int×Int) (k:Int),0<=p.1->0<=p.2->p.2<den->p.1*den+p.2<=k*562949953421312000000->0<=(pre.foldl (fun p y=>stepB den p y.1.2 y.1.1) p).1/\0<=(pre.foldl (fun p y=>stepB den p y.1.2 y.1.1) p).2/\(pre.foldl (fun p y=>stepB den p y.1.2 y.1.1) p).2<den/\(pre.foldl (fun p y=>stepB den p y.1.2 y.1.1) p).1*den+(pre.foldl (fun p y=>stepB den p y.1.2 y.1.1) p).2<=(k+pre.length)*562949953421312000000 by
  have:=h pre (0,0) 0 (by simp) (by simp) (by simp only;omega) (by simp);rw[Int.zero_add]at this;exact this
 intro pre
 induction pre with
 |nil=>intro p k e d g f;simp only[List.foldl_nil,List.length_nil];exact⟨e,d,g,by simpa using f⟩
 |cons y pre ih=>
  intro p k e d g f;obtain⟨⟨r,n⟩,b,c⟩:=y;simp only at b c;have a:=bandB_sum (den:=den) (by omega) (p:=p) (n:=n) (r:=r);have i:=bandB_nn j (p:=p) c.1 b.1 e d
  have l:n*r<=562949953421312*1000000:=by
   have q1:n*r<=n*1000000:=Int.mul_le_mul_of_nonneg_left b.2 c.1;omega
  have:=ih (stepB den p n r) (k+1) i a.2.1 a.2.2 (by rw[a.1];omega);rw[List.foldl_cons,List.length_cons];rw[show k+1+(pre.length:Int)=k+((pre.length+1:Nat):Int) by omega]at this;exact this
theorem band_le{den p q k:Int}(b:1000000<=den)(a:0<=p)(c:0<=q)(h:p*den+q<=k*562949953421312000000):p<=k*562949953421312:=by
 have d:p*1000000<=p*den:=Int.mul_le_mul_of_nonneg_left b a;omega
theorem gd_ft{L:Array Bool}{i:Nat}(h:L.getD i true=false):L.getD i false=false:=by
 rw[Array.getD_eq_getD_getElem?]at h⊢
 cases e:L[i]? with
 |none=>rfl
 |some b=>rw[e]at h;exact h
theorem not_done{L:Array Bool}{i j:Nat}{l:Array Go.Edge}(c:L.getD i true=false)(h:L.getD j false=true->∀e∈l,Go.Region.binds .any e=true->L.getD e.on false=true)(e:Go.Edge)(a:e∈l)(b:Go.Region.binds .any e=true)(hi:e.on=i):L.getD j false=false:=by
 cases q:L.getD j false
 ·rfl
 ·have k:=h q e a b;rw[hi,gd_ft c]at k;cases k
theorem set_off{L:Array Bool}(i j:Nat)(a:L.getD i true=false)(h:¬j=i):(L.setIfInBounds i true).getD j false=L.getD j false:=by rw[getD_set L i j false a,if_neg h]
theorem bandB_zero{den:Int}{p:Int×Int}(r:Int)(h:0<=p.2/\p.2<den):stepB den p 0 r=p:=by
 unfold stepB;simp only[Int.zero_ediv,Int.zero_emod,Int.zero_mul,Int.add_zero];rw[Int.ediv_eq_zero_of_lt h.1 h.2,Int.emod_eq_of_lt h.1 h.2,Int.add_zero]
theorem sumP_two{den x fi r0 r1:Int}(g:1000000<=den)(f:0<=x)(e:0<=fi)(c:0<min x fi->okP (r0,min x fi))(b:fi<x->okP (r1,x-fi)):
  sumBd den (Go.Proofs.pieces x fi r0 r1 c b)=stepB den (stepB den (0,0) (min x fi) r0) (max 0 (x-fi)) r1:=by
 have s0:=bandB_sum (den:=den) (by omega) (p:=(0,0)) (n:=min x fi) (r:=r0);unfold Go.Proofs.pieces sumBd;by_cases d:0<min x fi
 ·rw[dif_pos d];by_cases a:fi<x
  ·rw[dif_pos a,show max 0 (x-fi)=x-fi by omega];rfl
  ·rw[dif_neg a,show max 0 (x-fi)=0 by omega,bandB_zero _ s0.2];rfl
 ·rw[dif_neg d,show min x fi=0 by omega,bandB_zero r0 (p:=(0,0)) (by simp only;omega)];by_cases a:fi<x
  ·rw[dif_pos a,show max 0 (x-fi)=x-fi by omega];rfl
  ·rw[dif_neg a,show max 0 (x-fi)=0 by omega,bandB_zero _ (p:=(0,0)) (by simp only;omega)];rfl
theorem band_two{den x fi r0 r1:Int}(c:1000000<=den)(g:0<=x/\x<=562949953421312)(f:0<=fi)(b:0<=r0/\r0<=1000000)(a:0<=r1/\r1<=1000000):(stepB den (stepB den (0,0) (min x fi) r0) (max 0 (x-fi)) r1).1<=562949953421312:=by
 have s0:=bandB_sum (den:=den) (by omega) (p:=(0,0)) (n:=min x fi) (r:=r0);have e:=bandB_nn c (p:=(0,0)) (n:=min x fi) (r:=r0) (by omega) b.1 (by simp) (by simp);generalize stepB den (0,0) (min x fi) r0=p at*;have d:=bandB_sum (den:=den) (by omega) (p:=p) (n:=max 0 (x-fi)) (r:=r1);have n1:=bandB_nn c (p:=p) (n:=max 0 (x-fi)) (r:=r1) (by omega) a.1 e s0.2.1;generalize stepB den p (max 0 (x-fi)) r1=q at*;have a0:min x fi*r0<=min x fi*1000000:=Int.mul_le_mul_of_nonneg_left b.2 (by omega);have h:max 0 (x-fi)*r1<=max 0 (x-fi)*1000000:=Int.mul_le_mul_of_nonneg_left a.2 (by omega);have:=band_le (k:=1) c n1 d.2.1 (by rw[d.1];simp only at s0;omega);omega
end WB
namespace Go.Proofs
open Go.RowKit Go.Shelf
open WB (sumP_two band_two scaledS sumP_ok band_le band_dv band_dr stepB okP sumBd sumP_snoc gd_ft not_done set_off)
theorem boxed_keep{W b:World}{row:Option Nat}{B n:Nat}{t:TypeId}{v:Value}(h:Boxed W B t v)(d:W.grownBy b row)(c:∀r,row=some r->n<=r/\∃o:Obj,W.heap[r]? =some o/\o.isCells=false):Boxed b B t v:=
 h.kept d fun e=>by
  obtain⟨_,o,a,f⟩:=c _ e.symm;rw[show W.heap[B]? =_ from h]at a;cases a;cases f
theorem keep_set{W:World}{B:Nat}{v:Value}(a:Nat)(h:a<=B):KeepsOthers W (W.setCell ⟨B,0,none⟩ v).drew/\Below a W (W.setCell ⟨B,0,none⟩ v).drew/\KeepsC (fun g=>g≠B) W (W.setCell ⟨B,0,none⟩ v).drew:=by
 refine⟨(KeepsOthers.setCell W _ _).trans (KeepsOthers.drew _),((Below.refl a W).setCell (p:=⟨B,0,none⟩) h v).drew,fun p u d b=> ?_⟩
 have c:p.block<W.heap.size:=by
  unfold World.cell? at b;split at b
  ·rename_i f;exact(Array.getElem?_eq_some_iff.1 f).1
  ·cases b
 exact(World.cell?_of_block (w:=W) (w':=(W.setCell ⟨B,0,none⟩ v).drew) ((grownBy_setCell' W B v).block p.block c (fun e=>d (by cases e;rfl)))).trans b
theorem keep_set0{W:World}{B:Nat}{v:Value}(a:Nat)(h:a<=B):KeepsOthers W (W.setCell ⟨B,0,none⟩ v)/\Below a W (W.setCell ⟨B,0,none⟩ v)/\KeepsC (fun g=>g≠B) W (W.setCell ⟨B,0,none⟩ v):=by
 refine⟨KeepsOthers.setCell W _ _,((Below.refl a W).setCell (p:=⟨B,0,none⟩) h v),fun p u d b=> ?_⟩
 have c:p.block<W.heap.size:=by
  unfold World.cell? at b;split at b
  ·rename_i f;exact(Array.getElem?_eq_some_iff.1 f).1
  ·cases b
 exact(World.cell?_of_block (w:=W) (w':=(W.setCell ⟨B,0,none⟩ v)) ((grownBy_setCell' W B v).block p.block c (fun e=>d (by cases e;rfl)))).trans b
theorem keepsC_put(S:Nat->Prop)(W:World)(l:Nat)(o o':Obj)(c:W.heap[l]? =some o)(b:o.isCells=false):KeepsC S W (W.putObj l o'):=fun p v _ a=>cell_kept a (grownBy_putObj' W l o') (fun r e=>by cases e;exact⟨o,c,b⟩)
open Go.RowKit Go.Shelf
attribute [local go_sem] Oper.semAt_some
theorem Tryz.held302(F:Fence)(n:Nat)(h:F.fn 302)(a:F.round=none)(x i:Int)(v:Option Addr)(len cap:Nat)(w:World):
  CallsIn F n Tryz.prog 302 #[.int .i64 x,.int .i64 i,.slice v len cap] w fun e w'=>e=.returned (.func (.func 336) #[] #[.pointer (some ⟨w.heap.size+2,0,none⟩),.pointer (some ⟨w.heap.size+1,0,none⟩),.pointer (some ⟨w.heap.size,0,none⟩)])/\
   w'=((w.alloc (.cells #[.int .i64 x] 2)).alloc (.cells #[.int .i64 i] 3)).alloc (.cells #[.slice v len cap] 50):=by
 refine callsIn_of_wp Tryz.func302 rfl h ?_ a;simp only[Tryz.ntmps302,List.size_toArray,List.length_cons,List.length_nil,Nat.reduceAdd,Nat.reduceSub,Array.replicate_succ,Array.replicate_zero,List.push_toArray,List.append_toArray,List.nil_append,List.cons_append]
 gi_wp2
 go_ret
 exact⟨rfl,rfl⟩
theorem Tryz.held_stops(F:Fence)(n:Nat)(h:F.fn 336)(r:F.round=none)(G:1<=n)(o q m b off cap:Nat)(x i f fi r0 r1:Int){p:Int×Int->Prop}(d:0<min x fi->p (r0,min x fi))(c:fi<x->p (r1,x-fi))
  (t:f*i=fi) (H:0<=fi/\fi<=562949953421312) (E:0<=x/\x<=562949953421312)
  (w:World) (hT:w.cell? ⟨o,0,none⟩=some (.slice (some ⟨b,off,none⟩) 2 cap)) (N:w.cell? ⟨q,0,none⟩=some (.int .i64 i)) (K:w.cell? ⟨m,0,none⟩=some (.int .i64 x))
  (C:w.cell? ⟨b,off,none⟩=some (.int .i64 0)) (B:w.cell? ⟨b,off+1,none⟩=some (.int .i64 r0)) (A:w.cell? ⟨b,off+2,none⟩=some (.int .i64 f)) (z:w.cell? ⟨b,off+3,none⟩=some (.int .i64 r1)):
  SeqStopsK F n Tryz.prog 336 #[.pointer (some ⟨o,0,none⟩),.pointer (some ⟨q,0,none⟩),.pointer (some ⟨m,0,none⟩)] (fun y:{y//p y}=> #[.int .i64 y.1.1,.int .i64 y.1.2]) (KeepsC (fun g=>g=o\/g=q\/g=m\/g=b))
   (fun D=>D=pieces x fi r0 r1 d c) (fun pre=>pre<+:pieces x fi r0 r1 d c) 2 w:=fun l J P W L M u I O=>by
 have s:∀{a:Addr} {v:Value},w.cell? a=some v->a.block<w.heap.size:=by
  intro a v h;unfold World.cell? at h;split at h
  ·rename_i k;exact(Array.getElem?_eq_some_iff.1 k).1
  ·cases h
 have j:∀{a:Addr} {v:Value},w.cell? a=some v->W.cell? a=some v:=fun h=>(L.cell (s h)).trans h;refine(Tryz.held336 F n h r G l o q m b off cap x i f fi r0 r1 d c J P t H E I W (j hT) (j N) (j K) (j C) (j B) (j A) (j z) M u O).mono ?_
 rintro e W' ⟨k,hj|⟨pre,hp,hj⟩⟩
 ·exact⟨k,.inl ⟨_,rfl,hj⟩⟩
 ·exact⟨k,.inr ⟨pre,hp,hj⟩⟩
set_option maxRecDepth 100000 in
set_option maxHeartbeats 4000000 in
theorem Tryz.scaled_in(x i o f r0 r1:Int)(b off cap:Nat)(w:World)(hi:1<=i)(hio:i<=o)(I:o<=400)(hx:0<=x/\x<=562949953421312)(hf:0<=f/\f<=1099511627776)(hr0:0<=r0/\r0<=1000000)(hr1:0<=r1/\r1<=1000000)
  (h00:w.cell? ⟨b,off,none⟩=some (.int .i64 0)) (h01:w.cell? ⟨b,off+1,none⟩=some (.int .i64 r0)) (h10:w.cell? ⟨b,off+2,none⟩=some (.int .i64 f)) (h11:w.cell? ⟨b,off+3,none⟩=some (.int .i64 r1))
  (hck:∀V,Below w.heap.size w V->Calls Tryz.prog 301 #[.slice (some ⟨b,off,none⟩) 2 cap] V fun e V'=>e=.returned (.int .i64 0)/\Below V.heap.size V V'):
  CallsIn Fence.wide 8 Tryz.prog 259 #[.int .i64 x,.int .i64 i,.int .i64 o,.slice (some ⟨b,off,none⟩) 2 cap] w fun e w'=>e=.returned (.tuple #[.int .i64 (scaledS x i (o*1000000) f r0 r1),.int .i64 0])/\Below w.heap.size w w':=by
 have hro:Fence.wide.round=none:=rfl;refine callsIn_of_wp_marks Tryz.func259 rfl trivial ?_ hro;simp only[Tryz.ntmps259,List.size_toArray,List.length_cons,List.length_nil,Nat.reduceAdd,Nat.reduceSub,Array.replicate_succ,Array.replicate_zero,List.push_toArray,List.append_toArray,List.nil_append,List.cons_append];have hB0:Below w.heap.size w ((w.alloc (.cells #[.int .i64 0] 28)).alloc (.cells #[.int .i64 0] 34)):=((Below.refl _ w).alloc (Nat.le_refl _) _).alloc (by simp) _
 gi_wp2_with (first|(refine⟨trivial, ?_⟩;gi_at_call 301;refine(callsIn_wide.2 (hck _ hB0)).mono ?_;rintro e w1 ⟨rfl,hB1⟩)|(refine⟨trivial, ?_⟩;gi_at_call 302;refine(Tryz.held302 Fence.wide _ trivial rfl _ _ _ _ _ _).mono ?_;rintro e w' ⟨rfl,rfl⟩))
 have hs1:w.heap.size+2<=w1.heap.size:=by have:=hB1.size;simpa using this
 have b8:Boxed w1 w.heap.size 28 (.int .i64 0):=(hB1.block w.heap.size (by simp only[World.size_alloc];omega)).trans ((Boxed.new w 28 (.int .i64 0)).alloc _);have b9:Boxed w1 (w.heap.size+1) 34 (.int .i64 0):=(hB1.block (w.heap.size+1) (by simp only[World.size_alloc];omega)).trans (by have:=Boxed.new (w.alloc (.cells #[.int .i64 0] 28)) 34 (.int .i64 0);rwa [World.size_alloc]at this);have hBw:Below w.heap.size w w1:=hB0.trans (hB1.mono (by simp only[World.size_alloc];omega))
 have S:∀{a:Addr} {v:Value},w.cell? a=some v->a.block<w.heap.size:=by
  intro a v h;unfold World.cell? at h;split at h
  ·rename_i he;exact(Array.getElem?_eq_some_iff.1 he).1
  ·cases h
 have g00:=(hBw.cell (S h00)).trans h00;have g01:=(hBw.cell (S h01)).trans h01;have g10:=(hBw.cell (S h10)).trans h10;have g11:=(hBw.cell (S h11)).trans h11;obtain⟨W0,N⟩:∃W0,W0=(((((w1.alloc (.cells #[.int .i64 (o*1000000)] 2)).alloc (.cells #[.int .i64 0] 2)).alloc (.cells #[.int .i64 0] 2)).alloc (.cells #[.int .i64 x] 2)).alloc (.cells #[.int .i64 i] 3)).alloc (.cells #[.slice (some ⟨b,off,none⟩) 2 cap] 50):=⟨_,rfl⟩;have hsz:W0.heap.size=w1.heap.size+6:=by rw[N];simp
 have B8:Boxed W0 w.heap.size 28 (.int .i64 0):=by rw[N];exact(((((b8.alloc _).alloc _).alloc _).alloc _).alloc _).alloc _
 have B9:Boxed W0 (w.heap.size+1) 34 (.int .i64 0):=by rw[N];exact(((((b9.alloc _).alloc _).alloc _).alloc _).alloc _).alloc _
 have BD:Boxed W0 w1.heap.size 2 (.int .i64 (o*1000000)):=by rw[N];exact(((((Boxed.new w1 2 _).alloc _).alloc _).alloc _).alloc _).alloc _
 have B12:Boxed W0 (w1.heap.size+1) 2 (.int .i64 0):=by
  have:=Boxed.new (w1.alloc (.cells #[.int .i64 (o*1000000)] 2)) 2 (.int .i64 0);rw[World.size_alloc]at this;rw[N];exact(((this.alloc _).alloc _).alloc _).alloc _
 have B13:Boxed W0 (w1.heap.size+1+1) 2 (.int .i64 0):=by
  have:=Boxed.new ((w1.alloc (.cells #[.int .i64 (o*1000000)] 2)).alloc (.cells #[.int .i64 0] 2)) 2 (.int .i64 0);rw[World.size_alloc,World.size_alloc]at this;rw[N];exact((this.alloc _).alloc _).alloc _
 have cX:W0.cell? ⟨w1.heap.size+1+1+1,0,none⟩=some (.int .i64 x):=by rw[N];go_simp
 have cI:W0.cell? ⟨w1.heap.size+1+1+1+1,0,none⟩=some (.int .i64 i):=by rw[N];go_simp
 have cT:W0.cell? ⟨w1.heap.size+1+1+1+2,0,none⟩=some (.slice (some ⟨b,off,none⟩) 2 cap):=by rw[N];go_simp
 have hBW:Below w.heap.size w W0:=by rw[N];exact(((((hBw.alloc (by omega) _).alloc (by simp;omega) _).alloc (by simp;omega) _).alloc (by simp;omega) _).alloc (by simp;omega) _).alloc (by simp;omega) _
 have k00:=(hBW.cell (S h00)).trans h00;have k01:=(hBW.cell (S h01)).trans h01;have k10:=(hBW.cell (S h10)).trans h10;have k11:=(hBW.cell (S h11)).trans h11
 have hfi:0<=f*i/\f*i<=562949953421312:=⟨Int.mul_nonneg hf.1 (by omega),by
  have h1:f*i<=f*400:=Int.mul_le_mul_of_nonneg_left (by omega) hf.1
  omega⟩
 rw[<-N];clear N
 refine wpIn_rangeFunc_ownF hro (by decide) (gf:=336) (lb:= #[.pointer (some ⟨w1.heap.size+1+1+1+2,0,none⟩),.pointer (some ⟨w1.heap.size+1+1+1+1,0,none⟩),.pointer (some ⟨w1.heap.size+1+1+1,0,none⟩)]) rfl trivial (enters_of Tryz.func336 (by kernel_rfl) rfl)
  (Tryz.held_stops Fence.wide _ trivial hro (by decide) _ _ _ b off cap x i f (f*i) r0 r1 (p:=okP) (fun h=>⟨hr0,by omega⟩) (fun h=>⟨hr1,by omega⟩) rfl hfi hx W0 cT cI cX k00 k01 k10 k11)
  (fun h k p v hs hc=>k p v hs (h p v hs hc)) (fun W l o o' _ h1 h2 _=>keepsC_put _ W l o o' h1 h2) (Below.refl _ _) (fun _=>rfl)
  (fun pre W=>(Boxed W w.heap.size 28 (.int .i64 0)/\Boxed W (w.heap.size+1) 34 (.int .i64 0)/\Boxed W w1.heap.size 2 (.int .i64 (o*1000000))/\Boxed W (w1.heap.size+1) 2 (.int .i64 (sumBd (o*1000000) pre).1)/\Boxed W (w1.heap.size+1+1) 2 (.int .i64 (sumBd (o*1000000) pre).2))/\Below w.heap.size w W)
  (fun _ _ _=>False)
  (OwnFrom.and (fun s A B row hs hg hr=>⟨boxed_keep hs.1 hg hr,boxed_keep hs.2.1 hg hr,boxed_keep hs.2.2.1 hg hr,boxed_keep hs.2.2.2.1 hg hr,boxed_keep hs.2.2.2.2 hg hr⟩) (ownFrom_below (Nat.le_refl _) (by omega)))
  (fun _ _ _ _ _ hs _ _=>hs)
  ⟨⟨B8,B9,BD,B12,B13⟩,hBW⟩
  (fun y=>{tmps:= #[.int .i64 x,.int .i64 i,.int .i64 o,.slice (some ⟨b,off,none⟩) 2 cap,undef,undef,undef,undef,.pointer (some ⟨w.heap.size,0,none⟩),.pointer (some ⟨w.heap.size+1,0,none⟩),.int .i64 0,.pointer (some ⟨w1.heap.size,0,none⟩),.pointer (some ⟨w1.heap.size+1,0,none⟩),.pointer (some ⟨w1.heap.size+1+1,0,none⟩),.int .i64 y.1.1,.int .i64 y.1.2,.slice (some ⟨b,off,none⟩) 2 cap,.int .i64 0,.int .i64 0,.bool false,undef,.int .i64 i,.bool (decide (i<1)),.bool (decide (i<1)),.int .i64 i,.int .i64 o,.bool (decide (o<i)),.bool (decide (i<1)||decide (o<i)),.bool (decide (i<1)||decide (o<i)),.int .i64 o,.bool (decide (400<o)),.bool (decide (i<1)||decide (o<i)||decide (400<o)),.int .i64 o,.int .i64 (o*1000000),.int .i64 x,.int .i64 i,.slice (some ⟨b,off,none⟩) 2 cap,.func (.func 336) #[] #[.pointer (some ⟨w1.heap.size+1+1+1+2,0,none⟩),.pointer (some ⟨w1.heap.size+1+1+1+1,0,none⟩),.pointer (some ⟨w1.heap.size+1+1+1,0,none⟩)],.int .i64 y.1.1,.int .i64 y.1.2,undef,undef,undef,undef,undef,undef,undef,undef,undef,undef,undef,undef,undef,undef,undef,undef,undef,undef,undef,undef,undef,undef,undef,undef,undef,undef,undef,undef,undef,undef,undef,undef,undef,undef],defers:= []}) ?assign ?body ?done ?stop
 case assign=>
  intro l x W K hK
  gi_wp2
  exact hK
 case body=>
  rintro l pre ⟨⟨r,n⟩,hok⟩ W ⟨⟨c8,c9,cD,c12,c13⟩,hB⟩ hpre
  have hrr:0<=r/\r<=1000000:=hok.1;have hnn:0<=n/\n<=562949953421312:=hok.2;obtain⟨den,hden⟩:∃den,den=o*1000000:=⟨_,rfl⟩;have hd1:1000000<=den/\den<=400000000:=by omega
  have hS:=sumP_ok hd1.1 pre;rw[<-hden]at cD c12 c13⊢;obtain⟨H,R,hwl⟩:∃H R,sumBd den pre=(H,R):=⟨_,_,rfl⟩;rw[hwl]at c12 c13 hS;simp only at hS c12 c13;clear hden
  have hw1:0<=H/\H<=562949953421312:=⟨hS.1,by
   have:=band_le hd1.1 hS.1 hS.2.1 hS.2.2.2
   omega⟩
  have hdv:0<=n/den/\n/den<=562949953421312/\0<=n % den/\n % den<den:=band_dv hd1 hnn;have hdr:0<=n/den*r/\n/den*r<=562949953421312/\0<=n % den*r/\n % den*r<=400000000000000:=band_dr hd1 hnn hrr;have cc8:=c8.cell;have cc9:=c9.cell;have ccD:=cD.cell;have cc12:=c12.cell;have cf12:=c12.frozen;have cc13:=c13.cell;have cf13:=c13.frozen
  gi_wp2
  refine WB.wpIn_calm (fun k=> [.int .i64 H,.int .i64 n,.int .i64 den,.int .i64 (n/den),.int .i64 r,.int .i64 (n/den*r),.int .i64 (H+n/den*r),undef].getD k undef) (fun L=>if L.getD 7 false=true then World.setCell (World.drew W) ⟨w1.heap.size+1,0,none⟩ (.int .i64 (H+n/den*r))else World.drew W) (by kernel_rfl) (by kernel_rfl) (by kernel_rfl) ?_ ?_ ?_
  ·rfl
  ·intro k o I L A hs z j M q;have hk:k<8:=(Array.getElem?_eq_some_iff.1 I).1;have T:k=0\/k=1\/k=2\/k=3\/k=4\/k=5\/k=6\/k=7:=by omega
   rcases T with rfl|rfl|rfl|rfl|rfl|rfl|rfl|rfl;cases I;have G:=z.go (t:=12) (by kernel_rfl) rfl;have C:=not_done j (q 7 _ rfl) ⟨0,.phase⟩ (by simp) rfl rfl;have m:=(set_off 0 7 j (by decide)).trans C;simp only[C,m,Bool.false_eq_true,if_false];rotate_left;cases I;have G:=z.go (t:=15) (by kernel_rfl) rfl;have C:=not_done j (q 7 _ rfl) ⟨1,.phase⟩ (by simp) rfl rfl;have m:=(set_off 1 7 j (by decide)).trans C;simp only[C,m,Bool.false_eq_true,if_false];rotate_left;cases I;have G:=z.go (t:=11) (by kernel_rfl) rfl;have C:=not_done j (q 7 _ rfl) ⟨2,.phase⟩ (by simp) rfl rfl;have m:=(set_off 2 7 j (by decide)).trans C;simp only[C,m,Bool.false_eq_true,if_false];rotate_left;cases I;have G:=z.gd 1 rfl rfl rfl (M ⟨1,.data⟩ (by simp) rfl);have Q:=z.gd 2 rfl rfl rfl (M ⟨2,.data⟩ (by simp) rfl);have C:=not_done j (q 7 _ rfl) ⟨3,.phase⟩ (by simp) rfl rfl;have m:=(set_off 3 7 j (by decide)).trans C;simp only[C,m,Bool.false_eq_true,if_false];rotate_left;cases I;have G:=z.go (t:=14) (by kernel_rfl) rfl;have C:=not_done j (q 7 _ rfl) ⟨4,.phase⟩ (by simp) rfl rfl;have m:=(set_off 4 7 j (by decide)).trans C;simp only[C,m,Bool.false_eq_true,if_false];rotate_left;cases I;have G:=z.gd 3 rfl rfl rfl (M ⟨3,.data⟩ (by simp) rfl);have Q:=z.gd 4 rfl rfl rfl (M ⟨4,.data⟩ (by simp) rfl);have C:=not_done j (q 7 _ rfl) ⟨5,.phase⟩ (by simp) rfl rfl;have m:=(set_off 5 7 j (by decide)).trans C;simp only[C,m,Bool.false_eq_true,if_false];rotate_left;cases I;have G:=z.gd 0 rfl rfl rfl (M ⟨0,.data⟩ (by simp) rfl);have Q:=z.gd 5 rfl rfl rfl (M ⟨5,.data⟩ (by simp) rfl);have C:=not_done j (q 7 _ rfl) ⟨6,.phase⟩ (by simp) rfl rfl;have m:=(set_off 6 7 j (by decide)).trans C;simp only[C,m,Bool.false_eq_true,if_false];rotate_left
   ·cases I;have G:=z.gd 6 rfl rfl rfl (M ⟨6,.data⟩ (by simp) rfl);have Q:=z.go (t:=12) (by kernel_rfl) rfl;have m:(L.setIfInBounds 7 true).getD 7 false=true:=by rw[WB.getD_set L 7 7 false j,if_pos rfl]
    simp only[gd_ft j,m,Bool.false_eq_true,if_false,if_true];refine⟨fun f h=>(by cases h),Or.inr ⟨rfl, ?_⟩⟩;rw[Oper.semAt_eq _ _ _ (by intro c h;cases h)]
    go_simp;first|done|(simp only[G,Q];go_simp;done)
   all_goals(refine⟨fun f h=>(by cases h),Or.inl ?_⟩;rw[Oper.semAt_eq _ _ _ (by intro c h;cases h)];go_simp<;>(try((first|simp only[G,Q]|simp only[G]);go_simp))<;>(first|(rw[if_neg (by omega)];simp only[IntWalk.i64_quo d den (by omega)];done)|exact IntWalk.i64_in _ (by omega)|(rw[if_neg (by omega)];simp only[IntWalk.i64_quo n den (by omega)];done)|(rw[if_neg (by omega),Int.tmod_eq_emod_of_nonneg (by omega)];done)))
  simp only[WB.putsV,List.size_toArray,List.length_cons,List.length_nil,Nat.reduceAdd];obtain⟨O,Z⟩:∃O,O=(World.setCell W ⟨w1.heap.size+1,0,none⟩ (.int .i64 (H+n/den*r))).drew:=⟨_,rfl⟩;have d8:Boxed O w.heap.size 28 (.int .i64 0):=by rw[Z];exact Boxed.other (W:=W) c8 (by omega) _
  have d9:Boxed O (w.heap.size+1) 34 (.int .i64 0):=by rw[Z];exact Boxed.other (W:=W) c9 (by omega) _
  have dD:Boxed O w1.heap.size 2 (.int .i64 den):=by rw[Z];exact Boxed.other (W:=W) cD (by omega) _
  have d12:Boxed O (w1.heap.size+1) 2 (.int .i64 (H+n/den*r)):=by rw[Z];exact Boxed.set (W:=W) _ c12
  have d13:Boxed O (w1.heap.size+1+1) 2 (.int .i64 R):=by rw[Z];exact Boxed.other (W:=W) c13 (by omega) _
  have T:KeepsOthers W O/\Below w.heap.size W O/\KeepsC (fun g=>g≠w1.heap.size+1) W O:=by rw[Z];exact keep_set _ (by omega)
  have ccD2:=dD.cell;have cc13':=d13.cell;have cf13':=d13.frozen
  gi_wp2
  rw[<-Z];clear Z;refine WB.wpIn_calm (fun k=> [.int .i64 R,.int .i64 n,.int .i64 den,.int .i64 (n % den),.int .i64 r,.int .i64 (n % den*r),.int .i64 (R+n % den*r),undef].getD k undef) (fun L=>if L.getD 7 false=true then World.setCell (World.drew O) ⟨w1.heap.size+1+1,0,none⟩ (.int .i64 (R+n % den*r))else World.drew O) (by kernel_rfl) (by kernel_rfl) (by kernel_rfl) ?_ ?_ ?_
  ·rfl
  ·intro k o I L A hs z j M q;have hk:k<8:=(Array.getElem?_eq_some_iff.1 I).1;have T:k=0\/k=1\/k=2\/k=3\/k=4\/k=5\/k=6\/k=7:=by omega
   rcases T with rfl|rfl|rfl|rfl|rfl|rfl|rfl|rfl;cases I;have G:=z.go (t:=13) (by kernel_rfl) rfl;have C:=not_done j (q 7 _ rfl) ⟨0,.phase⟩ (by simp) rfl rfl;have m:=(set_off 0 7 j (by decide)).trans C;simp only[C,m,Bool.false_eq_true,if_false];rotate_left;cases I;have G:=z.go (t:=15) (by kernel_rfl) rfl;have C:=not_done j (q 7 _ rfl) ⟨1,.phase⟩ (by simp) rfl rfl;have m:=(set_off 1 7 j (by decide)).trans C;simp only[C,m,Bool.false_eq_true,if_false];rotate_left;cases I;have G:=z.go (t:=11) (by kernel_rfl) rfl;have C:=not_done j (q 7 _ rfl) ⟨2,.phase⟩ (by simp) rfl rfl;have m:=(set_off 2 7 j (by decide)).trans C;simp only[C,m,Bool.false_eq_true,if_false];rotate_left;cases I;have G:=z.gd 1 rfl rfl rfl (M ⟨1,.data⟩ (by simp) rfl);have Q:=z.gd 2 rfl rfl rfl (M ⟨2,.data⟩ (by simp) rfl);have C:=not_done j (q 7 _ rfl) ⟨3,.phase⟩ (by simp) rfl rfl;have m:=(set_off 3 7 j (by decide)).trans C;simp only[C,m,Bool.false_eq_true,if_false];rotate_left;cases I;have G:=z.go (t:=14) (by kernel_rfl) rfl;have C:=not_done j (q 7 _ rfl) ⟨4,.phase⟩ (by simp) rfl rfl;have m:=(set_off 4 7 j (by decide)).trans C;simp only[C,m,Bool.false_eq_true,if_false];rotate_left;cases I;have G:=z.gd 3 rfl rfl rfl (M ⟨3,.data⟩ (by simp) rfl);have Q:=z.gd 4 rfl rfl rfl (M ⟨4,.data⟩ (by simp) rfl);have C:=not_done j (q 7 _ rfl) ⟨5,.phase⟩ (by simp) rfl rfl;have m:=(set_off 5 7 j (by decide)).trans C;simp only[C,m,Bool.false_eq_true,if_false];rotate_left;cases I;have G:=z.gd 0 rfl rfl rfl (M ⟨0,.data⟩ (by simp) rfl);have Q:=z.gd 5 rfl rfl rfl (M ⟨5,.data⟩ (by simp) rfl);have C:=not_done j (q 7 _ rfl) ⟨6,.phase⟩ (by simp) rfl rfl;have m:=(set_off 6 7 j (by decide)).trans C;simp only[C,m,Bool.false_eq_true,if_false];rotate_left
   ·cases I;have G:=z.gd 6 rfl rfl rfl (M ⟨6,.data⟩ (by simp) rfl);have Q:=z.go (t:=13) (by kernel_rfl) rfl;have m:(L.setIfInBounds 7 true).getD 7 false=true:=by rw[WB.getD_set L 7 7 false j,if_pos rfl]
    simp only[gd_ft j,m,Bool.false_eq_true,if_false,if_true];refine⟨fun f h=>(by cases h),Or.inr ⟨rfl, ?_⟩⟩;rw[Oper.semAt_eq _ _ _ (by intro c h;cases h)]
    go_simp;first|done|(simp only[G,Q];go_simp;done)
   all_goals(refine⟨fun f h=>(by cases h),Or.inl ?_⟩;rw[Oper.semAt_eq _ _ _ (by intro c h;cases h)];go_simp<;>(try((first|simp only[G,Q]|simp only[G]);go_simp))<;>(first|(rw[if_neg (by omega)];simp only[IntWalk.i64_quo d den (by omega)];done)|exact IntWalk.i64_in _ (by omega)|(rw[if_neg (by omega)];simp only[IntWalk.i64_quo n den (by omega)];done)|(rw[if_neg (by omega),Int.tmod_eq_emod_of_nonneg (by omega)];done)))
  simp only[WB.putsV,List.size_toArray,List.length_cons,List.length_nil,Nat.reduceAdd];obtain⟨X,Y⟩:∃X,X=(World.setCell O ⟨w1.heap.size+1+1,0,none⟩ (.int .i64 (R+n % den*r))).drew:=⟨_,rfl⟩;have f8:Boxed X w.heap.size 28 (.int .i64 0):=by rw[Y];exact Boxed.other (W:=O) d8 (by omega) _
  have f9:Boxed X (w.heap.size+1) 34 (.int .i64 0):=by rw[Y];exact Boxed.other (W:=O) d9 (by omega) _
  have fD:Boxed X w1.heap.size 2 (.int .i64 den):=by rw[Y];exact Boxed.other (W:=O) dD (by omega) _
  have f12:Boxed X (w1.heap.size+1) 2 (.int .i64 (H+n/den*r)):=by rw[Y];exact Boxed.other (W:=O) d12 (by omega) _
  have f13:Boxed X (w1.heap.size+1+1) 2 (.int .i64 (R+n % den*r)):=by rw[Y];exact Boxed.set (W:=O) _ d13
  have hk3:KeepsOthers O X/\Below w.heap.size O X/\KeepsC (fun g=>g≠w1.heap.size+1+1) O X:=by rw[Y];exact keep_set _ (by omega)
  have ccD3:=fD.cell;have cc12'':=f12.cell;have cf12'':=f12.frozen;have cc13'':=f13.cell;have cf13'':=f13.frozen
  gi_wp2
  rw[<-Y];clear Y;obtain⟨J,hwh1⟩:∃J,H+n/den*r=J:=⟨_,rfl⟩;obtain⟨d,hlf1⟩:∃d,R+n % den*r=d:=⟨_,rfl⟩;have hw2:0<=J/\J<=1125899906842624:=by omega
  have hl2:0<=d/\d<=400000400000000:=by omega
  have hdv2:0<=d/den/\d/den<=d/\0<=d % den/\d % den<den:=⟨Int.ediv_nonneg hl2.1 (by omega),Int.ediv_le_self _ hl2.1,Int.emod_nonneg _ (by omega),Int.emod_lt_of_pos _ (by omega)⟩;rw[hwh1]at f12 cc12''⊢;rw[hlf1]at f13 cc13''⊢;refine WB.wpIn_calm (fun k=> [.int .i64 J,.int .i64 d,.int .i64 den,.int .i64 (d/den),.int .i64 (J+d/den),.int .i64 d,.int .i64 den,.int .i64 (d % den),undef,undef].getD k undef) (fun L=>if L.getD 9 false=true then World.setCell (if L.getD 8 false=true then World.setCell (World.drew X) ⟨w1.heap.size+1,0,none⟩ (.int .i64 (J+d/den))else World.drew X) ⟨w1.heap.size+1+1,0,none⟩ (.int .i64 (d % den))else(if L.getD 8 false=true then World.setCell (World.drew X) ⟨w1.heap.size+1,0,none⟩ (.int .i64 (J+d/den))else World.drew X)) (by kernel_rfl) (by kernel_rfl) (by kernel_rfl) ?_ ?_ ?_
  ·rfl
  ·intro k o I L A hs z j M q;have hk:k<10:=(Array.getElem?_eq_some_iff.1 I).1;have T:k=0\/k=1\/k=2\/k=3\/k=4\/k=5\/k=6\/k=7\/k=8\/k=9:=by omega
   rcases T with rfl|rfl|rfl|rfl|rfl|rfl|rfl|rfl|rfl|rfl;cases I;have G:=z.go (t:=12) (by kernel_rfl) rfl;have h9:=not_done j (q 9 _ rfl) ⟨0,.phase⟩ (by simp) rfl rfl;have h8:=not_done j (q 8 _ rfl) ⟨0,.phase⟩ (by simp) rfl rfl;have F:=set_off 0 8 j (by decide);have E:=set_off 0 9 j (by decide);simp only[F,E,h8,h9,Bool.false_eq_true,if_false];rotate_left;cases I;have G:=z.go (t:=13) (by kernel_rfl) rfl;have h9:=not_done j (q 9 _ rfl) ⟨1,.phase⟩ (by simp) rfl rfl;have h8:=not_done j (q 8 _ rfl) ⟨1,.phase⟩ (by simp) rfl rfl;have F:=set_off 1 8 j (by decide);have E:=set_off 1 9 j (by decide);simp only[F,E,h8,h9,Bool.false_eq_true,if_false];rotate_left;cases I;have G:=z.go (t:=11) (by kernel_rfl) rfl;have h9:=not_done j (q 9 _ rfl) ⟨2,.phase⟩ (by simp) rfl rfl;have h8:=not_done j (q 8 _ rfl) ⟨2,.phase⟩ (by simp) rfl rfl;have F:=set_off 2 8 j (by decide);have E:=set_off 2 9 j (by decide);simp only[F,E,h8,h9,Bool.false_eq_true,if_false];rotate_left;cases I;have G:=z.gd 1 rfl rfl rfl (M ⟨1,.data⟩ (by simp) rfl);have Q:=z.gd 2 rfl rfl rfl (M ⟨2,.data⟩ (by simp) rfl);have h9:=not_done j (q 9 _ rfl) ⟨3,.phase⟩ (by simp) rfl rfl;have h8:=not_done j (q 8 _ rfl) ⟨3,.phase⟩ (by simp) rfl rfl;have F:=set_off 3 8 j (by decide);have E:=set_off 3 9 j (by decide);simp only[F,E,h8,h9,Bool.false_eq_true,if_false];rotate_left;cases I;have G:=z.gd 0 rfl rfl rfl (M ⟨0,.data⟩ (by simp) rfl);have Q:=z.gd 3 rfl rfl rfl (M ⟨3,.data⟩ (by simp) rfl);have h9:=not_done j (q 9 _ rfl) ⟨4,.phase⟩ (by simp) rfl rfl;have h8:=not_done j (q 8 _ rfl) ⟨4,.phase⟩ (by simp) rfl rfl;have F:=set_off 4 8 j (by decide);have E:=set_off 4 9 j (by decide);simp only[F,E,h8,h9,Bool.false_eq_true,if_false];rotate_left
   ·cases I;have G:=z.go (t:=13) (by kernel_rfl) rfl;have h9:=not_done j (q 9 _ rfl) ⟨5,.phase⟩ (by simp) rfl rfl;have F:=set_off 5 8 j (by decide);have E:=set_off 5 9 j (by decide);simp only[F,E,h9,Bool.false_eq_true,if_false];cases e8:L.getD 8 false<;>simp only[Bool.false_eq_true,if_false,if_true];all_goals(refine⟨fun f h=>(by cases h),Or.inl ?_⟩;rw[Oper.semAt_eq _ _ _ (by intro c h;cases h)];go_simp<;>(try(simp only[G];go_simp))<;>(first|(rw[if_neg (by omega)];simp only[IntWalk.i64_quo d den (by omega)];done)|exact IntWalk.i64_in _ (by omega)|(rw[if_neg (by omega)];simp only[IntWalk.i64_quo n den (by omega)];done)|(rw[if_neg (by omega),Int.tmod_eq_emod_of_nonneg (by omega)];done)))
   ·cases I;have G:=z.go (t:=11) (by kernel_rfl) rfl;have h9:=not_done j (q 9 _ rfl) ⟨6,.phase⟩ (by simp) rfl rfl;have F:=set_off 6 8 j (by decide);have E:=set_off 6 9 j (by decide);simp only[F,E,h9,Bool.false_eq_true,if_false];cases e8:L.getD 8 false<;>simp only[Bool.false_eq_true,if_false,if_true];all_goals(refine⟨fun f h=>(by cases h),Or.inl ?_⟩;rw[Oper.semAt_eq _ _ _ (by intro c h;cases h)];go_simp<;>(try(simp only[G];go_simp))<;>(first|(rw[if_neg (by omega)];simp only[IntWalk.i64_quo d den (by omega)];done)|exact IntWalk.i64_in _ (by omega)|(rw[if_neg (by omega)];simp only[IntWalk.i64_quo n den (by omega)];done)|(rw[if_neg (by omega),Int.tmod_eq_emod_of_nonneg (by omega)];done)))
   ·cases I;have G:=z.gd 5 rfl rfl rfl (M ⟨5,.data⟩ (by simp) rfl);have Q:=z.gd 6 rfl rfl rfl (M ⟨6,.data⟩ (by simp) rfl);have h9:=not_done j (q 9 _ rfl) ⟨7,.phase⟩ (by simp) rfl rfl;have F:=set_off 7 8 j (by decide);have E:=set_off 7 9 j (by decide);simp only[F,E,h9,Bool.false_eq_true,if_false];cases e8:L.getD 8 false<;>simp only[Bool.false_eq_true,if_false,if_true];all_goals(refine⟨fun f h=>(by cases h),Or.inl ?_⟩;rw[Oper.semAt_eq _ _ _ (by intro c h;cases h)];go_simp<;>(try(simp only[G,Q];go_simp))<;>(first|(rw[if_neg (by omega)];simp only[IntWalk.i64_quo d den (by omega)];done)|exact IntWalk.i64_in _ (by omega)|(rw[if_neg (by omega)];simp only[IntWalk.i64_quo n den (by omega)];done)|(rw[if_neg (by omega),Int.tmod_eq_emod_of_nonneg (by omega)];done)))
   ·cases I;have G:=z.gd 4 rfl rfl rfl (M ⟨4,.data⟩ (by simp) rfl);have Q:=z.go (t:=12) (by kernel_rfl) rfl;have h9:=not_done j (q 9 _ rfl) ⟨8,.phase⟩ (by simp) rfl rfl;have E:=set_off 8 9 j (by decide);have F:(L.setIfInBounds 8 true).getD 8 false=true:=by rw[WB.getD_set L 8 8 false j,if_pos rfl]
    simp only[gd_ft j,F,E,h9,Bool.false_eq_true,if_false,if_true];refine⟨fun f h=>(by cases h),Or.inr ⟨rfl, ?_⟩⟩;rw[Oper.semAt_eq _ _ _ (by intro c h;cases h)]
    go_simp;first|done|(simp only[G,Q];go_simp;done)
   ·cases I;have G:=z.gd 7 rfl rfl rfl (M ⟨7,.data⟩ (by simp) rfl);have Q:=z.go (t:=13) (by kernel_rfl) rfl;have h8:L.getD 8 false=true:=M ⟨8,.phase⟩ (by simp) rfl;have F:=set_off 9 8 j (by decide);have E:(L.setIfInBounds 9 true).getD 9 false=true:=by rw[WB.getD_set L 9 9 false j,if_pos rfl]
    simp only[gd_ft j,F,h8,E,Bool.false_eq_true,if_false,if_true];refine⟨fun f h=>(by cases h),Or.inr ⟨rfl, ?_⟩⟩;rw[Oper.semAt_eq _ _ _ (by intro c h;cases h)]
    go_simp;first|done|(simp only[G,Q];go_simp;done)
   all_goals(refine⟨fun f h=>(by cases h),Or.inl ?_⟩;rw[Oper.semAt_eq _ _ _ (by intro c h;cases h)];go_simp<;>(try((first|simp only[G,Q]|simp only[G]);go_simp))<;>(first|(rw[if_neg (by omega)];simp only[IntWalk.i64_quo d den (by omega)];done)|exact IntWalk.i64_in _ (by omega)|(rw[if_neg (by omega)];simp only[IntWalk.i64_quo n den (by omega)];done)|(rw[if_neg (by omega),Int.tmod_eq_emod_of_nonneg (by omega)];done)))
  simp only[WB.putsV,List.size_toArray,List.length_cons,List.length_nil,Nat.reduceAdd];have hstep:stepB den (H,R) n r=(J+d/den,d % den):=by unfold stepB;rw[<-hwh1,<-hlf1]
  have hS2:=sumP_ok hd1.1 (pre++ [⟨(r,n),hok⟩]);have hsn:=sumP_snoc den pre ⟨(r,n),hok⟩;simp only at hsn;rw[hwl,hstep]at hsn;rw[hsn]at hS2;simp only at hS2
  have hfin:J+d/den<=1125899906842624:=by
   have:=band_le hd1.1 hS2.1 hS2.2.1 hS2.2.2.2;rw[List.length_append]at this;simp only[List.length_cons,List.length_nil]at this;omega
  obtain⟨W4,hW4⟩:∃W4,W4=World.setCell X ⟨w1.heap.size+1,0,none⟩ (.int .i64 (J+d/den)):=⟨_,rfl⟩;have j8:Boxed W4 w.heap.size 28 (.int .i64 0):=by rw[hW4];exact Boxed.other f8 (by omega) _
  have j9:Boxed W4 (w.heap.size+1) 34 (.int .i64 0):=by rw[hW4];exact Boxed.other f9 (by omega) _
  have jD:Boxed W4 w1.heap.size 2 (.int .i64 den):=by rw[hW4];exact Boxed.other fD (by omega) _
  have j12:Boxed W4 (w1.heap.size+1) 2 (.int .i64 (J+d/den)):=by rw[hW4];exact Boxed.set _ f12
  have j13:Boxed W4 (w1.heap.size+1+1) 2 (.int .i64 d):=by rw[hW4];exact Boxed.other f13 (by omega) _
  have hk4:KeepsOthers X W4/\Below w.heap.size X W4/\KeepsC (fun g=>g≠w1.heap.size+1) X W4:=by rw[hW4];exact keep_set0 (W:=X) _ (by omega)
  have hk5:=keep_set (W:=W4) (B:=w1.heap.size+1+1) (v:=.int .i64 (d % den)) w.heap.size (by omega);have l8:=Boxed.other j8 (B':=w1.heap.size+1+1) (by omega) (.int .i64 (d % den));have l9:=Boxed.other j9 (B':=w1.heap.size+1+1) (by omega) (.int .i64 (d % den));have lD:=Boxed.other jD (B':=w1.heap.size+1+1) (by omega) (.int .i64 (d % den));have l12:=Boxed.other j12 (B':=w1.heap.size+1+1) (by omega) (.int .i64 (d % den));have l13:=Boxed.set (.int .i64 (d % den)) j13;rw[hW4]at l8 l9 lD l12 l13 hk4 hk5
  gi_wp2
  have hbl:=S h00;simp only at hbl;refine⟨T.1.trans (hk3.1.trans (hk4.1.trans hk5.1)),fun p u P hc=>hk5.2.2 p u ?_ (hk4.2.2 p u ?_ (hk3.2.2 p u ?_ (T.2.2 p u ?_ hc))),⟨l8,l9,lD, ?_, ?_⟩,hB.trans (T.2.1.trans (hk3.2.1.trans (hk4.2.1.trans hk5.2.1)))⟩
  ·rcases P with P|P|P|P<;>omega
  ·rcases P with P|P|P|P<;>omega
  ·rcases P with P|P|P|P<;>omega
  ·rcases P with P|P|P|P<;>omega
  ·rw[hsn];exact l12
  ·rw[hsn];exact l13
 case done=>
  rintro D ys W hD rfl ⟨⟨c8,c9,cD,c12,c13⟩,hB⟩ hK
  have hS:=sumP_ok (den:=o*1000000) (by omega) (pieces x (f*i) r0 r1 (fun h=>(⟨hr0,by omega⟩:okP (r0,min x (f*i)))) (fun h=>(⟨hr1,by omega⟩:okP (r1,x-f*i))));obtain⟨H,R,hwl⟩:∃H R,sumBd (o*1000000) (pieces x (f*i) r0 r1 (fun h=>(⟨hr0,by omega⟩:okP (r0,min x (f*i)))) (fun h=>(⟨hr1,by omega⟩:okP (r1,x-f*i))))=(H,R):=⟨_,_,rfl⟩;rw[hwl]at c12 c13 hS;simp only at hS c12 c13;have cc8:=c8.cell;have cf8:=c8.frozen;have cc9:=c9.cell;have cf9:=c9.frozen;have ccD:=cD.cell;have cc12:=c12.cell;have cf12:=c12.frozen;have cc13:=c13.cell;have hP:=sumP_two (den:=o*1000000) (r0:=r0) (r1:=r1) (by omega) hx.1 hfi.1 (fun h=>(⟨hr0,by omega⟩:okP (r0,min x (f*i)))) (fun h=>(⟨hr1,by omega⟩:okP (r1,x-f*i)));rw[hwl]at hP
  have hwB:H+1<=1125899906842624:=by
   have:=band_two (den:=o*1000000) (fi:=f*i) (by omega) hx hfi.1 hr0 hr1;rw[<-hP]at this;simp only at this;omega
  have hres:scaledS x i (o*1000000) f r0 r1=H+(if R≥o*1000000-R then 1 else 0):=by unfold scaledS;rw[<-hP]
  have hres1:o*1000000-R<=R->scaledS x i (o*1000000) f r0 r1=H+1:=fun h=>by rw[hres,if_pos h]
  have hres2:R<o*1000000-R->scaledS x i (o*1000000) f r0 r1=H:=fun h=>by rw[hres,if_neg (by omega),Int.add_zero]
  clear hres hP
  gi_wp2
  ·have d8:=Boxed.other c8 (B':=w1.heap.size+1) (by omega) (.int .i64 (H+1));have d9:=Boxed.other c9 (B':=w1.heap.size+1) (by omega) (.int .i64 (H+1));have f8:=Boxed.set (.int .i64 (H+1)) d8;have f9:=Boxed.other d9 (B':=w.heap.size) (by omega) (.int .i64 (H+1));have l8:=Boxed.other f8 (B':=w.heap.size+1) (by omega) (.int .i64 0);have l9:=Boxed.set (.int .i64 0) f9;have hKo:=(KeepsOthers.setCell W ⟨w1.heap.size+1,0,none⟩ (.int .i64 (H+1))).trans ((KeepsOthers.setCell (W.setCell ⟨w1.heap.size+1,0,none⟩ (.int .i64 (H+1))) ⟨w.heap.size,0,none⟩ (.int .i64 (H+1))).trans (KeepsOthers.setCell ((W.setCell ⟨w1.heap.size+1,0,none⟩ (.int .i64 (H+1))).setCell ⟨w.heap.size,0,none⟩ (.int .i64 (H+1))) ⟨w.heap.size+1,0,none⟩ (.int .i64 0)));have hBl:=((hB.setCell (p:=⟨w1.heap.size+1,0,none⟩) (by simp only;omega) (.int .i64 (H+1))).setCell (p:=⟨w.heap.size,0,none⟩) (Nat.le_refl _) (.int .i64 (H+1))).setCell (p:=⟨w.heap.size+1,0,none⟩) (by simp only;omega) (.int .i64 0);have U:=hKo.same D _ hK rfl;refine⟨by simp,.inl ⟨_,_,rfl,run_takeDeferred U, ?_⟩⟩;have hc8:=cell_kept l8.cell (grownBy_putObj' _ D (.deferred none)) (fun r e=>by cases e;exact⟨_,U,rfl⟩);have hc9:=cell_kept l9.cell (grownBy_putObj' _ D (.deferred none)) (fun r e=>by cases e;exact⟨_,U,rfl⟩);refine⟨.tuple #[.int .i64 (H+1),.int .i64 0], ?_,by rw[hres1 (by omega)],hBl.trans (belowK_b (w:=w) (Nat.le_refl _) _ D _ _ (by omega) U rfl rfl)⟩;simp[results,Tryz.f259,go_sem,hc8,hc9]
  ·have d8:=Boxed.set (.int .i64 H) c8;have d9:=Boxed.other c9 (B':=w.heap.size) (by omega) (.int .i64 H);have l8:=Boxed.other d8 (B':=w.heap.size+1) (by omega) (.int .i64 0);have l9:=Boxed.set (.int .i64 0) d9;have hKo:=(KeepsOthers.setCell W ⟨w.heap.size,0,none⟩ (.int .i64 H)).trans (KeepsOthers.setCell (W.setCell ⟨w.heap.size,0,none⟩ (.int .i64 H)) ⟨w.heap.size+1,0,none⟩ (.int .i64 0));have hBl:=(hB.setCell (p:=⟨w.heap.size,0,none⟩) (Nat.le_refl _) (.int .i64 H)).setCell (p:=⟨w.heap.size+1,0,none⟩) (by simp only;omega) (.int .i64 0);have U:=hKo.same D _ hK rfl;refine⟨by simp,.inl ⟨_,_,rfl,run_takeDeferred U, ?_⟩⟩;have hc8:=cell_kept l8.cell (grownBy_putObj' _ D (.deferred none)) (fun r e=>by cases e;exact⟨_,U,rfl⟩);have hc9:=cell_kept l9.cell (grownBy_putObj' _ D (.deferred none)) (fun r e=>by cases e;exact⟨_,U,rfl⟩);refine⟨.tuple #[.int .i64 H,.int .i64 0], ?_,by rw[hres2 (by omega)],hBl.trans (belowK_b (w:=w) (Nat.le_refl _) _ D _ _ (by omega) U rfl rfl)⟩;simp[results,Tryz.f259,go_sem,hc8,hc9]
 case stop=>
  rintro D c pre W _ _ h _
  exact h.elim
end Go.Proofs
namespace WB
open Go Go.RowKit Go.Proofs Go.Sort
abbrev tyBd:Ty:=.agg (.cons (.int .i64) (.one (.int .i64)))
theorem scaled_to{B:TB}{L:List (FuncId×Sig)}{LE:List (FuncId×SigE)}(h:GoodT Tryz.prog B L LE){C:List (Int×Int)->Option Int}(q:lookS L 301=some ⟨.one (.sl tyBd),.int .i64,C⟩)
  {x i o f r0 r1:Int} (hi:1<=i) (N:i<=o) (ho:o<=400) (Z:0<=x/\x<=562949953421312) (hf:0<=f/\f<=1099511627776) (K:0<=r0/\r0<=1000000) (J:0<=r1/\r1<=1000000) (P:C [(0,r0),(f,r1)]=some 0)
  {l:List CV} (Q:Can (.cons (.int .i64) (.cons (.int .i64) (.cons (.int .i64) (.one (.sl tyBd))))) (x,i,o,[(0,r0),(f,r1)]) l):
  hasBody Tryz.prog 259=true/\CallsTo Tryz.prog B.G 259 l (.val (enc (.tup (.cons (.int .i64) (.one (.int .i64)))) (scaledS x i (o*1000000) f r0 r1,(0:Int)))):=by
 refine⟨by kernel_rfl,fun w M vs hM hG T=> ?_⟩;unfold tyBd at Q q;simp only[Can]at Q;obtain⟨c1,l1,rfl,e1,c2,l2,rfl,e2,c3,l3,rfl,e3,c4,rfl,U,es,e4,d⟩:=Q;cases e1;cases e2;cases e3;cases e4
 have F:Can (.one (.sl tyBd)) ([(0,r0),(f,r1)]:List (Int×Int)) [.sl U es]:=by
  unfold tyBd;simp only[Can];exact⟨_,rfl,_,_,rfl,d⟩
 have k:=h.call q F P;unfold CanAll at d;obtain⟨d1,es1,rfl,h1,d⟩:=d;unfold CanAll at d;obtain⟨d2,es2,rfl,h2,d⟩:=d;unfold CanAll at d;subst d;obtain⟨m1,X,a1,n1,rfl,g1,b1,rfl,S⟩:=h1;cases X;cases g1;cases S;obtain⟨m2,W,a2,n2,rfl,g2,b2,rfl,R⟩:=h2;cases W;cases g2;cases R;simp only[RelL]at T;obtain⟨u1,_,rfl,q1,u2,_,rfl,q2,u3,_,rfl,q3,v4,_,rfl,I,rfl⟩:=T;unfold RelC at q1 q2 q3;subst q1 q2 q3;have H:=I;unfold RelC at I;obtain⟨a,n,c,rfl,rfl,_,_,_,_,hE⟩:=I;obtain⟨ad,size,rfl,hb,hMb,hE⟩:=hE (by simp);unfold RelE at hE;obtain⟨⟨v1,p,E,A⟩,hE⟩:=hE;unfold RelE at hE;obtain⟨⟨v2,m,Y,z⟩,-⟩:=hE;simp only[RelC,RelL]at p m;obtain⟨_,rfl,_,_,rfl,rfl,_,_,rfl,rfl,rfl⟩:=p;obtain⟨_,rfl,_,_,rfl,rfl,_,_,rfl,rfl,rfl⟩:=m;have ez:size=2:=E.symm;subst ez;have j:=A 0 (.int .i64 0) rfl;have u:=A 1 (.int .i64 r0) rfl;have t:=z 0 (.int .i64 f) rfl;have r:=z 1 (.int .i64 r1) rfl;obtain⟨b,off,sp⟩:=ad
 cases sp with
 |some s=>exfalso;simp[World.cell?,Addr.add]at j;split at j<;>cases j
 |none=>
  simp only[Addr.add]at j u t r
  have hh:=Tryz.scaled_in x i o f r0 r1 b off c w hi N ho Z hf K J (by simpa using j) (by simpa using u) (by simpa using t) (by simpa using r) (fun V D=>by
   refine(k V M [.slice (some ⟨b,off,none⟩) 2 c] (fun g O=>Nat.lt_of_lt_of_le (hM g O) D.size) (hG.keep D.size (fun g O _=>D.block g O) (fun _ _ h=>h)) (RelL.keep (keeps_below D) _ _ (RelL.cons H RelL.nil))).mono ?_
   rintro e V' ⟨v,rfl,hB,hv⟩
   refine⟨?_,hB⟩;have y:RelC V' M (enc (.int .i64) (0:Int)) v:=hv;simp only[enc,encL,List.headD_cons,RelC]at y
   rw[y])
  refine(callsIn_wide.1 hh).mono ?_
  rintro e w' ⟨rfl,hB⟩
  refine⟨_,rfl,hB, ?_⟩;show RelC w' M (enc (.tup (.cons (.int .i64) (.one (.int .i64)))) (scaledS x i (o*1000000) f r0 r1,(0:Int))) _;simp[enc,encL,RelC,RelL]
theorem band_Scaled_ok{B:TB}{L:List (FuncId×Sig)}{LE:List (FuncId×SigE)}(h:GoodT Tryz.prog B L LE)(q:lookS L 301=some ⟨.one (.sl tyBd),.int .i64,band_Check⟩)
  {x:D (.cons (.int .i64) (.cons (.int .i64) (.cons (.int .i64) (.one (.sl tyBd)))))} {l:List CV} {y:D (.tup (.cons (.int .i64) (.one (.int .i64))))} (g:Can (.cons (.int .i64) (.cons (.int .i64) (.cons (.int .i64) (.one (.sl tyBd))))) x l) (a:band_Scaled x=some y):
  hasBody Tryz.prog 259=true/\CallsTo Tryz.prog B.G 259 l (.val (enc (.tup (.cons (.int .i64) (.one (.int .i64)))) y)):=by
 obtain⟨x,i,o,t⟩:=x;unfold band_Scaled at a;dsimp only at a;split at a
 ·rename_i j r0 f r1
  cases c:band_Check [(j,r0),(f,r1)]with
  |none=>rw[c]at a;cases a
  |some e=>
   rw[c,Option.bind_some]at a;by_cases d:e=0/\j=0/\(1<=i/\i<=o/\o<=400)/\(0<=x/\x<=562949953421312)/\(0<=f/\f<=1099511627776)/\(0<=r0/\r0<=1000000)/\(0<=r1/\r1<=1000000)
   ·rw[if_pos d]at a;obtain⟨v,b,⟨u,s,r⟩,p,n,m,k⟩:=d;rw[v,b]at c;rw[b]at g;rw[<-Option.some.inj a];exact scaled_to h q u s r p n m k c g
   ·rw[if_neg d]at a;cases a
 ·cases a
end WB
