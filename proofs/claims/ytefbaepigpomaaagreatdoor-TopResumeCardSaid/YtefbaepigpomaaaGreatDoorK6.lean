/-
  Own texts. No condition of their own.
-/
import Derived.Test.YtefbaepigpomaaaGreatDoorK5
set_option linter.unusedVariables false
set_option linter.unusedSimpArgs false
open Go.IntKind (i64 u64 u8 u32)
namespace WB
open Go Go.RowKit
def PI:CV->Bool
 | .bool _| .tup []=>true
 |_=>false
def EF:Ob->Bool
 | .miter _ _ _=>true
 |_=>false
structure Kp (st s:St):Prop where
 fix:∀(i:Nat) (c:CV),PI c=true->st.fr i=.c c->s.fr i=.c c
 it:∀id,EF (s.ob id)=true->s.ob id=st.ob id
theorem Kp.refl(st:St):Kp st st:=⟨fun _ _ _ h=>h,fun _ _=>rfl⟩
theorem Kp.trans{s t u:St}(h:Kp s t)(k:Kp t u):Kp s u:=⟨fun i c b d=>k.fix i c b (h.fix i c b d),fun id hi=>by
 have e:=k.it id hi;rw[e]
 exact h.it id (e▸hi)⟩
def AB(le:Do)(st st':St):Prop:=(∀{P:Program} {G:Nat->List CV} {w0:WL} {M0:MM} {n:Nat} {a:Act} {w:World} {z:Cz},w0.le=le->SR P G w0 M0 n st a w z->∃z',SR P G w0 M0 n st' a w z')/\
 Kp st st'
variable {le:Do}
theorem AB.refl(st:St):AB le st st:=⟨fun _ h=>⟨_,h⟩,Kp.refl st⟩
theorem AB.trans{s t u:St}(h:AB le s t)(k:AB le t u):AB le s u:=⟨fun b c=>by
 obtain⟨z',d⟩:=h.1 b c
 exact k.1 b d,h.2.trans k.2⟩
theorem IM{st:St}{ids:List Nat}{i:Nat}{c:CV}(h:st.fr i=.c c):(WB.kill ids st).fr i=.c c:=by
 show AD ids (st.fr i)=_;rw[h];rfl
theorem Oo{fr:Nat->SV}{j i:Nat}{c:CV}{v:SV}(h:fr i=.c c)(b:fr j≠ .c c):ac fr j v i=.c c:=by
 by_cases e:i=j
 ·subst e;exact absurd h b
 ·rw[AL _ _ e];exact h
theorem VF{D:List Nat}{o:Ob}(h:EF (Cp D o)=true):Cp D o=o:=by cases o<;>first|rfl|cases h
theorem GW{st:St}{ids:List Nat}{id:Nat}(h:EF ((WB.kill ids st).ob id)=true):(WB.kill ids st).ob id=st.ob id:=by
 unfold WB.kill at h⊢;simp only at h⊢;split
 ·rename_i b;rw[Ao b]at h;cases h
 ·rename_i b;rw[An b]at h;exact VF h
theorem Fo{ob:Nat->Ob}{j id:Nat}{o:Ob}(b:EF o=false)(h:EF (ac ob j o id)=true):ac ob j o id=ob id:=by
 by_cases e:id=j
 ·subst e;rw[Be,b]at h;cases h
 ·rw[AL _ _ e]
theorem AB.kill(st:St)(ids:List Nat):AB le st (WB.kill ids st):=⟨fun _ h=>⟨_,h.killed ids⟩,fun _ _ _ h=>IM h,fun _ h=>GW h⟩
section
variable {P:Program} {G:Nat->List CV} {w0:WL} {M0:MM} {n:Nat} {st:St} {a:Act} {w:World} {z:Cz}
theorem SR.reslot(h:SR P G w0 M0 n st a w z){i:Nat}{sv:SV}(c:AA w (A3 M0 z st.ob) z st.ob sv (a.tmps.getD i undef)):SR P G w0 M0 n {st with fr:=ac st.fr i sv} a w z:=by
 refine⟨h.size,h.defers,h.below,h.outer,h.nam,h.glob,fun j=> ?_,h.ob,h.lo,h.apart⟩;show AA w _ z st.ob (ac st.fr i sv j) _;by_cases b:j=i
 ·subst b;rw[Be];exact c
 ·rw[AL _ _ b];exact h.fr j
theorem SR.reob(h:SR P G w0 M0 n st a w z){b:Nat}{o:Ob}(y:st.ob b≠ .none)(p:o≠ .none)(d:bA o=true->bA (st.ob b)=true)(u:Bg P w (A3 M0 z st.ob) 0 z st.ob b (z.σ b) o):SR P G w0 M0 n {st with ob:=ac st.ob b o} a w z:=by
 have live:∀id,ac st.ob b o id≠ .none<->st.ob id≠ .none:=by
  intro id;by_cases af:id=b
  ·subst af;simp[Be,y,p]
  ·rw[AL _ _ af]
 have x:∀g,A3 M0 z (ac st.ob b o) g->A3 M0 z st.ob g:=fun g t=>Or.imp id (fun⟨id,k,f⟩=>⟨id,(live id).1 k,f⟩) t;have q:Bu w (A3 M0 z st.ob) w (A3 M0 z (ac st.ob b o)):=⟨Nat.le_refl _,fun _ _ _=>rfl,fun g _ t=>x g t,rfl⟩;have m:∀s,F7 st.ob z (ac st.ob b o) z s:=fun s=>⟨fun id _ c=>(live id).2 c,fun _ _ _=>rfl,fun _ _ _ _ _ c=>c⟩
 have v:Hy w0 M0 n z (ac st.ob b o):=h.nam.of rfl fun N A l=>by
  by_cases e:N=b
  ·subst e;rw[Be]at l;exact⟨d l,rfl⟩
  ·rw[AL _ _ e]at l;exact⟨l,rfl⟩
 refine⟨h.size,h.defers,h.below,h.outer,v,h.glob,fun i=>AA.keep q (m _) (h.fr i),fun id=> ?_,fun id g k f=>h.lo id g ((live id).1 k) f,fun i j g r k f=>h.apart i j g r ((live i).1 k) ((live j).1 f)⟩;show Bg P w _ _ z (ac st.ob b o) id (z.σ id) (ac st.ob b o id);by_cases af:id=b
 ·subst af;rw[Be];exact Bg.keep q (fun _ _=>rfl) (fun _ _ _ _=>m _) (fun _ _ c=>c) u
 ·rw[AL _ _ af];exact Bg.keep q (fun _ _=>rfl) (fun _ _ _ _=>m _) (fun _ _ c=>c) (h.ob id)
def Nl(o:Ob):Prop:=(o≠ .none/\bA o=false/\EF o=false)/\∀(P:Program) (w:World) (M:MM) (z:Cz) (ob:Nat->Ob) (id:Nat),Bg P w M 0 z ob id (.slice none 0 0) o
theorem WH{e size:Nat}:Nl (.arr e size []):=⟨⟨fun h=>(by cases h),rfl,rfl⟩,fun _ _ _ _ _ _=>⟨[],⟨by simp,.inl ⟨rfl,rfl⟩⟩,rfl⟩⟩
theorem Af9{e:Nat}:Nl (.buf e []):=⟨⟨fun h=>(by cases h),rfl,rfl⟩,fun _ _ _ _ _ _=>⟨by simp[Lib.byteCells],.inl ⟨rfl,rfl⟩⟩⟩
theorem SR.newNil(h:SR P G w0 M0 n st a w z){id:Nat}{l:Ob}(A:Nl l)(s:st.ob id=.none):SR P G w0 M0 n {st with ob:=ac st.ob id l} a w (z.new id (.slice none 0 0)):=by
 have x:=MK (M0:=M0) (z:=z) (d:=id) (v:=.slice none 0 0) (o:=l) (w:=w) (w':=w) s (Below.refl _ _) (fun g y=>by cases y)
 have r:Hy w0 M0 n (z.new id (.slice none 0 0)) (ac st.ob id l):=h.nam.of rfl fun N F m=>by
  by_cases c:N=id
  ·subst c;rw[Be,A.1.2.1]at m;cases m
  ·rw[AL _ _ c]at m;exact⟨m,by simp[Cz.new,ac,c]⟩
 refine⟨h.size,h.defers,h.below,h.outer,r,h.glob,fun i=>AA.keep x (Kh s _) (h.fr i),fun i=> ?_,fun i g f e=> ?_,fun i j g u f e q p=> ?_⟩
 ·show Bg P w _ _ _ (ac st.ob id _) i _ (ac st.ob id _ i);by_cases hi:i=id
  ·subst hi;rw[Be];have:(z.new i (.slice none 0 0)).σ i=.slice none 0 0:=by simp[Cz.new,ac]
   rw[this];exact A.2 _ _ _ _ _ _
  ·rw[AL _ _ hi];have D:(z.new id (.slice none 0 0)).σ i=z.σ i:=by simp[Cz.new,ac,hi]
   rw[D];by_cases B:st.ob i=.none
   ·rw[B];trivial
   ·exact Bg.keep x (fun g y=>rfl) (fun _ _ _ _=>Kh s _) (fun k b C=>by simpa[Cz.new,hi]using C) (h.ob i)
 ·by_cases hi:i=id
  ·subst hi;simp only[Cz.new,Be]at e;cases e
  ·simp only[AL _ _ hi]at f;simp only[Cz.new,AL _ _ hi]at e;exact h.lo i g f e
 ·by_cases hi:i=id
  ·subst hi;simp only[Cz.new,Be]at q;cases q
  ·by_cases t:j=id
   ·subst t;simp only[Cz.new,Be]at p;cases p
   ·simp only[AL _ _ hi]at f;simp only[AL _ _ t]at e;simp only[Cz.new,AL _ _ hi]at q;simp only[Cz.new,AL _ _ t]at p;exact h.apart i j g u f e q p
theorem Vx(h:SR P G w0 M0 n st a w z){id et sz:Nat}(L:¬w0.le.I id){es:List CV}(q:st.ob id=.arr et sz es){v:Value}(F:AA w (A3 M0 z st.ob) z st.ob (.osl id) v):RelC w (A3 M0 z (kill [id] st).ob) (.sl none es) v:=by
 have f:∀g,A3 M0 z (kill [id] st).ob g->A3 M0 z st.ob g:=fun g s=>Or.imp _root_.id KI s;have J:Bu w (A3 M0 z st.ob) w (A3 M0 z (kill [id] st).ob):=⟨Nat.le_refl _,fun _ _ _=>rfl,fun g _ s=>f g s,rfl⟩;obtain⟨b,e⟩:=F
 have l:∀g,blk (z.σ id)=some g->¬A3 M0 z (kill [id] st).ob g:=fun g B r=>by
  rcases r with r|⟨id',hl',hb'⟩
  ·exact h.out b B L r
  ·have m:=Gz.1 hl';have d:id≠id':=fun e=>m.1 (by simp[e]);exact h.apart id id' g d b m.2 B hb'
 have A:=h.ob id;rw[q]at A;obtain⟨xs,i,K⟩:=A;unfold RelC;rcases i.2 with⟨p,x⟩|⟨g,cap,y,ty,Q,p,x,C,_,_,S,V,U,R⟩
 ·refine⟨none,0,0,by rw[e,p],x.symm,Nat.le_refl _,(fun c=>by cases c),(fun c=>by cases c),fun _=>rfl,fun d=> ?_⟩;exact absurd (Aw x) d
 ·refine⟨some ⟨g,0,none⟩,es.length,cap,by rw[e,p],rfl,S,(fun c=>by cases c),(fun c=>by cases c),(fun c=>by cases c),fun _=>⟨⟨g,0,none⟩,sz,rfl,C1 C,l g (by rw[p];rfl), ?_⟩⟩;refine F9 fun k T t=> ?_;obtain⟨u,O,N,M⟩:=GE K t;refine⟨u,RelC.keep J _ _ O,N,fun j D H=> ?_⟩;rw[DY,cell_of_row w g _ y ty Q C];have o:=M j D H;rw[<-R,List.getElem?_take]at o;split at o
  ·simpa using o
  ·cases o
theorem Tx{ob:Nat->Ob}{M:MM}:∀{b:List CV} {vs:List Value},AH w M z ob (b.map .c) vs->RelL w M b vs
 | [],vs,h=>h
 |c::b,vs,h=>by
  obtain⟨v,d,rfl,f,e⟩:=h;exact RelL.cons f (Tx e)
theorem Ab2{bt:Option TypeId}(h:SR P G w0 M0 n st a w z){id:Nat}(y:¬w0.le.I id){j:List CV}(k:st.ob id=.box (j.map .c) bt){v:Value}(u:AA w (A3 M0 z st.ob) z st.ob (.ptr id 0) v):RelC w (A3 M0 z (kill [id] st).ob) (.wp j) v:=by
 have d:∀g,A3 M0 z (kill [id] st).ob g->A3 M0 z st.ob g:=fun g o=>Or.imp _root_.id KI o;have x:Bu w (A3 M0 z st.ob) w (A3 M0 z (kill [id] st).ob):=⟨Nat.le_refl _,fun _ _ _=>rfl,fun g _ o=>d g o,rfl⟩;obtain⟨b,r,t,e⟩:=u
 have f:∀g,blk (z.σ id)=some g->¬A3 M0 z (kill [id] st).ob g:=fun g q m=>by
  rcases m with m|⟨id',hl',hb'⟩
  ·exact h.out b q y m
  ·have i:=Gz.1 hl';have l:id≠id':=fun e=>i.1 (by simp[e]);exact h.apart id id' g l b i.2 q hb'
 have p:=h.ob id;rw[k]at p;obtain⟨g,ty,vs,s,B,A⟩:=p;rw[t]at s;cases s;unfold RelC;exact⟨r,ty.1,vs,e,B,f r (by rw[t];rfl),RelL.keep x _ _ (Tx A)⟩
theorem Vy(h:SR P G w0 M0 n st a w z){id:Nat}(K:¬w0.le.I id){mt:TypeId}{kt:KT}{zc:CV}{ks vs:List CV}(l:st.ob id=.map mt kt zc ks vs){v:Value}(F:AA w (A3 M0 z st.ob) z st.ob (.omap id) v):RelC w (A3 M0 z (kill [id] st).ob) (.map none ks vs) v:=by
 have d:∀g,A3 M0 z (kill [id] st).ob g->A3 M0 z st.ob g:=fun g q=>Or.imp _root_.id KI q;have y:Bu w (A3 M0 z st.ob) w (A3 M0 z (kill [id] st).ob):=⟨Nat.le_refl _,fun _ _ _=>rfl,fun g _ q=>d g q,rfl⟩;obtain⟨c,e⟩:=F
 have i:∀g,blk (z.σ id)=some g->¬A3 M0 z (kill [id] st).ob g:=fun g k p=>by
  rcases p with p|⟨id',hl',hb'⟩
  ·exact h.out c k K p
  ·have j:=Gz.1 hl';have m:id≠id':=fun e=>j.1 (by simp[e]);exact h.apart id id' g m c j.2 k hb'
 obtain⟨J,D,C,r,u,x,o,B,f,A,Q,O,N,M,L,_⟩:=IR h l;obtain⟨ens',H,t,s⟩:=X1 o A Q;unfold RelC;refine⟨some r,by rw[e,B],(fun f=>by cases f),(fun f=>by cases f),(fun f=>by cases f),fun b k=> ?_⟩;cases k;exact⟨i r (by rw[B];rfl),u,ens',x,f,⟨QC O A N,M,L⟩,H,RelL.keep y _ _ t,RelL.keep y _ _ s⟩
end
theorem WI{w:World}{M:MM}{v:Value}(h:RelC w M (.sl (some true) []) v):v=.slice none 0 0:=by
 unfold RelC at h;obtain⟨a,m,c,rfl,f,_,e,_,d,_⟩:=h;have:=e rfl;subst this;have b:m=0:=by simpa using f
 subst b;rw[d rfl]
theorem AB.own{st:St}{i id e size:Nat}(hi:st.fr i=.c (.sl (some true) []))(f:st.ob id=.none):AB le st {fr:=ac st.fr i (.osl id),ob:=ac st.ob id (.arr e size [])}:=by
 refine⟨fun{P G w0 M0 n a w z} he h=> ?_,⟨fun k c g b=> ?_,fun k b=> ?_⟩⟩
 ·have j:=h.newNil (WH (e:=e) (size:=size)) f;refine⟨_,j.reslot (i:=i) (sv:=.osl id) ⟨by simp[ac], ?_⟩⟩;have d:=h.fr i;rw[hi]at d;rw[WI d];simp[Cz.new,ac]
 ·exact Oo b (by rw[hi];intro e;cases e;cases g)
 ·exact Fo rfl b
theorem AH.set{P:Program}{w:World}{M:MM}{z:Cz}{ob:Nat->Ob}:∀{cs:List SV} {vs:List Value} (j:Nat) {s:SV},AH w M z ob cs vs->(∀v,vs[j]? =some v->AA w M z ob s v)->AH w M z ob (cs.set j s) vs
 | [],_,_,_,h,_=>by simpa using h
 |c::cs,vs,0,s,h,k=>by
  obtain⟨v,b,rfl,_,d⟩:=h;exact⟨v,b,rfl,k v rfl,d⟩
 |c::cs,vs,j+1,s,h,k=>by
  obtain⟨v,b,rfl,f,d⟩:=h;exact⟨v,b,rfl,f,AH.set (P:=P) j d (fun u e=>k u (by simpa using e))⟩
theorem AB.ownc{bt:Option TypeId}{st:St}{b j id:Nat}{i:Ob}(y:Nl i){cs:List SV}(f:st.ob b=.box cs bt)(I:cs[j]? =some (.c (.sl (some true) [])))(C:st.ob id=.none):AB le st {fr:=st.fr,ob:=ac (ac st.ob id i) b (.box (cs.set j (.osl id)) bt)}:=by
 refine⟨fun{P G w0 M0 n a w z} he h=> ?_,⟨fun k c M t=> ?_,fun k t=> ?_⟩⟩
 ·have d:b≠id:=fun e=>by rw[e,C]at f;cases f
  have F:=h.newNil y C;have B:=F.ob b;simp only[AL _ _ d,f]at B;have m:=h.ob b;rw[f]at m;obtain⟨g,ty,vs,s,q,K⟩:=B;obtain⟨N,x,u,r,p,A⟩:=m;have l:(z.new id (.slice none 0 0)).σ b=z.σ b:=by simp[Cz.new,ac,d]
  rw[l,r]at s;cases s;rw[p]at q;obtain rfl:vs=u:=by simp only[Ac,Obj.cells.injEq,Array.mk.injEq]at q;exact q.1.symm
  refine⟨_,F.reob (b:=b) (o:=.box (cs.set j (.osl id)) bt) ?_ (by simp) (fun _=>by simp only[AL _ _ d,f];rfl) ⟨g,x,vs,by rw[l,r],p,AH.set (P:=P) j K fun v H=>⟨by simp[ac,y.1.1], ?_⟩⟩⟩
  ·simp only[AL _ _ d,f];simp
  ·obtain⟨L,D,J⟩:=AH.get A I;rw[H]at D;cases D;rw[WI J];simp[Cz.new,ac]
 ·exact t
 ·have s:ac (ac st.ob id i) b (.box (cs.set j (.osl id)) bt) k=ac st.ob id i k:=Fo rfl t;have q:EF (ac st.ob id i k)=true:=s▸t;exact s.trans (Fo y.1.2.2 q)
theorem AB.frz{st:St}{i id e size:Nat}{es:List CV}(j:¬le.I id)(hi:st.fr i=.osl id)(g:st.ob id=.arr e size es):AB le st {fr:=ac (WB.kill [id] st).fr i (.c (.sl none es)),ob:=(WB.kill [id] st).ob}:=by
 refine⟨fun{P G w0 M0 n a w z} he h=> ?_,⟨fun k c l b=> ?_,fun k b=> ?_⟩⟩
 ·have d:=h.fr i;rw[hi]at d;exact⟨z,(h.killed [id]).reslot (Vx h (he▸j) g d)⟩
 ·exact Oo (IM b) (by intro e;have f:AD [id] (st.fr i)=.c c:=e;rw[hi]at f;simp[AD]at f)
 ·exact GW b
theorem AB.frzb{bt:Option TypeId}{st:St}{i id:Nat}{b:List CV}(l:¬le.I id)(hi:st.fr i=.ptr id 0)(j:st.ob id=.box (b.map .c) bt):AB le st {fr:=ac (WB.kill [id] st).fr i (.c (.wp b)),ob:=(WB.kill [id] st).ob}:=by
 refine⟨fun{P G w0 M0 n a w z} he h=> ?_,⟨fun k c m d=> ?_,fun k d=> ?_⟩⟩
 ·have f:=h.fr i;rw[hi]at f;exact⟨z,(h.killed [id]).reslot (Ab2 h (he▸l) j f)⟩
 ·exact Oo (IM d) (by intro e;have g:AD [id] (st.fr i)=.c c:=e;rw[hi]at g;simp[AD]at g)
 ·exact GW d
theorem AB.frzm{st:St}{i id:Nat}{mt:TypeId}{kt:KT}{zc:CV}{ks vs:List CV}(j:¬le.I id)(hi:st.fr i=.omap id)(g:st.ob id=.map mt kt zc ks vs):AB le st {fr:=ac (WB.kill [id] st).fr i (.c (.map none ks vs)),ob:=(WB.kill [id] st).ob}:=by
 refine⟨fun{P G w0 M0 n a w z} he h=> ?_,⟨fun k c l b=> ?_,fun k b=> ?_⟩⟩
 ·have d:=h.fr i;rw[hi]at d;exact⟨z,(h.killed [id]).reslot (Vy h (he▸j) g d)⟩
 ·exact Oo (IM b) (by intro e;have f:AD [id] (st.fr i)=.c c:=e;rw[hi]at f;simp[AD]at f)
 ·exact GW b
theorem AB.frzc{bt:Option TypeId}{st:St}{b j id e size:Nat}{cs:List SV}{es:List CV}(F:¬le.I id)(o:st.ob b=.box cs bt)(D:cs[j]? =some (.osl id))(y:st.ob id=.arr e size es):AB le st {fr:=(WB.kill [id] st).fr,ob:=ac (WB.kill [id] st).ob b (.box ((cs.map (AD [id])).set j (.c (.sl none es))) bt)}:=by
 refine⟨fun{P G w0 M0 n a w z} he h=> ?_,⟨fun k c L m=> ?_,fun k m=> ?_⟩⟩
 ·have r:b≠id:=fun e=>by rw[e,y]at o;cases o
  have B:=h.killed [id];have d:(WB.kill [id] st).ob b=.box (cs.map (AD [id])) bt:=by simp[WB.kill,r,o,Cp]
  have u:=B.ob b;rw[d]at u;have x:=h.ob b;rw[o]at x;obtain⟨g,ty,vs,l,t,J⟩:=u;obtain⟨M,q,p,i,f,s⟩:=x;rw[i]at l;cases l;rw[f]at t;obtain rfl:vs=p:=by simp only[Ac,Obj.cells.injEq,Array.mk.injEq]at t;exact t.1.symm
  refine⟨z,B.reob (b:=b) (by rw[d];simp) (by simp) (fun _=>by rw[d];rfl) ⟨g,q,vs,i,f,AH.set (P:=P) j J fun v C=> ?_⟩⟩;obtain⟨K,A,H⟩:=AH.get s D;rw[C]at A;cases A;exact Vx h (he▸F) y H
 ·exact IM m
 ·have l:ac (WB.kill [id] st).ob b (.box ((cs.map (AD [id])).set j (.c (.sl none es))) bt) k=(WB.kill [id] st).ob k:=Fo rfl m;exact l.trans (GW (l▸m))
theorem AB.frzcm{bt:Option TypeId}{st:St}{b j id:Nat}{mt:TypeId}{kt:KT}{zc:CV}{ks d:List CV}{cs:List SV}(H:¬le.I id)(p:st.ob b=.box cs bt)(F:cs[j]? =some (.omap id))(A:st.ob id=.map mt kt zc ks d):AB le st {fr:=(WB.kill [id] st).fr,ob:=ac (WB.kill [id] st).ob b (.box ((cs.map (AD [id])).set j (.c (.map none ks d))) bt)}:=by
 refine⟨fun{P G w0 M0 n a w z} he h=> ?_,⟨fun k c M o=> ?_,fun k o=> ?_⟩⟩
 ·have s:b≠id:=fun e=>by rw[e,A]at p;cases p
  have C:=h.killed [id];have f:(WB.kill [id] st).ob b=.box (cs.map (AD [id])) bt:=by simp[WB.kill,s,p,Cp]
  have x:=C.ob b;rw[f]at x;have y:=h.ob b;rw[p]at y;obtain⟨g,ty,vs,m,u,K⟩:=x;obtain⟨N,r,q,l,i,t⟩:=y;rw[l]at m;cases m;rw[i]at u;obtain rfl:vs=q:=by simp only[Ac,Obj.cells.injEq,Array.mk.injEq]at u;exact u.1.symm
  refine⟨z,C.reob (b:=b) (by rw[f];simp) (by simp) (fun _=>by rw[f];rfl) ⟨g,r,vs,l,i,AH.set (P:=P) j K fun v D=> ?_⟩⟩;obtain⟨L,B,J⟩:=AH.get t F;rw[D]at B;cases B;exact Vy h (he▸H) A J
 ·exact IM o
 ·have m:ac (WB.kill [id] st).ob b (.box ((cs.map (AD [id])).set j (.c (.map none ks d))) bt) k=(WB.kill [id] st).ob k:=Fo rfl o;exact m.trans (GW (m▸o))
theorem AB.seem{bt:Option TypeId}{st:St}{b j N:Nat}{mt:TypeId}{kt:KT}{zc:CV}{ks d:List CV}{cs:List SV}(s:A9<=N)(f:st.ob b=.box cs bt)(r:cs[j]? =some (.c (.nam N)))(l:st.ob N=.map mt kt zc ks d):AB le st {fr:=st.fr,ob:=ac st.ob b (.box (cs.set j (.omap N)) bt)}:=by
 refine⟨fun{P G w0 M0 n a w z} he h=> ?_,⟨fun k c B e=>e,fun k e=>Fo rfl e⟩⟩;have i:=h.ob b;rw[f]at i;obtain⟨g,ty,vs,y,x,o⟩:=i;have q:=h.nam.told N s (by rw[l];rfl);refine⟨z,h.reob (b:=b) (by rw[f];simp) (by simp) (fun _=>by rw[f];rfl) ⟨g,ty,vs,y,x,AH.set (P:=P) j o fun v p=> ?_⟩⟩;obtain⟨A,m,u⟩:=AH.get o r;rw[p]at m;cases m;have t:v=CG N (z.al N):=u;exact⟨by rw[l];simp,by rw[t,q]⟩
theorem AB.unsee{bt:Option TypeId}{st:St}{b j N:Nat}{mt:TypeId}{kt:KT}{zc:CV}{ks d:List CV}{cs:List SV}(s:A9<=N)(f:st.ob b=.box cs bt)(r:cs[j]? =some (.omap N))(q:st.ob N=.map mt kt zc ks d):AB le st {fr:=st.fr,ob:=ac st.ob b (.box (cs.set j (.c (.nam N))) bt)}:=by
 refine⟨fun{P G w0 M0 n a w z} he h=> ?_,⟨fun k c A e=>e,fun k e=>Fo rfl e⟩⟩;have i:=h.ob b;rw[f]at i;obtain⟨g,ty,vs,x,u,m⟩:=i;have p:=h.nam.told N s (by rw[q];rfl);refine⟨z,h.reob (b:=b) (by rw[f];simp) (by simp) (fun _=>by rw[f];rfl) ⟨g,ty,vs,x,u,AH.set (P:=P) j m fun v o=> ?_⟩⟩;obtain⟨y,l,t⟩:=AH.get m r;rw[o]at l;cases l;show v=CG N (z.al N);rw[t.2,p]
def CL(N:Nat):Nat->Bool:=fun b=>b !=N
def dropB(d N:Nat)(ob:Nat->Ob)(id:Nat):Bool:=id==d||id==N||(match ob id with
 | .arr _ _ es=> !AX (CL N) es
 | .map _ _ _ ks vs=> !(AX (CL N) ks&&AX (CL N) vs)
 | .miter _ _ _=>true
 |_=>false)
def Cb(p:Nat->Bool)(N:Nat):SV->SV
 | .c v=>if Br (CL N) v=true then .c v else .undef
 | .stamp id k=>if p id|| !Br (CL N) k then .undef else .stamp id k
 | .ent id k v=>if p id|| !Br (CL N) k|| !Br (CL N) v then .undef else .ent id k v
 |s=>match s.ref with
  |some id=>if p id then .undef else s
  |none=>s
def Er(p:Nat->Bool)(N:Nat):Ob->Ob
 | .box cs bt=>.box (cs.map (Cb p N)) bt
 |o=>o
def tellO(i d N:Nat)(o:Ob)(st:St):St:=
 {fr:=fun j=>if j=i then .c (.nam N)else Cb (dropB d N st.ob) N (st.fr j)
  ob:=fun id=>if id=N then Er (dropB d N st.ob) N o else if dropB d N st.ob id then .none else Er (dropB d N st.ob) N (st.ob id)}
def R4(i d N:Nat)(cs:List SV)(bt:Option TypeId)(st:St):St:=tellO i d N (.box cs bt) st
def TA(d N:Nat)(o:Ob)(rf:SV):Prop:=(∃cs bt,o=.box cs bt/\rf=.ptr d 0/\N % 2=0)\/(∃mt kt zc ks vs,o=.map mt kt zc ks vs/\rf=.omap d/\N % 2=1/\AX (CL N) ks=true/\AX (CL N) vs=true)
section
variable {P:Program} {G:Nat->List CV} {w0:WL} {M0:MM} {n:Nat} {st:St} {a:Act} {w:World} {z:Cz}
theorem Aar{d N:Nat}{ob:Nat->Ob}{id:Nat}(h:dropB d N ob id=false):id≠d/\id≠N:=by
 simp only[dropB,Bool.or_eq_false_iff,beq_eq_false_iff_ne]at h;exact h.1
theorem SR.tell(h:SR P G w0 M0 n st a w z){i d N:Nat}{o:Ob}{rf:SV}(hd:d<A9)(hN:A9<=N)(hT:¬w0.le.T N)(hI:¬w0.le.I d)(hi:st.fr i=rf)(hob:st.ob d=o)(hko:TA d N o rf):
  ∃z',SR P G w0 M0 n (tellO i d N o st) a w z':=by
 have ho:=h.ob d;rw[hob]at ho;have hri:=h.fr i;rw[hi]at hri
 obtain⟨g,W,hblk,D,hval⟩:∃g,z.σ d=CG N g/\blk (z.σ d)=some g/\st.ob d≠ .none/\a.tmps.getD i undef=z.σ d:=by
  rcases hko with⟨cs,bt,rfl,rfl,hev⟩|⟨mt,kt,zc,ks,vs,rfl,rfl,hev,_,_⟩
  ·obtain⟨g,ty,vs,W,e2,e3⟩:=ho;obtain⟨_,g2,q1,q2⟩:=hri;refine⟨g,by rw[QU hev];exact W,by rw[W];rfl,by rw[hob];simp, ?_⟩;rw[W]at q1⊢;cases q1;exact q2
  ·obtain⟨_,X,J,r,Y,Z,_,W,_⟩:=ho;exact⟨r,by rw[Ahe hev];exact W,by rw[W];rfl,by rw[hob];simp,hri.2⟩
 have hnmo:bA o=true:=by rcases hko with⟨cs,bt,rfl,_⟩|⟨mt,kt,zc,ks,vs,rfl,_⟩<;>rfl
 have hdN:d≠N:=by omega
 generalize hp:dropB d N st.ob=p;have pd:∀id,p id=false->id≠d/\id≠N:=fun id F=>Aar (hp▸F);let z':Cz:={σ:=ac z.σ N (z.σ d),β:=fun id=>if id=N then fun _ _=>False else z.β id,al:=ac z.al N g};have O:z'.σ N=z.σ d:=Be _ _ _;have m:∀id,id≠N->z'.σ id=z.σ id:=fun id af=>AL _ _ af;have βne:∀id,id≠N->z'.β id=z.β id:=fun id af=>by show(if id=N then _ else _)=_;rw[An af]
 have obN:(tellO i d N o st).ob N=Er p N o:=by simp[tellO,hp]
 have M:∀id,id≠N->(tellO i d N o st).ob id=if p id then .none else Er p N (st.ob id):=fun id af=>by simp[tellO,hp,af]
 have C:∀o,Er p N o≠ .none<->o≠ .none:=fun o=>by cases o<;>simp[Er]
 have q:∀id,id≠N->(tellO i d N o st).ob id≠ .none->p id=false/\st.ob id≠ .none:=fun id af x=>by
  rw[M id af]at x
  cases t:p id with
  |true=>rw[t]at x;exact absurd rfl x
  |false=>
   rw[t]at x;exact⟨rfl,(C _).1 (by simpa using x)⟩
 have liveO:∀id,p id=false->st.ob id≠ .none->(tellO i d N o st).ob id≠ .none:=fun id t x=>by
  rw[M id (pd id t).2,t];simpa using(C _).2 x
 have hless:∀R,A3 M0 z' (tellO i d N o st).ob R->A3 M0 z st.ob R:=fun R hg=>by
  rcases hg with hg|⟨id,F,y⟩
  ·exact .inl hg
  ·by_cases af:id=N
   ·subst af;rw[O]at y;exact .inr ⟨d,D,y⟩
   ·rw[m id af]at y;exact .inr ⟨id,(q id af F).2,y⟩
 have hk:Gf (CL N) w (A3 M0 z st.ob) w (A3 M0 z' (tellO i d N o st).ob):=⟨Nat.le_refl _,fun _ _ _=>rfl,fun R _ hg=>hless R hg,fun H Q=>by
  have:H≠N:=by simpa[CL]using Q
  exact AL _ _ this⟩
 have hs:∀{s:SV} {v:Value},AA w (A3 M0 z st.ob) z st.ob s v->AA w (A3 M0 z' (tellO i d N o st).ob) z' (tellO i d N o st).ob (Cb p N s) v:=by
  intro s v S;have L:∀id,p id=false->st.ob id≠ .none->(tellO i d N o st).ob id≠ .none/\z'.σ id=z.σ id/\z'.β id=z.β id:=fun id t x=>⟨liveO id t x,m id (pd id t).2,βne id (pd id t).2⟩
  cases s with
  |c cv=>
   simp only[Cb];split
   ·rename_i hn;exact RelC.named hk cv v hn S
   ·trivial
  |undef=>trivial
  |stamp id k=>
   simp only[Cb];split
   ·trivial
   ·rename_i f;simp only[Ak,not_or,Bool.not_eq_true,Bool.not_eq_true']at f;obtain⟨x,b,F,y⟩:=S;obtain⟨q1,_,q3⟩:=L id f.1 x;exact⟨q1,b,by rw[q3];exact F,y⟩
  |ent id k u=>
   simp only[Cb];split
   ·trivial
   ·rename_i f;simp only[Ak,not_or,Bool.not_eq_true,Bool.not_eq_true']at f;obtain⟨x,b,uv,F,y,h3⟩:=S;obtain⟨q1,_,q3⟩:=L id f.1.1 x;exact⟨q1,b,uv,by rw[q3];exact F,y,RelC.named hk u uv (by simpa using f.2) h3⟩
  |ptr id o=>
   simp only[Cb,SV.ref];split
   ·trivial
   ·rename_i f;obtain⟨x,gg,F,y⟩:=S;obtain⟨q1,q2,_⟩:=L id (by simpa using f) x;exact⟨q1,gg,q2.trans F,y⟩
  |eptr id k sz o=>
   simp only[Cb,SV.ref];split
   ·trivial
   ·rename_i f;obtain⟨x,gg,nn,c,F,y⟩:=S;obtain⟨q1,q2,_⟩:=L id (by simpa using f) x;exact⟨q1,gg,nn,c,q2.trans F,y⟩
  |osl id=>
   simp only[Cb,SV.ref];split
   ·trivial
   ·rename_i f;obtain⟨q1,q2,_⟩:=L id (by simpa using f) S.1;exact⟨q1,S.2.trans q2.symm⟩
  |omap id=>
   simp only[Cb,SV.ref];split
   ·trivial
   ·rename_i f;obtain⟨q1,q2,_⟩:=L id (by simpa using f) S.1;exact⟨q1,S.2.trans q2.symm⟩
  |iter id=>
   simp only[Cb,SV.ref];split
   ·trivial
   ·rename_i f;obtain⟨q1,q2,_⟩:=L id (by simpa using f) S.1;exact⟨q1,S.2.trans q2.symm⟩
 have hss:∀(l:List SV) vs,AH w (A3 M0 z st.ob) z st.ob l vs->AH w (A3 M0 z' (tellO i d N o st).ob) z' (tellO i d N o st).ob (l.map (Cb p N)) vs:=by
  intro l
  induction l with
  |nil=>intro vs hh;exact hh
  |cons c l ih=>
   intro vs hh;obtain⟨v,J,e,F,y⟩:=hh;exact⟨v,J,e,hs F,ih J y⟩
 refine⟨z',h.size,h.defers,h.below,h.outer,⟨h.nam.lent,fun H Q f=> ?_,fun H Q=> ?_,h.nam.low⟩,h.glob,fun j=> ?_,fun id=> ?_,fun id R F y=> ?_,fun k j R hij F y h3 h4=> ?_⟩
 ·by_cases af:H=N
  ·subst af;rw[O,W];show _=CG H (ac z.al H g H);rw[Be]
  ·rw[M H af]at f;rw[m H af];show _=CG H (ac z.al N g H);rw[AL _ _ af];split at f
   ·cases f
   ·exact h.nam.told H Q (by cases ho':st.ob H<;>rw[ho']at f<;>first|rfl|cases f)
 ·show ac z.al N g H=_;have hne:H≠N:=fun e=>hT (by rw[<-e];exact Q);rw[AL _ _ hne];exact h.nam.names H Q
 ·show AA w _ z' _ (if j=i then .c (.nam N)else Cb (dropB d N st.ob) N (st.fr j)) _;rw[hp];by_cases hji:j=i
  ·subst hji;rw[Ao rfl];show RelC w (A3 M0 z' (tellO j d N o st).ob) (.nam N) _;unfold RelC;rw[hval,W];show _=CG N (ac z.al N g N);rw[Be]
  ·rw[An hji];exact hs (h.fr j)
 ·by_cases af:id=N
  ·subst af;rw[obN,O];rcases hko with⟨cs,bt,rfl,_,_⟩|⟨mt,kt,zc,ks,vs,rfl,_,_,U⟩
   ·obtain⟨g,ty,vs,W,e2,e3⟩:=ho;exact⟨g,ty,vs,W,e2,hss cs vs e3⟩
   ·obtain⟨hmt,X,J,r,Y,Z,K,e,g1,g2,g3,g4,g5,g6,g7,g8⟩:=ho;refine⟨hmt,X,J,r,Y,Z,K,e,g1,RelL.named hk _ _ (E0.2 fun c f=>E0.1 U.1 c (K.ks.mem_iff.1 f)) g2,RelL.named hk _ _ (E0.2 fun c f=>E0.1 U.2 c (K.vs.mem_iff.1 f)) g3,g4,g5,g6,g7, ?_⟩;intro k b hb;have hb':(if id=id then fun _ _=>False else z.β id) k b:=hb;rw[Ao rfl]at hb';exact hb'.elim
  ·rw[M id af,m id af]
   cases t:p id with
   |true=>simp only[if_true];trivial
   |false=>
    simp only[Ah,if_false];have A:=h.ob id;have hdp:dropB d N st.ob id=false:=by rw[hp];exact t
    simp only[dropB,Bool.or_eq_false_iff]at hdp;have U:=hdp.2
    cases B:st.ob id with
    |none=>trivial
    |box l=>
     rw[B]at A;obtain⟨g3,ty3,vs3,q1,q2,q3⟩:=A;exact⟨g3,ty3,vs3,q1,q2,hss l vs3 q3⟩
    |arr e size es=>
     rw[B]at A U;obtain⟨xs,q1,q2⟩:=A;exact⟨xs,q1,AU.named hk (by simpa using U) q2⟩
    |map mt kt zc ks vs=>
     rw[B]at A U;simp only[Bool.not_eq_false',Ag]at U;obtain⟨hmt,X,J,r,Y,Z,K,e,g1,g2,g3,g4,g5,g6,g7,g8⟩:=A;refine⟨hmt,X,J,r,Y,Z,K,e,g1,RelL.named hk _ _ (E0.2 fun c f=>E0.1 U.1 c (K.ks.mem_iff.1 f)) g2,RelL.named hk _ _ (E0.2 fun c f=>E0.1 U.2 c (K.vs.mem_iff.1 f)) g3,g4,g5,g6,g7,fun k b hb=>g8 k b ?_⟩;rw[βne id af]at hb;exact hb
    |siter s bj=>rw[B]at A;exact A
    |miter ks vs cur=>rw[B]at U;cases U
    |buf e s=>rw[B]at A;exact A
 ·by_cases af:id=N
  ·subst af;rw[O]at y;have:=h.lo d R D y;refine⟨this.1.elim .inl fun hL=>absurd (h.nam.lent _ _ hL).2 hI,this.2⟩
  ·rw[m id af]at y;exact h.lo id R (q id af F).2 y
 ·by_cases V:k=N
  ·subst V;have hj:j≠k:=fun e=>hij e.symm;rw[O]at h3;rw[m j hj]at h4;have x:=q j hj y;exact h.apart d j R (fun e=>(pd j x.1).1 e.symm) D x.2 h3 h4
  ·by_cases hj:j=N
   ·subst hj;rw[O]at h4;rw[m k V]at h3;have x:=q k V F;exact h.apart k d R (pd k x.1).1 x.2 D h3 h4
   ·rw[m k V]at h3;rw[m j hj]at h4;exact h.apart k j R hij (q k V F).2 (q j hj y).2 h3 h4
end
theorem AB.tellO{le:Do}{st:St}{i d N:Nat}{o:Ob}{rf:SV}(t:d<A9)(u:A9<=N)(hT:¬le.T N)(v:¬le.I d)(hi:st.fr i=rf)(p:st.ob d=o)(b:TA d N o rf):AB le st (tellO i d N o st):=by
 have s:EF o=false:=by rcases b with⟨cs,bt,rfl,_⟩|⟨mt,kt,zc,ks,vs,rfl,_⟩<;>rfl
 have g:EF (Er (dropB d N st.ob) N o)=false:=by rcases b with⟨cs,bt,rfl,_⟩|⟨mt,kt,zc,ks,vs,rfl,_⟩<;>rfl
 have m:∀c,rf≠ .c c:=by rcases b with⟨cs,bt,_,rfl,_⟩|⟨mt,kt,zc,ks,vs,_,rfl,_⟩<;>(intro c e;cases e)
 refine⟨fun{P G w0 M0 n a w z} he h=> ?_,⟨fun k c q j=> ?_,fun k j=> ?_⟩⟩
 ·subst he;exact h.tell t u hT v hi p b
 ·show(if k=i then _ else Cb (dropB d N st.ob) N (st.fr k))=_;rw[An (by intro e;subst e;rw[hi]at j;exact m _ j),j];cases c<;>first|rfl|cases q|(rename_i l;cases l<;>first|rfl|cases q)
 ·have f:EF (if k=N then Er (dropB d N st.ob) N o else if dropB d N st.ob k then .none else Er (dropB d N st.ob) N (st.ob k))=true:=j;show(if k=N then Er (dropB d N st.ob) N o else if dropB d N st.ob k then .none else Er (dropB d N st.ob) N (st.ob k))=st.ob k;split at f
  ·rw[g]at f;cases f
  ·split at f
   ·cases f
   ·rename_i y x;rw[An y,An x];cases r:st.ob k<;>rw[r]at f<;>first|rfl|cases f
theorem AB.tell{bt:Option TypeId}{le:Do}{st:St}{i d N:Nat}{cs:List SV}(e:d<A9)(f:A9<=N)(c:N % 2=0)(hT:¬le.T N)(g:¬le.I d)(hi:st.fr i=.ptr d 0)(b:st.ob d=.box cs bt):AB le st (R4 i d N cs bt st):=
 AB.tellO e f hT g hi b (.inl ⟨cs,bt,rfl,rfl,c⟩)
variable {le:Do}
def EJ(le:Do)(E:ah):List SL->(St->Prop)->St->Prop
 | [],Q,st=>∃s,AB le st s/\Q s
 |l::ls,Q,st=>∃s,AB le st s/\∃s',A6 E none l s=some s'/\EJ le E ls Q s'
theorem XD{E:ah}:∀{ls:List SL} {Q:St->Prop} {st st':St},Cn E none ls st=some st'->Q st'->EJ le E ls Q st
 | [],Q,st,st',h,hq=>by cases h;exact⟨_,AB.refl _,hq⟩
 |l::ls,Q,st,st',h,hq=>by
  simp only[Cn]at h;obtain⟨s,c,b⟩:=Ab.1 h;exact⟨st,AB.refl st,s,c,XD b hq⟩
theorem La{E:ah}:∀{ls:List SL} {Q b:St->Prop} {st:St},(∀s,Q s->b s)->EJ le E ls Q st->EJ le E ls b st
 | [],_,_,_,h,⟨s,h1,h2⟩=>⟨s,h1,h s h2⟩
 |_::_,_,_,_,h,⟨s,h1,s',h2,h3⟩=>⟨s,h1,s',h2,La h h3⟩
theorem Ahn{E:ah}{ls:List SL}{Q:St->Prop}{st s:St}(h:AB le st s)(d:EJ le E ls Q s):EJ le E ls Q st:=by
 cases ls with
 |nil=>obtain⟨s',c,b⟩:=d;exact⟨s',h.trans c,b⟩
 |cons l ls=>obtain⟨s',c,b⟩:=d;exact⟨s',h.trans c,b⟩
def CN(le:Do)(E:ah):Cx->(Ex->St->Prop)->St->Prop
 | .skip,Q,st=>∃s,AB le st s/\Q .normal s
 | .reg true D ls,Q,st=>∃s,AB le st s/\∃st',Co E true D ls s=some st'/\∃f,AB le st' f/\Q .normal f
 | .reg false D ls,Q,st=>∃s,AB le st s/\EJ le E ls (Q .normal) (if D.isEmpty then s else kill D s)
 | .regE D ls,Q,st=>∃s,AB le st s/\∃st',(Co E true D ls s=some st'\/IB E D ls s=some st')/\Q .normal st'
 | .regW ls,Q,st=>∃s,AB le st s/\bz E (.regW ls) Q s
 | .mnext it d ok,Q,st=>∃s,AB le st s/\bz E (.mnext it d ok) Q s
 | .seq a b,Q,st=>∃s,AB le st s/\CN le E a (fun e s'=>match e with| .normal=>CN le E b Q s'|e=>Q e s') s
 | .cond c x y,Q,st=>∃s,AB le st s/\∃b,so E.G s.fr c=.c (.bool b)/\(b=true->CN le E x Q s)/\(b=false->CN le E y Q s)
 | .block id c,Q,st=>∃s,AB le st s/\CN le E c (fun e s'=>match e with| .exit i=>if i=id then Q .normal s' else Q (.exit i) s'|e=>Q e s') s
 | .loop c,Q,st=>∃s,AB le st s/\∃(R:Nat->St->Prop),(∃m,R m s)/\∀m s,R m s->CN le E c (fun e s'=>match e with| .normal=>∃k,k<m/\R k s'|e=>Q e s') s
 | .exit id,Q,st=>∃s,AB le st s/\Q (.exit id) s
 | .ret,Q,st=>∃s,AB le st s/\Q .ret s
 | .bad,_,_=>False
theorem Xw{E:ah}{c:Cx}{Q:Ex->St->Prop}{st s:St}(h:AB le st s)(b:CN le E c Q s):CN le E c Q st:=by
 cases c
 case reg draw D ls=>
  cases draw<;>(obtain⟨s',e,d⟩:=b;exact⟨s',h.trans e,d⟩)
 all_goals first|(exact b.elim)|(obtain⟨s',e,d⟩:=b;exact⟨s',h.trans e,d⟩)
theorem Xt{E:ah}{draw:Bool}{D:List Nat}{ls:List SL}{Q:Ex->St->Prop}{st st':St}(h:Co E draw D ls st=some st')(b:Q .normal st'):CN le E (.reg draw D ls) Q st:=by
 cases draw with
 |true=>exact⟨st,AB.refl st,st',h,st',AB.refl st',b⟩
 |false=>exact⟨st,AB.refl st,XD (by simpa[Co]using h) b⟩
theorem CT{E:ah}:∀(c:Cx) {Q f:Ex->St->Prop} {st:St},(∀e s,Q e s->f e s)->CN le E c Q st->CN le E c f st
 | .skip,Q,f,st,h,⟨s,d,hp⟩=>⟨s,d,h _ _ hp⟩
 | .reg true _ _,Q,f,st,h,⟨s,d,s',h1,s2,hs2,h2⟩=>⟨s,d,s',h1,s2,hs2,h _ _ h2⟩
 | .reg false _ _,Q,f,st,h,⟨s,d,h1⟩=>⟨s,d,La (h .normal) h1⟩
 | .regE _ _,Q,f,st,h,⟨s,d,s',h1,h2⟩=>⟨s,d,s',h1,h _ _ h2⟩
 | .regW _,Q,f,st,h,⟨s,d,h1⟩=>⟨s,d,Hi _ h h1⟩
 | .mnext _ _ _,Q,f,st,h,⟨s,d,h1⟩=>⟨s,d,Hi _ h h1⟩
 | .seq a b,Q,f,st,h,⟨s,d,hp⟩=>by
  refine⟨s,d,CT a (fun e s d=> ?_) hp⟩
  cases e with
  |normal=>exact CT b h d
  |exit i=>exact h _ _ d
  |ret=>exact h _ _ d
 | .cond c x y,Q,f,st,h,⟨s,d,b,h1,h2,h3⟩=>⟨s,d,b,h1,fun j=>CT x h (h2 j),fun j=>CT y h (h3 j)⟩
 | .block id c,Q,f,st,h,⟨s,d,hp⟩=>by
  refine⟨s,d,CT c (fun e s d=> ?_) hp⟩
  cases e with
  |normal=>exact h _ _ d
  |exit i=>
   simp only at d⊢;split<;>rename_i hi
   ·rw[Ao hi]at d;exact h _ _ d
   ·rw[An hi]at d;exact h _ _ d
  |ret=>exact h _ _ d
 | .loop c,Q,f,st,h,⟨s,d,R,h1,h2⟩=>by
  refine⟨s,d,R,h1,fun m s d=>CT c (fun e s' g=> ?_) (h2 m s d)⟩
  cases e with
  |normal=>exact g
  |exit i=>exact h _ _ g
  |ret=>exact h _ _ g
 | .exit i,Q,f,st,h,⟨s,d,hp⟩=>⟨s,d,h _ _ hp⟩
 | .ret,Q,f,st,h,⟨s,d,hp⟩=>⟨s,d,h _ _ hp⟩
 | .bad,Q,f,st,h,hp=>hp.elim
section
variable {P:Program} {E:ah} {w0:WL} {M0:MM} {n:Nat}
theorem Rc(hE:aV P E)(c:w0.le=le){b:Array Oper}{all:List SL}(f:A5 (Dg P n b) b.toList=some all){Q:St->Prop}{K:Exit->Act->World->Prop}(p:∀s a w z,Q s->SR P E.G w0 M0 n s a w z->K .normal a w):∀{ls pre:List SL} {st:St} {a:Act} {w:World} {z:Cz},all=pre++ls->SR P E.G w0 M0 n st a w z->EJ le E ls Q st->wpOps P b K (List.range' pre.length ls.length) a w
 | [],pre,st,a,w,z,he,h,hr=>by
  obtain⟨s,i,g⟩:=hr;obtain⟨z',j⟩:=i.1 c h;exact p _ _ _ _ g j
 |l::ls,pre,st,a,w,z,he,h,hr=>by
  obtain⟨s,i,s',g,t⟩:=hr;obtain⟨z',j⟩:=i.1 c h;have d:=DF f;have o:all[pre.length]? =some l:=by rw[he];simp
  have hi:pre.length<b.toList.length:=by rw[<-d];exact(Af.1 o).1
  have m:b.toList[pre.length]? =some (b.toList[pre.length]):=Aj hi;obtain⟨l',k,u⟩:=Jz f m;rw[o]at k;simp only[Ac]at k;subst k;have e:b[pre.length]? =some (b.toList[pre.length]):=by rw[<-Array.getElem?_toList];exact m
  rw[Au,List.range'_succ];refine M6 hE j e u g fun v w' q r=> ?_;have:=Rc hE c f p (ls:=ls) (pre:=pre++ [l]) (by rw[he];simp) r t;simpa using this
theorem Gq(hE:aV P E)(f:w0.le=le):∀(c:Code) {A:Cx} {Q:Ex->St->Prop} {st:St} {a:Act} {w:World} {z:Cz},BZ P n c=some A->SR P E.G w0 M0 n st a w z->CN le E A Q st->c.wp P (GD P E w0 M0 n Q) a w
 | .skip,A,Q,st,a,w,z,hc,h,g=>by
  simp only[BZ,Ac]at hc;subst hc;obtain⟨s,r,g⟩:=g;obtain⟨z',q⟩:=r.1 f h;exact wp_skip ⟨.normal,s,z',rfl,g,q⟩
 | .region id ops draw,A,Q,st,a,w,z,hc,h,g=>by
  simp only[BZ]at hc;split at hc
  ·rename_i p hn;cases hc;obtain⟨s,r,g⟩:=g;obtain⟨z',q⟩:=r.1 f h
   cases draw with
   |true=>cases hn
   |false=>exact W6 hE hn q g
  have o:=hc;simp only[JL]at o
  have:A=.bad\/(∃dr D l,A=.reg dr D l)\/(∃D l,A=.regE D l)\/(∃l,A=.regW l)\/(∃ls,A5 (Dg P n ops) ops.toList=some ls/\draw=true/\U5 P ops ls=some A)\/∃ls,A5 (Dg P n ops) ops.toList=some ls/\draw=true/\Kk P ops ls=some A:=by
   split at o
   ·rename_i ls B;split at o
    ·rename_i L;split at o
     ·rename_i O d;cases o;exact .inr (.inr (.inr (.inr (.inl ⟨ls,B,L,d⟩))))
     split at o
     ·rename_i O d;cases o;exact .inr (.inr (.inr (.inr (.inr ⟨ls,B,L,d⟩))))
     split at o
     ·cases o;exact .inr (.inr (.inl ⟨_,_,rfl⟩))
     ·split at o
      ·cases o;exact .inr (.inl ⟨_,_,_,rfl⟩)
      ·split at o
       ·cases o;exact .inr (.inl ⟨_,_,_,rfl⟩)
       ·split at o
        ·cases o;exact .inr (.inr (.inr (.inl ⟨_,rfl⟩)))
        ·cases o;exact .inl rfl
    ·cases o;exact .inr (.inl ⟨_,_,_,rfl⟩)
   ·cases o;exact .inl rfl
  rcases this with rfl|⟨dr,D,l,rfl⟩|⟨D,l,rfl⟩|⟨l,rfl⟩|⟨ls,B,rfl,d⟩|⟨ls,B,rfl,d⟩
  ·exact g.elim
  case inr.inr.inr.inr.inr=>
   unfold Kk at d;split at d<;>(try cases d;done);rename_i hd;cases d;obtain⟨s,r,s1,U,st1,F,s1',J,Y,I,Z⟩:=g;unfold Co at F;simp only[if_true]at F;obtain⟨z1,W⟩:=r.1 f h;obtain⟨z2,V⟩:=U.1 f W
   have start:∀(D:List Nat) {s:St} {a:Act} {w:World} {z:Cz},SR P E.G w0 M0 n s a w z->∃z',SR P E.G w0 M0 n (if D.isEmpty then s else kill D s) a w z':=fun D {s a w z} v=>by
    split
    ·exact⟨z,v⟩
    ·exact⟨z,v.killed _⟩
   obtain⟨X,h3⟩:=start (Ed (ls.take (ls.length-1))) V;refine VZ hE B hd.2 h3 F fun N w' C H=> ?_;obtain⟨z4,h4⟩:=(J.trans I).1 f H;obtain⟨z5,h5⟩:=start (Fx P (ops.toList.drop (ls.length-1)) (ls.drop (ls.length-1))) h4;exact Rc hE f B (fun s' N w' X u v=>⟨.normal,s',X,rfl,u,v⟩) (pre:=ls.take (ls.length-1)) (List.take_append_drop _ _).symm h5 Z
  case inr.inr.inr.inr.inl=>
   obtain⟨c,_,d⟩:=Ab.1 d;split at d<;>(try cases d;done);rename_i hd;cases d;obtain⟨s,r,s1,U,st1,F,s1',J,Y,I,st3,T,s4,hs4,u⟩:=g;unfold Co at F T;simp only[if_true]at F T;obtain⟨z1,W⟩:=r.1 f h;obtain⟨z2,V⟩:=U.1 f W
   have start:∀{s:St} {a:Act} {w:World} {z:Cz},SR P E.G w0 M0 n s a w z->∃z',SR P E.G w0 M0 n (if(Ed ls).isEmpty then s else kill (Ed ls) s) a w z':=fun{s a w z} v=>by
    split
    ·exact⟨z,v⟩
    ·exact⟨z,v.killed _⟩
   obtain⟨X,h3⟩:=start V;refine U6 hE B hd.1 hd.2 h3 F fun N w' C H=> ?_;obtain⟨z4,h4⟩:=(J.trans I).1 f H;obtain⟨z5,h5⟩:=start h4;exact⟨_,z5,st3,h5,T,fun a'' w'' z6 hS6=>let⟨z7,h7⟩:=hs4.1 f hS6;⟨.normal,s4,z7,rfl,u,h7⟩⟩
  case inr.inr.inl=>
   obtain⟨s,r,g⟩:=g;obtain⟨z',q⟩:=r.1 f h;exact N9 hE hc q g
  case inr.inr.inr.inl=>
   obtain⟨s,r,g⟩:=g;obtain⟨z',q⟩:=r.1 f h;exact N9 hE hc q g
  cases dr with
  |true=>
   obtain⟨s,r,st',W,Y,I,V⟩:=g;obtain⟨z',q⟩:=r.1 f h;refine wp_mono (N9 hE hc q (Q:=fun e t=>∃Y,AB le t Y/\Q e Y) ⟨st',W,Y,I,V⟩) fun e N w' j=> ?_;obtain⟨M,t,X,K,⟨s3,hs3,u⟩,v⟩:=j;obtain⟨z4,hS4⟩:=hs3.1 f v;exact⟨M,s3,z4,K,u,hS4⟩
  |false=>
   obtain⟨s,r,g⟩:=g;obtain⟨z',q⟩:=r.1 f h;simp only[JL]at hc;split at hc
   case h_2=>cases hc
   rename_i ls B;split at hc
   ·split at hc
    ·rename_i O d;obtain⟨c,_,d⟩:=Ab.1 d;split at d<;>(try cases d;done);cases d;cases hc
    split at hc
    ·rename_i O d;unfold Kk at d;split at d<;>(try cases d;done);cases d;cases hc
    split at hc
    ·cases hc
    ·split at hc
     ·cases hc
     ·split at hc
      ·cases hc
      ·split at hc<;>cases hc
   ·cases hc
    have start:∃C,SR P E.G w0 M0 n (if(Fx P ops.toList l).isEmpty then s else kill (Fx P ops.toList l) s) a w C:=by
     split
     ·exact⟨z',q⟩
     ·exact⟨z',q.killed _⟩
    obtain⟨C,h''⟩:=start;have L:draw=false:=by simpa using ‹¬draw=true›
    subst L;refine wp_region ?_;have hlen:=DF B;rw[List.range_eq_range',<-Array.length_toList,<-hlen];exact Rc hE f B (fun s' N w' X u v=>⟨.normal,s',X,rfl,u,v⟩) (pre:= []) rfl h'' g
 | .seq x y,A,Q,st,a,w,z,hc,h,g=>by
  simp only[BZ,Ab,Aa]at hc;obtain⟨sx,S,sy,hy,rfl⟩:=hc;obtain⟨s,r,g⟩:=g;obtain⟨z',q⟩:=r.1 f h;refine wp_seq (wp_mono (Gq hE f x S q g) fun e N w' j=> ?_);obtain⟨M,st',z',K,u,v⟩:=j;subst K
  cases M with
  |normal=>exact Gq hE f y hy v u
  |exit i=>exact⟨.exit i,st',z',rfl,u,v⟩
  |ret=>exact⟨.ret,st',z',rfl,u,v⟩
 | .cond c x y,A,Q,st,a,w,z,hc,h,g=>by
  simp only[BZ,Ab,Aa]at hc;obtain⟨so',hso,sx,S,sy,hy,rfl⟩:=hc;obtain⟨s,r,b,W,V,h3⟩:=g;obtain⟨z',q⟩:=r.1 f h;have hr:=q.ctx.c hso W;have hb:=Ee hr;exact wp_cond_split hb (fun hh=>Gq hE f x S q (V hh)) (fun hh=>Gq hE f y hy q (h3 hh))
 | .block id c,A,Q,st,a,w,z,hc,h,g=>by
  simp only[BZ,Aa]at hc;obtain⟨sx,S,rfl⟩:=hc;obtain⟨s,r,g⟩:=g;obtain⟨z',q⟩:=r.1 f h;refine wp_block (wp_mono (Gq hE f c S q g) fun e N w' j=> ?_);obtain⟨M,st',z',K,u,v⟩:=j;subst K
  cases M with
  |normal=>exact⟨.normal,st',z',rfl,u,v⟩
  |exit i=>
   simp only at u;show(if i=id then _ else _);split at u
   ·rename_i hi;rw[Ao hi];exact⟨.normal,st',z',rfl,u,v⟩
   ·rename_i hi;rw[An hi];exact⟨.exit i,st',z',rfl,u,v⟩
  |ret=>exact⟨.ret,st',z',rfl,u,v⟩
 | .loop c,A,Q,st,a,w,z,hc,h,g=>by
  simp only[BZ,Aa]at hc;obtain⟨sx,S,rfl⟩:=hc;obtain⟨s0,hs0,R,⟨m,hm⟩,hr⟩:=g;obtain⟨z0',q⟩:=hs0.1 f h;refine wp_loop_ghost (fun k a w=>∃s z,R k s/\SR P E.G w0 M0 n s a w z) m ⟨s0,z0',hm,q⟩ fun k N w' hI=> ?_;obtain⟨s,z',hR,v⟩:=hI;refine wp_mono (Gq hE f c S v (hr k s hR)) fun e a'' w'' j=> ?_;obtain⟨M,st',C,K,u,H⟩:=j;subst K
  cases M with
  |normal=>
   obtain⟨k',hk',hR'⟩:=u;exact⟨k',hk',st',C,hR',H⟩
  |exit i=>exact⟨.exit i,st',C,rfl,u,H⟩
  |ret=>exact⟨.ret,st',C,rfl,u,H⟩
 | .exit i,A,Q,st,a,w,z,hc,h,g=>by
  simp only[BZ,Ac]at hc;subst hc;obtain⟨s,r,g⟩:=g;obtain⟨z',q⟩:=r.1 f h;exact wp_exit ⟨.exit i,s,z',rfl,g,q⟩
 | .label l,A,Q,st,a,w,z,hc,h,g=>by
  simp only[BZ,Ac]at hc;subst hc;obtain⟨s,r,g⟩:=g;obtain⟨z',q⟩:=r.1 f h;exact wp_label ⟨.normal,s,z',rfl,g,q⟩
 | .scope c,A,Q,st,a,w,z,hc,h,g=>by
  simp only[BZ]at hc;refine wp_scope_straight (wp_mono (Gq hE f c hc h g) fun e N w' j=> ?_);obtain⟨M,st',z',K,u,v⟩:=j;subst K;cases M<;>exact⟨_,st',z',rfl,u,v⟩
 | .ret,A,Q,st,a,w,z,hc,h,g=>by
  simp only[BZ,Ac]at hc;subst hc;obtain⟨s,r,g⟩:=g;obtain⟨z',q⟩:=r.1 f h;exact wp_ret ⟨.ret,s,z',rfl,g,q⟩
 | .goto _,A,Q,st,a,w,z,hc,h,g=>by cases hc;exact g.elim
 | .rangeFunc _ _ _ _,A,Q,st,a,w,z,hc,h,g=>by cases hc;exact g.elim
 | .refuse _,A,Q,st,a,w,z,hc,h,g=>by cases hc;exact g.elim
def Abr(rs:List Bj)(t:Ty)(y:D t)(e:Ex)(st:St):Prop:=
 match e with
 | .exit _=>False
 |_=>∃c,Eh st rs=some c/\Can t y [c]
theorem Abv(hE:aV P E){f:FuncId}{m:Hx}(o:Dq P f=some m){l:List CV}{t:Ty}{y:D t}(A:l.length<=m.n)(h:CN .no E m.code (Abr m.res t y) (Ev l)):hasBody P f=true/\CallsTo P E.G f l (.val (enc t y)):=by
 unfold Dq at o;split at o<;>(try cases o;done);rename_i F;refine⟨F, ?_⟩;simp only[Ab,Aa,Ae]at o;obtain⟨fn,B,b,k,x,c,j,rs,q,rfl⟩:=o;intro w M vs H J I;refine calls_of_wp B k (wp_mono (Gq hE rfl b j (VD H J A I (Ai x)) h) fun e s w' g=> ?_);obtain⟨N,st',z',C,r,p⟩:=g;subst C
 have d:(∃c,Eh st' rs=some c/\Can t y [c])->s.defers= []/\∃v,(results fn s.tmps).run P w'=.ok v w'/\∃u,Ending.returned v=.returned u/\Below w.heap.size w w'/\Im P w' M w.heap.size u (.val (enc t y)):=fun⟨c,hr,hcan⟩=>by
  obtain⟨v,L,K⟩:=X3 p q hr;exact⟨p.defers,v,L,v,rfl,Qt.1 p.below,RelC.enc hcan (Wg p K)⟩
 cases N with
 |normal=>exact d r
 |exit i=>exact r.elim
 |ret=>exact d r
end
inductive RL where
 |l (l:SL)
 |sk (d:Option Nat)
def RL.dst:RL->Option Nat
 | .l x=>x.dst
 | .sk d=>d
def DP(R:St->St->Prop)(E:ah)(D:Option (List Nat)):List RL->(St->Prop)->St->Prop
 | [],Q,st=>∃s,R st s/\Q s
 | .l l::ls,Q,st=>∃s,R st s/\∃s',A6 E D l s=some s'/\DP R E D ls Q s'
 | .sk d::ls,Q,st=>∃s,R st s/\DP R E D ls Q (s.set d Bs)
def Ic(g:Nat)(b:Bool)(l:SL):SL:=
 match l.op with
 | .pick (.t c) x y=>if Nat.beq c g=true then⟨l.dst,.mov (cond b x y),l.guard⟩else l
 |_=>l
def I9(S:List Nat)(d:Option Nat):List Nat:=match d with
 |some d=>S.filter fun i=> !Nat.beq i d
 |none=>S
def Fm(g:Nat)(b:Bool):List Nat->List RL->List RL
 |_,[]=> []
 |S,.sk d::ls=>.sk d::Fm g b S ls
 |S,.l l::ls=>match l.guard with
  |none=>.l (Ic g b l)::Fm g b (I9 S l.dst) ls
  |some (j,w)=>match Nat.beq j g with
   |true=>match w==b with
    |true=>.l (Ic g b ⟨l.dst,l.op,none⟩)::Fm g b (I9 S l.dst) ls
    |false=>.sk l.dst::Fm g b (l.dst.toList++S) ls
   |false=>match S.contains j with
    |true=>.sk l.dst::Fm g b (l.dst.toList++S) ls
    |false=>.l (Ic g b l)::Fm g b (I9 S l.dst) ls
def KD(g:Nat):List RL->Bool
 | []=>true
 |l::ls=>(match l.dst with|some d=> !Nat.beq d g|none=>true)&&KD g ls
theorem Ej{st:St}{d:Option Nat}{v:SV}{i:Nat}{c:CV}(b:d≠some i)(h:st.fr i=.c c):(st.set d v).fr i=.c c:=by
 cases d with
 |none=>exact h
 |some d=>
  show ac st.fr d v i=_;rw[AL _ _ (fun e=>b (by rw[e]))];exact h
theorem MO{L:List Nat}{s:SV}{c:CV}(h:s=.c c):AD L s=.c c:=by subst h;rfl
theorem TH{st st':St}{d:Option Nat}{v:SV}{o:Ob}{i:Nat}{c:CV}(e:d≠some i)(h:st.fr i=.c c)(b:B1 st d v o=some st'):st'.fr i=.c c:=by
 unfold B1 at b;split at b
 ·split at b
  ·cases b;exact Ej (d:=some _) e h
  ·cases b
 ·cases b
theorem Aia{st st':St}{d:Option Nat}{r:bh}{i:Nat}{c:CV}(e:d≠some i)(h:st.fr i=.c c)(b:EM st d r=some st'):st'.fr i=.c c:=by
 cases r with
 |val v=>cases b;exact Ej e h
 |new o=>exact TH e h b
theorem UG{ρ:SO->SV}{st st':St}{d:Option Nat}{e:bL}{args:List SO}{b:List CV}{i:Nat}{c:CV}(g:d≠some i)(h:st.fr i=.c c)(f:D6 ρ st d e args b=some st'):st'.fr i=.c c:=by
 unfold D6 at f;simp only[Ab,Ac]at f;obtain⟨l,_,p,_,rfl⟩:=f;exact Ej g (MO h)
theorem Ug{E:ah}{rd:Nat->Ob}{ρ:SO->SV}{st st':St}{d:Option Nat}{f:FuncId}{args:List SO}{e:List CV}{i:Nat}{c:CV}(g:d≠some i)(h:st.fr i=.c c)(b:DG E rd ρ st d f args e=some st'):st'.fr i=.c c:=by
 unfold DG at b;simp only[Ab]at b;obtain⟨l,_,r,_,b⟩:=b;split at b
 ·exact Aia g h b
 ·cases b
theorem Aay{d:Option Nat}{ρ:SO->SV}{st st':St}{op:aa}{i:Nat}{c:CV}(f:d≠some i)(h:st.fr i=.c c)(b:AY d ρ st op=some st'):st'.fr i=.c c:=by
 cases op<;>simp only[AY,reduceCtorEq]at b
 case append e size bytes x y=>
  split at b
  ·cases b
  ·split at b
   ·split at b
    ·split at b
     ·split at b
      ·cases b;rename_i d';exact Ej (st:=kill [d'] st) (d:=some d') f (MO h)
      ·cases b
     ·cases b
    ·split at b
     ·split at b
      ·cases b;exact Ej f (MO h)
      ·cases b
     ·cases b
    ·cases b
   ·cases b
 all_goals
  repeat' split at b
  all_goals first
   |(cases b;done)
   |(cases b;exact h)
   |(cases b;exact Ej f h)
   |skip
 all_goals
  rw[Ab]at b;obtain⟨_,_,b⟩:=b;split at b
  ·cases b;exact h
  ·cases b
theorem UZ{E:ah}{rd:Nat->Ob}{st st':St}{d:Option Nat}{op:aa}{i:Nat}{c:CV}(e:d≠some i)(h:st.fr i=.c c)(b:AM E rd st d op=some st'):st'.fr i=.c c:=by
 unfold AM at b;dsimp only at b;split at b
 ·obtain⟨v,_,rfl⟩:=Aa.1 b;exact Ej e h
 ·obtain⟨v,_,rfl⟩:=Aa.1 b;exact Ej e h
 ·obtain⟨p,_,b⟩:=Ab.1 b;exact TH e h b
 ·exact Aay e h b
 ·split at b
  ·split at b
   ·exact UG e h b
   ·exact Ug e h b
  ·split at b
   ·split at b
    ·exact UG e h b
    ·exact Ug e h b
   ·cases b
  ·cases b
 ·split at b
  ·unfold FH at b
   repeat' split at b
   all_goals first
    |(cases b;done)
    |(cases b;exact Ej e h)
  ·cases b
theorem UV{E:ah}{D:Option (List Nat)}{l:SL}{st st':St}{i:Nat}{c:CV}(d:l.dst≠some i)(h:st.fr i=.c c)(b:A6 E D l st=some st'):st'.fr i=.c c:=by
 unfold A6 at b;split at b
 ·exact UZ d h b
 ·split at b
  ·split at b
   ·exact UZ d h b
   ·cases b;exact Ej d h
  ·cases b;exact Ej d h
  ·cases b
theorem QO{E:ah}{D:Option (List Nat)}{g:Nat}{b:Bool}{l:SL}{st:St}(i:st.fr g=.c (.bool b)):A6 E D (Ic g b l) st=A6 E D l st:=by
 obtain⟨d,op,gd⟩:=l;unfold Ic;split
 ·rename_i c x y f;have e:op=.pick (.t c) x y:=f;subst e;split
  ·rename_i k;have h:=Nat.eq_of_beq_eq_true k;subst h
   have key:∀rd,AM (E.at D) rd st d (.mov (cond b x y))=AM (E.at D) rd st d (.pick (.t c) x y):=by
    intro rd;simp only[AM,aa.cls,A2];rw[show so (E.at D).G st.fr (.t c)=.c (.bool b)from i];cases b<;>rfl
   unfold A6
   cases gd with
   |none=>exact key _
   |some p=>
    obtain⟨j,w⟩:=p;dsimp only;split<;>first|rfl|(split<;>first|exact key _|rfl)
  ·rfl
 ·rfl
theorem QN{g:Nat}{b:Bool}{l:SL}:(Ic g b l).dst=l.dst:=by
 unfold Ic;split
 ·split<;>rfl
 ·rfl
theorem Akd{E:ah}{D:Option (List Nat)}{g:Nat}{b:Bool}{d:Option Nat}{op:aa}{st:St}(e:st.fr g=.c (.bool b)):A6 E D ⟨d,op,none⟩ st=A6 E D ⟨d,op,some (g,b)⟩ st:=by
 unfold A6;dsimp only;rw[e];simp
theorem Aig{E:ah}{D:Option (List Nat)}{g:Nat}{b w:Bool}{d:Option Nat}{op:aa}{st:St}(f:st.fr g=.c (.bool b))(h:(w==b)=false):A6 E D ⟨d,op,some (g,w)⟩ st=some (st.set d Bs):=by
 unfold A6;dsimp only;rw[f];have:¬b=w:=fun e=>by subst e;simp at h
 simp[this]
theorem Aih{E:ah}{D:Option (List Nat)}{g:Nat}{w:Bool}{d:Option Nat}{op:aa}{st:St}(b:st.fr g=Bs):A6 E D ⟨d,op,some (g,w)⟩ st=some (st.set d Bs):=by
 unfold A6;dsimp only;rw[b];rfl
theorem Afu{S:List Nat}{d:Option Nat}{i:Nat}(h:i∈I9 S d):i∈S/\d≠some i:=by
 cases d with
 |none=>exact⟨h,fun e=>by cases e⟩
 |some d=>
  simp only[I9,List.mem_filter,Bool.not_eq_true']at h;exact⟨h.1,fun e=>by cases e;simp at h⟩
theorem KX{R:St->St->Prop}(m:∀{st s:St},R st s->∀(i:Nat) (c:CV),PI c=true->st.fr i=.c c->s.fr i=.c c){E:ah}{D:Option (List Nat)}{g:Nat}{b:Bool}{Q:St->Prop}:∀{ls:List RL} {S:List Nat} {st:St},KD g ls=true->st.fr g=.c (.bool b)->(∀s∈S,st.fr s=Bs)->DP R E D (Fm g b S ls) Q st->DP R E D ls Q st
 | [],S,st,_,_,_,h=>h
 | .sk d::ls,S,st,hn,hg,hS,h=>by
  simp only[KD,RL.dst,Ag]at hn;obtain⟨s,k,r⟩:=h;have q:d≠some g:=fun e=>by subst e;simp at hn
  refine⟨s,k,KX m hn.2 (Ej q (m k _ _ rfl hg)) (fun i hi=> ?_) r⟩;by_cases f:d=some i
  ·subst f;show ac s.fr i Bs i=_;rw[Be]
  ·exact Ej f (m k i (.tup []) rfl (hS i hi))
 | .l l::ls,S,st,hn,hg,hS,h=>by
  simp only[KD,RL.dst,Ag]at hn;have q:l.dst≠some g:=fun e=>by rw[e]at hn;simp at hn
  obtain⟨d,op,gd⟩:=l
  have run:∀l':SL,l'.dst=d->(∀s,s.fr g=.c (.bool b)->A6 E D l' s=A6 E D ⟨d,op,gd⟩ s)->DP R E D (.l l'::Fm g b (I9 S d) ls) Q st->DP R E D (.l ⟨d,op,gd⟩::ls) Q st:=by
   intro l' H C ⟨s,k,s',r,h3⟩;have t:=m k _ _ rfl hg;rw[C s t]at r;refine⟨s,k,s',r,KX m hn.2 (UV q t r) (fun i hi=> ?_) h3⟩;obtain⟨B,A⟩:=Afu hi;exact UV A (m k i (.tup []) rfl (hS i B)) r
  have sk:(∀s,R st s->A6 E D ⟨d,op,gd⟩ s=some (s.set d Bs))->DP R E D (.sk d::Fm g b (d.toList++S) ls) Q st->DP R E D (.l ⟨d,op,gd⟩::ls) Q st:=by
   intro C ⟨s,k,r⟩;refine⟨s,k,_,C s k,KX m hn.2 (Ej q (m k _ _ rfl hg)) (fun i hi=> ?_) r⟩;by_cases f:d=some i
   ·subst f;show ac s.fr i Bs i=_;rw[Be]
   ·rcases List.mem_append.1 hi with hi|hi
    ·cases d with
     |none=>cases hi
     |some d=>simp at hi;exact absurd (by rw[hi]) f
    ·exact Ej f (m k i (.tup []) rfl (hS i hi))
  cases gd with
  |none=>exact run _ QN (fun s o=>QO o) h
  |some p=>
   obtain⟨j,w⟩:=p;simp only[Fm]at h
   cases y:Nat.beq j g with
   |true=>
    have x:=Nat.eq_of_beq_eq_true y;subst x;simp only[y]at h
    cases u:w==b with
    |true=>
     simp only[u]at h;have v:w=b:=by simpa using u
     subst v;exact run _ QN (fun s o=>by rw[QO o,Akd o]) h
    |false=>
     simp only[u]at h;exact sk (fun s o=>Aig (m o _ _ rfl hg) u) h
   |false=>
    simp only[y]at h
    cases F:S.contains j with
    |true=>
     simp only[F]at h;exact sk (fun s o=>Aih (m o j (.tup []) rfl (hS j (by simpa using F)))) h
    |false=>
     simp only[F]at h;exact run _ QN (fun s o=>QO o) h
theorem Rb{R:St->St->Prop}{E:ah}{D:Option (List Nat)}{Q b:St->Prop}(h:∀s,Q s->b s):∀{ls:List RL} {st:St},DP R E D ls Q st->DP R E D ls b st
 | [],st,⟨s,h1,h2⟩=>⟨s,h1,h s h2⟩
 | .l _::_,st,⟨s,h1,s',h2,h3⟩=>⟨s,h1,s',h2,Rb h h3⟩
 | .sk _::_,st,⟨s,h1,h3⟩=>⟨s,h1,Rb h h3⟩
theorem XB{le:Do}{E:ah}{Q:St->Prop}:∀{ls:List SL} {st:St},DP (AB le) E none (ls.map .l) Q st->EJ le E ls Q st
 | [],st,h=>h
 |_::_,st,⟨s,h1,s',h2,h3⟩=>⟨s,h1,s',h2,XB h3⟩
theorem XA{E:ah}{D:Option (List Nat)}{Q:St->Prop}:∀{ls:List SL} {st:St},DP Eq E D (ls.map .l) Q st->∃st',Cn E D ls st=some st'/\Q st'
 | [],st,⟨s,h1,h2⟩=>⟨s,by rw[h1];rfl,h2⟩
 |_::_,st,⟨s,h1,s',h2,h3⟩=>by
  subst h1;obtain⟨st',c,b⟩:=XA h3;exact⟨st',by simp only[Cn,h2,Ap];exact c,b⟩
def AQ(id:Nat)(st s:St):Prop:=EF (s.ob id)=true->s.ob id=st.ob id
theorem AQ.refl(id:Nat)(st:St):AQ id st st:=fun _=>rfl
theorem AQ.trans{id:Nat}{st u t:St}(h:AQ id st u)(k:AQ id u t):AQ id st t:=fun hi=>by
 have e:=k hi;rw[e];exact h (e▸hi)
theorem AQ.ob{id:Nat}{st s:St}(h:s.ob id=st.ob id):AQ id st s:=fun _=>h
theorem AQ.kill{id:Nat}{st:St}{D:List Nat}:AQ id st (kill D st):=fun h=>GW h
theorem AQ.of{le:Do}{id:Nat}{st s:St}(h:AB le st s):AQ id st s:=fun hi=>h.2.it id hi
theorem F2{id:Nat}{st:St}{d:Option Nat}{v:SV}:(st.set d v).ob id=st.ob id:=by cases d<;>rfl
theorem TI{id:Nat}{st st':St}{d:Option Nat}{v:SV}{o:Ob}(c:d≠some id)(b:B1 st d v o=some st'):st'.ob id=st.ob id:=by
 unfold B1 at b;split at b
 ·split at b
  ·cases b;exact AL _ _ (fun e=>c (by rw[e]))
  ·cases b
 ·cases b
theorem Ah4{id i:Nat}{st:St}{o:Ob}(b:EF o=false){fr:Nat->SV}{d:Option Nat}{v:SV}:AQ id st (St.set {fr:=fr,ob:=ac st.ob i o} d v):=by
 intro hi;rw[F2]at hi⊢;exact Fo b hi
theorem Ya{id i:Nat}{st:St}{o:Ob}(c:EF o=false){fr:Nat->SV}{d:Option Nat}{v:SV}:AQ id st (St.set {fr:=fr,ob:=ac (kill [i] st).ob i o} d v):=by
 intro hi;rw[F2]at hi⊢;have b:=Fo (ob:=(kill [i] st).ob) (id:=id) c hi;exact b.trans (GW (b▸hi))
theorem Aaz{id:Nat}{d:Option Nat}{ρ:SO->SV}{st st':St}{op:aa}(b:AY d ρ st op=some st'):AQ id st st':=by
 cases op<;>simp only[AY,reduceCtorEq]at b
 case append e size bytes x y=>
  repeat' split at b
  all_goals first
   |(cases b;done)
   |(cases b;exact Ya (d:=none) (v:=.undef) rfl)
   |(cases b;exact Ya rfl)
 all_goals
  repeat' split at b
  all_goals first
   |(cases b;done)
   |(cases b;exact AQ.refl _ _)
   |(cases b;exact fun hi=>Fo rfl hi)
   |(cases b;exact Ah4 rfl)
   |skip
 all_goals
  rw[Ab]at b;obtain⟨_,_,b⟩:=b;split at b
  ·cases b;exact fun hi=>Fo rfl hi
  ·cases b
theorem M7{E:ah}(hE:bC E){rd:Nat->Ob}{st st':St}{d:Option Nat}{op:aa}{id:Nat}(af:id<A9)(h:d≠some id)(b:AM E rd st d op=some st'):AQ id st st':=by
 have call:∀{f:FuncId} {args:List SO} {c:List CV},DG E rd (so E.G st.fr) st d f args c=some st'->AQ id st st':=by
  intro f args c b;unfold DG at b;simp only[Ab]at b;obtain⟨l,_,r,_,b⟩:=b;split at b
  ·cases r with
   |val v=>cases b;exact AQ.ob F2
   |new o=>exact AQ.ob (TI h b)
  ·cases b
 have eff:∀{f:FuncId} {e:bL} {args:List SO} {c:List CV},E.ef f=some e->D6 (so E.G st.fr) st d e args c=some st'->AQ id st st':=by
  intro f e args c g b;unfold D6 at b;simp only[Ab,Ac]at b;obtain⟨l,_,p,_,rfl⟩:=b;intro hi;rw[F2]at hi⊢;have hT:=hE f e g
  have i:¬e.T.contains id=true:=fun j=>by
   have:=As.1 hT id (by simpa using j);have:=Ai this;omega
  unfold CI at hi⊢;simp only at hi⊢;rw[An i]at hi⊢;exact VF hi
 unfold AM at b;dsimp only at b;split at b
 ·obtain⟨v,_,rfl⟩:=Aa.1 b;exact AQ.ob F2
 ·obtain⟨v,_,rfl⟩:=Aa.1 b;exact AQ.ob F2
 ·obtain⟨p,_,b⟩:=Ab.1 b;exact AQ.ob (TI h b)
 ·exact Aaz b
 ·split at b
  ·split at b
   ·rename_i g;exact eff g b
   ·exact call b
  ·split at b
   ·split at b
    ·rename_i g;exact eff g b
    ·exact call b
   ·cases b
  ·cases b
 ·split at b
  ·unfold FH at b
   repeat' split at b
   all_goals first
    |(cases b;done)
    |(cases b;intro hi;rw[F2]at hi⊢;exact Fo rfl hi)
  ·cases b
theorem Abk{E:ah}(hE:bC E){rd:Nat->Ob}{l:SL}{st st':St}{id:Nat}(af:id<A9)(c:l.dst≠some id)(b:Bz E rd l st=some st'):AQ id st st':=by
 unfold Bz at b;split at b
 ·exact M7 hE af c b
 ·split at b
  ·split at b
   ·exact M7 hE af c b
   ·cases b;exact AQ.ob F2
  ·cases b;exact AQ.ob F2
  ·cases b
theorem P4{E:ah}(hE:bC E){D:Option (List Nat)}{l:SL}{st st':St}{id:Nat}(af:id<A9)(c:l.dst≠some id)(b:A6 E D l st=some st'):AQ id st st':=by
 unfold A6 at b;split at b
 ·exact M7 (hE.at D) af c b
 ·split at b
  ·split at b
   ·exact M7 (hE.at D) af c b
   ·cases b;exact AQ.ob F2
  ·cases b;exact AQ.ob F2
  ·cases b
def FK(id:Nat)(ls:List SL):Bool:=ls.all fun l=>match l.dst with|some d=> !Nat.beq d id|none=>true
theorem My{id:Nat}{l:SL}{ls:List SL}(h:FK id (l::ls)=true):l.dst≠some id/\FK id ls=true:=by
 unfold FK at h⊢;simp only[List.all_cons,Ag]at h;exact⟨fun e=>by rw[e]at h;simp at h,h.2⟩
theorem UY{E:ah}(hE:bC E){D:Option (List Nat)}{id:Nat}(af:id<A9):∀{ls:List SL} {st st':St},FK id ls=true->Cn E D ls st=some st'->AQ id st st'
 | [],st,st',_,h=>by cases h;exact AQ.refl _ _
 |l::ls,st,st',hd,h=>by
  obtain⟨e,d⟩:=My hd;simp only[Cn]at h;obtain⟨s,c,b⟩:=Ab.1 h;exact(P4 hE af e c).trans (UY hE af d b)
theorem UX{E:ah}{D:List Nat}{id:Nat}(af:id<A9):∀{ls:List SL} {st st':St},FK id ls=true->FN E.named D ls st=some st'->AQ id st st'
 | [],st,st',_,h=>by cases h;exact AQ.refl _ _
 |l::ls,st,st',hd,h=>by
  obtain⟨e,d⟩:=My hd;simp only[FN]at h;obtain⟨s,c,b⟩:=Ab.1 h;exact(Abk bC.named af e c).trans (UX af d b)
theorem Vc{E:ah}(hE:bC E){c:Bool}{D:List Nat}{ls:List SL}{st st':St}{id:Nat}(af:id<A9)(b:FK id ls=true)(h:Co E c D ls st=some st'):AQ id st st':=by
 unfold Co at h;refine AQ.trans (u:=if D.isEmpty then st else kill D st) ?_ (UY hE af b h);split
 ·exact AQ.refl _ _
 ·exact AQ.kill
theorem ZK{id:Nat}{st:St}:AQ id st (D5 st):=by
 intro h;unfold D5 at h⊢;simp only at h⊢;split
 ·rfl
 ·rename_i c;rw[An c]at h;cases b:st.ob id<;>rw[b]at h<;>first|rfl|cases h
theorem Abl{E:ah}{D:List Nat}{ls:List SL}{st st':St}{id:Nat}(af:id<A9)(b:FK id ls=true)(h:IB E D ls st=some st'):AQ id st st':=
 (AQ.kill.trans ZK).trans (UX af b h)
theorem XE{le:Do}{E:ah}(hE:bC E){id:Nat}(af:id<A9){Q:St->Prop}:∀{ls:List SL} {st:St},FK id ls=true->EJ le E ls Q st->EJ le E ls (fun s=>Q s/\AQ id st s) st
 | [],st,_,⟨s,h1,h2⟩=>⟨s,h1,h2,AQ.of h1⟩
 |l::ls,st,hd,⟨s,h1,s',h2,h3⟩=>by
  obtain⟨d,c⟩:=My hd;refine⟨s,h1,s',h2,La (fun t b=>⟨b.1, ?_⟩) (XE hE af c h3)⟩;exact((AQ.of h1).trans (P4 hE af d h2)).trans b.2
theorem Wl{E:ah}(hE:bC E){W:List (Nat×Nat)}{id:Nat}(af:id<A9):∀{ls:List SL} {st st':St},FK id ls=true->ci E W ls st=some st'->AQ id st st'
 | [],st,st',_,h=>by cases h;exact AQ.refl _ _
 |l::ls,st,st',hd,h=>by
  simp only[ci,Ab]at h;obtain⟨s,c,b⟩:=h;obtain⟨e,d⟩:=My hd;exact(P4 hE af e (UT c)).trans (Wl hE af d b)
def HX(id:Nat):Cx->Bool
 | .skip| .exit _| .ret| .bad=>true
 | .mnext _ _ _=>false
 | .reg _ _ ls| .regE _ ls| .regW ls=>FK id ls
 | .seq a b| .cond _ a b=>HX id a&&HX id b
 | .block _ c| .loop c=>HX id c
theorem Ie{le:Do}{E:ah}(hE:bC E){id:Nat}(af:id<A9):∀(c:Cx) {Q:Ex->St->Prop} {st:St},HX id c=true->CN le E c Q st->CN le E c (fun e s=>Q e s/\AQ id st s) st
 | .skip,Q,st,_,⟨s,hs,hp⟩=>⟨s,hs,hp,AQ.of hs⟩
 | .mnext _ _ _,Q,st,hn,_=>by cases hn
 | .reg true D ls,Q,st,hn,⟨s,hs,s',d,s2,hs2,h2⟩=>⟨s,hs,s',d,s2,hs2,h2,((AQ.of hs).trans (Vc hE af hn d)).trans (AQ.of hs2)⟩
 | .reg false D ls,Q,st,hn,⟨s,hs,d⟩=>by
  refine⟨s,hs,La (fun t f=>⟨f.1, ?_⟩) (XE hE af hn d)⟩;refine((AQ.of hs).trans ?_).trans f.2;split
  ·exact AQ.refl _ _
  ·exact AQ.kill
 | .regE D ls,Q,st,hn,⟨s,hs,s',d,h2⟩=>⟨s,hs,s',d,h2,(AQ.of hs).trans (by
  rcases d with d|d
  ·exact Vc hE af hn d
  ·exact Abl af hn d)⟩
 | .regW ls,Q,st,hn,⟨s,hs,W,s',d,h2⟩=>⟨s,hs,W,s',d,h2,(AQ.of hs).trans (Wl hE af hn d)⟩
 | .seq a b,Q,st,hn,⟨s,hs,hp⟩=>by
  simp only[HX,Ag]at hn;refine⟨s,hs,CT a (fun e t f=> ?_) (Ie hE af a hn.1 hp)⟩
  cases e with
  |normal=>exact CT b (fun e u g=>⟨g.1,((AQ.of hs).trans f.2).trans g.2⟩) (Ie hE af b hn.2 f.1)
  |exit i=>exact⟨f.1,(AQ.of hs).trans f.2⟩
  |ret=>exact⟨f.1,(AQ.of hs).trans f.2⟩
 | .cond c x y,Q,st,hn,⟨s,hs,b,d,h2,h3⟩=>by
  simp only[HX,Ag]at hn;exact⟨s,hs,b,d,fun l=>CT x (fun e u g=>⟨g.1,(AQ.of hs).trans g.2⟩) (Ie hE af x hn.1 (h2 l)),fun l=>CT y (fun e u g=>⟨g.1,(AQ.of hs).trans g.2⟩) (Ie hE af y hn.2 (h3 l))⟩
 | .block i c,Q,st,hn,⟨s,hs,hp⟩=>by
  refine⟨s,hs,CT c (fun e t f=> ?_) (Ie hE af c hn hp)⟩
  cases e with
  |normal=>exact⟨f.1,(AQ.of hs).trans f.2⟩
  |exit j=>
   have d:=f.1;simp only at d⊢;split<;>rename_i p
   ·rw[Ao p]at d;exact⟨d,(AQ.of hs).trans f.2⟩
   ·rw[An p]at d;exact⟨d,(AQ.of hs).trans f.2⟩
  |ret=>exact⟨f.1,(AQ.of hs).trans f.2⟩
 | .loop c,Q,st,hn,⟨s,hs,R,⟨m,hm⟩,hr⟩=>by
  refine⟨s,hs,fun m t=>R m t/\AQ id st t,⟨m,hm,AQ.of hs⟩,fun m t h=>CT c (fun e u g=> ?_) (Ie hE af c hn (hr m t h.1))⟩
  cases e with
  |normal=>
   obtain⟨⟨k,q,o⟩,r⟩:=g;exact⟨k,q,o,h.2.trans r⟩
  |exit i=>exact⟨g.1,h.2.trans g.2⟩
  |ret=>exact⟨g.1,h.2.trans g.2⟩
 | .exit i,Q,st,_,⟨s,hs,hp⟩=>⟨s,hs,hp,AQ.of hs⟩
 | .ret,Q,st,_,⟨s,hs,hp⟩=>⟨s,hs,hp,AQ.of hs⟩
 | .bad,Q,st,_,hp=>hp.elim
def Ty.noN(N:Nat):Ty->Bool
 | .nam M| .bptr M=>M !=N
 | .agg r| .tup r| .pt r| .clo _ r| .sl r| .one r=>r.noN N
 | .falt _ r l=>r.noN N&&l.noN N
 | .map k v=>k.noN N&&v.noN N
 | .cons t r=>t.noN N&&r.noN N
 | .nw _ _ t=>t.noN N
 |_=>true
theorem Fi{T:Nat->Bool}{c:CV}:AX T [c]=Br T c:=by simp[AX]
theorem Hw{T:Nat->Bool}{b:Type}{R:b->CV->Prop}:∀{xs:List b} {es:List CV},(∀x c,R x c->Br T c=true)->CanAll R xs es->AX T es=true
 | [],es,_,h=>by unfold CanAll at h;subst h;rfl
 |x::xs,es,f,h=>by
  obtain⟨c,g,rfl,e,d⟩:=h;simp[AX,f x c e,Hw f d]
theorem Can.noN{N:Nat}:∀{t:Ty} {x:D t} {cs:List CV},t.noN N=true->Can t x cs->AX (CL N) cs=true:=by
 intro t
 induction t with
 |nam M=>intro x cs h b;unfold Can at b;subst b;simpa[AX,Br,CL,Ty.noN]using h
 |bptr M=>
  intro x cs h b;unfold Can at b;rcases b with rfl|rfl|rfl
  ·simpa[AX,Br,CL,Ty.noN]using h
  ·simpa[AX,Br,CL,Ty.noN]using h
  ·rfl
 |agg r ih=>intro x cs h b;unfold Can at b;obtain⟨l,rfl,b⟩:=b;rw[Fi];exact ih h b
 |tup r ih=>intro x cs h b;unfold Can at b;obtain⟨l,rfl,b⟩:=b;rw[Fi];exact ih h b
 |pt r ih=>intro x cs h b;unfold Can at b;obtain⟨l,rfl,b⟩:=b;rw[Fi];exact ih h b
 |clo f r ih=>intro x cs h b;unfold Can at b;obtain⟨l,rfl,b⟩:=b;rw[Fi];exact ih h b
 |falt f r l ih ihl=>
  intro x cs h b;simp only[Ty.noN,Ag]at h
  cases x with
  |inl y=>unfold Can at b;obtain⟨cap,rfl,b⟩:=b;rw[Fi];exact ih h.1 b
  |inr y=>unfold Can at b;exact ihl h.2 b.2
 |sl e ih=>
  intro x cs h b;unfold Can at b;obtain⟨m,es,rfl,b⟩:=b;rw[Fi];exact Hw (fun y c d=>by rw[<-Fi];exact ih h d) b
 |map k v ihk ihv=>
  intro x cs h b;simp only[Ty.noN,Ag]at h;unfold Can at b;obtain⟨m,ks,vs,rfl,i,g⟩:=b;rw[Fi];simp only[Br,Ag];exact⟨Hw (fun y c d=>by rw[<-Fi];exact ihk h.1 d) i,Hw (fun y c d=>by rw[<-Fi];exact ihv h.2 d) g⟩
 |one t ih=>intro x cs h b;unfold Can at b;obtain⟨c,rfl,b⟩:=b;exact ih h b
 |cons t r iht ihr=>
  intro x cs h b;simp only[Ty.noN,Ag]at h;unfold Can at b;obtain⟨c,l,rfl,i,g⟩:=b;have j:=iht h.1 i;rw[Fi]at j;simp[AX,j,ihr h.2 g]
 |nw e s t _=>intro x cs h b;unfold Can at b;exact b.elim
 |err=>intro x cs _ b;unfold Can at b;subst b;cases x<;>rfl
 |_=>intro x cs _ b;unfold Can at b;subst b;rfl
theorem Can.noN1{N:Nat}{t:Ty}{x:D t}{c:CV}(h:t.noN N=true)(b:Can t x [c]):Br (CL N) c=true:=by
 rw[<-Fi];exact Can.noN h b
def IU(N:Nat):EK->Bool
 | .v t=>t.noN N
 | .opt k=>IU N k
 | .rp ex r=>ex&&r.noN N
 | .ent _ k v=>k.noN N&&v.noN N
 | .stamp _ k=>k.noN N
 |_=>true
def cZ(N:Nat):EK->Bool
 | .arr _ _ t=>t.noN N
 | .mob _ k v=>k.noN N&&v.noN N
 | .box _ bt| .sit| .buf _=>true
 |_=>false
def cO(d N:Nat)(Γ:TC):aw->EK->Bool
 | .o id,k=>id !=d&&id !=N&&(cZ N k||k==.gone)
 | .s _,k| .c _ _,k=>IU N k&&(match k.refs with
  |some id=>id !=d&&id !=N&&(match Cq Γ (.o id)with
   |some ko=>cZ N ko
   |none=>false)
  |none=>true)
def EP(d N:Nat)(Γ:TC):List aw:=(Γ.map (·.1)).filter fun p=>match Cq Γ p with
 |some k=> !cO d N Γ p k
 |none=>false
theorem RS.drop{p:Nat->Bool}{N:Nat}{k:EK}{x:DK k}{sv:SV}(h:RS k x sv)(d:IU N k=true)(b:∀id,k.refs=some id->p id=false):RS k x (Cb p N sv):=by
 induction k
 case v t=>
  obtain⟨c,rfl,e⟩:=h;refine⟨c, ?_,e⟩;simp only[Cb];rw[Ao (Can.noN1 d e)]
 case opt k ih=>
  unfold RS at h⊢
  cases x with
  |none=>simp only at h;subst h;rfl
  |some y=>exact ih h d b
 case rp ex r=>
  obtain⟨cs,rest,rfl,e,j⟩:=h;simp only[IU,Ag]at d;have:=j d.1;subst this;refine⟨cs,[], ?_,e,fun _=>rfl⟩;simp only[Cb]
  have g:Br (CL N) (.rp (cs++ []))=true:=by
   rw[List.append_nil];exact Can.noN d.2 e
  rw[Ao g]
 case undef=>trivial
 case ptr id o=>have:=b id rfl;unfold RS at h;subst h;simp[RS,Cb,SV.ref,this]
 case eptr id s o=>have:=b id rfl;unfold RS at h;subst h;simp[RS,Cb,SV.ref,this]
 case aptr id n o=>have:=b id rfl;obtain⟨h,hi⟩:=h;subst h;exact⟨by simp[Cb,SV.ref,this],hi⟩
 case own id=>have:=b id rfl;unfold RS at h;subst h;simp[RS,Cb,SV.ref,this]
 case mp id=>have:=b id rfl;unfold RS at h;subst h;simp[RS,Cb,SV.ref,this]
 case iter id=>have:=b id rfl;unfold RS at h;subst h;simp[RS,Cb,SV.ref,this]
 case ent id k v=>
  have:=b id rfl;simp only[IU,Ag]at d;obtain⟨i,l,rfl,f,g⟩:=h;refine⟨i,l, ?_,f,g⟩;simp[Cb,this,Can.noN1 d.1 f,Can.noN1 d.2 g]
 case stamp id k=>
  have:=b id rfl;obtain⟨i,rfl,f⟩:=h;refine⟨i, ?_,f⟩;simp[Cb,this,Can.noN1 d f]
 all_goals exact h.elim
section
variable {Γ:TC} {ρ:HS Γ} {st:St}
theorem WK{d N:Nat}{p:aw}{k:EK}{f:HS Γ->DK k}(e:get Γ p=some ⟨k,f⟩)(c:p∉EP d N Γ):cO d N Γ p k=true:=by
 have b:=B0 e
 cases g:cO d N Γ p k with
 |true=>rfl
 |false=>
  exfalso;apply c;unfold EP;rw[List.mem_filter];refine⟨FO b, ?_⟩;simp only at b;simp only[b,g,Bool.not_false]
theorem ae.dropB(h:ae Γ ρ st){d N id:Nat}{ko:EK}(s:id≠d)(r:id≠N)(j:Cq Γ (.o id)=some ko)(i:cZ N ko=true):WB.dropB d N st.ob id=false:=by
 obtain⟨f,l⟩:=IG j;have b:=h.o id _ l;simp only[WB.dropB,Bool.or_eq_false_iff,beq_eq_false_iff_ne];refine⟨⟨s,r⟩, ?_⟩;cases ko<;>simp only[cZ,Ah]at i
 case box n=>obtain⟨cs,e,_⟩:=b;rw[e]
 case arr e size t=>obtain⟨es,e,m⟩:=b;rw[e];simp[Hw (T:=CL N) (fun y c g=>Can.noN1 i g) m]
 case mob mt k v=>
  obtain⟨z,ks,vs,e,_,q,p⟩:=b;simp only[Ag]at i;rw[e];simp[Hw (T:=CL N) (fun y c g=>Can.noN1 i.1 g) q,Hw (T:=CL N) (fun y c g=>Can.noN1 i.2 g) p]
 case sit=>unfold RO at b;rw[b]
 case buf e=>unfold RO at b;rw[b]
def Gs(d N:Nat)(st:St):St:=
 {fr:=fun j=>Cb (WB.dropB d N st.ob) N (st.fr j),ob:=fun id=>if WB.dropB d N st.ob id then .none else Er (WB.dropB d N st.ob) N (st.ob id)}
theorem ae.drop(h:ae Γ ρ st)(d N:Nat):ae (cj [d,N] (ch (EP d N Γ) Γ)) (cw [d,N] (bS (EP d N Γ) ρ)) (Gs d N st):=by
 have AZ:∀p q,(∀d',p≠ .o d')->get (cj [d,N] (ch (EP d N Γ) Γ)) p=some q->q.1=.undef\/∃f,get Γ p=some ⟨q.1,f⟩/\q.2 (cw [d,N] (bS (EP d N Γ) ρ))=f ρ/\IU N q.1=true/\∀id,q.1.refs=some id->WB.dropB d N st.ob id=false:=by
  intro p q R A;rcases IF (bS (EP d N Γ) ρ) A with⟨d',_,F,_⟩|⟨_,f,B,e⟩
  ·exact absurd F (R d')
  ·rcases IH ρ B with⟨_,u⟩|⟨u,g,y,O⟩
   ·exact .inl u
   ·have b:=WK y u;refine .inr ⟨g,y,e.trans O, ?_⟩
    cases p with
    |o id=>exact absurd rfl (R id)
    |s i=>
     simp only[cO,Ag]at b;refine⟨b.1,fun id af=> ?_⟩;have m:=b.2;rw[af]at m;simp only[Ag,bne_iff_ne]at m
     cases r:Cq Γ (.o id)with
     |none=>rw[r]at m;cases m.2
     |some ko=>rw[r]at m;exact ae.dropB h m.1.1 m.1.2 r m.2
    |c i j=>
     simp only[cO,Ag]at b;refine⟨b.1,fun id af=> ?_⟩;have m:=b.2;rw[af]at m;simp only[Ag,bne_iff_ne]at m
     cases r:Cq Γ (.o id)with
     |none=>rw[r]at m;cases m.2
     |some ko=>rw[r]at m;exact ae.dropB h m.1.1 m.1.2 r m.2
 refine⟨fun i q A=> ?_,fun id q A=> ?_⟩
 ·rcases AZ _ q (by simp) A with F|⟨f,B,e,hn,hr⟩
  ·obtain⟨k,M⟩:=q;subst F
   trivial
  ·rw[e];exact RS.drop (h.s i _ B) hn hr
 ·rcases IF (bS (EP d N Γ) ρ) A with⟨d',C,F,u⟩|⟨S,f,B,e⟩
  ·obtain⟨k,M⟩:=q;simp only at u;subst u;have af:id=d':=by simpa using F
   subst af;show(if WB.dropB d N st.ob id then Ob.none else _)=Ob.none
   have:WB.dropB d N st.ob id=true:=by
    simp only[List.mem_cons,List.not_mem_nil,or_false]at C;rcases C with rfl|rfl<;>simp[WB.dropB]
   rw[Ao this]
  ·rcases IH ρ B with⟨_,u⟩|⟨u,g,y,O⟩
   ·obtain⟨k,M⟩:=q;simp only at u;subst u
    trivial
   ·have b:=WK y u;have l:=h.o id _ y;have Z:=e.trans O;rw[Z];simp only[cO,Ag,bne_iff_ne,Ak,beq_iff_eq]at b;obtain⟨⟨m,X⟩,x⟩:=b;obtain⟨k,M⟩:=q;simp only at x l⊢;show RO _ _ id k _ (if WB.dropB d N st.ob id then Ob.none else Er (WB.dropB d N st.ob) N (st.ob id));rcases x with x|x
    ·have K:=ae.dropB h m X (B0 y) x;rw[K];simp only[Ah,if_false];cases k<;>simp only[cZ,Ah]at x
     case box n=>
      obtain⟨cs,H,T,D⟩:=l;rw[H];refine⟨_,rfl,by simpa using T,fun j Q U I=> ?_⟩;rcases AZ _ Q (by simp) I with L|⟨f',hf',e',hn',hr'⟩
      ·obtain⟨k',Y⟩:=Q;subst L;have J:j<cs.length:=by omega
       exact⟨Cb (WB.dropB d N st.ob) N cs[j],by simp[J],trivial⟩
      ·obtain⟨sv,W,V⟩:=D j _ U hf';refine⟨_,by rw[List.getElem?_map,W];rfl, ?_⟩;rw[e'];exact RS.drop V hn' hr'
     case arr e' size t=>obtain⟨es,H,D⟩:=l;rw[H];exact⟨es,rfl,D⟩
     case mob mt kk v=>obtain⟨z,ks,vs,H,D⟩:=l;rw[H];exact⟨z,ks,vs,rfl,D⟩
     case sit=>unfold RO at l⊢;rw[l];rfl
     case buf e'=>unfold RO at l⊢;rw[l];rfl
    ·subst x;have L:st.ob id=.none:=l;rw[L];split<;>rfl
theorem ae.newBox{Γc:TC}{ρc:HS Γc}{N:Nat}{ko:EK}{y:DK ko}{o:Ob}(h:ae Γ ρ st)(m:D3 N Γ ρ Γc ρc)(B:RO Γc ρc N ko y o):ae ((.o N,ko)::Γc) (y,ρc) {st with ob:=ac st.ob N o}:=by
 have down:∀p q,p≠ .o N->get ((.o N,ko)::Γc) p=some q->∃f,get Γc p=some ⟨q.1,f⟩/\q.2 (y,ρc)=f ρc:=by
  intro p q C c;obtain⟨f,d,e⟩:=CB (Ne.symm C) c;exact⟨f,d,e _⟩
 refine⟨fun i q c=> ?_,fun id q c=> ?_⟩
 ·obtain⟨f,d,e⟩:=down _ q (by simp) c;rcases m _ _ d with⟨j,t⟩|⟨g,v,k⟩
  ·cases t
  ·have F:=e.trans k;rw[F];exact h.s i _ v
 ·by_cases hi:id=N
  ·subst hi;rw[Dh]at c;cases c;simp only[ac,if_true];exact RO.congr B fun j l b=>down _ l (by simp) b
  ·obtain⟨f,d,e⟩:=down _ q (by simpa using hi) c;rcases m _ _ d with⟨j,t⟩|⟨g,v,k⟩
   ·cases t
   ·have:=h.o id _ v;simp only at k;rw[e];simp only[ac,hi,if_false];rw[k];refine RO.congr this fun j l b=> ?_;obtain⟨J,x,H⟩:=down _ l (by simp) b;rcases m _ _ x with⟨I,r⟩|⟨D,u,A⟩
    ·cases r;exact absurd rfl hi
    ·exact⟨D,u,H.trans A⟩
end
inductive Gh where
 |own (i id e size:Nat)
 |ownc (b j id e size:Nat)
 |ownb (b j id e:Nat)
 |frz (i:Nat)
 |frzc (b j:Nat)
 |frzb (i:Nat)
 |tell (i N:Nat)
 |tellm (i N:Nat)
 |seem (b j:Nat)
 |unsee (b j:Nat)
structure cL (Γ:TC) where
 Γ':TC
 up:HS Γ->HS Γ'
def V6(o:Option TC)(Γ:TC):Gh->Bool
 | .frz i| .frzb i=>match Cq Γ (.s i)with
  |some k=>match k.refs with
   |some id=>MR o id
   |none=>false
  |none=>false
 | .frzc b j=>match Cq Γ (.c b j)with
  |some k=>match k.refs with
   |some id=>MR o id
   |none=>false
  |none=>false
 |_=>false
theorem Kc{o:Option TC}{Γ:TC}{p:aw}{k:EK}{f:HS Γ->DK k}{id:Nat}(h:(match Cq Γ p with
  |some k=>match k.refs with
   |some id=>MR o id
   |none=>false
  |none=>false)=false) (c:get Γ p=some ⟨k,f⟩) (b:k.refs=some id):¬(DA o).I id:=by
 have:=B0 c;simp only at this;rw[this]at h;simp only[b]at h;exact Ae7 h
def R5(o:Option TC)(Γ:TC)(i N:Nat):Option (cL Γ):=
 match o with
 |none=>none
 |some Θ=>if(AK Θ).contains N=true\/(Nat.ble A9 N&&Nat.beq (N % 2) 0)=false then none else
  match get Γ (.s i)with
  |some ⟨.ptr d 0,_⟩=>if(AK Θ).contains d=true\/Nat.ble A9 d=true then none else
   match get Γ (.o d)with
   |some ⟨.box (n+1) bt,_⟩=>match H9 Γ d n 0 with
    |some p=>if p.1.noN N=true/\Bc p.1=some (n+1)then match FU N 0 p.1 (cj [d,N] (ch (EP d N Γ) Γ))with
     |some q=>some ⟨(.s i,.v (.nam N))::(.o N,.box (n+1) bt)::q.1,fun ρ=>((),(),q.2 (cw [d,N] (bS (EP d N Γ) ρ)) (p.2 ρ))⟩
     |none=>none
     else none
    |none=>none
   |_=>none
  |_=>none
def R3(o:Option TC)(Γ:TC)(i N:Nat):Option (cL Γ):=
 match o with
 |none=>none
 |some Θ=>if(AK Θ).contains N=true\/(Nat.ble A9 N&&Nat.beq (N % 2) 1)=false then none else
  match get Γ (.s i)with
  |some ⟨.mp d,_⟩=>if(AK Θ).contains d=true\/Nat.ble A9 d=true then none else
   match get Γ (.o d)with
   |some ⟨.mob e k v,xs⟩=>if k.noN N=true/\v.noN N=true then some ⟨(.s i,.v (.nam N))::(.o N,.mob e k v)::cj [d,N] (ch (EP d N Γ) Γ),fun ρ=>((),xs ρ,cw [d,N] (bS (EP d N Γ) ρ))⟩else none
   |_=>none
  |_=>none
def Gx(X:TP)(Γ:TC):Gh->Option (cL Γ)
 | .tell i N=>R5 X.Θ Γ i N
 | .tellm i N=>R3 X.Θ Γ i N
 | .seem b j=>match get Γ (.o b),get Γ (.c b j)with
  |some ⟨.box n bt,_⟩,some ⟨.v (.nam N),_⟩=>match get Γ (.o N)with
   |some ⟨.mob _ _ _,_⟩=>if j<n/\Nat.ble A9 N=true then some ⟨(.c b j,.mp N)::Γ,fun ρ=>((),ρ)⟩else none
   |_=>none
  |_,_=>none
 | .unsee b j=>match get Γ (.o b),get Γ (.c b j)with
  |some ⟨.box n bt,_⟩,some ⟨.mp N,_⟩=>match get Γ (.o N)with
   |some ⟨.mob _ _ _,_⟩=>if j<n/\Nat.ble A9 N=true then some ⟨(.c b j,.v (.nam N))::Γ,fun ρ=>((),ρ)⟩else none
   |_=>none
  |_,_=>none
 | .own i id e size=>match get (Bv [id] Γ) (.s i),X.TT e with
  |some ⟨.v .nsl,_⟩,some t=>some ⟨(.s i,.own id)::(.o id,.arr e size t)::Bv [id] Γ,fun ρ=>((),[],BP [id] ρ)⟩
  |_,_=>none
 | .ownc b j id e size=>match X.TT e with
  |some t=>match get ((.o id,.arr e size t)::Bv [id] Γ) (.o b),get ((.o id,.arr e size t)::Bv [id] Γ) (.c b j)with
   |some ⟨.box n bt,_⟩,some ⟨.v .nsl,_⟩=>if j<n/\b≠id then some ⟨(.c b j,.own id)::(.o id,.arr e size t)::Bv [id] Γ,fun ρ=>((),[],BP [id] ρ)⟩else none
   |_,_=>none
  |none=>none
 | .ownb b j id e=>match get ((.o id,.buf e)::Bv [id] Γ) (.o b),get ((.o id,.buf e)::Bv [id] Γ) (.c b j)with
  |some ⟨.box n _,_⟩,some ⟨.v .nsl,_⟩=>if j<n/\b≠id then some ⟨(.c b j,.own id)::(.o id,.buf e)::Bv [id] Γ,fun ρ=>((),[],BP [id] ρ)⟩else none
  |_,_=>none
 | .frz i=>match get Γ (.s i)with
  |some ⟨.own id,_⟩=>match get Γ (.o id)with
   |some ⟨.arr _ _ t,xs⟩=>some ⟨(.s i,.v (.sl t))::Bv [id] Γ,fun ρ=>(xs ρ,BP [id] ρ)⟩
   |_=>none
  |some ⟨.mp id,_⟩=>match get Γ (.o id)with
   |some ⟨.mob _ k v,xs⟩=>some ⟨(.s i,.v (.map k v))::Bv [id] Γ,fun ρ=>(xs ρ,BP [id] ρ)⟩
   |_=>none
  |_=>none
 | .frzc b j=>match get Γ (.o b),get Γ (.c b j)with
  |some ⟨.box n bt,_⟩,some ⟨.own id,_⟩=>match get Γ (.o id),get (Bv [id] Γ) (.o b)with
   |some ⟨.arr _ _ t,xs⟩,some ⟨.box n' _,_⟩=>if j<n/\j<n' then some ⟨(.c b j,.v (.sl t))::Bv [id] Γ,fun ρ=>(xs ρ,BP [id] ρ)⟩else none
   |_,_=>none
  |some ⟨.box n bt,_⟩,some ⟨.mp id,_⟩=>match get Γ (.o id),get (Bv [id] Γ) (.o b)with
   |some ⟨.mob _ k v,xs⟩,some ⟨.box n' _,_⟩=>if j<n/\j<n' then some ⟨(.c b j,.v (.map k v))::Bv [id] Γ,fun ρ=>(xs ρ,BP [id] ρ)⟩else none
   |_,_=>none
  |_,_=>none
 | .frzb i=>match get Γ (.s i)with
  |some ⟨.ptr id 0,_⟩=>match get Γ (.o id)with
   |some ⟨.box (n+1) bt,_⟩=>match H9 Γ id n 0 with
    |some p=>some ⟨(.s i,.v (.pt p.1))::Bv [id] Γ,fun ρ=>(p.2 ρ,BP [id] ρ)⟩
    |none=>none
   |_=>none
  |_=>none
def cF(X:TP)(Γ:TC)(g:Gh):Option (cL Γ):=if V6 X.Θ Γ g=true then none else Gx X Γ g
theorem OS:∀{cs:List SV} {l:List CV},A5 closed cs=some l->cs=l.map .c
 | [],l,h=>by cases h;rfl
 |s::cs,l,h=>by
  simp only[A5]at h;obtain⟨c,b,f⟩:=Ab.1 h;obtain⟨l',e,d⟩:=Aa.1 f;subst d
  have:s=.c c:=by
   cases s<;>first|(cases b;rfl)|cases b
  rw[this,OS e];rfl
theorem Ajy{o:Option TC}{Γ:TC}{ρ:HS Γ}{st:St}{i N:Nat}{q:cL Γ}(h:R5 o Γ i N=some q)(u:ae Γ ρ st):∃st',AB (DA o) st st'/\ae q.Γ' (q.up ρ) st':=by
 unfold R5 at h;split at h<;>(try cases h;done);rename_i Θ;split at h<;>(try cases h;done);rename_i H;split at h<;>(try cases h;done);rename_i d f W;split at h<;>(try cases h;done);rename_i D;split at h<;>(try cases h;done);rename_i n bt fo V;split at h<;>(try cases h;done);rename_i p U;split at h<;>(try cases h;done);rename_i l;split at h<;>(try cases h;done);rename_i J T;cases h;simp only[not_or,Bool.not_eq_true,Bool.not_eq_false]at H D;have h1:st.fr i=.ptr d 0:=u.s i _ W;obtain⟨cs,h2,h3,Z⟩:=u.o d _ V;obtain⟨b,L,I,_⟩:=Pj Z U (by omega);rw[List.drop_zero,List.take_of_length_le (by omega)]at L;have Y:cs=b.map .c:=OS L;have C:d<A9:=Nat.lt_of_not_le fun r=>by have:=Nat.ble_eq_true_of_le r;rw[D.2]at this;cases this
 have g:=H.2;rw[Ag]at g;refine⟨_,AB.tell C (Ai g.1) (Nat.eq_of_beq_eq_true g.2) (fun r=> ?_) (fun r=> ?_) h1 h2, ?_⟩
 ·have e:(AK Θ).contains N=true:=r;rw[H.1]at e;cases e
 ·have e:(AK Θ).contains d=true:=r;rw[D.1]at e;cases e
 ·have r1:=ae.drop u d N;obtain⟨O,M⟩:=KQ (ρ:=cw [d,N] (bS (EP d N Γ) ρ)) (x:=p.2 ρ) T I;have m:b.length=n+1:=Fe l.2 I
  have R:=ae.newBox r1 O (ko:=.box (n+1) bt) (y:=()) (o:=.box (b.map .c) bt) ⟨_,rfl,by simp[m],fun j J hj A=>by
   rcases M j J A with⟨_,c,K,S⟩|⟨k1,_⟩
   ·exact⟨.c c,by rw[List.getElem?_map];simp only[Nat.sub_zero]at K;rw[K];rfl,S⟩
   ·omega⟩
  have Q:=ae.set R (d:=i) (k:=.v (.nam N)) (x:=()) (sv:=.c (.nam N)) ⟨_,rfl,by unfold Can;rfl⟩;have B:∀c∈b,Br (CL N) c=true:=E0.1 (Can.noN l.1 I)
  have F:cs.map (Cb (WB.dropB d N st.ob) N)=b.map .c:=by
   rw[Y,List.map_map];refine List.map_congr_left fun c X=> ?_;simp only[Function.comp_apply,Cb];rw[Ao (B c X)]
  have t:R4 i d N cs bt st=St.set {fr:=(Gs d N st).fr,ob:=ac (Gs d N st).ob N (.box (b.map .c) bt)} (some i) (.c (.nam N)):=by
   unfold R4 tellO;rw[show Er (WB.dropB d N st.ob) N (.box cs bt)=.box (cs.map (Cb (WB.dropB d N st.ob) N)) bt from rfl,F];simp only[St.set,St.mk.injEq];exact⟨by funext j;simp only[Cc,Gs],by funext j;simp only[Cc,Gs]⟩
  rw[t];exact Q
theorem Ajx{o:Option TC}{Γ:TC}{ρ:HS Γ}{st:St}{i N:Nat}{q:cL Γ}(h:R3 o Γ i N=some q)(B:ae Γ ρ st):∃st',AB (DA o) st st'/\ae q.Γ' (q.up ρ) st':=by
 unfold R3 at h;split at h<;>(try cases h;done);rename_i Θ;split at h<;>(try cases h;done);rename_i H;split at h<;>(try cases h;done);rename_i d f T;split at h<;>(try cases h;done);rename_i F;split at h<;>(try cases h;done);rename_i e k v xs S;split at h<;>(try cases h;done);rename_i p;cases h;simp only[not_or,Bool.not_eq_true,Bool.not_eq_false]at H F;have m:=H.2;rw[Ag]at m;have J:st.fr i=.omap d:=B.s i _ T;obtain⟨zc,ks,vs,I,U,M,L⟩:=B.o d _ S;have C:d<A9:=Nat.lt_of_not_le fun r=>by have:=Nat.ble_eq_true_of_le r;rw[F.2]at this;cases this
 have K:∀{t:Ty} {x:List (D k×D v)} {g:D k×D v->D t} {l:List CV},t.noN N=true->CanAll (fun y c=>Can t (g y) [c]) x l->AX (CL N) l=true:=by
  intro t x g l R u
  induction x generalizing l with
  |nil=>unfold CanAll at u;subst u;rfl
  |cons y x ih=>
   unfold CanAll at u;obtain⟨c,l',rfl,J,I⟩:=u;simp only[AX,Ag];exact⟨Can.noN1 R J,ih I⟩
 refine⟨_,AB.tellO (rf:=.omap d) C (Ai m.1) (fun r=> ?_) (fun r=> ?_) J I (.inr ⟨_,_,_,_,_,rfl,rfl,Nat.eq_of_beq_eq_true m.2,K (g:=fun y=>y.1) p.1 M,K (g:=fun y=>y.2) p.2 L⟩), ?_⟩
 ·have b:(AK Θ).contains N=true:=r;rw[H.1]at b;cases b
 ·have b:(AK Θ).contains d=true:=r;rw[F.1]at b;cases b
 ·have r1:=ae.drop B d N;have Q:=ae.turnObj r1 (id:=N) (k:=.mob e k v) (y:=xs ρ) (o:=.map e (b3 k) zc ks vs) ⟨zc,ks,vs,rfl,U,M,L⟩;have O:=ae.set Q (d:=i) (k:=.v (.nam N)) (x:=()) (sv:=.c (.nam N)) ⟨_,rfl,by unfold Can;rfl⟩
  have A:tellO i d N (.map e (b3 k) zc ks vs) st=St.set {fr:=(Gs d N st).fr,ob:=ac (Gs d N st).ob N (.map e (b3 k) zc ks vs)} (some i) (.c (.nam N)):=by
   unfold tellO;simp only[St.set,St.mk.injEq];exact⟨by funext j;simp only[Cc,Gs],by funext j;simp only[Cc,Gs];rfl⟩
  rw[A];exact O
theorem Kd{X:TP}{Γ:TC}{ρ:HS Γ}{st:St}{g:Gh}{q:cL Γ}(h:cF X Γ g=some q)(m:ae Γ ρ st):∃st',AB (DA X.Θ) st st'/\ae q.Γ' (q.up ρ) st':=by
 unfold cF at h;split at h<;>(try cases h;done);rename_i K;have l:V6 X.Θ Γ g=false:=by simpa using K
 clear K
 cases g with
 |tell i N=>exact Ajy h m
 |tellm i N=>exact Ajx h m
 |seem b j=>
  simp only[Gx]at h;split at h<;>(try cases h;done);rename_i n bt fb N f C r;split at h<;>(try cases h;done);rename_i e k v xs H;split at h<;>(try cases h;done);rename_i u;cases h;obtain⟨cs,A,J,F⟩:=m.o b _ C;obtain⟨sv,R,c,Q,T⟩:=F j _ u.1 r;unfold Can at T;cases T;subst Q;obtain⟨zc,ks,vs,D,_⟩:=m.o N _ H;exact⟨_,AB.seem (Ai u.2) A R D,Gp m C J F u.1 (k:=.mp N) (x:=()) (sv:=.omap N) rfl⟩
 |unsee b j=>
  simp only[Gx]at h;split at h<;>(try cases h;done);rename_i n bt fb N f C r;split at h<;>(try cases h;done);rename_i e k v xs H;split at h<;>(try cases h;done);rename_i u;cases h;obtain⟨cs,A,J,F⟩:=m.o b _ C;obtain⟨sv,R,Q⟩:=F j _ u.1 r;have O:sv=.omap N:=Q;subst O;obtain⟨zc,ks,vs,D,_⟩:=m.o N _ H;exact⟨_,AB.unsee (Ai u.2) A R D,Gp m C J F u.1 (k:=.v (.nam N)) (x:=()) (sv:=.c (.nam N)) ⟨_,rfl,by unfold Can;rfl⟩⟩
 |own i id e size=>
  simp only[Gx]at h;split at h<;>(try cases h;done);rename_i f t r ht;cases h;have I:=m.kill [id];obtain⟨c,A,J⟩:=I.s i _ r;unfold Can at J;cases J;refine⟨_,AB.trans (AB.kill st [id]) (AB.own (i:=i) (id:=id) (e:=e) (size:=size) A (by simp[WB.kill])),ae.newObjS I (k:=.own id) (ko:=.arr e size t) (x:=()) (y:= []) (v:=.osl id) ⟨[],rfl,rfl⟩ rfl⟩
 |ownc b j id e size=>
  simp only[Gx]at h;split at h<;>(try cases h;done);rename_i t ht;split at h<;>(try cases h;done);rename_i n bt fb f C r;split at h<;>(try cases h;done);rename_i u;cases h;have I:=m.kill [id];have L:=ae.turnObj I (id:=id) (k:=.arr e size t) (y:= []) (o:=.arr e size []) ⟨[],rfl,rfl⟩;obtain⟨cs,A,J,F⟩:=L.o b _ C;obtain⟨sv,R,c,Q,T⟩:=F j _ u.1 r;unfold Can at T;cases T;subst Q;have V:(WB.kill [id] st).ob b=.box cs bt:=by simpa[ac,u.2]using A
  refine⟨_,AB.trans (AB.kill st [id]) (AB.ownc (b:=b) (j:=j) (id:=id) WH V R (by simp[WB.kill])),Gp L C J F u.1 (k:=.own id) (x:=()) (sv:=.osl id) rfl⟩
 |ownb b j id e=>
  simp only[Gx]at h;split at h<;>(try cases h;done);rename_i n bt fb f C r;split at h<;>(try cases h;done);rename_i u;cases h;have I:=m.kill [id];have L:=ae.turnObj I (id:=id) (k:=.buf e) (y:= []) (o:=.buf e []) rfl;obtain⟨cs,A,J,F⟩:=L.o b _ C;obtain⟨sv,R,c,Q,T⟩:=F j _ u.1 r;unfold Can at T;cases T;subst Q;have V:(WB.kill [id] st).ob b=.box cs bt:=by simpa[ac,u.2]using A
  refine⟨_,AB.trans (AB.kill st [id]) (AB.ownc (b:=b) (j:=j) (id:=id) Af9 V R (by simp[WB.kill])),Gp L C J F u.1 (k:=.own id) (x:=()) (sv:=.osl id) rfl⟩
 |frz i=>
  simp only[Gx]at h;split at h<;>(try cases h;done)
  ·rename_i id f r;split at h<;>(try cases h;done);rename_i e size t xs H;cases h;have h1:st.fr i=.osl id:=m.s i _ r;obtain⟨es,D,S⟩:=m.o id _ H;exact⟨_,AB.frz (Kc l r rfl) h1 D,ae.set (m.kill [id]) (d:=i) (k:=.v (.sl t)) (x:=xs ρ) ⟨_,rfl,by unfold Can;exact⟨_,_,rfl,S⟩⟩⟩
  ·rename_i id f r;split at h<;>(try cases h;done);rename_i mt k v xs H;cases h;have h1:st.fr i=.omap id:=m.s i _ r;obtain⟨z,ks,vs,D,_,S,h4⟩:=m.o id _ H;exact⟨_,AB.frzm (Kc l r rfl) h1 D,ae.set (m.kill [id]) (d:=i) (k:=.v (.map k v)) (x:=xs ρ) ⟨_,rfl,by unfold Can;exact⟨_,_,_,rfl,S,h4⟩⟩⟩
 |frzc b j=>
  simp only[Gx]at h;split at h<;>(try cases h;done)
  ·rename_i n bt fb id f C r;split at h<;>(try cases h;done);rename_i e size t xs n' Y fb' H M;split at h<;>(try cases h;done);rename_i u;cases h;obtain⟨cs,A,J,F⟩:=m.o b _ C;obtain⟨sv,R,Q⟩:=F j _ u.1 r;have O:sv=.osl id:=Q;subst O;obtain⟨es,D,S⟩:=m.o id _ H;have I:=m.kill [id];obtain⟨W,Z,k2,k3⟩:=I.o b _ M;have U:b≠id:=fun e=>by rw[e,D]at A;cases A
   have B:W=cs.map (AD [id])/\bt=Y:=by
    have:(WB.kill [id] st).ob b=.box (cs.map (AD [id])) bt:=by simp[WB.kill,U,A,Cp]
    rw[this]at Z;cases Z;exact⟨rfl,rfl⟩
   obtain⟨B,rfl⟩:=B;subst B;exact⟨_,AB.frzc (Kc l r rfl) A R D,Gp I M k2 k3 u.2 (k:=.v (.sl t)) (x:=xs ρ) ⟨_,rfl,by unfold Can;exact⟨_,_,rfl,S⟩⟩⟩
  ·rename_i n bt fb id f C r;split at h<;>(try cases h;done);rename_i e k0 v0 xs n' Y fb' H M;split at h<;>(try cases h;done);rename_i u;cases h;obtain⟨cs,A,J,F⟩:=m.o b _ C;obtain⟨sv,R,Q⟩:=F j _ u.1 r;have O:sv=.omap id:=Q;subst O;obtain⟨zc,ks,vs0,D,_,S,h4⟩:=m.o id _ H;have I:=m.kill [id];obtain⟨W,Z,k2,k3⟩:=I.o b _ M;have U:b≠id:=fun e=>by rw[e,D]at A;cases A
   have B:W=cs.map (AD [id])/\bt=Y:=by
    have:(WB.kill [id] st).ob b=.box (cs.map (AD [id])) bt:=by simp[WB.kill,U,A,Cp]
    rw[this]at Z;cases Z;exact⟨rfl,rfl⟩
   obtain⟨B,rfl⟩:=B;subst B;exact⟨_,AB.frzcm (Kc l r rfl) A R D,Gp I M k2 k3 u.2 (k:=.v (.map k0 v0)) (x:=xs ρ) ⟨_,rfl,by unfold Can;exact⟨_,_,_,rfl,S,h4⟩⟩⟩
 |frzb i=>
  simp only[Gx]at h;split at h<;>(try cases h;done);rename_i id f r;split at h<;>(try cases h;done);rename_i n bt fo H;split at h<;>(try cases h;done);rename_i p hp;cases h;have h1:st.fr i=.ptr id 0:=m.s i _ r;obtain⟨cs,D,S,h4⟩:=m.o id _ H;obtain⟨cvs,h5,h6,_⟩:=Pj h4 hp (by omega);rw[List.drop_zero,List.take_of_length_le (by omega)]at h5;have h7:st.ob id=.box (cvs.map .c) bt:=by rw[D,OS h5]
  exact⟨_,AB.frzb (Kc l r rfl) h1 h7,ae.set (m.kill [id]) (d:=i) (k:=.v (.pt p.1)) (x:=p.2 ρ) ⟨_,rfl,by unfold Can;exact⟨_,rfl,h6⟩⟩⟩
def D9{S T:Type}(b:S->Option (S⊕T)):Nat->S->Option T
 |0,_=>none
 |n+1,s=>(b s).bind fun o=>match o with
  | .inl s'=>D9 b n s'
  | .inr t=>some t
open Classical in
noncomputable def iter{S T:Type}(b:S->Option (S⊕T))(s:S):Option T:=
 if h:∃t n,D9 b n s=some t then some (choose h)else none
theorem PX{S T:Type}{b:S->Option (S⊕T)}:∀{n m:Nat} {s:S} {t:T},n<=m->D9 b n s=some t->D9 b m s=some t
 |0,_,_,_,_,h=>by cases h
 |n+1,0,_,_,hnm,_=>by omega
 |n+1,m+1,s,t,hnm,h=>by
  simp only[D9]at h⊢;obtain⟨o,d,c⟩:=Ab.1 h;rw[d,Ap]
  cases o with
  |inl s'=>exact PX (by omega) c
  |inr t'=>exact c
theorem HP{S T:Type}{b:S->Option (S⊕T)}{s:S}{t:T}:iter b s=some t<->∃n,D9 b n s=some t:=by
 unfold iter;constructor
 ·intro h;split at h<;>(try cases h;done);rename_i c;cases h;exact Classical.choose_spec c
 ·rintro⟨n,h⟩
  have c:∃t n,D9 b n s=some t:=⟨t,n,h⟩;rw[dif_pos c];obtain⟨m,e⟩:=Classical.choose_spec c;have f:=PX (Nat.le_max_left n m) h;have d:=PX (Nat.le_max_right n m) e;rw[f]at d;rw[Option.some.inj d]
theorem Kg{S T:Type}(b:S->Option (S⊕T))(s:S):iter b s=(b s).bind fun o=>match o with
  | .inl s'=>iter b s'
  | .inr t=>some t:=by
 cases d:b s with
 |none=>
  rw[Option.bind_none]
  cases h:iter b s with
  |none=>rfl
  |some t=>
   obtain⟨n,c⟩:=HP.1 h
   cases n with
   |zero=>cases c
   |succ n=>simp[D9,d]at c
 |some o=>
  rw[Ap]
  cases o with
  |inr t=>exact HP.2 ⟨1,by simp[D9,d]⟩
  |inl s'=>
   simp only;apply Option.ext;intro t;rw[HP,HP];constructor
   ·rintro⟨n,c⟩
    cases n with
    |zero=>cases c
    |succ n=>
     refine⟨n, ?_⟩;simpa[D9,d]using c
   ·rintro⟨n,c⟩
    exact⟨n+1,by simpa[D9,d]using c⟩
abbrev XC:=List (Nat×TC)
@[reducible] def KE(A:Type):XC->Type
 | []=>Unit
 |e::xs=>(HS e.2->Option A)×KE A xs
structure dA (A:Type) (xs:XC) (Γn:TC) (R:Type) where
 n:HS Γn->Option A
 e:KE A xs
 r:R->Option A
def Es(A:Type):(xs:XC)->Nat->Option (Σ Γ:TC,KE A xs->HS Γ->Option A)
 | [],_=>none
 |e::xs,i=>if e.1=i then some ⟨e.2,fun k=>k.1⟩else match Es A xs i with
  |some q=>some ⟨q.1,fun k=>q.2 k.2⟩
  |none=>none
def Lc(xs:XC):List Nat->Option XC
 | []=>some []
 |i::is=>match xs.find? (fun e=>e.1==i),Lc xs is with
  |some e,some ys=>some ((i,e.2)::ys)
  |_,_=>none
def Ig(A:Type)(xs:XC):(b:XC)->Option (KE A xs->KE A b)
 | []=>some fun _=>()
 |e::b=>match Es A xs e.1,Ig A xs b with
  |some q,some g=>if h:q.1=e.2 then some fun k=>(h▸q.2 k,g k)else none
  |_,_=>none
@[reducible] def Em(R:Type):XC->Bool->Type
 | [],true=>R
 | [],false=>Empty
 | [e],false=>HS e.2
 | [e],true=>HS e.2⊕R
 |e::xs,rt=>HS e.2⊕Em R xs rt
def bE{R B:Type}:(xs:XC)->(rt:Bool)->(Em R xs rt->B)->KE B xs
 | [],_,_=>()
 | [_],false,f=>(fun ρ=>some (f ρ),())
 | [_],true,f=>(fun ρ=>some (f (.inl ρ)),())
 |_::e::xs,rt,f=>(fun ρ=>some (f (.inl ρ)),bE (e::xs) rt (fun o=>f (.inr o)))
def c6{R B:Type}:(xs:XC)->(rt:Bool)->(Em R xs rt->B)->R->Option B
 | [],true,f=>fun r=>some (f r)
 | [],false,_=>fun _=>none
 | [_],false,_=>fun _=>none
 | [_],true,f=>fun r=>some (f (.inr r))
 |_::e::xs,rt,f=>c6 (e::xs) rt (fun o=>f (.inr o))
def bG{R A:Type}:(xs:XC)->(rt:Bool)->KE A xs->(R->Option A)->Em R xs rt->Option A
 | [],true,_,kr=>fun o=>kr o
 | [],false,_,_=>fun o=>nomatch o
 | [_],false,k,_=>fun o=>k.1 o
 | [_],true,k,kr=>fun o=>match o with
  | .inl ρ=>k.1 ρ
  | .inr r=>kr r
 |_::e::xs,rt,k,kr=>fun o=>match o with
  | .inl ρ=>k.1 ρ
  | .inr o=>bG (e::xs) rt k.2 kr o
open Classical in
noncomputable def IZ{b A:Type}(l:List b)(F:List b->Option A):Option A:=
 if h:∃a,∀c:List b,c.Perm l->F c=some a then some (choose h)else none
theorem Ny{c A:Type}{l:List c}{F:List c->Option A}{a:A}:IZ l F=some a<->∀b:List c,b.Perm l->F b=some a:=by
 unfold IZ;constructor
 ·intro h;split at h
  ·rename_i d;simp only[Ac]at h;rw[<-h];exact Classical.choose_spec d
  ·cases h
 ·intro h;have d:∃a,∀b:List c,b.Perm l->F b=some a:=⟨a,h⟩;rw[dif_pos d];have:=Classical.choose_spec d l (List.Perm.refl l);rw[<-this];exact h l (List.Perm.refl l)
def Fh{X S T:Type}(step:X->S->Option (S⊕T))(av:S->Option (S⊕T)):List X->S->Option T
 | [],s=>(av s).bind fun w=>match w with
  | .inl _=>none
  | .inr t=>some t
 |x::xs,s=>(step x s).bind fun w=>match w with
  | .inl s'=>Fh step av xs s'
  | .inr t=>some t
inductive GL where
 |g (g:Gh)
 |l (l:SL)
def Fw:List GL->List SL
 | []=> []
 | .g _::gs=>Fw gs
 | .l l::gs=>l::Fw gs
inductive HT where
 |nil
 |n (k:HT)
 |g (g:Gh) (k:HT)
 |sp (g:Nat) (t f:HT)
def HT.ns:Nat->HT->HT
 |0,h=>h
 |k+1,h=>.n (.ns k h)
inductive AC where
 |skip
 |reg (draw:Bool) (D:List Nat) (ls:List SL)
 |rg (D:List Nat) (gs:List GL)
 |rgt (draw:Bool) (D:List Nat) (ls:List SL) (h:HT)
 |rga (D:List Nat) (ls:List SL) (gs:List Gh)
 |regE (e:Bool) (D:List Nat) (ls:List SL)
 |regW (W:List (Nat×Nat)) (ls:List SL)
 |sq (a b:AC)
 |seq (Γ:TC) (a b:AC)
 |join (Γ:TC) (ex:List Nat) (rt:Bool) (a b:AC)
 |cond (c:SO) (x y:AC)
 |block (id:Nat) (b:AC)
 |loop (Γ:TC) (ex:List Nat) (rt:Bool) (b:AC)
 |mloop (Γ:TC) (ex:List Nat) (rt:Bool) (it d ok i:Nat) (b:AC)
 |peel (Γ1:TC) (a:AC) (Γ:TC) (ex:List Nat) (rt:Bool) (b:AC)
 |exit (id:Nat)
 |ret
 |gh (g:Gh) (c:AC)
 |raw (c:Cx)
def erase:AC->Cx
 | .skip=>.skip
 | .reg draw D ls=>.reg draw D ls
 | .rg D gs=>.reg false D (Fw gs)
 | .rgt draw D ls _=>.reg draw D ls
 | .rga D ls _=>.reg true D ls
 | .regE _ D ls=>.regE D ls
 | .regW _ ls=>.regW ls
 | .sq a b| .seq _ a b| .join _ _ _ a b=>.seq (erase a) (erase b)
 | .cond c x y=>.cond c (erase x) (erase y)
 | .block id b=>.block id (erase b)
 | .loop _ _ _ b=>.loop (erase b)
 | .peel _ _ _ _ _ b=>.loop (erase b)
 | .mloop _ _ _ it d ok i b=>.loop (.seq (.mnext it d ok) (.seq (.cond (.t ok) .skip (.exit i)) (erase b)))
 | .exit id=>.exit id
 | .ret=>.ret
 | .gh _ c=>erase c
 | .raw c=>c
structure bx (A:Type) (Γ:TC) where
 Γ':TC
 run:HS Γ->(HS Γ'->Option A)->Option A
def I4(A:Type)(X:TP)(msk:List Nat):(ls:List SL)->(Γ:TC)->Option (bx A Γ)
 | [],Γ=>some ⟨Γ,fun ρ K=>K ρ⟩
 |l::ls,Γ=>match cC X Γ msk l with
  |some o=>match I4 A X msk ls o.Γ' with
   |some q=>some ⟨q.Γ',fun ρ K=>o.d.app ρ fun b=>q.run (o.up ρ b) K⟩
   |none=>none
  |none=>none
def Gr(A:Type)(X:TP)(draw:Bool)(D:List Nat)(ls:List SL)(Γ:TC):Option (bx A Γ):=
 match D with
 | []=>I4 A (cond draw X.noE X) [] ls Γ
 |d::ds=>match I4 A (cond draw X.noE X) (if draw then d::ds else []) ls (Bv (d::ds) Γ)with
  |some q=>some ⟨q.Γ',fun ρ K=>q.run (BP (d::ds) ρ) K⟩
  |none=>none
def GP(A:Type)(X:TP):(gs:List GL)->(Γ:TC)->Option (bx A Γ)
 | [],Γ=>some ⟨Γ,fun ρ K=>K ρ⟩
 | .l l::gs,Γ=>match cC X Γ [] l with
  |some o=>match GP A X gs o.Γ' with
   |some q=>some ⟨q.Γ',fun ρ K=>o.d.app ρ fun b=>q.run (o.up ρ b) K⟩
   |none=>none
  |none=>none
 | .g g::gs,Γ=>match cF X Γ g with
  |some p=>match GP A X gs p.Γ' with
   |some q=>some ⟨q.Γ',fun ρ K=>q.run (p.up ρ) K⟩
   |none=>none
  |none=>none
def JR(A:Type)(X:TP)(D:List Nat)(gs:List GL)(Γ:TC):Option (bx A Γ):=
 match D with
 | []=>GP A X gs Γ
 |d::ds=>match GP A X gs (Bv (d::ds) Γ)with
  |some q=>some ⟨q.Γ',fun ρ K=>q.run (BP (d::ds) ρ) K⟩
  |none=>none
def GQ(A:Type)(X:TP)(msk:List Nat):(ls:List RL)->(Γ:TC)->Option (bx A Γ)
 | [],Γ=>some ⟨Γ,fun ρ K=>K ρ⟩
 | .l l::ls,Γ=>match cC X Γ msk l with
  |some o=>match GQ A X msk ls o.Γ' with
   |some q=>some ⟨q.Γ',fun ρ K=>o.d.app ρ fun b=>q.run (o.up ρ b) K⟩
   |none=>none
  |none=>none
 | .sk (some d)::ls,Γ=>match GQ A X msk ls ((.s d,.undef)::Γ)with
  |some q=>some ⟨q.Γ',fun ρ K=>q.run ((),ρ) K⟩
  |none=>none
 | .sk none::ls,Γ=>GQ A X msk ls Γ
def Dr(A:Type)(X:TP)(draw:Bool)(msk:List Nat):(h:HT)->(ls:List RL)->(Γ c:TC)->Option (HS Γ->(HS c->Option A)->Option A)
 | .nil,ls,Γ,c=>match GQ A X msk ls Γ with
  |some q=>match Cm q.Γ' c with
   |some f=>some fun ρ K=>q.run ρ fun i=>K (f i)
   |none=>none
  |none=>none
 | .n k,.l l::ls,Γ,c=>match cC X Γ msk l with
  |some o=>match Dr A X draw msk k ls o.Γ' c with
   |some q=>some fun ρ K=>o.d.app ρ fun b=>q (o.up ρ b) K
   |none=>none
  |none=>none
 | .n k,.sk (some d)::ls,Γ,c=>match Dr A X draw msk k ls ((.s d,.undef)::Γ) c with
  |some q=>some fun ρ K=>q ((),ρ) K
  |none=>none
 | .n k,.sk none::ls,Γ,c=>Dr A X draw msk k ls Γ c
 | .n _,[],_,_=>none
 | .g g k,ls,Γ,c=>match draw with
  |true=>none
  |false=>match cF X Γ g with
   |some p=>match Dr A X draw msk k ls p.Γ' c with
    |some q=>some fun ρ K=>q (p.up ρ) K
    |none=>none
   |none=>none
 | .sp g t f,ls,Γ,c=>match KD g ls with
  |true=>match get Γ (.s g),Dr A X draw msk t (Fm g true [] ls) Γ c,Dr A X draw msk f (Fm g false [] ls) Γ c with
   |some ⟨.v .bool,e⟩,some dt,some df=>some fun ρ K=>if e ρ=true then dt ρ K else df ρ K
   |_,_,_=>none
  |false=>none
def I7(A:Type)(X:TP)(draw:Bool)(D:List Nat)(ls:List SL)(h:HT)(Γ b:TC):Option (HS Γ->(HS b->Option A)->Option A):=
 match D with
 | []=>Dr A (cond draw X.noE X) draw [] h (ls.map .l) Γ b
 |d::ds=>match Dr A (cond draw X.noE X) draw (if draw then d::ds else []) h (ls.map .l) (Bv (d::ds) Γ) b with
  |some q=>some fun ρ K=>q (BP (d::ds) ρ) K
  |none=>none
def Db:aw->Bool
 | .s _=>true
 | .o N| .c N _=> !Nat.ble A9 N
def G1(e:aw×EK):Bool:=Db e.1&&match e.2.refs with
 |some id=> !Nat.ble A9 id
 |none=>true
def Fa(e:aw×EK):Bool:= !Db e.1
def E5(f:aw×EK->Bool):TC->List aw->TC
 | [],_=> []
 |e::Γ,seen=>match seen.contains e.1 with
  |true=>E5 f Γ seen
  |false=>match f e with
   |true=>e::E5 f Γ (e.1::seen)
   |false=>E5 f Γ (e.1::seen)
structure Tp (A:Type) (Γ Θ:TC) where
 Γ':TC
 Θ':TC
 run:HS Γ->HS Θ->(HS Γ'->HS Θ'->Option A)->Option A
def Qm(l:SL):Bool:=(!l.op.hard||l.op.stores)&&l.dst.all fun j=>Nat.blt j A9
def eE(X:TP)(Γ Θ:TC)(l:SL):Option (bK (Θ++Γ)):=match l.op.calls with
 |true=>match Γ.all fun e=>Db e.1 with
  |true=>HZ X (Θ++Γ) l
  |false=>none
 |false=>none
def I5(A:Type)(X:TP)(D:List Nat):(ls:List SL)->(Γ Θ:TC)->Option (Tp A Γ Θ)
 | [],Γ,Θ=>some ⟨Γ,Θ,fun ρ θ K=>K ρ θ⟩
 |l::ls,Γ,Θ=>match eE X Γ Θ l with
  |some o=>match Cm o.Γ' (E5 G1 o.Γ' []),Cm o.Γ' (E5 Fa o.Γ' [])with
   |some g,some f=>match I5 A X D ls (E5 G1 o.Γ' []) (E5 Fa o.Γ' [])with
    |some q=>some ⟨q.Γ',q.Θ',fun ρ θ K=>o.d.app (CK Θ θ ρ) fun b=>q.run (g (o.up (CK Θ θ ρ) b)) (f (o.up (CK Θ θ ρ) b)) K⟩
    |none=>none
   |_,_=>none
  |none=>match Qm l with
   |true=>match Ia X Γ D l with
    |some o=>match I5 A X D ls o.Γ' Θ with
     |some q=>some ⟨q.Γ',q.Θ',fun ρ θ K=>o.d.app ρ fun b=>q.run (o.up ρ b) θ K⟩
     |none=>none
    |none=>none
   |false=>none
def Pt(A:Type)(X:TP)(D:List Nat)(ls:List SL)(Γ:TC):Option (bx A Γ):=
 match Cm (Bv D Γ) (E5 G1 (Bv D Γ) []),Cm (Bv D Γ) (E5 Fa (Bv D Γ) [])with
 |some g,some f=>match I5 A X D ls (E5 G1 (Bv D Γ) []) (E5 Fa (Bv D Γ) [])with
  |some q=>match q.Γ'.all fun e=>Db e.1 with
   |true=>some ⟨q.Θ'++q.Γ',fun ρ K=>q.run (g (BP D ρ)) (f (BP D ρ)) fun b c=>K (CK q.Θ' c b)⟩
   |false=>none
  |none=>none
 |_,_=>none
def YF(Γ:TC)(W:List (Nat×Nat))(k:Nat):Bool:=match get Γ (.s k)with
 |some ⟨.ptr id o,_⟩=>de W id o
 |_=>false
def Qs(Γ:TC)(W:List (Nat×Nat))(sz:Option Nat)(k:Nat):Bool:=match get Γ (.s k)with
 |some ⟨.ptr id o,_⟩=>GU W id (o+sz.getD 1)
 |some ⟨.v (.nam N),_⟩=>GU W N (sz.getD 1)
 |some ⟨.v (.pt _),_⟩|some ⟨.rp _ _,_⟩|some ⟨.eptr _ _ _,_⟩=>true
 |_=>false
def WP(Γ:TC)(W:List (Nat×Nat)):aa->Bool
 | .load sz (.t k)=>Qs Γ W sz k
 | .load _ _=>false
 |op=>op.simple
def eA(Γ:TC)(W:List (Nat×Nat))(l:SL):Bool:=match l.via with
 |some k=>YF Γ W k
 |none=>WP Γ W l.op
def I6(A:Type)(X:TP)(W:List (Nat×Nat)):(ls:List SL)->(Γ:TC)->Option (bx A Γ)
 | [],Γ=>some ⟨Γ,fun ρ K=>K ρ⟩
 |l::ls,Γ=>match eA Γ W l with
  |true=>match cC X.noE Γ [] l with
   |some o=>match I6 A X W ls o.Γ' with
    |some q=>some ⟨q.Γ',fun ρ K=>o.d.app ρ fun b=>q.run (o.up ρ b) K⟩
    |none=>none
   |none=>none
  |false=>none
def Pu(A:Type)(X:TP)(e:Bool)(D:List Nat)(ls:List SL)(Γ:TC):Option (bx A Γ):=match e with
 |true=>Pt A X D ls Γ
 |false=>Gr A X true D ls Γ
def GR(A:Type)(X:TP):AC->(Γ:TC)->Option (bx A Γ)
 | .skip,Γ=>some ⟨Γ,fun ρ K=>K ρ⟩
 | .reg draw D ls,Γ=>Gr A X draw D ls Γ
 | .rg D gs,Γ=>JR A X D gs Γ
 | .regE e D ls,Γ=>Pu A X e D ls Γ
 | .regW W ls,Γ=>I6 A X W ls Γ
 | .sq a b,Γ=>match GR A X a Γ with
  |some p=>match GR A X b p.Γ' with
   |some q=>some ⟨q.Γ',fun ρ K=>p.run ρ fun d=>q.run d K⟩
   |none=>none
  |none=>none
 | .gh g c,Γ=>match cF X Γ g with
  |some p=>match GR A X c p.Γ' with
   |some q=>some ⟨q.Γ',fun ρ K=>q.run (p.up ρ) K⟩
   |none=>none
  |none=>none
 |_,_=>none
def Jj(X:TP)(Γ:TC):Bj->Option (Σ t:Ty,ab (HS Γ) (D t))
 | .tmp t=>match cB Γ [] (.t t)with
  |some q=>some q.2
  |none=>none
 | .cell a sz=>match b5 X.G Γ (.t a)with
  |some k=>match EG Γ [] sz (DI Γ [] k)with
   |some ⟨.v t,d⟩=>some ⟨t,d⟩
   |some ⟨.own id,.tot _⟩=>match get Γ (.o id)with
    |some ⟨.arr _ _ t,xs⟩=>some ⟨.sl t,.tot xs⟩
    |_=>none
   |_=>none
  |none=>none
def Ji(X:TP)(Γ:TC):List Bj->Option (Σ r:Ty,ab (HS Γ) (D r))
 | []=>some ⟨.nil,.tot fun _=>()⟩
 | [x]=>match Jj X Γ x with
  |some q=>some ⟨.one q.1,q.2⟩
  |none=>none
 |x::y::xs=>match Jj X Γ x,Ji X Γ (y::xs)with
  |some q,some p=>some ⟨.cons q.1 p.1,q.2.both p.2⟩
  |_,_=>none
def NB(X:TP)(Γ:TC):List Bj->Option (Σ t:Ty,ab (HS Γ) (D t))
 | [x]=>Jj X Γ x
 |xs=>match Ji X Γ xs with
  |some q=>some ⟨.tup q.1,q.2⟩
  |none=>none
def Ra(Γ:TC):(rs:List Bj)->(b:Ty)->Option (HS Γ->D b)
 | [.tmp i],.nw e size t=>match get Γ (.s i)with
  |some ⟨.own id,_⟩=>match get Γ (.o id)with
   |some ⟨.arr e' size' t',xs⟩=>if h:t'=t then(if e'=e/\size'=size then some fun ρ=>(h▸xs ρ:List (D t))else none)else none
   |_=>none
  |some ⟨.v .nsl,_⟩=>some fun _=>([]:List (D t))
  |_=>none
 |_,_=>none
structure cJ (Γ:TC) (R:Type):Type 1 where
 B:Type
 d:ab (HS Γ) B
 up:HS Γ->B->R
def dI(X:TP)(rs:List Bj)(b:Ty)(Γ:TC):Option (cJ Γ (D b)):=
 match Ra Γ rs b with
 |some g=>some ⟨Unit,.tot fun _=>(),fun ρ _=>g ρ⟩
 |none=>match NB X Γ rs with
  |some q=>match Bn q.1 b with
   |some g=>some ⟨D q.1,q.2,fun _ v=>g v⟩
   |none=>none
  |none=>none
def JP(X:TP):(gs:List Gh)->(Γ:TC)->Option (Σ Γ':TC,HS Γ->HS Γ')
 | [],Γ=>some ⟨Γ,fun ρ=>ρ⟩
 |g::gs,Γ=>match cF X Γ g with
  |some p=>match JP X gs p.Γ' with
   |some q=>some ⟨q.1,fun ρ=>q.2 (p.up ρ)⟩
   |none=>none
  |none=>none
noncomputable def den(X:TP)(R:Type)(rd:(Γ:TC)->Option (cJ Γ R)):AC->(A:Type)->(xs:XC)->(j Γ:TC)->Option (HS Γ->dA A xs j R->Option A)
 | .skip,A,xs,j,Γ=>match Cm Γ j with
  |some f=>some fun ρ k=>k.n (f ρ)
  |none=>none
 | .reg draw D ls,A,xs,j,Γ=>match Gr A X draw D ls Γ with
  |some q=>match Cm q.Γ' j with
   |some f=>some fun ρ k=>q.run ρ fun l=>k.n (f l)
   |none=>none
  |none=>none
 | .rg D gs,A,xs,j,Γ=>match JR A X D gs Γ with
  |some q=>match Cm q.Γ' j with
   |some f=>some fun ρ k=>q.run ρ fun l=>k.n (f l)
   |none=>none
  |none=>none
 | .rgt draw D ls h,A,xs,j,Γ=>match I7 A X draw D ls h Γ j with
  |some q=>some fun ρ k=>q ρ k.n
  |none=>none
 | .rga D ls gs,A,xs,j,Γ=>match Gr A X true D ls Γ with
  |some q=>match JP X gs q.Γ' with
   |some p=>match Cm p.1 j with
    |some f=>some fun ρ k=>q.run ρ fun l=>k.n (f (p.2 l))
    |none=>none
   |none=>none
  |none=>none
 | .regE e D ls,A,xs,j,Γ=>match Pu A X e D ls Γ with
  |some q=>match Cm q.Γ' j with
   |some f=>some fun ρ k=>q.run ρ fun l=>k.n (f l)
   |none=>none
  |none=>none
 | .regW W ls,A,xs,j,Γ=>match I6 A X W ls Γ with
  |some q=>match Cm q.Γ' j with
   |some f=>some fun ρ k=>q.run ρ fun l=>k.n (f l)
   |none=>none
  |none=>none
 | .sq a b,A,xs,j,Γ=>match GR A X a Γ with
  |some q=>match den X R rd b A xs j q.Γ' with
   |some db=>some fun ρ k=>q.run ρ fun l=>db l k
   |none=>none
  |none=>none
 | .seq Γm a b,A,xs,j,Γ=>match den X R rd a A xs Γm Γ,den X R rd b A xs j Γm with
  |some da,some db=>some fun ρ k=>da ρ ⟨fun t=>db t k,k.e,k.r⟩
  |_,_=>none
 | .join Γm ex rt a b,A,xs,j,Γ=>match Lc xs ex with
  |some ys=>match Ig A xs ys,den X R rd a (Em R ((0,Γm)::ys) rt) ys Γm Γ,den X R rd b A xs j Γm with
   |some g,some da,some db=>some fun ρ k=>(da ρ ⟨(bE ((0,Γm)::ys) rt (fun o=>o)).1,(bE ((0,Γm)::ys) rt (fun o=>o)).2,c6 ((0,Γm)::ys) rt (fun o=>o)⟩).bind (bG ((0,Γm)::ys) rt (fun t=>db t k,g k.e) k.r)
   |_,_,_=>none
  |none=>none
 | .cond c x y,A,xs,j,Γ=>match ap Γ c,den X R rd x A xs j Γ,den X R rd y A xs j Γ with
  |some ⟨.bool,d⟩,some dx,some dy=>some fun ρ k=>d.app ρ fun b=>if b=true then dx ρ k else dy ρ k
  |_,_,_=>none
 | .block id b,A,xs,j,Γ=>match den X R rd b A ((id,j)::xs) j Γ with
  |some db=>some fun ρ k=>db ρ ⟨k.n,(k.n,k.e),k.r⟩
  |none=>none
 | .loop Γh ex rt b,A,xs,_,Γ=>match Lc xs ex with
  |some ys=>match Ig A xs ys,Cm Γ Γh,den X R rd b (HS Γh⊕Em R ys rt) ys Γh Γh with
   |some g,some f,some db=>some fun ρ k=>(iter (fun ρ=>db ρ ⟨fun l=>some (.inl l),bE ys rt Sum.inr,c6 ys rt Sum.inr⟩) (f ρ)).bind (bG ys rt (g k.e) k.r)
   |_,_,_=>none
  |none=>none
 | .peel Γ1 a Γh ex rt b,A,xs,_,Γ=>match decide (erase a=erase b),Lc xs ex with
  |true,some ys=>match Ig A xs ys,Cm Γ Γ1,den X R rd a (HS Γh⊕Em R ys rt) ys Γh Γ1,den X R rd b (HS Γh⊕Em R ys rt) ys Γh Γh with
   |some g,some f,some da,some db=>some fun ρ k=>((da (f ρ) ⟨fun l=>some (.inl l),bE ys rt Sum.inr,c6 ys rt Sum.inr⟩).bind fun w=>match w with
    | .inl l=>iter (fun ρ=>db ρ ⟨fun l=>some (.inl l),bE ys rt Sum.inr,c6 ys rt Sum.inr⟩) l
    | .inr o=>some o).bind (bG ys rt (g k.e) k.r)
   |_,_,_,_=>none
  |_,_=>none
 | .mloop Γh ex rt it d ok i b,A,xs,_,Γ=>match get Γ (.s it),get Γ (.o it)with
  |some ⟨.iter id,_⟩,some ⟨.mit kt vt,m⟩=>match Nat.beq id it&&(Nat.blt it A9&&HX it (erase b)),Lc xs ex with
   |true,some ys=>match Ig A xs ys,Cm Γ Γh,Cm ((.s it,.iter it)::(.o it,.mcur kt vt)::Γh) Γh,Es (HS Γh⊕Em R ys rt) ys i,den X R rd b (HS Γh⊕Em R ys rt) ys ((.s it,.iter it)::(.o it,.mcur kt vt)::Γh) ((.s ok,.v .bool)::(.s d,.undef)::(.s it,.iter it)::(.o it,.mcur kt vt)::Γh)with
    |some g,some f,some fb,some q,some db=>match Cm ((.s ok,.v .bool)::(.s d,.undef)::Γh) q.1 with
     |some c=>some fun ρ k=>IZ (m ρ) fun u=>(Fh (fun x ρ=>db (true,(),(),x,ρ) ⟨fun l=>some (.inl (fb l)),bE ys rt Sum.inr,c6 ys rt Sum.inr⟩) (fun ρ=>q.2 (bE ys rt Sum.inr) (c (false,(),ρ))) u (f ρ)).bind (bG ys rt (g k.e) k.r)
     |none=>none
    |_,_,_,_,_=>none
   |_,_=>none
  |_,_=>none
 | .exit i,A,xs,_,Γ=>match Es A xs i with
  |some q=>match Cm Γ q.1 with
   |some f=>some fun ρ k=>q.2 k.e (f ρ)
   |none=>none
  |none=>none
 | .ret,A,xs,j,Γ=>match rd Γ with
  |some q=>some fun ρ k=>q.d.app ρ fun v=>k.r (q.up ρ v)
  |none=>none
 | .raw _,_,_,_,_=>some fun _ _=>none
 | .gh g c,A,xs,j,Γ=>match cF X Γ g with
  |some p=>match den X R rd c A xs j p.Γ' with
   |some dc=>some fun ρ k=>dc (p.up ρ) k
   |none=>none
  |none=>none
end WB
