/-
  OWN TEXTS, MERGED (wip/merge.py): CoreTj, CoreTjt, CoreTk, CoreTkr, CoreTks, CoreTkt, CoreTl, CoreTm. No condition of their own.
-/
import Derived.Test.YtefbaepigpomaaaGreatDoorK5
import Derived.Test.YtefbaepigpomaaaGreatDoorK4
set_option linter.unusedVariables false
set_option linter.unusedSimpArgs false
open Go.IntKind (i64 u64 u8 u32)
namespace WB
open Go Go.RowKit
def Pf:CV->Bool
 | .bool _| .tup []=>true
 |_=>false
def E0:Ob->Bool
 | .miter _ _ _=>true
 |_=>false
structure Kp (st s:St):Prop where
 fix:∀(i:Nat) (c:CV),Pf c=true->st.fr i=.c c->s.fr i=.c c
 it:∀id,E0 (s.ob id)=true->s.ob id=st.ob id
theorem Kp.refl(st:St):Kp st st:=⟨fun _ _ _ h=>h,fun _ _=>rfl⟩
theorem Kp.trans{s t u:St}(h:Kp s t)(k:Kp t u):Kp s u:=⟨fun i c b d=>k.fix i c b (h.fix i c b d),fun id hi=>by
 have e:=k.it id hi;rw[e]
 exact h.it id (e▸hi)⟩
def Ax(le:Db)(st st':St):Prop:=(∀{P:Program} {G:Nat->List CV} {w0:WL} {M0:MM} {n:Nat} {a:Act} {w:World} {z:Cz},w0.le=le->SR P G w0 M0 n st a w z->∃z',SR P G w0 M0 n st' a w z')/\
 Kp st st'
variable {le:Db}
theorem Ax.refl(st:St):Ax le st st:=⟨fun _ h=>⟨_,h⟩,Kp.refl st⟩
theorem Ax.trans{s t u:St}(h:Ax le s t)(k:Ax le t u):Ax le s u:=⟨fun b c=>by
 obtain⟨z',d⟩:=h.1 b c
 exact k.1 b d,h.2.trans k.2⟩
theorem Ix{st:St}{ids:List Nat}{i:Nat}{c:CV}(h:st.fr i=.c c):(WB.kill ids st).fr i=.c c:=by
 show Ay ids (st.fr i)=_;rw[h];rfl
theorem NK{fr:Nat->SV}{j i:Nat}{c:CV}{v:SV}(h:fr i=.c c)(b:fr j≠ .c c):ac fr j v i=.c c:=by
 by_cases e:i=j
 ·subst e;exact absurd h b
 ·rw[A8 _ _ e];exact h
theorem UT{D:List Nat}{o:Ob}(h:E0 (Ch D o)=true):Ch D o=o:=by cases o<;>first|rfl|cases h
theorem G8{st:St}{ids:List Nat}{id:Nat}(h:E0 ((WB.kill ids st).ob id)=true):(WB.kill ids st).ob id=st.ob id:=by
 unfold WB.kill at h⊢;simp only at h⊢;split
 ·rename_i b;rw[if_pos b]at h;cases h
 ·rename_i b;rw[if_neg b]at h;exact UT h
theorem EY{ob:Nat->Ob}{j id:Nat}{o:Ob}(b:E0 o=false)(h:E0 (ac ob j o id)=true):ac ob j o id=ob id:=by
 by_cases e:id=j
 ·subst e;rw[AR,b]at h;cases h
 ·rw[A8 _ _ e]
theorem Ax.kill(st:St)(ids:List Nat):Ax le st (WB.kill ids st):=⟨fun _ h=>⟨_,h.killed ids⟩,fun _ _ _ h=>Ix h,fun _ h=>G8 h⟩
section
variable {P:Program} {G:Nat->List CV} {w0:WL} {M0:MM} {n:Nat} {st:St} {a:Act} {w:World} {z:Cz}
theorem SR.reslot(h:SR P G w0 M0 n st a w z){i:Nat}{sv:SV}(c:Aw w (Ao M0 z st.ob) z st.ob sv (a.tmps.getD i undef)):SR P G w0 M0 n {st with fr:=ac st.fr i sv} a w z:=by
 refine⟨h.size,h.defers,h.below,h.outer,h.nam,h.glob,fun j=> ?_,h.ob,h.lo,h.apart⟩;show Aw w _ z st.ob (ac st.fr i sv j) _;by_cases b:j=i
 ·subst b;rw[AR];exact c
 ·rw[A8 _ _ b];exact h.fr j
theorem SR.reob(h:SR P G w0 M0 n st a w z){b:Nat}{o:Ob}(y:st.ob b≠ .none)(p:o≠ .none)(d:bu o=true->bu (st.ob b)=true)(u:AV P w (Ao M0 z st.ob) 0 z st.ob b (z.σ b) o):SR P G w0 M0 n {st with ob:=ac st.ob b o} a w z:=by
 have live:∀id,ac st.ob b o id≠ .none<->st.ob id≠ .none:=by
  intro id;by_cases ag:id=b
  ·subst ag;simp[AR,y,p]
  ·rw[A8 _ _ ag]
 have x:∀g,Ao M0 z (ac st.ob b o) g->Ao M0 z st.ob g:=fun g t=>Or.imp id (fun⟨id,k,f⟩=>⟨id,(live id).1 k,f⟩) t;have q:Bg w (Ao M0 z st.ob) w (Ao M0 z (ac st.ob b o)):=⟨Nat.le_refl _,fun _ _ _=>rfl,fun g _ t=>x g t,rfl⟩;have m:∀s,Fp st.ob z (ac st.ob b o) z s:=fun s=>⟨fun id _ c=>(live id).2 c,fun _ _ _=>rfl,fun _ _ _ _ _ c=>c⟩
 have v:GX w0 M0 n z (ac st.ob b o):=h.nam.of rfl fun N A l=>by
  by_cases e:N=b
  ·subst e;rw[AR]at l;exact⟨d l,rfl⟩
  ·rw[A8 _ _ e]at l;exact⟨l,rfl⟩
 refine⟨h.size,h.defers,h.below,h.outer,v,h.glob,fun i=>Aw.keep q (m _) (h.fr i),fun id=> ?_,fun id g k f=>h.lo id g ((live id).1 k) f,fun i j g r k f=>h.apart i j g r ((live i).1 k) ((live j).1 f)⟩;show AV P w _ _ z (ac st.ob b o) id (z.σ id) (ac st.ob b o id);by_cases ag:id=b
 ·subst ag;rw[AR];exact AV.keep q (fun _ _=>rfl) (fun _ _ _ _=>m _) (fun _ _ c=>c) u
 ·rw[A8 _ _ ag];exact AV.keep q (fun _ _=>rfl) (fun _ _ _ _=>m _) (fun _ _ c=>c) (h.ob id)
def MA(o:Ob):Prop:=(o≠ .none/\bu o=false/\E0 o=false)/\∀(P:Program) (w:World) (M:MM) (z:Cz) (ob:Nat->Ob) (id:Nat),AV P w M 0 z ob id (.slice none 0 0) o
theorem VI{e size:Nat}:MA (.arr e size []):=⟨⟨fun h=>(by cases h),rfl,rfl⟩,fun _ _ _ _ _ _=>⟨[],⟨by simp,.inl ⟨rfl,rfl⟩⟩,rfl⟩⟩
theorem Aef{e:Nat}:MA (.buf e []):=⟨⟨fun h=>(by cases h),rfl,rfl⟩,fun _ _ _ _ _ _=>⟨by simp[Lib.byteCells],.inl ⟨rfl,rfl⟩⟩⟩
theorem SR.newNil(h:SR P G w0 M0 n st a w z){id:Nat}{l:Ob}(A:MA l)(s:st.ob id=.none):SR P G w0 M0 n {st with ob:=ac st.ob id l} a w (z.new id (.slice none 0 0)):=by
 have x:=Ml (M0:=M0) (z:=z) (d:=id) (v:=.slice none 0 0) (o:=l) (w:=w) (w':=w) s (Below.refl _ _) (fun g y=>by cases y)
 have r:GX w0 M0 n (z.new id (.slice none 0 0)) (ac st.ob id l):=h.nam.of rfl fun N F m=>by
  by_cases c:N=id
  ·subst c;rw[AR,A.1.2.1]at m;cases m
  ·rw[A8 _ _ c]at m;exact⟨m,by simp[Cz.new,ac,c]⟩
 refine⟨h.size,h.defers,h.below,h.outer,r,h.glob,fun i=>Aw.keep x (JG s _) (h.fr i),fun i=> ?_,fun i g f e=> ?_,fun i j g u f e q p=> ?_⟩
 ·show AV P w _ _ _ (ac st.ob id _) i _ (ac st.ob id _ i);by_cases hi:i=id
  ·subst hi;rw[AR];have:(z.new i (.slice none 0 0)).σ i=.slice none 0 0:=by simp[Cz.new,ac]
   rw[this];exact A.2 _ _ _ _ _ _
  ·rw[A8 _ _ hi];have D:(z.new id (.slice none 0 0)).σ i=z.σ i:=by simp[Cz.new,ac,hi]
   rw[D];by_cases B:st.ob i=.none
   ·rw[B];trivial
   ·exact AV.keep x (fun g y=>rfl) (fun _ _ _ _=>JG s _) (fun k b C=>by simpa[Cz.new,hi]using C) (h.ob i)
 ·by_cases hi:i=id
  ·subst hi;simp only[Cz.new,AR]at e;cases e
  ·simp only[A8 _ _ hi]at f;simp only[Cz.new,A8 _ _ hi]at e;exact h.lo i g f e
 ·by_cases hi:i=id
  ·subst hi;simp only[Cz.new,AR]at q;cases q
  ·by_cases t:j=id
   ·subst t;simp only[Cz.new,AR]at p;cases p
   ·simp only[A8 _ _ hi]at f;simp only[A8 _ _ t]at e;simp only[Cz.new,A8 _ _ hi]at q;simp only[Cz.new,A8 _ _ t]at p;exact h.apart i j g u f e q p
theorem U9(h:SR P G w0 M0 n st a w z){id Q sz:Nat}(L:¬w0.le.I id){es:List CV}(q:st.ob id=.arr Q sz es){v:Value}(F:Aw w (Ao M0 z st.ob) z st.ob (.osl id) v):RelC w (Ao M0 z (kill [id] st).ob) (.sl none es) v:=by
 have f:∀g,Ao M0 z (kill [id] st).ob g->Ao M0 z st.ob g:=fun g s=>Or.imp _root_.id Ke s;have J:Bg w (Ao M0 z st.ob) w (Ao M0 z (kill [id] st).ob):=⟨Nat.le_refl _,fun _ _ _=>rfl,fun g _ s=>f g s,rfl⟩;obtain⟨b,e⟩:=F
 have l:∀g,blk (z.σ id)=some g->¬Ao M0 z (kill [id] st).ob g:=fun g B r=>by
  rcases r with r|⟨id',hl',hb'⟩
  ·exact h.out b B L r
  ·have m:=Gd.1 hl';have d:id≠id':=fun e=>m.1 (by simp[e]);exact h.apart id id' g d b m.2 B hb'
 have A:=h.ob id;rw[q]at A;obtain⟨T,i,K⟩:=A;unfold RelC;rcases i.2 with⟨p,x⟩|⟨g,cap,y,ty,O,p,x,C,_,_,S,W,V,R⟩
 ·refine⟨none,0,0,by rw[e,p],x.symm,Nat.le_refl _,(fun c=>by cases c),(fun c=>by cases c),fun _=>rfl,fun d=> ?_⟩;exact absurd (List.eq_nil_of_length_eq_zero x) d
 ·refine⟨some ⟨g,0,none⟩,es.length,cap,by rw[e,p],rfl,S,(fun c=>by cases c),(fun c=>by cases c),(fun c=>by cases c),fun _=>⟨⟨g,0,none⟩,sz,rfl,C2 C,l g (by rw[p];rfl), ?_⟩⟩;refine FL fun k U t=> ?_;obtain⟨u,N,M,g3⟩:=Gs K t;refine⟨u,RelC.keep J _ _ N,M,fun j D H=> ?_⟩;rw[Eb,cell_of_row w g _ y ty O C];have o:=g3 j D H;rw[<-R,List.getElem?_take]at o;split at o
  ·simpa using o
  ·cases o
theorem S8{ob:Nat->Ob}{M:MM}:∀{b:List CV} {vs:List Value},A3 w M z ob (b.map .c) vs->RelL w M b vs
 | [],vs,h=>h
 |c::b,vs,h=>by
  obtain⟨v,d,rfl,f,e⟩:=h;exact RelL.cons f (S8 e)
theorem ZX{bt:Option TypeId}(h:SR P G w0 M0 n st a w z){id:Nat}(y:¬w0.le.I id){j:List CV}(k:st.ob id=.box (j.map .c) bt){v:Value}(u:Aw w (Ao M0 z st.ob) z st.ob (.ptr id 0) v):RelC w (Ao M0 z (kill [id] st).ob) (.wp j) v:=by
 have d:∀g,Ao M0 z (kill [id] st).ob g->Ao M0 z st.ob g:=fun g o=>Or.imp _root_.id Ke o;have x:Bg w (Ao M0 z st.ob) w (Ao M0 z (kill [id] st).ob):=⟨Nat.le_refl _,fun _ _ _=>rfl,fun g _ o=>d g o,rfl⟩;obtain⟨b,r,t,e⟩:=u
 have f:∀g,blk (z.σ id)=some g->¬Ao M0 z (kill [id] st).ob g:=fun g q m=>by
  rcases m with m|⟨id',hl',hb'⟩
  ·exact h.out b q y m
  ·have i:=Gd.1 hl';have l:id≠id':=fun e=>i.1 (by simp[e]);exact h.apart id id' g l b i.2 q hb'
 have p:=h.ob id;rw[k]at p;obtain⟨g,ty,vs,s,B,A⟩:=p;rw[t]at s;cases s;unfold RelC;exact⟨r,ty.1,vs,e,B,f r (by rw[t];rfl),RelL.keep x _ _ (S8 A)⟩
theorem UA(h:SR P G w0 M0 n st a w z){id:Nat}(K:¬w0.le.I id){mt:TypeId}{kt:KT}{zc:CV}{ks vs:List CV}(l:st.ob id=.map mt kt zc ks vs){v:Value}(F:Aw w (Ao M0 z st.ob) z st.ob (.omap id) v):RelC w (Ao M0 z (kill [id] st).ob) (.map none ks vs) v:=by
 have d:∀g,Ao M0 z (kill [id] st).ob g->Ao M0 z st.ob g:=fun g q=>Or.imp _root_.id Ke q;have y:Bg w (Ao M0 z st.ob) w (Ao M0 z (kill [id] st).ob):=⟨Nat.le_refl _,fun _ _ _=>rfl,fun g _ q=>d g q,rfl⟩;obtain⟨c,e⟩:=F
 have i:∀g,blk (z.σ id)=some g->¬Ao M0 z (kill [id] st).ob g:=fun g k p=>by
  rcases p with p|⟨id',hl',hb'⟩
  ·exact h.out c k K p
  ·have j:=Gd.1 hl';have m:id≠id':=fun e=>j.1 (by simp[e]);exact h.apart id id' g m c j.2 k hb'
 obtain⟨J,D,C,r,u,x,o,B,f,A,Q,O,N,M,L,_⟩:=I2 h l;obtain⟨ens',H,t,s⟩:=Wy o A Q;unfold RelC;refine⟨some r,by rw[e,B],(fun f=>by cases f),(fun f=>by cases f),(fun f=>by cases f),fun b k=> ?_⟩;cases k;exact⟨i r (by rw[B];rfl),u,ens',x,f,⟨PX O A N,M,L⟩,H,RelL.keep y _ _ t,RelL.keep y _ _ s⟩
end
theorem VJ{w:World}{M:MM}{v:Value}(h:RelC w M (.sl (some true) []) v):v=.slice none 0 0:=by
 unfold RelC at h;obtain⟨a,m,c,rfl,f,_,e,_,d,_⟩:=h;have:=e rfl;subst this;have b:m=0:=by simpa using f
 subst b;rw[d rfl]
theorem Ax.own{st:St}{i id e size:Nat}(hi:st.fr i=.c (.sl (some true) []))(f:st.ob id=.none):Ax le st {fr:=ac st.fr i (.osl id),ob:=ac st.ob id (.arr e size [])}:=by
 refine⟨fun{P G w0 M0 n a w z} he h=> ?_,⟨fun k c g b=> ?_,fun k b=> ?_⟩⟩
 ·have j:=h.newNil (VI (e:=e) (size:=size)) f;refine⟨_,j.reslot (i:=i) (sv:=.osl id) ⟨by simp[ac], ?_⟩⟩;have d:=h.fr i;rw[hi]at d;rw[VJ d];simp[Cz.new,ac]
 ·exact NK b (by rw[hi];intro e;cases e;cases g)
 ·exact EY rfl b
theorem A3.set{P:Program}{w:World}{M:MM}{z:Cz}{ob:Nat->Ob}:∀{cs:List SV} {vs:List Value} (j:Nat) {s:SV},A3 w M z ob cs vs->(∀v,vs[j]? =some v->Aw w M z ob s v)->A3 w M z ob (cs.set j s) vs
 | [],_,_,_,h,_=>by simpa using h
 |c::cs,vs,0,s,h,k=>by
  obtain⟨v,b,rfl,_,d⟩:=h;exact⟨v,b,rfl,k v rfl,d⟩
 |c::cs,vs,j+1,s,h,k=>by
  obtain⟨v,b,rfl,f,d⟩:=h;exact⟨v,b,rfl,f,A3.set (P:=P) j d (fun u e=>k u (by simpa using e))⟩
theorem Ax.ownc{bt:Option TypeId}{st:St}{b j id:Nat}{i:Ob}(y:MA i){cs:List SV}(f:st.ob b=.box cs bt)(I:cs[j]? =some (.c (.sl (some true) [])))(C:st.ob id=.none):Ax le st {fr:=st.fr,ob:=ac (ac st.ob id i) b (.box (cs.set j (.osl id)) bt)}:=by
 refine⟨fun{P G w0 M0 n a w z} he h=> ?_,⟨fun k c M t=> ?_,fun k t=> ?_⟩⟩
 ·have d:b≠id:=fun e=>by rw[e,C]at f;cases f
  have F:=h.newNil y C;have B:=F.ob b;simp only[A8 _ _ d,f]at B;have m:=h.ob b;rw[f]at m;obtain⟨g,ty,vs,s,q,K⟩:=B;obtain⟨N,x,u,r,p,A⟩:=m;have l:(z.new id (.slice none 0 0)).σ b=z.σ b:=by simp[Cz.new,ac,d]
  rw[l,r]at s;cases s;rw[p]at q;obtain rfl:vs=u:=by simp only[Ac,Obj.cells.injEq,Array.mk.injEq]at q;exact q.1.symm
  refine⟨_,F.reob (b:=b) (o:=.box (cs.set j (.osl id)) bt) ?_ (by simp) (fun _=>by simp only[A8 _ _ d,f];rfl) ⟨g,x,vs,by rw[l,r],p,A3.set (P:=P) j K fun v H=>⟨by simp[ac,y.1.1], ?_⟩⟩⟩
  ·simp only[A8 _ _ d,f];simp
  ·obtain⟨L,D,J⟩:=A3.get A I;rw[H]at D;cases D;rw[VJ J];simp[Cz.new,ac]
 ·exact t
 ·have s:ac (ac st.ob id i) b (.box (cs.set j (.osl id)) bt) k=ac st.ob id i k:=EY rfl t;have q:E0 (ac st.ob id i k)=true:=s▸t;exact s.trans (EY y.1.2.2 q)
theorem Ax.frz{st:St}{i id e size:Nat}{es:List CV}(j:¬le.I id)(hi:st.fr i=.osl id)(g:st.ob id=.arr e size es):Ax le st {fr:=ac (WB.kill [id] st).fr i (.c (.sl none es)),ob:=(WB.kill [id] st).ob}:=by
 refine⟨fun{P G w0 M0 n a w z} he h=> ?_,⟨fun k c l b=> ?_,fun k b=> ?_⟩⟩
 ·have d:=h.fr i;rw[hi]at d;exact⟨z,(h.killed [id]).reslot (U9 h (he▸j) g d)⟩
 ·exact NK (Ix b) (by intro e;have f:Ay [id] (st.fr i)=.c c:=e;rw[hi]at f;simp[Ay]at f)
 ·exact G8 b
theorem Ax.frzb{bt:Option TypeId}{st:St}{i id:Nat}{b:List CV}(l:¬le.I id)(hi:st.fr i=.ptr id 0)(j:st.ob id=.box (b.map .c) bt):Ax le st {fr:=ac (WB.kill [id] st).fr i (.c (.wp b)),ob:=(WB.kill [id] st).ob}:=by
 refine⟨fun{P G w0 M0 n a w z} he h=> ?_,⟨fun k c m d=> ?_,fun k d=> ?_⟩⟩
 ·have f:=h.fr i;rw[hi]at f;exact⟨z,(h.killed [id]).reslot (ZX h (he▸l) j f)⟩
 ·exact NK (Ix d) (by intro e;have g:Ay [id] (st.fr i)=.c c:=e;rw[hi]at g;simp[Ay]at g)
 ·exact G8 d
theorem Ax.frzm{st:St}{i id:Nat}{mt:TypeId}{kt:KT}{zc:CV}{ks vs:List CV}(j:¬le.I id)(hi:st.fr i=.omap id)(g:st.ob id=.map mt kt zc ks vs):Ax le st {fr:=ac (WB.kill [id] st).fr i (.c (.map none ks vs)),ob:=(WB.kill [id] st).ob}:=by
 refine⟨fun{P G w0 M0 n a w z} he h=> ?_,⟨fun k c l b=> ?_,fun k b=> ?_⟩⟩
 ·have d:=h.fr i;rw[hi]at d;exact⟨z,(h.killed [id]).reslot (UA h (he▸j) g d)⟩
 ·exact NK (Ix b) (by intro e;have f:Ay [id] (st.fr i)=.c c:=e;rw[hi]at f;simp[Ay]at f)
 ·exact G8 b
theorem Ax.frzc{bt:Option TypeId}{st:St}{b j id e size:Nat}{cs:List SV}{es:List CV}(F:¬le.I id)(o:st.ob b=.box cs bt)(D:cs[j]? =some (.osl id))(y:st.ob id=.arr e size es):Ax le st {fr:=(WB.kill [id] st).fr,ob:=ac (WB.kill [id] st).ob b (.box ((cs.map (Ay [id])).set j (.c (.sl none es))) bt)}:=by
 refine⟨fun{P G w0 M0 n a w z} he h=> ?_,⟨fun k c L m=> ?_,fun k m=> ?_⟩⟩
 ·have r:b≠id:=fun e=>by rw[e,y]at o;cases o
  have B:=h.killed [id];have d:(WB.kill [id] st).ob b=.box (cs.map (Ay [id])) bt:=by simp[WB.kill,r,o,Ch]
  have u:=B.ob b;rw[d]at u;have x:=h.ob b;rw[o]at x;obtain⟨g,ty,vs,l,t,J⟩:=u;obtain⟨M,q,p,i,f,s⟩:=x;rw[i]at l;cases l;rw[f]at t;obtain rfl:vs=p:=by simp only[Ac,Obj.cells.injEq,Array.mk.injEq]at t;exact t.1.symm
  refine⟨z,B.reob (b:=b) (by rw[d];simp) (by simp) (fun _=>by rw[d];rfl) ⟨g,q,vs,i,f,A3.set (P:=P) j J fun v C=> ?_⟩⟩;obtain⟨K,A,H⟩:=A3.get s D;rw[C]at A;cases A;exact U9 h (he▸F) y H
 ·exact Ix m
 ·have l:ac (WB.kill [id] st).ob b (.box ((cs.map (Ay [id])).set j (.c (.sl none es))) bt) k=(WB.kill [id] st).ob k:=EY rfl m;exact l.trans (G8 (l▸m))
theorem Ax.frzcm{bt:Option TypeId}{st:St}{b j id:Nat}{mt:TypeId}{kt:KT}{zc:CV}{ks d:List CV}{cs:List SV}(H:¬le.I id)(p:st.ob b=.box cs bt)(F:cs[j]? =some (.omap id))(A:st.ob id=.map mt kt zc ks d):Ax le st {fr:=(WB.kill [id] st).fr,ob:=ac (WB.kill [id] st).ob b (.box ((cs.map (Ay [id])).set j (.c (.map none ks d))) bt)}:=by
 refine⟨fun{P G w0 M0 n a w z} he h=> ?_,⟨fun k c M o=> ?_,fun k o=> ?_⟩⟩
 ·have s:b≠id:=fun e=>by rw[e,A]at p;cases p
  have C:=h.killed [id];have f:(WB.kill [id] st).ob b=.box (cs.map (Ay [id])) bt:=by simp[WB.kill,s,p,Ch]
  have x:=C.ob b;rw[f]at x;have y:=h.ob b;rw[p]at y;obtain⟨g,ty,vs,m,u,K⟩:=x;obtain⟨N,r,q,l,i,t⟩:=y;rw[l]at m;cases m;rw[i]at u;obtain rfl:vs=q:=by simp only[Ac,Obj.cells.injEq,Array.mk.injEq]at u;exact u.1.symm
  refine⟨z,C.reob (b:=b) (by rw[f];simp) (by simp) (fun _=>by rw[f];rfl) ⟨g,r,vs,l,i,A3.set (P:=P) j K fun v D=> ?_⟩⟩;obtain⟨L,B,J⟩:=A3.get t F;rw[D]at B;cases B;exact UA h (he▸H) A J
 ·exact Ix o
 ·have m:ac (WB.kill [id] st).ob b (.box ((cs.map (Ay [id])).set j (.c (.map none ks d))) bt) k=(WB.kill [id] st).ob k:=EY rfl o;exact m.trans (G8 (m▸o))
theorem Ax.seem{bt:Option TypeId}{st:St}{b j N:Nat}{mt:TypeId}{kt:KT}{zc:CV}{ks d:List CV}{cs:List SV}(s:As≤N)(f:st.ob b=.box cs bt)(r:cs[j]? =some (.c (.nam N)))(l:st.ob N=.map mt kt zc ks d):Ax le st {fr:=st.fr,ob:=ac st.ob b (.box (cs.set j (.omap N)) bt)}:=by
 refine⟨fun{P G w0 M0 n a w z} he h=> ?_,⟨fun k c B e=>e,fun k e=>EY rfl e⟩⟩;have i:=h.ob b;rw[f]at i;obtain⟨g,ty,vs,y,x,o⟩:=i;have q:=h.nam.told N s (by rw[l];rfl);refine⟨z,h.reob (b:=b) (by rw[f];simp) (by simp) (fun _=>by rw[f];rfl) ⟨g,ty,vs,y,x,A3.set (P:=P) j o fun v p=> ?_⟩⟩;obtain⟨A,m,u⟩:=A3.get o r;rw[p]at m;cases m;have t:v=C7 N (z.al N):=u;exact⟨by rw[l];simp,by rw[t,q]⟩
theorem Ax.unsee{bt:Option TypeId}{st:St}{b j N:Nat}{mt:TypeId}{kt:KT}{zc:CV}{ks d:List CV}{cs:List SV}(s:As≤N)(f:st.ob b=.box cs bt)(r:cs[j]? =some (.omap N))(q:st.ob N=.map mt kt zc ks d):Ax le st {fr:=st.fr,ob:=ac st.ob b (.box (cs.set j (.c (.nam N))) bt)}:=by
 refine⟨fun{P G w0 M0 n a w z} he h=> ?_,⟨fun k c A e=>e,fun k e=>EY rfl e⟩⟩;have i:=h.ob b;rw[f]at i;obtain⟨g,ty,vs,x,u,m⟩:=i;have p:=h.nam.told N s (by rw[q];rfl);refine⟨z,h.reob (b:=b) (by rw[f];simp) (by simp) (fun _=>by rw[f];rfl) ⟨g,ty,vs,x,u,A3.set (P:=P) j m fun v o=> ?_⟩⟩;obtain⟨y,l,t⟩:=A3.get m r;rw[o]at l;cases l;show v=C7 N (z.al N);rw[t.2,p]
def CC(N:Nat):Nat->Bool:=fun b=>b !=N
def dropB(d N:Nat)(ob:Nat->Ob)(id:Nat):Bool:=id==d||id==N||(match ob id with
 | .arr _ _ es=> !AN (CC N) es
 | .map _ _ _ ks vs=> !(AN (CC N) ks&&AN (CC N) vs)
 | .miter _ _ _=>true
 |_=>false)
def BR(p:Nat->Bool)(N:Nat):SV->SV
 | .c v=>if Bj (CC N) v=true then .c v else .undef
 | .stamp id k=>if p id|| !Bj (CC N) k then .undef else .stamp id k
 | .ent id k v=>if p id|| !Bj (CC N) k|| !Bj (CC N) v then .undef else .ent id k v
 |s=>match s.ref with
  |some id=>if p id then .undef else s
  |none=>s
def Ed(p:Nat->Bool)(N:Nat):Ob->Ob
 | .box cs bt=>.box (cs.map (BR p N)) bt
 |o=>o
def tellO(i d N:Nat)(o:Ob)(st:St):St:=
 {fr:=fun j=>if j=i then .c (.nam N)else BR (dropB d N st.ob) N (st.fr j)
  ob:=fun id=>if id=N then Ed (dropB d N st.ob) N o else if dropB d N st.ob id then .none else Ed (dropB d N st.ob) N (st.ob id)}
def QN(i d N:Nat)(cs:List SV)(bt:Option TypeId)(st:St):St:=tellO i d N (.box cs bt) st
def SI(d N:Nat)(o:Ob)(rf:SV):Prop:=(∃cs bt,o=.box cs bt/\rf=.ptr d 0/\N % 2=0)\/(∃mt kt zc ks vs,o=.map mt kt zc ks vs/\rf=.omap d/\N % 2=1/\AN (CC N) ks=true/\AN (CC N) vs=true)
section
variable {P:Program} {G:Nat->List CV} {w0:WL} {M0:MM} {n:Nat} {st:St} {a:Act} {w:World} {z:Cz}
theorem Zn{d N:Nat}{ob:Nat->Ob}{id:Nat}(h:dropB d N ob id=false):id≠d/\id≠N:=by
 simp only[dropB,Bool.or_eq_false_iff,beq_eq_false_iff_ne]at h;exact h.1
theorem SR.tell(h:SR P G w0 M0 n st a w z){i d N:Nat}{o:Ob}{rf:SV}(hd:d<As)(hN:As≤N)(hT:¬w0.le.T N)(hI:¬w0.le.I d)(hi:st.fr i=rf)(hob:st.ob d=o)(hko:SI d N o rf):
  ∃z',SR P G w0 M0 n (tellO i d N o st) a w z':=by
 have ho:=h.ob d;rw[hob]at ho;have hri:=h.fr i;rw[hi]at hri
 obtain⟨g,W,hblk,D,hval⟩:∃g,z.σ d=C7 N g/\blk (z.σ d)=some g/\st.ob d≠ .none/\a.tmps.getD i undef=z.σ d:=by
  rcases hko with⟨cs,bt,rfl,rfl,hev⟩|⟨mt,kt,zc,ks,vs,rfl,rfl,hev,_,_⟩
  ·obtain⟨g,ty,vs,W,e2,e3⟩:=ho;obtain⟨_,g2,q1,q2⟩:=hri;refine⟨g,by rw[Qp hev];exact W,by rw[W];rfl,by rw[hob];simp, ?_⟩;rw[W]at q1⊢;cases q1;exact q2
  ·obtain⟨_,X,J,r,Y,Z,_,W,_⟩:=ho;exact⟨r,by rw[Afk hev];exact W,by rw[W];rfl,by rw[hob];simp,hri.2⟩
 have hnmo:bu o=true:=by rcases hko with⟨cs,bt,rfl,_⟩|⟨mt,kt,zc,ks,vs,rfl,_⟩<;>rfl
 have hdN:d≠N:=by omega
 generalize hp:dropB d N st.ob=p;have pd:∀id,p id=false->id≠d/\id≠N:=fun id F=>Zn (hp▸F);let z':Cz:={σ:=ac z.σ N (z.σ d),β:=fun id=>if id=N then fun _ _=>False else z.β id,al:=ac z.al N g};have O:z'.σ N=z.σ d:=AR _ _ _;have m:∀id,id≠N->z'.σ id=z.σ id:=fun id ag=>A8 _ _ ag;have βne:∀id,id≠N->z'.β id=z.β id:=fun id ag=>by show(if id=N then _ else _)=_;rw[if_neg ag]
 have obN:(tellO i d N o st).ob N=Ed p N o:=by simp[tellO,hp]
 have M:∀id,id≠N->(tellO i d N o st).ob id=if p id then .none else Ed p N (st.ob id):=fun id ag=>by simp[tellO,hp,ag]
 have C:∀o,Ed p N o≠ .none<->o≠ .none:=fun o=>by cases o<;>simp[Ed]
 have q:∀id,id≠N->(tellO i d N o st).ob id≠ .none->p id=false/\st.ob id≠ .none:=fun id ag x=>by
  rw[M id ag]at x
  cases t:p id with
  |true=>rw[t]at x;exact absurd rfl x
  |false=>
   rw[t]at x;exact⟨rfl,(C _).1 (by simpa using x)⟩
 have liveO:∀id,p id=false->st.ob id≠ .none->(tellO i d N o st).ob id≠ .none:=fun id t x=>by
  rw[M id (pd id t).2,t];simpa using(C _).2 x
 have hless:∀R,Ao M0 z' (tellO i d N o st).ob R->Ao M0 z st.ob R:=fun R hg=>by
  rcases hg with hg|⟨id,F,y⟩
  ·exact .inl hg
  ·by_cases ag:id=N
   ·subst ag;rw[O]at y;exact .inr ⟨d,D,y⟩
   ·rw[m id ag]at y;exact .inr ⟨id,(q id ag F).2,y⟩
 have hk:FK (CC N) w (Ao M0 z st.ob) w (Ao M0 z' (tellO i d N o st).ob):=⟨Nat.le_refl _,fun _ _ _=>rfl,fun R _ hg=>hless R hg,fun H Q=>by
  have:H≠N:=by simpa[CC]using Q
  exact A8 _ _ this⟩
 have hs:∀{s:SV} {v:Value},Aw w (Ao M0 z st.ob) z st.ob s v->Aw w (Ao M0 z' (tellO i d N o st).ob) z' (tellO i d N o st).ob (BR p N s) v:=by
  intro s v S;have L:∀id,p id=false->st.ob id≠ .none->(tellO i d N o st).ob id≠ .none/\z'.σ id=z.σ id/\z'.β id=z.β id:=fun id t x=>⟨liveO id t x,m id (pd id t).2,βne id (pd id t).2⟩
  cases s with
  |c cv=>
   simp only[BR];split
   ·rename_i hn;exact RelC.named hk cv v hn S
   ·trivial
  |undef=>trivial
  |stamp id k=>
   simp only[BR];split
   ·trivial
   ·rename_i f;simp only[Ak,not_or,Bool.not_eq_true,Bool.not_eq_true']at f;obtain⟨x,b,F,y⟩:=S;obtain⟨q1,_,q3⟩:=L id f.1 x;exact⟨q1,b,by rw[q3];exact F,y⟩
  |ent id k u=>
   simp only[BR];split
   ·trivial
   ·rename_i f;simp only[Ak,not_or,Bool.not_eq_true,Bool.not_eq_true']at f;obtain⟨x,b,uv,F,y,h3⟩:=S;obtain⟨q1,_,q3⟩:=L id f.1.1 x;exact⟨q1,b,uv,by rw[q3];exact F,y,RelC.named hk u uv (by simpa using f.2) h3⟩
  |ptr id o=>
   simp only[BR,SV.ref];split
   ·trivial
   ·rename_i f;obtain⟨x,gg,F,y⟩:=S;obtain⟨q1,q2,_⟩:=L id (by simpa using f) x;exact⟨q1,gg,q2.trans F,y⟩
  |eptr id k sz o=>
   simp only[BR,SV.ref];split
   ·trivial
   ·rename_i f;obtain⟨x,gg,nn,c,F,y⟩:=S;obtain⟨q1,q2,_⟩:=L id (by simpa using f) x;exact⟨q1,gg,nn,c,q2.trans F,y⟩
  |osl id=>
   simp only[BR,SV.ref];split
   ·trivial
   ·rename_i f;obtain⟨q1,q2,_⟩:=L id (by simpa using f) S.1;exact⟨q1,S.2.trans q2.symm⟩
  |omap id=>
   simp only[BR,SV.ref];split
   ·trivial
   ·rename_i f;obtain⟨q1,q2,_⟩:=L id (by simpa using f) S.1;exact⟨q1,S.2.trans q2.symm⟩
  |iter id=>
   simp only[BR,SV.ref];split
   ·trivial
   ·rename_i f;obtain⟨q1,q2,_⟩:=L id (by simpa using f) S.1;exact⟨q1,S.2.trans q2.symm⟩
 have hss:∀(l:List SV) vs,A3 w (Ao M0 z st.ob) z st.ob l vs->A3 w (Ao M0 z' (tellO i d N o st).ob) z' (tellO i d N o st).ob (l.map (BR p N)) vs:=by
  intro l
  induction l with
  |nil=>intro vs hh;exact hh
  |cons c l ih=>
   intro vs hh;obtain⟨v,J,e,F,y⟩:=hh;exact⟨v,J,e,hs F,ih J y⟩
 refine⟨z',h.size,h.defers,h.below,h.outer,⟨h.nam.lent,fun H Q f=> ?_,fun H Q=> ?_,h.nam.low⟩,h.glob,fun j=> ?_,fun id=> ?_,fun id R F y=> ?_,fun k j R hij F y h3 h4=> ?_⟩
 ·by_cases ag:H=N
  ·subst ag;rw[O,W];show _=C7 H (ac z.al H g H);rw[AR]
  ·rw[M H ag]at f;rw[m H ag];show _=C7 H (ac z.al N g H);rw[A8 _ _ ag];split at f
   ·cases f
   ·exact h.nam.told H Q (by cases ho':st.ob H<;>rw[ho']at f<;>first|rfl|cases f)
 ·show ac z.al N g H=_;have hne:H≠N:=fun e=>hT (by rw[<-e];exact Q);rw[A8 _ _ hne];exact h.nam.names H Q
 ·show Aw w _ z' _ (if j=i then .c (.nam N)else BR (dropB d N st.ob) N (st.fr j)) _;rw[hp];by_cases hji:j=i
  ·subst hji;rw[if_pos rfl];show RelC w (Ao M0 z' (tellO j d N o st).ob) (.nam N) _;unfold RelC;rw[hval,W];show _=C7 N (ac z.al N g N);rw[AR]
  ·rw[if_neg hji];exact hs (h.fr j)
 ·by_cases ag:id=N
  ·subst ag;rw[obN,O];rcases hko with⟨cs,bt,rfl,_,_⟩|⟨mt,kt,zc,ks,vs,rfl,_,_,U⟩
   ·obtain⟨g,ty,vs,W,e2,e3⟩:=ho;exact⟨g,ty,vs,W,e2,hss cs vs e3⟩
   ·obtain⟨hmt,X,J,r,Y,Z,K,e,g1,g2,g3,g4,g5,g6,g7,g8⟩:=ho;refine⟨hmt,X,J,r,Y,Z,K,e,g1,RelL.named hk _ _ (El.2 fun c f=>El.1 U.1 c (K.ks.mem_iff.1 f)) g2,RelL.named hk _ _ (El.2 fun c f=>El.1 U.2 c (K.vs.mem_iff.1 f)) g3,g4,g5,g6,g7, ?_⟩;intro k b hb;have hb':(if id=id then fun _ _=>False else z.β id) k b:=hb;rw[if_pos rfl]at hb';exact hb'.elim
  ·rw[M id ag,m id ag]
   cases t:p id with
   |true=>simp only[if_true];trivial
   |false=>
    simp only[Ah,if_false];have A:=h.ob id;have hdp:dropB d N st.ob id=false:=by rw[hp];exact t
    simp only[dropB,Bool.or_eq_false_iff]at hdp;have U:=hdp.2
    cases B:st.ob id with
    |none=>trivial
    |box l=>
     rw[B]at A;obtain⟨g3,ty3,vs3,q1,q2,q3⟩:=A;exact⟨g3,ty3,vs3,q1,q2,hss l vs3 q3⟩
    |arr e size es=>
     rw[B]at A U;obtain⟨xs,q1,q2⟩:=A;exact⟨xs,q1,AG.named hk (by simpa using U) q2⟩
    |map mt kt zc ks vs=>
     rw[B]at A U;simp only[Bool.not_eq_false',Ag]at U;obtain⟨hmt,X,J,r,Y,Z,K,e,g1,g2,g3,g4,g5,g6,g7,g8⟩:=A;refine⟨hmt,X,J,r,Y,Z,K,e,g1,RelL.named hk _ _ (El.2 fun c f=>El.1 U.1 c (K.ks.mem_iff.1 f)) g2,RelL.named hk _ _ (El.2 fun c f=>El.1 U.2 c (K.vs.mem_iff.1 f)) g3,g4,g5,g6,g7,fun k b hb=>g8 k b ?_⟩;rw[βne id ag]at hb;exact hb
    |siter s pos=>rw[B]at A;exact A
    |miter ks vs cur=>rw[B]at U;cases U
    |buf e s=>rw[B]at A;exact A
 ·by_cases ag:id=N
  ·subst ag;rw[O]at y;have:=h.lo d R D y;refine⟨this.1.elim .inl fun hL=>absurd (h.nam.lent _ _ hL).2 hI,this.2⟩
  ·rw[m id ag]at y;exact h.lo id R (q id ag F).2 y
 ·by_cases V:k=N
  ·subst V;have hj:j≠k:=fun e=>hij e.symm;rw[O]at h3;rw[m j hj]at h4;have x:=q j hj y;exact h.apart d j R (fun e=>(pd j x.1).1 e.symm) D x.2 h3 h4
  ·by_cases hj:j=N
   ·subst hj;rw[O]at h4;rw[m k V]at h3;have x:=q k V F;exact h.apart k d R (pd k x.1).1 x.2 D h3 h4
   ·rw[m k V]at h3;rw[m j hj]at h4;exact h.apart k j R hij (q k V F).2 (q j hj y).2 h3 h4
end
theorem Ax.tellO{le:Db}{st:St}{i d N:Nat}{o:Ob}{rf:SV}(hd:d<As)(t:As≤N)(hT:¬le.T N)(u:¬le.I d)(hi:st.fr i=rf)(p:st.ob d=o)(b:SI d N o rf):Ax le st (tellO i d N o st):=by
 have s:E0 o=false:=by rcases b with⟨cs,bt,rfl,_⟩|⟨mt,kt,zc,ks,vs,rfl,_⟩<;>rfl
 have g:E0 (Ed (dropB d N st.ob) N o)=false:=by rcases b with⟨cs,bt,rfl,_⟩|⟨mt,kt,zc,ks,vs,rfl,_⟩<;>rfl
 have m:∀c,rf≠ .c c:=by rcases b with⟨cs,bt,_,rfl,_⟩|⟨mt,kt,zc,ks,vs,_,rfl,_⟩<;>(intro c e;cases e)
 refine⟨fun{P G w0 M0 n a w z} he h=> ?_,⟨fun k c q j=> ?_,fun k j=> ?_⟩⟩
 ·subst he;exact h.tell hd t hT u hi p b
 ·show(if k=i then _ else BR (dropB d N st.ob) N (st.fr k))=_;rw[if_neg (by intro e;subst e;rw[hi]at j;exact m _ j),j];cases c<;>first|rfl|cases q|(rename_i l;cases l<;>first|rfl|cases q)
 ·have f:E0 (if k=N then Ed (dropB d N st.ob) N o else if dropB d N st.ob k then .none else Ed (dropB d N st.ob) N (st.ob k))=true:=j;show(if k=N then Ed (dropB d N st.ob) N o else if dropB d N st.ob k then .none else Ed (dropB d N st.ob) N (st.ob k))=st.ob k;split at f
  ·rw[g]at f;cases f
  ·split at f
   ·cases f
   ·rename_i x v;rw[if_neg x,if_neg v];cases r:st.ob k<;>rw[r]at f<;>first|rfl|cases f
theorem Ax.tell{bt:Option TypeId}{le:Db}{st:St}{i d N:Nat}{cs:List SV}(hd:d<As)(e:As≤N)(c:N % 2=0)(hT:¬le.T N)(f:¬le.I d)(hi:st.fr i=.ptr d 0)(b:st.ob d=.box cs bt):Ax le st (QN i d N cs bt st):=
 Ax.tellO hd e hT f hi b (.inl ⟨cs,bt,rfl,rfl,c⟩)
variable {le:Db}
def E6(le:Db)(E:ah):List SL->(St->Prop)->St->Prop
 | [],Q,st=>∃s,Ax le st s/\Q s
 |l::ls,Q,st=>∃s,Ax le st s/\∃s',Ar E none l s=some s'/\E6 le E ls Q s'
theorem WE{E:ah}:∀{ls:List SL} {Q:St->Prop} {st st':St},Ce E none ls st=some st'->Q st'->E6 le E ls Q st
 | [],Q,st,st',h,hq=>by cases h;exact⟨_,Ax.refl _,hq⟩
 |l::ls,Q,st,st',h,hq=>by
  simp only[Ce]at h;obtain⟨s,c,b⟩:=Ab.1 h;exact⟨st,Ax.refl st,s,c,WE b hq⟩
theorem Kv{E:ah}:∀{ls:List SL} {Q b:St->Prop} {st:St},(∀s,Q s->b s)->E6 le E ls Q st->E6 le E ls b st
 | [],_,_,_,h,⟨s,h1,h2⟩=>⟨s,h1,h s h2⟩
 |_::_,_,_,_,h,⟨s,h1,s',h2,h3⟩=>⟨s,h1,s',h2,Kv h h3⟩
theorem Aft{E:ah}{ls:List SL}{Q:St->Prop}{st s:St}(h:Ax le st s)(d:E6 le E ls Q s):E6 le E ls Q st:=by
 cases ls with
 |nil=>obtain⟨s',c,b⟩:=d;exact⟨s',h.trans c,b⟩
 |cons l ls=>obtain⟨s',c,b⟩:=d;exact⟨s',h.trans c,b⟩
def CE(le:Db)(E:ah):Co->(Ex->St->Prop)->St->Prop
 | .skip,Q,st=>∃s,Ax le st s/\Q .normal s
 | .reg true D ls,Q,st=>∃s,Ax le st s/\∃st',Cf E true D ls s=some st'/\∃f,Ax le st' f/\Q .normal f
 | .reg false D ls,Q,st=>∃s,Ax le st s/\E6 le E ls (Q .normal) (if D.isEmpty then s else kill D s)
 | .regE D ls,Q,st=>∃s,Ax le st s/\∃st',(Cf E true D ls s=some st'\/Il E D ls s=some st')/\Q .normal st'
 | .regW ls,Q,st=>∃s,Ax le st s/\br E (.regW ls) Q s
 | .mnext it d ok,Q,st=>∃s,Ax le st s/\br E (.mnext it d ok) Q s
 | .seq a b,Q,st=>∃s,Ax le st s/\CE le E a (fun e s'=>match e with| .normal=>CE le E b Q s'|e=>Q e s') s
 | .cond c x y,Q,st=>∃s,Ax le st s/\∃b,so E.G s.fr c=.c (.bool b)/\(b=true->CE le E x Q s)/\(b=false->CE le E y Q s)
 | .block id c,Q,st=>∃s,Ax le st s/\CE le E c (fun e s'=>match e with| .exit i=>if i=id then Q .normal s' else Q (.exit i) s'|e=>Q e s') s
 | .loop c,Q,st=>∃s,Ax le st s/\∃(R:Nat->St->Prop),(∃m,R m s)/\∀m s,R m s->CE le E c (fun e s'=>match e with| .normal=>∃k,k<m/\R k s'|e=>Q e s') s
 | .exit id,Q,st=>∃s,Ax le st s/\Q (.exit id) s
 | .ret,Q,st=>∃s,Ax le st s/\Q .ret s
 | .bad,_,_=>False
theorem Wu{E:ah}{c:Co}{Q:Ex->St->Prop}{st s:St}(h:Ax le st s)(b:CE le E c Q s):CE le E c Q st:=by
 cases c
 case reg draw D ls=>
  cases draw<;>(obtain⟨s',e,d⟩:=b;exact⟨s',h.trans e,d⟩)
 all_goals first|(exact b.elim)|(obtain⟨s',e,d⟩:=b;exact⟨s',h.trans e,d⟩)
theorem Wr{E:ah}{draw:Bool}{D:List Nat}{ls:List SL}{Q:Ex->St->Prop}{st st':St}(h:Cf E draw D ls st=some st')(b:Q .normal st'):CE le E (.reg draw D ls) Q st:=by
 cases draw with
 |true=>exact⟨st,Ax.refl st,st',h,st',Ax.refl st',b⟩
 |false=>exact⟨st,Ax.refl st,WE (by simpa[Cf]using h) b⟩
theorem CI{E:ah}:∀(c:Co) {Q f:Ex->St->Prop} {st:St},(∀e s,Q e s->f e s)->CE le E c Q st->CE le E c f st
 | .skip,Q,f,st,h,⟨s,d,hp⟩=>⟨s,d,h _ _ hp⟩
 | .reg true _ _,Q,f,st,h,⟨s,d,s',h1,s2,hs2,h2⟩=>⟨s,d,s',h1,s2,hs2,h _ _ h2⟩
 | .reg false _ _,Q,f,st,h,⟨s,d,h1⟩=>⟨s,d,Kv (h .normal) h1⟩
 | .regE _ _,Q,f,st,h,⟨s,d,s',h1,h2⟩=>⟨s,d,s',h1,h _ _ h2⟩
 | .regW _,Q,f,st,h,⟨s,d,h1⟩=>⟨s,d,GK _ h h1⟩
 | .mnext _ _ _,Q,f,st,h,⟨s,d,h1⟩=>⟨s,d,GK _ h h1⟩
 | .seq a b,Q,f,st,h,⟨s,d,hp⟩=>by
  refine⟨s,d,CI a (fun e s d=> ?_) hp⟩
  cases e with
  |normal=>exact CI b h d
  |exit i=>exact h _ _ d
  |ret=>exact h _ _ d
 | .cond c x y,Q,f,st,h,⟨s,d,b,h1,h2,h3⟩=>⟨s,d,b,h1,fun j=>CI x h (h2 j),fun j=>CI y h (h3 j)⟩
 | .block id c,Q,f,st,h,⟨s,d,hp⟩=>by
  refine⟨s,d,CI c (fun e s d=> ?_) hp⟩
  cases e with
  |normal=>exact h _ _ d
  |exit i=>
   simp only at d⊢;split<;>rename_i hi
   ·rw[if_pos hi]at d;exact h _ _ d
   ·rw[if_neg hi]at d;exact h _ _ d
  |ret=>exact h _ _ d
 | .loop c,Q,f,st,h,⟨s,d,R,h1,h2⟩=>by
  refine⟨s,d,R,h1,fun m s d=>CI c (fun e s' g=> ?_) (h2 m s d)⟩
  cases e with
  |normal=>exact g
  |exit i=>exact h _ _ g
  |ret=>exact h _ _ g
 | .exit i,Q,f,st,h,⟨s,d,hp⟩=>⟨s,d,h _ _ hp⟩
 | .ret,Q,f,st,h,⟨s,d,hp⟩=>⟨s,d,h _ _ hp⟩
 | .bad,Q,f,st,h,hp=>hp.elim
section
variable {P:Program} {E:ah} {w0:WL} {M0:MM} {n:Nat}
theorem Qx(hE:aV P E)(c:w0.le=le){b:Array Oper}{all:List SL}(f:Aq (CS P n b) b.toList=some all){Q:St->Prop}{K:Exit->Act->World->Prop}(p:∀s a w z,Q s->SR P E.G w0 M0 n s a w z->K .normal a w):∀{ls pre:List SL} {st:St} {a:Act} {w:World} {z:Cz},all=pre++ls->SR P E.G w0 M0 n st a w z->E6 le E ls Q st->wpOps P b K (List.range' pre.length ls.length) a w
 | [],pre,st,a,w,z,he,h,hr=>by
  obtain⟨s,i,g⟩:=hr;obtain⟨z',j⟩:=i.1 c h;exact p _ _ _ _ g j
 |l::ls,pre,st,a,w,z,he,h,hr=>by
  obtain⟨s,i,s',g,t⟩:=hr;obtain⟨z',j⟩:=i.1 c h;have d:=D3 f;have o:all[pre.length]? =some l:=by rw[he];simp
  have hi:pre.length<b.toList.length:=by rw[<-d];exact(Af.1 o).1
  have m:b.toList[pre.length]? =some (b.toList[pre.length]):=Aj hi;obtain⟨l',k,u⟩:=IX f m;rw[o]at k;simp only[Ac]at k;subst k;have e:b[pre.length]? =some (b.toList[pre.length]):=by rw[<-Array.getElem?_toList];exact m
  rw[List.length_cons,List.range'_succ];refine LX hE j e u g fun v w' q r=> ?_;have:=Qx hE c f p (ls:=ls) (pre:=pre++ [l]) (by rw[he];simp) r t;simpa using this
theorem FU(hE:aV P E)(f:w0.le=le):∀(c:Code) {A:Co} {Q:Ex->St->Prop} {st:St} {a:Act} {w:World} {z:Cz},BP P n c=some A->SR P E.G w0 M0 n st a w z->CE le E A Q st->c.wp P (Gr P E w0 M0 n Q) a w
 | .skip,A,Q,st,a,w,z,hc,h,g=>by
  simp only[BP,Ac]at hc;subst hc;obtain⟨s,r,g⟩:=g;obtain⟨z',q⟩:=r.1 f h;exact wp_skip ⟨.normal,s,z',rfl,g,q⟩
 | .region id ops draw,A,Q,st,a,w,z,hc,h,g=>by
  simp only[BP]at hc;split at hc
  ·rename_i p hn;cases hc;obtain⟨s,r,g⟩:=g;obtain⟨z',q⟩:=r.1 f h
   cases draw with
   |true=>cases hn
   |false=>exact V8 hE hn q g
  have o:=hc;simp only[Ju]at o
  have:A=.bad\/(∃dr D l,A=.reg dr D l)\/(∃D l,A=.regE D l)\/(∃l,A=.regW l)\/(∃ls,Aq (CS P n ops) ops.toList=some ls/\draw=true/\TD P ops ls=some A)\/∃ls,Aq (CS P n ops) ops.toList=some ls/\draw=true/\JJ P ops ls=some A:=by
   split at o
   ·rename_i ls B;split at o
    ·rename_i L;split at o
     ·rename_i O d;cases o;exact .inr (.inr (.inr (.inr (.inl ⟨ls,B,L,d⟩))))
     split at o
     ·rename_i O d;cases o;exact .inr (.inr (.inr (.inr (.inr ⟨ls,B,L,d⟩))))
     split at o
     ·cases o;exact .inr (.inr (.inl ⟨_,_,rfl⟩))
     ·split at o
      ·cases o;exact .inr (.inl ⟨_,_,_,rfl⟩)
      ·split at o
       ·cases o;exact .inr (.inl ⟨_,_,_,rfl⟩)
       ·split at o
        ·cases o;exact .inr (.inr (.inr (.inl ⟨_,rfl⟩)))
        ·cases o;exact .inl rfl
    ·cases o;exact .inr (.inl ⟨_,_,_,rfl⟩)
   ·cases o;exact .inl rfl
  rcases this with rfl|⟨dr,D,l,rfl⟩|⟨D,l,rfl⟩|⟨l,rfl⟩|⟨ls,B,rfl,d⟩|⟨ls,B,rfl,d⟩
  ·exact g.elim
  case inr.inr.inr.inr.inr=>
   unfold JJ at d;split at d<;>(try cases d;done);rename_i hd;cases d;obtain⟨s,r,s1,U,st1,F,s1',J,Y,I,Z⟩:=g;unfold Cf at F;simp only[if_true]at F;obtain⟨z1,W⟩:=r.1 f h;obtain⟨z2,V⟩:=U.1 f W
   have start:∀(D:List Nat) {s:St} {a:Act} {w:World} {z:Cz},SR P E.G w0 M0 n s a w z->∃z',SR P E.G w0 M0 n (if D.isEmpty then s else kill D s) a w z':=fun D {s a w z} v=>by
    split
    ·exact⟨z,v⟩
    ·exact⟨z,v.killed _⟩
   obtain⟨X,h3⟩:=start (DQ (ls.take (ls.length-1))) V;refine Vi hE B hd.2 h3 F fun N w' C H=> ?_;obtain⟨z4,h4⟩:=(J.trans I).1 f H;obtain⟨z5,h5⟩:=start (Fg P (ops.toList.drop (ls.length-1)) (ls.drop (ls.length-1))) h4;exact Qx hE f B (fun s' N w' X u v=>⟨.normal,s',X,rfl,u,v⟩) (pre:=ls.take (ls.length-1)) (List.take_append_drop _ _).symm h5 Z
  case inr.inr.inr.inr.inl=>
   obtain⟨c,_,d⟩:=Ab.1 d;split at d<;>(try cases d;done);rename_i hd;cases d;obtain⟨s,r,s1,U,st1,F,s1',J,Y,I,st3,T,s4,hs4,u⟩:=g;unfold Cf at F T;simp only[if_true]at F T;obtain⟨z1,W⟩:=r.1 f h;obtain⟨z2,V⟩:=U.1 f W
   have start:∀{s:St} {a:Act} {w:World} {z:Cz},SR P E.G w0 M0 n s a w z->∃z',SR P E.G w0 M0 n (if(DQ ls).isEmpty then s else kill (DQ ls) s) a w z':=fun{s a w z} v=>by
    split
    ·exact⟨z,v⟩
    ·exact⟨z,v.killed _⟩
   obtain⟨X,h3⟩:=start V;refine TF hE B hd.1 hd.2 h3 F fun N w' C H=> ?_;obtain⟨z4,h4⟩:=(J.trans I).1 f H;obtain⟨z5,h5⟩:=start h4;exact⟨_,z5,st3,h5,T,fun a'' w'' z6 hS6=>let⟨z7,h7⟩:=hs4.1 f hS6;⟨.normal,s4,z7,rfl,u,h7⟩⟩
  case inr.inr.inl=>
   obtain⟨s,r,g⟩:=g;obtain⟨z',q⟩:=r.1 f h;exact Nc hE hc q g
  case inr.inr.inr.inl=>
   obtain⟨s,r,g⟩:=g;obtain⟨z',q⟩:=r.1 f h;exact Nc hE hc q g
  cases dr with
  |true=>
   obtain⟨s,r,st',W,Y,I,V⟩:=g;obtain⟨z',q⟩:=r.1 f h;refine wp_mono (Nc hE hc q (Q:=fun e t=>∃Y,Ax le t Y/\Q e Y) ⟨st',W,Y,I,V⟩) fun e N w' j=> ?_;obtain⟨M,t,X,K,⟨s3,hs3,u⟩,v⟩:=j;obtain⟨z4,hS4⟩:=hs3.1 f v;exact⟨M,s3,z4,K,u,hS4⟩
  |false=>
   obtain⟨s,r,g⟩:=g;obtain⟨z',q⟩:=r.1 f h;simp only[Ju]at hc;split at hc
   case h_2=>cases hc
   rename_i ls B;split at hc
   ·split at hc
    ·rename_i O d;obtain⟨c,_,d⟩:=Ab.1 d;split at d<;>(try cases d;done);cases d;cases hc
    split at hc
    ·rename_i O d;unfold JJ at d;split at d<;>(try cases d;done);cases d;cases hc
    split at hc
    ·cases hc
    ·split at hc
     ·cases hc
     ·split at hc
      ·cases hc
      ·split at hc<;>cases hc
   ·cases hc
    have start:∃C,SR P E.G w0 M0 n (if(Fg P ops.toList l).isEmpty then s else kill (Fg P ops.toList l) s) a w C:=by
     split
     ·exact⟨z',q⟩
     ·exact⟨z',q.killed _⟩
    obtain⟨C,h''⟩:=start;have L:draw=false:=by simpa using ‹¬draw=true›
    subst L;refine wp_region ?_;have hlen:=D3 B;rw[List.range_eq_range',<-Array.length_toList,<-hlen];exact Qx hE f B (fun s' N w' X u v=>⟨.normal,s',X,rfl,u,v⟩) (pre:= []) rfl h'' g
 | .seq x y,A,Q,st,a,w,z,hc,h,g=>by
  simp only[BP,Ab,Aa]at hc;obtain⟨sx,S,sy,hy,rfl⟩:=hc;obtain⟨s,r,g⟩:=g;obtain⟨z',q⟩:=r.1 f h;refine wp_seq (wp_mono (FU hE f x S q g) fun e N w' j=> ?_);obtain⟨M,st',z',K,u,v⟩:=j;subst K
  cases M with
  |normal=>exact FU hE f y hy v u
  |exit i=>exact⟨.exit i,st',z',rfl,u,v⟩
  |ret=>exact⟨.ret,st',z',rfl,u,v⟩
 | .cond c x y,A,Q,st,a,w,z,hc,h,g=>by
  simp only[BP,Ab,Aa]at hc;obtain⟨so',hso,sx,S,sy,hy,rfl⟩:=hc;obtain⟨s,r,b,W,V,h3⟩:=g;obtain⟨z',q⟩:=r.1 f h;have hr:=q.ctx.c hso W;have hb:=DR hr;exact wp_cond_split hb (fun hh=>FU hE f x S q (V hh)) (fun hh=>FU hE f y hy q (h3 hh))
 | .block id c,A,Q,st,a,w,z,hc,h,g=>by
  simp only[BP,Aa]at hc;obtain⟨sx,S,rfl⟩:=hc;obtain⟨s,r,g⟩:=g;obtain⟨z',q⟩:=r.1 f h;refine wp_block (wp_mono (FU hE f c S q g) fun e N w' j=> ?_);obtain⟨M,st',z',K,u,v⟩:=j;subst K
  cases M with
  |normal=>exact⟨.normal,st',z',rfl,u,v⟩
  |exit i=>
   simp only at u;show(if i=id then _ else _);split at u
   ·rename_i hi;rw[if_pos hi];exact⟨.normal,st',z',rfl,u,v⟩
   ·rename_i hi;rw[if_neg hi];exact⟨.exit i,st',z',rfl,u,v⟩
  |ret=>exact⟨.ret,st',z',rfl,u,v⟩
 | .loop c,A,Q,st,a,w,z,hc,h,g=>by
  simp only[BP,Aa]at hc;obtain⟨sx,S,rfl⟩:=hc;obtain⟨s0,hs0,R,⟨m,hm⟩,hr⟩:=g;obtain⟨z0',q⟩:=hs0.1 f h;refine wp_loop_ghost (fun k a w=>∃s z,R k s/\SR P E.G w0 M0 n s a w z) m ⟨s0,z0',hm,q⟩ fun k N w' hI=> ?_;obtain⟨s,z',hR,v⟩:=hI;refine wp_mono (FU hE f c S v (hr k s hR)) fun e a'' w'' j=> ?_;obtain⟨M,st',C,K,u,H⟩:=j;subst K
  cases M with
  |normal=>
   obtain⟨k',hk',hR'⟩:=u;exact⟨k',hk',st',C,hR',H⟩
  |exit i=>exact⟨.exit i,st',C,rfl,u,H⟩
  |ret=>exact⟨.ret,st',C,rfl,u,H⟩
 | .exit i,A,Q,st,a,w,z,hc,h,g=>by
  simp only[BP,Ac]at hc;subst hc;obtain⟨s,r,g⟩:=g;obtain⟨z',q⟩:=r.1 f h;exact wp_exit ⟨.exit i,s,z',rfl,g,q⟩
 | .label l,A,Q,st,a,w,z,hc,h,g=>by
  simp only[BP,Ac]at hc;subst hc;obtain⟨s,r,g⟩:=g;obtain⟨z',q⟩:=r.1 f h;exact wp_label ⟨.normal,s,z',rfl,g,q⟩
 | .scope c,A,Q,st,a,w,z,hc,h,g=>by
  simp only[BP]at hc;refine wp_scope_straight (wp_mono (FU hE f c hc h g) fun e N w' j=> ?_);obtain⟨M,st',z',K,u,v⟩:=j;subst K;cases M<;>exact⟨_,st',z',rfl,u,v⟩
 | .ret,A,Q,st,a,w,z,hc,h,g=>by
  simp only[BP,Ac]at hc;subst hc;obtain⟨s,r,g⟩:=g;obtain⟨z',q⟩:=r.1 f h;exact wp_ret ⟨.ret,s,z',rfl,g,q⟩
 | .goto _,A,Q,st,a,w,z,hc,h,g=>by cases hc;exact g.elim
 | .rangeFunc _ _ _ _,A,Q,st,a,w,z,hc,h,g=>by cases hc;exact g.elim
 | .refuse _,A,Q,st,a,w,z,hc,h,g=>by cases hc;exact g.elim
def ZN(rs:List AW)(t:Ty)(y:D t)(e:Ex)(st:St):Prop:=
 match e with
 | .exit _=>False
 |_=>∃c,DU st rs=some c/\Can t y [c]
theorem ZQ(hE:aV P E){f:FuncId}{m:GW}(o:Dc P f=some m){l:List CV}{t:Ty}{y:D t}(A:l.length≤m.n)(h:CE .no E m.code (ZN m.res t y) (Eh l)):hasBody P f=true/\CallsTo P E.G f l (.val (enc t y)):=by
 unfold Dc at o;split at o<;>(try cases o;done);rename_i F;refine⟨F, ?_⟩;simp only[Ab,Aa,Ae]at o;obtain⟨fn,B,b,k,x,c,j,rs,q,rfl⟩:=o;intro w M vs H J I;refine calls_of_wp B k (wp_mono (FU hE rfl b j (UR H J A I (Ai x)) h) fun e s w' g=> ?_);obtain⟨N,st',z',C,r,p⟩:=g;subst C
 have d:(∃c,DU st' rs=some c/\Can t y [c])->s.defers= []/\∃v,(results fn s.tmps).run P w'=.ok v w'/\∃u,Ending.returned v=.returned u/\Below w.heap.size w w'/\Lc P w' M w.heap.size u (.val (enc t y)):=fun⟨c,hr,hcan⟩=>by
  obtain⟨v,L,K⟩:=W6 p q hr;exact⟨p.defers,v,L,v,rfl,PD.1 p.below,RelC.enc hcan (Vp p K)⟩
 cases N with
 |normal=>exact d r
 |exit i=>exact r.elim
 |ret=>exact d r
end
inductive RL where
 |l (l:SL)
 |sk (d:Option Nat)
def RL.dst:RL->Option Nat
 | .l x=>x.dst
 | .sk d=>d
def DD(R:St->St->Prop)(E:ah)(D:Option (List Nat)):List RL->(St->Prop)->St->Prop
 | [],Q,st=>∃s,R st s/\Q s
 | .l l::ls,Q,st=>∃s,R st s/\∃s',Ar E D l s=some s'/\DD R E D ls Q s'
 | .sk d::ls,Q,st=>∃s,R st s/\DD R E D ls Q (s.set d Bf)
def HC(g:Nat)(b:Bool)(l:SL):SL:=
 match l.op with
 | .pick (.t c) x y=>if Nat.beq c g=true then⟨l.dst,.mov (cond b x y),l.guard⟩else l
 |_=>l
def Ij(S:List Nat)(d:Option Nat):List Nat:=match d with
 |some d=>S.filter fun i=> !Nat.beq i d
 |none=>S
def EW(g:Nat)(b:Bool):List Nat->List RL->List RL
 |_,[]=> []
 |S,.sk d::ls=>.sk d::EW g b S ls
 |S,.l l::ls=>match l.guard with
  |none=>.l (HC g b l)::EW g b (Ij S l.dst) ls
  |some (j,w)=>match Nat.beq j g with
   |true=>match w==b with
    |true=>.l (HC g b ⟨l.dst,l.op,none⟩)::EW g b (Ij S l.dst) ls
    |false=>.sk l.dst::EW g b (l.dst.toList++S) ls
   |false=>match S.contains j with
    |true=>.sk l.dst::EW g b (l.dst.toList++S) ls
    |false=>.l (HC g b l)::EW g b (Ij S l.dst) ls
def Ka(g:Nat):List RL->Bool
 | []=>true
 |l::ls=>(match l.dst with|some d=> !Nat.beq d g|none=>true)&&Ka g ls
theorem DW{st:St}{d:Option Nat}{v:SV}{i:Nat}{c:CV}(hd:d≠some i)(h:st.fr i=.c c):(st.set d v).fr i=.c c:=by
 cases d with
 |none=>exact h
 |some d=>
  show ac st.fr d v i=_;rw[A8 _ _ (fun e=>hd (by rw[e]))];exact h
theorem Mn{L:List Nat}{s:SV}{c:CV}(h:s=.c c):Ay L s=.c c:=by subst h;rfl
theorem SN{st st':St}{d:Option Nat}{v:SV}{o:Ob}{i:Nat}{c:CV}(hd:d≠some i)(h:st.fr i=.c c)(b:Bz st d v o=some st'):st'.fr i=.c c:=by
 unfold Bz at b;split at b
 ·split at b
  ·cases b;exact DW (d:=some _) hd h
  ·cases b
 ·cases b
theorem Agf{st st':St}{d:Option Nat}{r:be}{i:Nat}{c:CV}(hd:d≠some i)(h:st.fr i=.c c)(b:E8 st d r=some st'):st'.fr i=.c c:=by
 cases r with
 |val v=>cases b;exact DW hd h
 |new o=>exact SN hd h b
theorem TR{ρ:SO->SV}{st st':St}{d:Option Nat}{e:bF}{args:List SO}{b:List CV}{i:Nat}{c:CV}(hd:d≠some i)(h:st.fr i=.c c)(f:Dt ρ st d e args b=some st'):st'.fr i=.c c:=by
 unfold Dt at f;simp only[Ab,Ac]at f;obtain⟨l,_,p,_,rfl⟩:=f;exact DW hd (Mn h)
theorem Tk{E:ah}{rd:Nat->Ob}{ρ:SO->SV}{st st':St}{d:Option Nat}{f:FuncId}{args:List SO}{e:List CV}{i:Nat}{c:CV}(hd:d≠some i)(h:st.fr i=.c c)(b:D4 E rd ρ st d f args e=some st'):st'.fr i=.c c:=by
 unfold D4 at b;simp only[Ab]at b;obtain⟨l,_,r,_,b⟩:=b;split at b
 ·exact Agf hd h b
 ·cases b
theorem Zu{d:Option Nat}{ρ:SO->SV}{st st':St}{op:aa}{i:Nat}{c:CV}(hd:d≠some i)(h:st.fr i=.c c)(b:AJ d ρ st op=some st'):st'.fr i=.c c:=by
 cases op<;>simp only[AJ,reduceCtorEq]at b
 case append e size bytes x y=>
  split at b
  ·cases b
  ·split at b
   ·split at b
    ·split at b
     ·split at b
      ·cases b;rename_i d';exact DW (st:=kill [d'] st) (d:=some d') hd (Mn h)
      ·cases b
     ·cases b
    ·split at b
     ·split at b
      ·cases b;exact DW hd (Mn h)
      ·cases b
     ·cases b
    ·cases b
   ·cases b
 all_goals
  repeat' split at b
  all_goals first
   |(cases b;done)
   |(cases b;exact h)
   |(cases b;exact DW hd h)
   |skip
 all_goals
  rw[Ab]at b;obtain⟨_,_,b⟩:=b;split at b
  ·cases b;exact h
  ·cases b
theorem Ul{E:ah}{rd:Nat->Ob}{st st':St}{d:Option Nat}{op:aa}{i:Nat}{c:CV}(hd:d≠some i)(h:st.fr i=.c c)(b:A9 E rd st d op=some st'):st'.fr i=.c c:=by
 unfold A9 at b;dsimp only at b;split at b
 ·obtain⟨v,_,rfl⟩:=Aa.1 b;exact DW hd h
 ·obtain⟨v,_,rfl⟩:=Aa.1 b;exact DW hd h
 ·obtain⟨p,_,b⟩:=Ab.1 b;exact SN hd h b
 ·exact Zu hd h b
 ·split at b
  ·split at b
   ·exact TR hd h b
   ·exact Tk hd h b
  ·split at b
   ·split at b
    ·exact TR hd h b
    ·exact Tk hd h b
   ·cases b
  ·cases b
 ·split at b
  ·unfold Fw at b
   repeat' split at b
   all_goals first
    |(cases b;done)
    |(cases b;exact DW hd h)
  ·cases b
theorem Uh{E:ah}{D:Option (List Nat)}{l:SL}{st st':St}{i:Nat}{c:CV}(hd:l.dst≠some i)(h:st.fr i=.c c)(b:Ar E D l st=some st'):st'.fr i=.c c:=by
 unfold Ar at b;split at b
 ·exact Ul hd h b
 ·split at b
  ·split at b
   ·exact Ul hd h b
   ·cases b;exact DW hd h
  ·cases b;exact DW hd h
  ·cases b
theorem Qj{E:ah}{D:Option (List Nat)}{g:Nat}{b:Bool}{l:SL}{st:St}(i:st.fr g=.c (.bool b)):Ar E D (HC g b l) st=Ar E D l st:=by
 obtain⟨d,op,gd⟩:=l;unfold HC;split
 ·rename_i c x y f;have e:op=.pick (.t c) x y:=f;subst e;split
  ·rename_i k;have h:=Nat.eq_of_beq_eq_true k;subst h
   have key:∀rd,A9 (E.at D) rd st d (.mov (cond b x y))=A9 (E.at D) rd st d (.pick (.t c) x y):=by
    intro rd;simp only[A9,aa.cls,An];rw[show so (E.at D).G st.fr (.t c)=.c (.bool b)from i];cases b<;>rfl
   unfold Ar
   cases gd with
   |none=>exact key _
   |some p=>
    obtain⟨j,w⟩:=p;dsimp only;split<;>first|rfl|(split<;>first|exact key _|rfl)
  ·rfl
 ·rfl
theorem Qi{g:Nat}{b:Bool}{l:SL}:(HC g b l).dst=l.dst:=by
 unfold HC;split
 ·split<;>rfl
 ·rfl
theorem Aib{E:ah}{D:Option (List Nat)}{g:Nat}{b:Bool}{d:Option Nat}{op:aa}{st:St}(e:st.fr g=.c (.bool b)):Ar E D ⟨d,op,none⟩ st=Ar E D ⟨d,op,some (g,b)⟩ st:=by
 unfold Ar;dsimp only;rw[e];simp
theorem Agl{E:ah}{D:Option (List Nat)}{g:Nat}{b w:Bool}{d:Option Nat}{op:aa}{st:St}(f:st.fr g=.c (.bool b))(h:(w==b)=false):Ar E D ⟨d,op,some (g,w)⟩ st=some (st.set d Bf):=by
 unfold Ar;dsimp only;rw[f];have:¬b=w:=fun e=>by subst e;simp at h
 simp[this]
theorem Agm{E:ah}{D:Option (List Nat)}{g:Nat}{w:Bool}{d:Option Nat}{op:aa}{st:St}(b:st.fr g=Bf):Ar E D ⟨d,op,some (g,w)⟩ st=some (st.set d Bf):=by
 unfold Ar;dsimp only;rw[b];rfl
theorem Ad0{S:List Nat}{d:Option Nat}{i:Nat}(h:i∈Ij S d):i∈S/\d≠some i:=by
 cases d with
 |none=>exact⟨h,fun e=>by cases e⟩
 |some d=>
  simp only[Ij,List.mem_filter,Bool.not_eq_true']at h;exact⟨h.1,fun e=>by cases e;simp at h⟩
theorem Ks{R:St->St->Prop}(m:∀{st s:St},R st s->∀(i:Nat) (c:CV),Pf c=true->st.fr i=.c c->s.fr i=.c c){E:ah}{D:Option (List Nat)}{g:Nat}{b:Bool}{Q:St->Prop}:∀{ls:List RL} {S:List Nat} {st:St},Ka g ls=true->st.fr g=.c (.bool b)->(∀s∈S,st.fr s=Bf)->DD R E D (EW g b S ls) Q st->DD R E D ls Q st
 | [],S,st,_,_,_,h=>h
 | .sk d::ls,S,st,hn,hg,hS,h=>by
  simp only[Ka,RL.dst,Ag]at hn;obtain⟨s,k,r⟩:=h;have q:d≠some g:=fun e=>by subst e;simp at hn
  refine⟨s,k,Ks m hn.2 (DW q (m k _ _ rfl hg)) (fun i hi=> ?_) r⟩;by_cases f:d=some i
  ·subst f;show ac s.fr i Bf i=_;rw[AR]
  ·exact DW f (m k i (.tup []) rfl (hS i hi))
 | .l l::ls,S,st,hn,hg,hS,h=>by
  simp only[Ka,RL.dst,Ag]at hn;have q:l.dst≠some g:=fun e=>by rw[e]at hn;simp at hn
  obtain⟨d,op,gd⟩:=l
  have run:∀l':SL,l'.dst=d->(∀s,s.fr g=.c (.bool b)->Ar E D l' s=Ar E D ⟨d,op,gd⟩ s)->DD R E D (.l l'::EW g b (Ij S d) ls) Q st->DD R E D (.l ⟨d,op,gd⟩::ls) Q st:=by
   intro l' H C ⟨s,k,s',r,h3⟩;have t:=m k _ _ rfl hg;rw[C s t]at r;refine⟨s,k,s',r,Ks m hn.2 (Uh q t r) (fun i hi=> ?_) h3⟩;obtain⟨B,A⟩:=Ad0 hi;exact Uh A (m k i (.tup []) rfl (hS i B)) r
  have sk:(∀s,R st s->Ar E D ⟨d,op,gd⟩ s=some (s.set d Bf))->DD R E D (.sk d::EW g b (d.toList++S) ls) Q st->DD R E D (.l ⟨d,op,gd⟩::ls) Q st:=by
   intro C ⟨s,k,r⟩;refine⟨s,k,_,C s k,Ks m hn.2 (DW q (m k _ _ rfl hg)) (fun i hi=> ?_) r⟩;by_cases f:d=some i
   ·subst f;show ac s.fr i Bf i=_;rw[AR]
   ·rcases List.mem_append.1 hi with hi|hi
    ·cases d with
     |none=>cases hi
     |some d=>simp at hi;exact absurd (by rw[hi]) f
    ·exact DW f (m k i (.tup []) rfl (hS i hi))
  cases gd with
  |none=>exact run _ Qi (fun s o=>Qj o) h
  |some p=>
   obtain⟨j,w⟩:=p;simp only[EW]at h
   cases y:Nat.beq j g with
   |true=>
    have x:=Nat.eq_of_beq_eq_true y;subst x;simp only[y]at h
    cases u:w==b with
    |true=>
     simp only[u]at h;have v:w=b:=by simpa using u
     subst v;exact run _ Qi (fun s o=>by rw[Qj o,Aib o]) h
    |false=>
     simp only[u]at h;exact sk (fun s o=>Agl (m o _ _ rfl hg) u) h
   |false=>
    simp only[y]at h
    cases F:S.contains j with
    |true=>
     simp only[F]at h;exact sk (fun s o=>Agm (m o j (.tup []) rfl (hS j (by simpa using F)))) h
    |false=>
     simp only[F]at h;exact run _ Qi (fun s o=>Qj o) h
theorem Qw{R:St->St->Prop}{E:ah}{D:Option (List Nat)}{Q b:St->Prop}(h:∀s,Q s->b s):∀{ls:List RL} {st:St},DD R E D ls Q st->DD R E D ls b st
 | [],st,⟨s,h1,h2⟩=>⟨s,h1,h s h2⟩
 | .l _::_,st,⟨s,h1,s',h2,h3⟩=>⟨s,h1,s',h2,Qw h h3⟩
 | .sk _::_,st,⟨s,h1,h3⟩=>⟨s,h1,Qw h h3⟩
theorem WD{le:Db}{E:ah}{Q:St->Prop}:∀{ls:List SL} {st:St},DD (Ax le) E none (ls.map .l) Q st->E6 le E ls Q st
 | [],st,h=>h
 |_::_,st,⟨s,h1,s',h2,h3⟩=>⟨s,h1,s',h2,WD h3⟩
theorem WC{E:ah}{D:Option (List Nat)}{Q:St->Prop}:∀{ls:List SL} {st:St},DD Eq E D (ls.map .l) Q st->∃st',Ce E D ls st=some st'/\Q st'
 | [],st,⟨s,h1,h2⟩=>⟨s,by rw[h1];rfl,h2⟩
 |_::_,st,⟨s,h1,s',h2,h3⟩=>by
  subst h1;obtain⟨st',c,b⟩:=WC h3;exact⟨st',by simp only[Ce,h2,Option.bind_some];exact c,b⟩
def AD(id:Nat)(st s:St):Prop:=E0 (s.ob id)=true->s.ob id=st.ob id
theorem AD.refl(id:Nat)(st:St):AD id st st:=fun _=>rfl
theorem AD.trans{id:Nat}{st u t:St}(h:AD id st u)(k:AD id u t):AD id st t:=fun hi=>by
 have e:=k hi;rw[e];exact h (e▸hi)
theorem AD.ob{id:Nat}{st s:St}(h:s.ob id=st.ob id):AD id st s:=fun _=>h
theorem AD.kill{id:Nat}{st:St}{D:List Nat}:AD id st (kill D st):=fun h=>G8 h
theorem AD.of{le:Db}{id:Nat}{st s:St}(h:Ax le st s):AD id st s:=fun hi=>h.2.it id hi
theorem Fl{id:Nat}{st:St}{d:Option Nat}{v:SV}:(st.set d v).ob id=st.ob id:=by cases d<;>rfl
theorem SP{id:Nat}{st st':St}{d:Option Nat}{v:SV}{o:Ob}(hd:d≠some id)(b:Bz st d v o=some st'):st'.ob id=st.ob id:=by
 unfold Bz at b;split at b
 ·split at b
  ·cases b;exact A8 _ _ (fun e=>hd (by rw[e]))
  ·cases b
 ·cases b
theorem Af9{id i:Nat}{st:St}{o:Ob}(b:E0 o=false){fr:Nat->SV}{d:Option Nat}{v:SV}:AD id st (St.set {fr:=fr,ob:=ac st.ob i o} d v):=by
 intro hi;rw[Fl]at hi⊢;exact EY b hi
theorem Xb{id i:Nat}{st:St}{o:Ob}(c:E0 o=false){fr:Nat->SV}{d:Option Nat}{v:SV}:AD id st (St.set {fr:=fr,ob:=ac (kill [i] st).ob i o} d v):=by
 intro hi;rw[Fl]at hi⊢;have b:=EY (ob:=(kill [i] st).ob) (id:=id) c hi;exact b.trans (G8 (b▸hi))
theorem Zv{id:Nat}{d:Option Nat}{ρ:SO->SV}{st st':St}{op:aa}(b:AJ d ρ st op=some st'):AD id st st':=by
 cases op<;>simp only[AJ,reduceCtorEq]at b
 case append e size bytes x y=>
  repeat' split at b
  all_goals first
   |(cases b;done)
   |(cases b;exact Xb (d:=none) (v:=.undef) rfl)
   |(cases b;exact Xb rfl)
 all_goals
  repeat' split at b
  all_goals first
   |(cases b;done)
   |(cases b;exact AD.refl _ _)
   |(cases b;exact fun hi=>EY rfl hi)
   |(cases b;exact Af9 rfl)
   |skip
 all_goals
  rw[Ab]at b;obtain⟨_,_,b⟩:=b;split at b
  ·cases b;exact fun hi=>EY rfl hi
  ·cases b
theorem LY{E:ah}(hE:bz E){rd:Nat->Ob}{st st':St}{d:Option Nat}{op:aa}{id:Nat}(ag:id<As)(hd:d≠some id)(b:A9 E rd st d op=some st'):AD id st st':=by
 have call:∀{f:FuncId} {args:List SO} {c:List CV},D4 E rd (so E.G st.fr) st d f args c=some st'->AD id st st':=by
  intro f args c b;unfold D4 at b;simp only[Ab]at b;obtain⟨l,_,r,_,b⟩:=b;split at b
  ·cases r with
   |val v=>cases b;exact AD.ob Fl
   |new o=>exact AD.ob (SP hd b)
  ·cases b
 have eff:∀{f:FuncId} {e:bF} {args:List SO} {c:List CV},E.ef f=some e->Dt (so E.G st.fr) st d e args c=some st'->AD id st st':=by
  intro f e args c g b;unfold Dt at b;simp only[Ab,Ac]at b;obtain⟨l,_,p,_,rfl⟩:=b;intro hi;rw[Fl]at hi⊢;have hT:=hE f e g
  have h:¬e.T.contains id=true:=fun i=>by
   have:=List.all_eq_true.1 hT id (by simpa using i);have:=Ai this;omega
  unfold C9 at hi⊢;simp only at hi⊢;rw[if_neg h]at hi⊢;exact UT hi
 unfold A9 at b;dsimp only at b;split at b
 ·obtain⟨v,_,rfl⟩:=Aa.1 b;exact AD.ob Fl
 ·obtain⟨v,_,rfl⟩:=Aa.1 b;exact AD.ob Fl
 ·obtain⟨p,_,b⟩:=Ab.1 b;exact AD.ob (SP hd b)
 ·exact Zv b
 ·split at b
  ·split at b
   ·rename_i g;exact eff g b
   ·exact call b
  ·split at b
   ·split at b
    ·rename_i g;exact eff g b
    ·exact call b
   ·cases b
  ·cases b
 ·split at b
  ·unfold Fw at b
   repeat' split at b
   all_goals first
    |(cases b;done)
    |(cases b;intro hi;rw[Fl]at hi⊢;exact EY rfl hi)
  ·cases b
theorem ZG{E:ah}(hE:bz E){rd:Nat->Ob}{l:SL}{st st':St}{id:Nat}(ag:id<As)(hd:l.dst≠some id)(b:Bm E rd l st=some st'):AD id st st':=by
 unfold Bm at b;split at b
 ·exact LY hE ag hd b
 ·split at b
  ·split at b
   ·exact LY hE ag hd b
   ·cases b;exact AD.ob Fl
  ·cases b;exact AD.ob Fl
  ·cases b
theorem OS{E:ah}(hE:bz E){D:Option (List Nat)}{l:SL}{st st':St}{id:Nat}(ag:id<As)(hd:l.dst≠some id)(b:Ar E D l st=some st'):AD id st st':=by
 unfold Ar at b;split at b
 ·exact LY (hE.at D) ag hd b
 ·split at b
  ·split at b
   ·exact LY (hE.at D) ag hd b
   ·cases b;exact AD.ob Fl
  ·cases b;exact AD.ob Fl
  ·cases b
def Fz(id:Nat)(ls:List SL):Bool:=ls.all fun l=>match l.dst with|some d=> !Nat.beq d id|none=>true
theorem LR{id:Nat}{l:SL}{ls:List SL}(h:Fz id (l::ls)=true):l.dst≠some id/\Fz id ls=true:=by
 unfold Fz at h⊢;simp only[List.all_cons,Ag]at h;exact⟨fun e=>by rw[e]at h;simp at h,h.2⟩
theorem Uk{E:ah}(hE:bz E){D:Option (List Nat)}{id:Nat}(ag:id<As):∀{ls:List SL} {st st':St},Fz id ls=true->Ce E D ls st=some st'->AD id st st'
 | [],st,st',_,h=>by cases h;exact AD.refl _ _
 |l::ls,st,st',hd,h=>by
  obtain⟨e,d⟩:=LR hd;simp only[Ce]at h;obtain⟨s,c,b⟩:=Ab.1 h;exact(OS hE ag e c).trans (Uk hE ag d b)
theorem Uj{E:ah}{D:List Nat}{id:Nat}(ag:id<As):∀{ls:List SL} {st st':St},Fz id ls=true->F2 E.named D ls st=some st'->AD id st st'
 | [],st,st',_,h=>by cases h;exact AD.refl _ _
 |l::ls,st,st',hd,h=>by
  obtain⟨e,d⟩:=LR hd;simp only[F2]at h;obtain⟨s,c,b⟩:=Ab.1 h;exact(ZG bz.named ag e c).trans (Uj ag d b)
theorem Uo{E:ah}(hE:bz E){b:Bool}{D:List Nat}{ls:List SL}{st st':St}{id:Nat}(ag:id<As)(hd:Fz id ls=true)(h:Cf E b D ls st=some st'):AD id st st':=by
 unfold Cf at h;refine AD.trans (u:=if D.isEmpty then st else kill D st) ?_ (Uk hE ag hd h);split
 ·exact AD.refl _ _
 ·exact AD.kill
theorem YG{id:Nat}{st:St}:AD id st (Dr st):=by
 intro h;unfold Dr at h⊢;simp only at h⊢;split
 ·rfl
 ·rename_i c;rw[if_neg c]at h;cases b:st.ob id<;>rw[b]at h<;>first|rfl|cases h
theorem ZH{E:ah}{D:List Nat}{ls:List SL}{st st':St}{id:Nat}(ag:id<As)(hd:Fz id ls=true)(h:Il E D ls st=some st'):AD id st st':=
 (AD.kill.trans YG).trans (Uj ag hd h)
theorem WF{le:Db}{E:ah}(hE:bz E){id:Nat}(ag:id<As){Q:St->Prop}:∀{ls:List SL} {st:St},Fz id ls=true->E6 le E ls Q st->E6 le E ls (fun s=>Q s/\AD id st s) st
 | [],st,_,⟨s,h1,h2⟩=>⟨s,h1,h2,AD.of h1⟩
 |l::ls,st,hd,⟨s,h1,s',h2,h3⟩=>by
  obtain⟨d,c⟩:=LR hd;refine⟨s,h1,s',h2,Kv (fun t b=>⟨b.1, ?_⟩) (WF hE ag c h3)⟩;exact((AD.of h1).trans (OS hE ag d h2)).trans b.2
theorem Vu{E:ah}(hE:bz E){W:List (Nat×Nat)}{id:Nat}(ag:id<As):∀{ls:List SL} {st st':St},Fz id ls=true->c5 E W ls st=some st'->AD id st st'
 | [],st,st',_,h=>by cases h;exact AD.refl _ _
 |l::ls,st,st',hd,h=>by
  simp only[c5,Ab]at h;obtain⟨s,c,b⟩:=h;obtain⟨e,d⟩:=LR hd;exact(OS hE ag e (Uf c)).trans (Vu hE ag d b)
def H7(id:Nat):Co->Bool
 | .skip| .exit _| .ret| .bad=>true
 | .mnext _ _ _=>false
 | .reg _ _ ls| .regE _ ls| .regW ls=>Fz id ls
 | .seq a b| .cond _ a b=>H7 id a&&H7 id b
 | .block _ c| .loop c=>H7 id c
theorem HE{le:Db}{E:ah}(hE:bz E){id:Nat}(ag:id<As):∀(c:Co) {Q:Ex->St->Prop} {st:St},H7 id c=true->CE le E c Q st->CE le E c (fun e s=>Q e s/\AD id st s) st
 | .skip,Q,st,_,⟨s,hs,hp⟩=>⟨s,hs,hp,AD.of hs⟩
 | .mnext _ _ _,Q,st,hn,_=>by cases hn
 | .reg true D ls,Q,st,hn,⟨s,hs,s',d,s2,hs2,h2⟩=>⟨s,hs,s',d,s2,hs2,h2,((AD.of hs).trans (Uo hE ag hn d)).trans (AD.of hs2)⟩
 | .reg false D ls,Q,st,hn,⟨s,hs,d⟩=>by
  refine⟨s,hs,Kv (fun t f=>⟨f.1, ?_⟩) (WF hE ag hn d)⟩;refine((AD.of hs).trans ?_).trans f.2;split
  ·exact AD.refl _ _
  ·exact AD.kill
 | .regE D ls,Q,st,hn,⟨s,hs,s',d,h2⟩=>⟨s,hs,s',d,h2,(AD.of hs).trans (by
  rcases d with d|d
  ·exact Uo hE ag hn d
  ·exact ZH ag hn d)⟩
 | .regW ls,Q,st,hn,⟨s,hs,W,s',d,h2⟩=>⟨s,hs,W,s',d,h2,(AD.of hs).trans (Vu hE ag hn d)⟩
 | .seq a b,Q,st,hn,⟨s,hs,hp⟩=>by
  simp only[H7,Ag]at hn;refine⟨s,hs,CI a (fun e t f=> ?_) (HE hE ag a hn.1 hp)⟩
  cases e with
  |normal=>exact CI b (fun e u g=>⟨g.1,((AD.of hs).trans f.2).trans g.2⟩) (HE hE ag b hn.2 f.1)
  |exit i=>exact⟨f.1,(AD.of hs).trans f.2⟩
  |ret=>exact⟨f.1,(AD.of hs).trans f.2⟩
 | .cond c x y,Q,st,hn,⟨s,hs,b,d,h2,h3⟩=>by
  simp only[H7,Ag]at hn;exact⟨s,hs,b,d,fun l=>CI x (fun e u g=>⟨g.1,(AD.of hs).trans g.2⟩) (HE hE ag x hn.1 (h2 l)),fun l=>CI y (fun e u g=>⟨g.1,(AD.of hs).trans g.2⟩) (HE hE ag y hn.2 (h3 l))⟩
 | .block i c,Q,st,hn,⟨s,hs,hp⟩=>by
  refine⟨s,hs,CI c (fun e t f=> ?_) (HE hE ag c hn hp)⟩
  cases e with
  |normal=>exact⟨f.1,(AD.of hs).trans f.2⟩
  |exit j=>
   have d:=f.1;simp only at d⊢;split<;>rename_i p
   ·rw[if_pos p]at d;exact⟨d,(AD.of hs).trans f.2⟩
   ·rw[if_neg p]at d;exact⟨d,(AD.of hs).trans f.2⟩
  |ret=>exact⟨f.1,(AD.of hs).trans f.2⟩
 | .loop c,Q,st,hn,⟨s,hs,R,⟨m,hm⟩,hr⟩=>by
  refine⟨s,hs,fun m t=>R m t/\AD id st t,⟨m,hm,AD.of hs⟩,fun m t h=>CI c (fun e u g=> ?_) (HE hE ag c hn (hr m t h.1))⟩
  cases e with
  |normal=>
   obtain⟨⟨k,q,o⟩,r⟩:=g;exact⟨k,q,o,h.2.trans r⟩
  |exit i=>exact⟨g.1,h.2.trans g.2⟩
  |ret=>exact⟨g.1,h.2.trans g.2⟩
 | .exit i,Q,st,_,⟨s,hs,hp⟩=>⟨s,hs,hp,AD.of hs⟩
 | .ret,Q,st,_,⟨s,hs,hp⟩=>⟨s,hs,hp,AD.of hs⟩
 | .bad,Q,st,_,hp=>hp.elim
def Ty.noN(N:Nat):Ty->Bool
 | .nam M| .bptr M=>M !=N
 | .agg r| .tup r| .pt r| .clo _ r| .sl r| .one r=>r.noN N
 | .falt _ r l=>r.noN N&&l.noN N
 | .map k v=>k.noN N&&v.noN N
 | .cons t r=>t.noN N&&r.noN N
 | .nw _ _ t=>t.noN N
 |_=>true
theorem ES{T:Nat->Bool}{c:CV}:AN T [c]=Bj T c:=by simp[AN]
theorem GU{T:Nat->Bool}{b:Type}{R:b->CV->Prop}:∀{d:List b} {es:List CV},(∀x c,R x c->Bj T c=true)->CanAll R d es->AN T es=true
 | [],es,_,h=>by unfold CanAll at h;subst h;rfl
 |x::d,es,f,h=>by
  obtain⟨c,i,rfl,g,e⟩:=h;simp[AN,f x c g,GU f e]
theorem Can.noN{N:Nat}:∀{t:Ty} {x:D t} {cs:List CV},t.noN N=true->Can t x cs->AN (CC N) cs=true:=by
 intro t
 induction t with
 |nam M=>intro x cs h b;unfold Can at b;subst b;simpa[AN,Bj,CC,Ty.noN]using h
 |bptr M=>
  intro x cs h b;unfold Can at b;rcases b with rfl|rfl|rfl
  ·simpa[AN,Bj,CC,Ty.noN]using h
  ·simpa[AN,Bj,CC,Ty.noN]using h
  ·rfl
 |agg r ih=>intro x cs h b;unfold Can at b;obtain⟨l,rfl,b⟩:=b;rw[ES];exact ih h b
 |tup r ih=>intro x cs h b;unfold Can at b;obtain⟨l,rfl,b⟩:=b;rw[ES];exact ih h b
 |pt r ih=>intro x cs h b;unfold Can at b;obtain⟨l,rfl,b⟩:=b;rw[ES];exact ih h b
 |clo f r ih=>intro x cs h b;unfold Can at b;obtain⟨l,rfl,b⟩:=b;rw[ES];exact ih h b
 |falt f r l ih ihl=>
  intro x cs h b;simp only[Ty.noN,Ag]at h
  cases x with
  |inl y=>unfold Can at b;obtain⟨cap,rfl,b⟩:=b;rw[ES];exact ih h.1 b
  |inr y=>unfold Can at b;exact ihl h.2 b.2
 |sl e ih=>
  intro x cs h b;unfold Can at b;obtain⟨m,es,rfl,b⟩:=b;rw[ES];exact GU (fun y c d=>by rw[<-ES];exact ih h d) b
 |map k v ihk ihv=>
  intro x cs h b;simp only[Ty.noN,Ag]at h;unfold Can at b;obtain⟨m,ks,vs,rfl,i,g⟩:=b;rw[ES];simp only[Bj,Ag];exact⟨GU (fun y c d=>by rw[<-ES];exact ihk h.1 d) i,GU (fun y c d=>by rw[<-ES];exact ihv h.2 d) g⟩
 |one t ih=>intro x cs h b;unfold Can at b;obtain⟨c,rfl,b⟩:=b;exact ih h b
 |cons t r iht ihr=>
  intro x cs h b;simp only[Ty.noN,Ag]at h;unfold Can at b;obtain⟨c,l,rfl,i,g⟩:=b;have j:=iht h.1 i;rw[ES]at j;simp[AN,j,ihr h.2 g]
 |nw e s t _=>intro x cs h b;unfold Can at b;exact b.elim
 |err=>intro x cs _ b;unfold Can at b;subst b;cases x<;>rfl
 |_=>intro x cs _ b;unfold Can at b;subst b;rfl
theorem Can.noN1{N:Nat}{t:Ty}{x:D t}{c:CV}(h:t.noN N=true)(b:Can t x [c]):Bj (CC N) c=true:=by
 rw[<-ES];exact Can.noN h b
def I5(N:Nat):EK->Bool
 | .v t=>t.noN N
 | .opt k=>I5 N k
 | .rp ex r=>ex&&r.noN N
 | .ent _ k v=>k.noN N&&v.noN N
 | .stamp _ k=>k.noN N
 |_=>true
def cM(N:Nat):EK->Bool
 | .arr _ _ t=>t.noN N
 | .mob _ k v=>k.noN N&&v.noN N
 | .box _ bt| .sit| .buf _=>true
 |_=>false
def cB(d N:Nat)(Γ:TC):ax->EK->Bool
 | .o id,k=>id !=d&&id !=N&&(cM N k||k==.gone)
 | .s _,k| .c _ _,k=>I5 N k&&(match k.refs with
  |some id=>id !=d&&id !=N&&(match Ci Γ (.o id)with
   |some ko=>cM N ko
   |none=>false)
  |none=>true)
def EB(d N:Nat)(Γ:TC):List ax:=(Γ.map (·.1)).filter fun p=>match Ci Γ p with
 |some k=> !cB d N Γ p k
 |none=>false
theorem RS.drop{p:Nat->Bool}{N:Nat}{k:EK}{x:DK k}{sv:SV}(h:RS k x sv)(d:I5 N k=true)(b:∀id,k.refs=some id->p id=false):RS k x (BR p N sv):=by
 induction k
 case v t=>
  obtain⟨c,rfl,e⟩:=h;refine⟨c, ?_,e⟩;simp only[BR];rw[if_pos (Can.noN1 d e)]
 case opt k ih=>
  unfold RS at h⊢
  cases x with
  |none=>simp only at h;subst h;rfl
  |some y=>exact ih h d b
 case rp ex r=>
  obtain⟨cs,rest,rfl,e,j⟩:=h;simp only[I5,Ag]at d;have:=j d.1;subst this;refine⟨cs,[], ?_,e,fun _=>rfl⟩;simp only[BR]
  have g:Bj (CC N) (.rp (cs++ []))=true:=by
   rw[List.append_nil];exact Can.noN d.2 e
  rw[if_pos g]
 case undef=>trivial
 case ptr id o=>have:=b id rfl;unfold RS at h;subst h;simp[RS,BR,SV.ref,this]
 case eptr id s o=>have:=b id rfl;unfold RS at h;subst h;simp[RS,BR,SV.ref,this]
 case aptr id n o=>have:=b id rfl;obtain⟨h,hi⟩:=h;subst h;exact⟨by simp[BR,SV.ref,this],hi⟩
 case own id=>have:=b id rfl;unfold RS at h;subst h;simp[RS,BR,SV.ref,this]
 case mp id=>have:=b id rfl;unfold RS at h;subst h;simp[RS,BR,SV.ref,this]
 case iter id=>have:=b id rfl;unfold RS at h;subst h;simp[RS,BR,SV.ref,this]
 case ent id k v=>
  have:=b id rfl;simp only[I5,Ag]at d;obtain⟨i,l,rfl,f,g⟩:=h;refine⟨i,l, ?_,f,g⟩;simp[BR,this,Can.noN1 d.1 f,Can.noN1 d.2 g]
 case stamp id k=>
  have:=b id rfl;obtain⟨i,rfl,f⟩:=h;refine⟨i, ?_,f⟩;simp[BR,this,Can.noN1 d f]
 all_goals exact h.elim
section
variable {Γ:TC} {ρ:HS Γ} {st:St}
theorem VK{d N:Nat}{p:ax}{k:EK}{f:HS Γ->DK k}(e:get Γ p=some ⟨k,f⟩)(c:p∉EB d N Γ):cB d N Γ p k=true:=by
 have b:=By e
 cases g:cB d N Γ p k with
 |true=>rfl
 |false=>
  exfalso;apply c;unfold EB;rw[List.mem_filter];refine⟨F3 b, ?_⟩;simp only at b;simp only[b,g,Bool.not_false]
theorem af.dropB(h:af Γ ρ st){d N id:Nat}{ko:EK}(s:id≠d)(r:id≠N)(j:Ci Γ (.o id)=some ko)(i:cM N ko=true):WB.dropB d N st.ob id=false:=by
 obtain⟨f,l⟩:=Iq j;have b:=h.o id _ l;simp only[WB.dropB,Bool.or_eq_false_iff,beq_eq_false_iff_ne];refine⟨⟨s,r⟩, ?_⟩;cases ko<;>simp only[cM,Ah]at i
 case box n=>obtain⟨cs,e,_⟩:=b;rw[e]
 case arr e size t=>obtain⟨es,e,m⟩:=b;rw[e];simp[GU (T:=CC N) (fun y c g=>Can.noN1 i g) m]
 case mob mt k v=>
  obtain⟨z,ks,vs,e,_,q,p⟩:=b;simp only[Ag]at i;rw[e];simp[GU (T:=CC N) (fun y c g=>Can.noN1 i.1 g) q,GU (T:=CC N) (fun y c g=>Can.noN1 i.2 g) p]
 case sit=>unfold RO at b;rw[b]
 case buf e=>unfold RO at b;rw[b]
def FW(d N:Nat)(st:St):St:=
 {fr:=fun j=>BR (WB.dropB d N st.ob) N (st.fr j),ob:=fun id=>if WB.dropB d N st.ob id then .none else Ed (WB.dropB d N st.ob) N (st.ob id)}
theorem af.drop(h:af Γ ρ st)(d N:Nat):af (c6 [d,N] (bZ (EB d N Γ) Γ)) (ci [d,N] (bM (EB d N Γ) ρ)) (FW d N st):=by
 have AK:∀p q,(∀d',p≠ .o d')->get (c6 [d,N] (bZ (EB d N Γ) Γ)) p=some q->q.1=.undef\/∃f,get Γ p=some ⟨q.1,f⟩/\q.2 (ci [d,N] (bM (EB d N Γ) ρ))=f ρ/\I5 N q.1=true/\∀id,q.1.refs=some id->WB.dropB d N st.ob id=false:=by
  intro p q R A;rcases Ip (bM (EB d N Γ) ρ) A with⟨d',_,F,_⟩|⟨_,f,B,e⟩
  ·exact absurd F (R d')
  ·rcases Ir ρ B with⟨_,u⟩|⟨u,g,y,O⟩
   ·exact .inl u
   ·have b:=VK y u;refine .inr ⟨g,y,e.trans O, ?_⟩
    cases p with
    |o id=>exact absurd rfl (R id)
    |s i=>
     simp only[cB,Ag]at b;refine⟨b.1,fun id ag=> ?_⟩;have m:=b.2;rw[ag]at m;simp only[Ag,bne_iff_ne]at m
     cases r:Ci Γ (.o id)with
     |none=>rw[r]at m;cases m.2
     |some ko=>rw[r]at m;exact af.dropB h m.1.1 m.1.2 r m.2
    |c i j=>
     simp only[cB,Ag]at b;refine⟨b.1,fun id ag=> ?_⟩;have m:=b.2;rw[ag]at m;simp only[Ag,bne_iff_ne]at m
     cases r:Ci Γ (.o id)with
     |none=>rw[r]at m;cases m.2
     |some ko=>rw[r]at m;exact af.dropB h m.1.1 m.1.2 r m.2
 refine⟨fun i q A=> ?_,fun id q A=> ?_⟩
 ·rcases AK _ q (by simp) A with F|⟨f,B,e,hn,hr⟩
  ·obtain⟨k,M⟩:=q;subst F
   trivial
  ·rw[e];exact RS.drop (h.s i _ B) hn hr
 ·rcases Ip (bM (EB d N Γ) ρ) A with⟨d',C,F,u⟩|⟨S,f,B,e⟩
  ·obtain⟨k,M⟩:=q;simp only at u;subst u;have ag:id=d':=by simpa using F
   subst ag;show(if WB.dropB d N st.ob id then Ob.none else _)=Ob.none
   have:WB.dropB d N st.ob id=true:=by
    simp only[List.mem_cons,List.not_mem_nil,or_false]at C;rcases C with rfl|rfl<;>simp[WB.dropB]
   rw[if_pos this]
  ·rcases Ir ρ B with⟨_,u⟩|⟨u,g,y,O⟩
   ·obtain⟨k,M⟩:=q;simp only at u;subst u
    trivial
   ·have b:=VK y u;have l:=h.o id _ y;have Z:=e.trans O;rw[Z];simp only[cB,Ag,bne_iff_ne,Ak,beq_iff_eq]at b;obtain⟨⟨m,X⟩,x⟩:=b;obtain⟨k,M⟩:=q;simp only at x l⊢;show RO _ _ id k _ (if WB.dropB d N st.ob id then Ob.none else Ed (WB.dropB d N st.ob) N (st.ob id));rcases x with x|x
    ·have K:=af.dropB h m X (By y) x;rw[K];simp only[Ah,if_false];cases k<;>simp only[cM,Ah]at x
     case box n=>
      obtain⟨cs,H,T,D⟩:=l;rw[H];refine⟨_,rfl,by simpa using T,fun j Q U I=> ?_⟩;rcases AK _ Q (by simp) I with L|⟨f',hf',e',hn',hr'⟩
      ·obtain⟨k',Y⟩:=Q;subst L;have J:j<cs.length:=by omega
       exact⟨BR (WB.dropB d N st.ob) N cs[j],by simp[J],trivial⟩
      ·obtain⟨sv,W,V⟩:=D j _ U hf';refine⟨_,by rw[List.getElem?_map,W];rfl, ?_⟩;rw[e'];exact RS.drop V hn' hr'
     case arr e' size t=>obtain⟨es,H,D⟩:=l;rw[H];exact⟨es,rfl,D⟩
     case mob mt kk v=>obtain⟨z,ks,vs,H,D⟩:=l;rw[H];exact⟨z,ks,vs,rfl,D⟩
     case sit=>unfold RO at l⊢;rw[l];rfl
     case buf e'=>unfold RO at l⊢;rw[l];rfl
    ·subst x;have L:st.ob id=.none:=l;rw[L];split<;>rfl
theorem af.newBox{Γc:TC}{ρc:HS Γc}{N:Nat}{ko:EK}{y:DK ko}{o:Ob}(h:af Γ ρ st)(m:Do N Γ ρ Γc ρc)(B:RO Γc ρc N ko y o):af ((.o N,ko)::Γc) (y,ρc) {st with ob:=ac st.ob N o}:=by
 have down:∀p q,p≠ .o N->get ((.o N,ko)::Γc) p=some q->∃f,get Γc p=some ⟨q.1,f⟩/\q.2 (y,ρc)=f ρc:=by
  intro p q C c;obtain⟨f,d,e⟩:=C1 (Ne.symm C) c;exact⟨f,d,e _⟩
 refine⟨fun i q c=> ?_,fun id q c=> ?_⟩
 ·obtain⟨f,d,e⟩:=down _ q (by simp) c;rcases m _ _ d with⟨j,t⟩|⟨g,v,k⟩
  ·cases t
  ·have F:=e.trans k;rw[F];exact h.s i _ v
 ·by_cases hi:id=N
  ·subst hi;rw[CT]at c;cases c;simp only[ac,if_true];exact RO.congr B fun j l b=>down _ l (by simp) b
  ·obtain⟨f,d,e⟩:=down _ q (by simpa using hi) c;rcases m _ _ d with⟨j,t⟩|⟨g,v,k⟩
   ·cases t
   ·have:=h.o id _ v;simp only at k;rw[e];simp only[ac,hi,if_false];rw[k];refine RO.congr this fun j l b=> ?_;obtain⟨J,x,H⟩:=down _ l (by simp) b;rcases m _ _ x with⟨I,r⟩|⟨D,u,A⟩
    ·cases r;exact absurd rfl hi
    ·exact⟨D,u,H.trans A⟩
end
inductive Gh where
 |own (i id e size:Nat)
 |ownc (b j id e size:Nat)
 |ownb (b j id e:Nat)
 |frz (i:Nat)
 |frzc (b j:Nat)
 |frzb (i:Nat)
 |tell (i N:Nat)
 |tellm (i N:Nat)
 |seem (b j:Nat)
 |unsee (b j:Nat)
structure cu (Γ:TC) where
 Γ':TC
 up:HS Γ->HS Γ'
def UI(o:Option TC)(Γ:TC):Gh->Bool
 | .frz i| .frzb i=>match Ci Γ (.s i)with
  |some k=>match k.refs with
   |some id=>Mq o id
   |none=>false
  |none=>false
 | .frzc b j=>match Ci Γ (.c b j)with
  |some k=>match k.refs with
   |some id=>Mq o id
   |none=>false
  |none=>false
 |_=>false
theorem JC{o:Option TC}{Γ:TC}{p:ax}{k:EK}{f:HS Γ->DK k}{id:Nat}(h:(match Ci Γ p with
  |some k=>match k.refs with
   |some id=>Mq o id
   |none=>false
  |none=>false)=false) (c:get Γ p=some ⟨k,f⟩) (b:k.refs=some id):¬(Dx o).I id:=by
 have:=By c;simp only at this;rw[this]at h;simp only[b]at h;exact Adc h
def QO(o:Option TC)(Γ:TC)(i N:Nat):Option (cu Γ):=
 match o with
 |none=>none
 |some Θ=>if(A6 Θ).contains N=true\/(Nat.ble As N&&Nat.beq (N % 2) 0)=false then none else
  match get Γ (.s i)with
  |some ⟨.ptr d 0,_⟩=>if(A6 Θ).contains d=true\/Nat.ble As d=true then none else
   match get Γ (.o d)with
   |some ⟨.box (n+1) bt,_⟩=>match Hi Γ d n 0 with
    |some p=>if p.1.noN N=true/\AQ p.1=some (n+1)then match F9 N 0 p.1 (c6 [d,N] (bZ (EB d N Γ) Γ))with
     |some q=>some ⟨(.s i,.v (.nam N))::(.o N,.box (n+1) bt)::q.1,fun ρ=>((),(),q.2 (ci [d,N] (bM (EB d N Γ) ρ)) (p.2 ρ))⟩
     |none=>none
     else none
    |none=>none
   |_=>none
  |_=>none
def QM(o:Option TC)(Γ:TC)(i N:Nat):Option (cu Γ):=
 match o with
 |none=>none
 |some Θ=>if(A6 Θ).contains N=true\/(Nat.ble As N&&Nat.beq (N % 2) 1)=false then none else
  match get Γ (.s i)with
  |some ⟨.mp d,_⟩=>if(A6 Θ).contains d=true\/Nat.ble As d=true then none else
   match get Γ (.o d)with
   |some ⟨.mob e k v,xs⟩=>if k.noN N=true/\v.noN N=true then some ⟨(.s i,.v (.nam N))::(.o N,.mob e k v)::c6 [d,N] (bZ (EB d N Γ) Γ),fun ρ=>((),xs ρ,ci [d,N] (bM (EB d N Γ) ρ))⟩else none
   |_=>none
  |_=>none
def Gb(X:TP)(Γ:TC):Gh->Option (cu Γ)
 | .tell i N=>QO X.Θ Γ i N
 | .tellm i N=>QM X.Θ Γ i N
 | .seem b j=>match get Γ (.o b),get Γ (.c b j)with
  |some ⟨.box n bt,_⟩,some ⟨.v (.nam N),_⟩=>match get Γ (.o N)with
   |some ⟨.mob _ _ _,_⟩=>if j<n/\Nat.ble As N=true then some ⟨(.c b j,.mp N)::Γ,fun ρ=>((),ρ)⟩else none
   |_=>none
  |_,_=>none
 | .unsee b j=>match get Γ (.o b),get Γ (.c b j)with
  |some ⟨.box n bt,_⟩,some ⟨.mp N,_⟩=>match get Γ (.o N)with
   |some ⟨.mob _ _ _,_⟩=>if j<n/\Nat.ble As N=true then some ⟨(.c b j,.v (.nam N))::Γ,fun ρ=>((),ρ)⟩else none
   |_=>none
  |_,_=>none
 | .own i id e size=>match get (Bh [id] Γ) (.s i),X.TT e with
  |some ⟨.v .nsl,_⟩,some t=>some ⟨(.s i,.own id)::(.o id,.arr e size t)::Bh [id] Γ,fun ρ=>((),[],BF [id] ρ)⟩
  |_,_=>none
 | .ownc b j id e size=>match X.TT e with
  |some t=>match get ((.o id,.arr e size t)::Bh [id] Γ) (.o b),get ((.o id,.arr e size t)::Bh [id] Γ) (.c b j)with
   |some ⟨.box n bt,_⟩,some ⟨.v .nsl,_⟩=>if j<n/\b≠id then some ⟨(.c b j,.own id)::(.o id,.arr e size t)::Bh [id] Γ,fun ρ=>((),[],BF [id] ρ)⟩else none
   |_,_=>none
  |none=>none
 | .ownb b j id e=>match get ((.o id,.buf e)::Bh [id] Γ) (.o b),get ((.o id,.buf e)::Bh [id] Γ) (.c b j)with
  |some ⟨.box n _,_⟩,some ⟨.v .nsl,_⟩=>if j<n/\b≠id then some ⟨(.c b j,.own id)::(.o id,.buf e)::Bh [id] Γ,fun ρ=>((),[],BF [id] ρ)⟩else none
  |_,_=>none
 | .frz i=>match get Γ (.s i)with
  |some ⟨.own id,_⟩=>match get Γ (.o id)with
   |some ⟨.arr _ _ t,xs⟩=>some ⟨(.s i,.v (.sl t))::Bh [id] Γ,fun ρ=>(xs ρ,BF [id] ρ)⟩
   |_=>none
  |some ⟨.mp id,_⟩=>match get Γ (.o id)with
   |some ⟨.mob _ k v,xs⟩=>some ⟨(.s i,.v (.map k v))::Bh [id] Γ,fun ρ=>(xs ρ,BF [id] ρ)⟩
   |_=>none
  |_=>none
 | .frzc b j=>match get Γ (.o b),get Γ (.c b j)with
  |some ⟨.box n bt,_⟩,some ⟨.own id,_⟩=>match get Γ (.o id),get (Bh [id] Γ) (.o b)with
   |some ⟨.arr _ _ t,xs⟩,some ⟨.box n' _,_⟩=>if j<n/\j<n' then some ⟨(.c b j,.v (.sl t))::Bh [id] Γ,fun ρ=>(xs ρ,BF [id] ρ)⟩else none
   |_,_=>none
  |some ⟨.box n bt,_⟩,some ⟨.mp id,_⟩=>match get Γ (.o id),get (Bh [id] Γ) (.o b)with
   |some ⟨.mob _ k v,xs⟩,some ⟨.box n' _,_⟩=>if j<n/\j<n' then some ⟨(.c b j,.v (.map k v))::Bh [id] Γ,fun ρ=>(xs ρ,BF [id] ρ)⟩else none
   |_,_=>none
  |_,_=>none
 | .frzb i=>match get Γ (.s i)with
  |some ⟨.ptr id 0,_⟩=>match get Γ (.o id)with
   |some ⟨.box (n+1) bt,_⟩=>match Hi Γ id n 0 with
    |some p=>some ⟨(.s i,.v (.pt p.1))::Bh [id] Γ,fun ρ=>(p.2 ρ,BF [id] ρ)⟩
    |none=>none
   |_=>none
  |_=>none
def cq(X:TP)(Γ:TC)(g:Gh):Option (cu Γ):=if UI X.Θ Γ g=true then none else Gb X Γ g
theorem Oo:∀{cs:List SV} {l:List CV},Aq closed cs=some l->cs=l.map .c
 | [],l,h=>by cases h;rfl
 |s::cs,l,h=>by
  simp only[Aq]at h;obtain⟨c,b,f⟩:=Ab.1 h;obtain⟨l',e,d⟩:=Aa.1 f;subst d
  have:s=.c c:=by
   cases s<;>first|(cases b;rfl)|cases b
  rw[this,Oo e];rfl
theorem Ah1{o:Option TC}{Γ:TC}{ρ:HS Γ}{st:St}{i N:Nat}{q:cu Γ}(h:QO o Γ i N=some q)(u:af Γ ρ st):∃st',Ax (Dx o) st st'/\af q.Γ' (q.up ρ) st':=by
 unfold QO at h;split at h<;>(try cases h;done);rename_i Θ;split at h<;>(try cases h;done);rename_i F;split at h<;>(try cases h;done);rename_i d f U;split at h<;>(try cases h;done);rename_i hd;split at h<;>(try cases h;done);rename_i n bt fo T;split at h<;>(try cases h;done);rename_i p S;split at h<;>(try cases h;done);rename_i l;split at h<;>(try cases h;done);rename_i I R;cases h;simp only[not_or,Bool.not_eq_true,Bool.not_eq_false]at F hd;have Z:st.fr i=.ptr d 0:=u.s i _ U;obtain⟨cs,Y,h3,X⟩:=u.o d _ T;obtain⟨b,J,H,_⟩:=O8 X S (by omega);rw[List.drop_zero,List.take_of_length_le (by omega)]at J;have W:cs=b.map .c:=Oo J;have C:d<As:=Nat.lt_of_not_le fun r=>by have:=Nat.ble_eq_true_of_le r;rw[hd.2]at this;cases this
 have g:=F.2;rw[Ag]at g;refine⟨_,Ax.tell C (Ai g.1) (Nat.eq_of_beq_eq_true g.2) (fun r=> ?_) (fun r=> ?_) Z Y, ?_⟩
 ·have e:(A6 Θ).contains N=true:=r;rw[F.1]at e;cases e
 ·have e:(A6 Θ).contains d=true:=r;rw[hd.1]at e;cases e
 ·have r1:=af.drop u d N;obtain⟨L,K⟩:=Km (ρ:=ci [d,N] (bM (EB d N Γ) ρ)) (x:=p.2 ρ) R H;have m:b.length=n+1:=EP l.2 H
  have O:=af.newBox r1 L (ko:=.box (n+1) bt) (y:=()) (o:=.box (b.map .c) bt) ⟨_,rfl,by simp[m],fun j I hj A=>by
   rcases K j I A with⟨_,c,k2,Q⟩|⟨k1,_⟩
   ·exact⟨.c c,by rw[List.getElem?_map];simp only[Nat.sub_zero]at k2;rw[k2];rfl,Q⟩
   ·omega⟩
  have M:=af.set O (d:=i) (k:=.v (.nam N)) (x:=()) (sv:=.c (.nam N)) ⟨_,rfl,by unfold Can;rfl⟩;have B:∀c∈b,Bj (CC N) c=true:=El.1 (Can.noN l.1 H)
  have D:cs.map (BR (WB.dropB d N st.ob) N)=b.map .c:=by
   rw[W,List.map_map];refine List.map_congr_left fun c V=> ?_;simp only[Function.comp_apply,BR];rw[if_pos (B c V)]
  have t:QN i d N cs bt st=St.set {fr:=(FW d N st).fr,ob:=ac (FW d N st).ob N (.box (b.map .c) bt)} (some i) (.c (.nam N)):=by
   unfold QN tellO;rw[show Ed (WB.dropB d N st.ob) N (.box cs bt)=.box (cs.map (BR (WB.dropB d N st.ob) N)) bt from rfl,D];simp only[St.set,St.mk.injEq];exact⟨by funext j;simp only[BS,FW],by funext j;simp only[BS,FW]⟩
  rw[t];exact M
theorem Ah0{o:Option TC}{Γ:TC}{ρ:HS Γ}{st:St}{i N:Nat}{q:cu Γ}(h:QM o Γ i N=some q)(B:af Γ ρ st):∃st',Ax (Dx o) st st'/\af q.Γ' (q.up ρ) st':=by
 unfold QM at h;split at h<;>(try cases h;done);rename_i Θ;split at h<;>(try cases h;done);rename_i F;split at h<;>(try cases h;done);rename_i d f T;split at h<;>(try cases h;done);rename_i hd;split at h<;>(try cases h;done);rename_i e k v M S;split at h<;>(try cases h;done);rename_i p;cases h;simp only[not_or,Bool.not_eq_true,Bool.not_eq_false]at F hd;have m:=F.2;rw[Ag]at m;have I:st.fr i=.omap d:=B.s i _ T;obtain⟨zc,ks,vs,H,U,L,K⟩:=B.o d _ S;have C:d<As:=Nat.lt_of_not_le fun r=>by have:=Nat.ble_eq_true_of_le r;rw[hd.2]at this;cases this
 have J:∀{t:Ty} {x:List (D k×D v)} {g:D k×D v->D t} {l:List CV},t.noN N=true->CanAll (fun y c=>Can t (g y) [c]) x l->AN (CC N) l=true:=by
  intro t x g l R u
  induction x generalizing l with
  |nil=>unfold CanAll at u;subst u;rfl
  |cons y x ih=>
   unfold CanAll at u;obtain⟨c,l',rfl,I,H⟩:=u;simp only[AN,Ag];exact⟨Can.noN1 R I,ih H⟩
 refine⟨_,Ax.tellO (rf:=.omap d) C (Ai m.1) (fun r=> ?_) (fun r=> ?_) I H (.inr ⟨_,_,_,_,_,rfl,rfl,Nat.eq_of_beq_eq_true m.2,J (g:=fun y=>y.1) p.1 L,J (g:=fun y=>y.2) p.2 K⟩), ?_⟩
 ·have b:(A6 Θ).contains N=true:=r;rw[F.1]at b;cases b
 ·have b:(A6 Θ).contains d=true:=r;rw[hd.1]at b;cases b
 ·have r1:=af.drop B d N;have Q:=af.turnObj r1 (id:=N) (k:=.mob e k v) (y:=M ρ) (o:=.map e (b4 k) zc ks vs) ⟨zc,ks,vs,rfl,U,L,K⟩;have O:=af.set Q (d:=i) (k:=.v (.nam N)) (x:=()) (sv:=.c (.nam N)) ⟨_,rfl,by unfold Can;rfl⟩
  have A:tellO i d N (.map e (b4 k) zc ks vs) st=St.set {fr:=(FW d N st).fr,ob:=ac (FW d N st).ob N (.map e (b4 k) zc ks vs)} (some i) (.c (.nam N)):=by
   unfold tellO;simp only[St.set,St.mk.injEq];exact⟨by funext j;simp only[BS,FW],by funext j;simp only[BS,FW];rfl⟩
  rw[A];exact O
theorem JD{X:TP}{Γ:TC}{ρ:HS Γ}{st:St}{g:Gh}{q:cu Γ}(h:cq X Γ g=some q)(m:af Γ ρ st):∃st',Ax (Dx X.Θ) st st'/\af q.Γ' (q.up ρ) st':=by
 unfold cq at h;split at h<;>(try cases h;done);rename_i K;have l:UI X.Θ Γ g=false:=by simpa using K
 clear K
 cases g with
 |tell i N=>exact Ah1 h m
 |tellm i N=>exact Ah0 h m
 |seem b j=>
  simp only[Gb]at h;split at h<;>(try cases h;done);rename_i n bt fb N f C r;split at h<;>(try cases h;done);rename_i e k v S H;split at h<;>(try cases h;done);rename_i u;cases h;obtain⟨cs,A,J,F⟩:=m.o b _ C;obtain⟨sv,R,c,Q,U⟩:=F j _ u.1 r;unfold Can at U;cases U;subst Q;obtain⟨zc,ks,vs,D,_⟩:=m.o N _ H;exact⟨_,Ax.seem (Ai u.2) A R D,FT m C J F u.1 (k:=.mp N) (x:=()) (sv:=.omap N) rfl⟩
 |unsee b j=>
  simp only[Gb]at h;split at h<;>(try cases h;done);rename_i n bt fb N f C r;split at h<;>(try cases h;done);rename_i e k v S H;split at h<;>(try cases h;done);rename_i u;cases h;obtain⟨cs,A,J,F⟩:=m.o b _ C;obtain⟨sv,R,Q⟩:=F j _ u.1 r;have O:sv=.omap N:=Q;subst O;obtain⟨zc,ks,vs,D,_⟩:=m.o N _ H;exact⟨_,Ax.unsee (Ai u.2) A R D,FT m C J F u.1 (k:=.v (.nam N)) (x:=()) (sv:=.c (.nam N)) ⟨_,rfl,by unfold Can;rfl⟩⟩
 |own i id e size=>
  simp only[Gb]at h;split at h<;>(try cases h;done);rename_i f t r ht;cases h;have I:=m.kill [id];obtain⟨c,A,J⟩:=I.s i _ r;unfold Can at J;cases J;refine⟨_,Ax.trans (Ax.kill st [id]) (Ax.own (i:=i) (id:=id) (e:=e) (size:=size) A (by simp[WB.kill])),af.newObjS I (k:=.own id) (ko:=.arr e size t) (x:=()) (y:= []) (v:=.osl id) ⟨[],rfl,rfl⟩ rfl⟩
 |ownc b j id e size=>
  simp only[Gb]at h;split at h<;>(try cases h;done);rename_i t ht;split at h<;>(try cases h;done);rename_i n bt fb f C r;split at h<;>(try cases h;done);rename_i u;cases h;have I:=m.kill [id];have L:=af.turnObj I (id:=id) (k:=.arr e size t) (y:= []) (o:=.arr e size []) ⟨[],rfl,rfl⟩;obtain⟨cs,A,J,F⟩:=L.o b _ C;obtain⟨sv,R,c,Q,U⟩:=F j _ u.1 r;unfold Can at U;cases U;subst Q;have W:(WB.kill [id] st).ob b=.box cs bt:=by simpa[ac,u.2]using A
  refine⟨_,Ax.trans (Ax.kill st [id]) (Ax.ownc (b:=b) (j:=j) (id:=id) VI W R (by simp[WB.kill])),FT L C J F u.1 (k:=.own id) (x:=()) (sv:=.osl id) rfl⟩
 |ownb b j id e=>
  simp only[Gb]at h;split at h<;>(try cases h;done);rename_i n bt fb f C r;split at h<;>(try cases h;done);rename_i u;cases h;have I:=m.kill [id];have L:=af.turnObj I (id:=id) (k:=.buf e) (y:= []) (o:=.buf e []) rfl;obtain⟨cs,A,J,F⟩:=L.o b _ C;obtain⟨sv,R,c,Q,U⟩:=F j _ u.1 r;unfold Can at U;cases U;subst Q;have W:(WB.kill [id] st).ob b=.box cs bt:=by simpa[ac,u.2]using A
  refine⟨_,Ax.trans (Ax.kill st [id]) (Ax.ownc (b:=b) (j:=j) (id:=id) Aef W R (by simp[WB.kill])),FT L C J F u.1 (k:=.own id) (x:=()) (sv:=.osl id) rfl⟩
 |frz i=>
  simp only[Gb]at h;split at h<;>(try cases h;done)
  ·rename_i id f r;split at h<;>(try cases h;done);rename_i e size t S H;cases h;have h1:st.fr i=.osl id:=m.s i _ r;obtain⟨es,D,T⟩:=m.o id _ H;exact⟨_,Ax.frz (JC l r rfl) h1 D,af.set (m.kill [id]) (d:=i) (k:=.v (.sl t)) (x:=S ρ) ⟨_,rfl,by unfold Can;exact⟨_,_,rfl,T⟩⟩⟩
  ·rename_i id f r;split at h<;>(try cases h;done);rename_i mt k v S H;cases h;have h1:st.fr i=.omap id:=m.s i _ r;obtain⟨z,ks,vs,D,_,T,h4⟩:=m.o id _ H;exact⟨_,Ax.frzm (JC l r rfl) h1 D,af.set (m.kill [id]) (d:=i) (k:=.v (.map k v)) (x:=S ρ) ⟨_,rfl,by unfold Can;exact⟨_,_,_,rfl,T,h4⟩⟩⟩
 |frzc b j=>
  simp only[Gb]at h;split at h<;>(try cases h;done)
  ·rename_i n bt fb id f C r;split at h<;>(try cases h;done);rename_i e size t S n' Z fb' H M;split at h<;>(try cases h;done);rename_i u;cases h;obtain⟨cs,A,J,F⟩:=m.o b _ C;obtain⟨sv,R,Q⟩:=F j _ u.1 r;have O:sv=.osl id:=Q;subst O;obtain⟨es,D,T⟩:=m.o id _ H;have I:=m.kill [id];obtain⟨Y,k1,k2,k3⟩:=I.o b _ M;have V:b≠id:=fun e=>by rw[e,D]at A;cases A
   have B:Y=cs.map (Ay [id])/\bt=Z:=by
    have:(WB.kill [id] st).ob b=.box (cs.map (Ay [id])) bt:=by simp[WB.kill,V,A,Ch]
    rw[this]at k1;cases k1;exact⟨rfl,rfl⟩
   obtain⟨B,rfl⟩:=B;subst B;exact⟨_,Ax.frzc (JC l r rfl) A R D,FT I M k2 k3 u.2 (k:=.v (.sl t)) (x:=S ρ) ⟨_,rfl,by unfold Can;exact⟨_,_,rfl,T⟩⟩⟩
  ·rename_i n bt fb id f C r;split at h<;>(try cases h;done);rename_i e k0 v0 S n' Z fb' H M;split at h<;>(try cases h;done);rename_i u;cases h;obtain⟨cs,A,J,F⟩:=m.o b _ C;obtain⟨sv,R,Q⟩:=F j _ u.1 r;have O:sv=.omap id:=Q;subst O;obtain⟨zc,ks,vs0,D,_,T,h4⟩:=m.o id _ H;have I:=m.kill [id];obtain⟨Y,k1,k2,k3⟩:=I.o b _ M;have V:b≠id:=fun e=>by rw[e,D]at A;cases A
   have B:Y=cs.map (Ay [id])/\bt=Z:=by
    have:(WB.kill [id] st).ob b=.box (cs.map (Ay [id])) bt:=by simp[WB.kill,V,A,Ch]
    rw[this]at k1;cases k1;exact⟨rfl,rfl⟩
   obtain⟨B,rfl⟩:=B;subst B;exact⟨_,Ax.frzcm (JC l r rfl) A R D,FT I M k2 k3 u.2 (k:=.v (.map k0 v0)) (x:=S ρ) ⟨_,rfl,by unfold Can;exact⟨_,_,_,rfl,T,h4⟩⟩⟩
 |frzb i=>
  simp only[Gb]at h;split at h<;>(try cases h;done);rename_i id f r;split at h<;>(try cases h;done);rename_i n bt fo H;split at h<;>(try cases h;done);rename_i p hp;cases h;have h1:st.fr i=.ptr id 0:=m.s i _ r;obtain⟨cs,D,T,h4⟩:=m.o id _ H;obtain⟨cvs,h5,h6,_⟩:=O8 h4 hp (by omega);rw[List.drop_zero,List.take_of_length_le (by omega)]at h5;have h7:st.ob id=.box (cvs.map .c) bt:=by rw[D,Oo h5]
  exact⟨_,Ax.frzb (JC l r rfl) h1 h7,af.set (m.kill [id]) (d:=i) (k:=.v (.pt p.1)) (x:=p.2 ρ) ⟨_,rfl,by unfold Can;exact⟨_,rfl,h6⟩⟩⟩
def Dw{S T:Type}(b:S->Option (S⊕T)):Nat->S->Option T
 |0,_=>none
 |n+1,s=>(b s).bind fun o=>match o with
  | .inl s'=>Dw b n s'
  | .inr t=>some t
open Classical in
noncomputable def iter{S T:Type}(b:S->Option (S⊕T))(s:S):Option T:=
 if h:∃t n,Dw b n s=some t then some (choose h)else none
theorem Pt{S T:Type}{b:S->Option (S⊕T)}:∀{n m:Nat} {s:S} {t:T},n≤m->Dw b n s=some t->Dw b m s=some t
 |0,_,_,_,_,h=>by cases h
 |n+1,0,_,_,hnm,_=>by omega
 |n+1,m+1,s,t,hnm,h=>by
  simp only[Dw]at h⊢;obtain⟨o,d,c⟩:=Ab.1 h;rw[d,Option.bind_some]
  cases o with
  |inl s'=>exact Pt (by omega) c
  |inr t'=>exact c
theorem Hy{S T:Type}{b:S->Option (S⊕T)}{s:S}{t:T}:iter b s=some t<->∃n,Dw b n s=some t:=by
 unfold iter;constructor
 ·intro h;split at h<;>(try cases h;done);rename_i c;cases h;exact Classical.choose_spec c
 ·rintro⟨n,h⟩
  have c:∃t n,Dw b n s=some t:=⟨t,n,h⟩;rw[dif_pos c];obtain⟨m,e⟩:=Classical.choose_spec c;have f:=Pt (Nat.le_max_left n m) h;have d:=Pt (Nat.le_max_right n m) e;rw[f]at d;rw[Option.some.inj d]
theorem Pu{S T:Type}(b:S->Option (S⊕T))(s:S):iter b s=(b s).bind fun o=>match o with
  | .inl s'=>iter b s'
  | .inr t=>some t:=by
 cases d:b s with
 |none=>
  rw[Option.bind_none]
  cases h:iter b s with
  |none=>rfl
  |some t=>
   obtain⟨n,c⟩:=Hy.1 h
   cases n with
   |zero=>cases c
   |succ n=>simp[Dw,d]at c
 |some o=>
  rw[Option.bind_some]
  cases o with
  |inr t=>exact Hy.2 ⟨1,by simp[Dw,d]⟩
  |inl s'=>
   simp only;apply Option.ext;intro t;rw[Hy,Hy];constructor
   ·rintro⟨n,c⟩
    cases n with
    |zero=>cases c
    |succ n=>
     refine⟨n, ?_⟩;simpa[Dw,d]using c
   ·rintro⟨n,c⟩
    exact⟨n+1,by simpa[Dw,d]using c⟩
abbrev XC:=List (Nat×TC)
@[reducible] def KE(A:Type):XC->Type
 | []=>Unit
 |e::xs=>(HS e.2->Option A)×KE A xs
structure d5 (A:Type) (xs:XC) (Γn:TC) (R:Type) where
 n:HS Γn->Option A
 e:KE A xs
 r:R->Option A
def Ee(A:Type):(b:XC)->Nat->Option (Σ Γ:TC,KE A b->HS Γ->Option A)
 | [],_=>none
 |e::b,i=>if e.1=i then some ⟨e.2,fun k=>k.1⟩else match Ee A b i with
  |some q=>some ⟨q.1,fun k=>q.2 k.2⟩
  |none=>none
def Kx(b:XC):List Nat->Option XC
 | []=>some []
 |i::is=>match b.find? (fun e=>e.1==i),Kx b is with
  |some e,some ys=>some ((i,e.2)::ys)
  |_,_=>none
def HG(A:Type)(c:XC):(b:XC)->Option (KE A c->KE A b)
 | []=>some fun _=>()
 |e::b=>match Ee A c e.1,HG A c b with
  |some q,some g=>if h:q.1=e.2 then some fun k=>(h▸q.2 k,g k)else none
  |_,_=>none
@[reducible] def Ea(R:Type):XC->Bool->Type
 | [],true=>R
 | [],false=>Empty
 | [e],false=>HS e.2
 | [e],true=>HS e.2⊕R
 |e::xs,rt=>HS e.2⊕Ea R xs rt
def bA{R B:Type}:(b:XC)->(rt:Bool)->(Ea R b rt->B)->KE B b
 | [],_,_=>()
 | [_],false,f=>(fun ρ=>some (f ρ),())
 | [_],true,f=>(fun ρ=>some (f (.inl ρ)),())
 |_::e::b,rt,f=>(fun ρ=>some (f (.inl ρ)),bA (e::b) rt (fun o=>f (.inr o)))
def bV{R B:Type}:(b:XC)->(rt:Bool)->(Ea R b rt->B)->R->Option B
 | [],true,f=>fun r=>some (f r)
 | [],false,_=>fun _=>none
 | [_],false,_=>fun _=>none
 | [_],true,f=>fun r=>some (f (.inr r))
 |_::e::b,rt,f=>bV (e::b) rt (fun o=>f (.inr o))
def bB{R A:Type}:(b:XC)->(rt:Bool)->KE A b->(R->Option A)->Ea R b rt->Option A
 | [],true,_,kr=>fun o=>kr o
 | [],false,_,_=>fun o=>nomatch o
 | [_],false,k,_=>fun o=>k.1 o
 | [_],true,k,kr=>fun o=>match o with
  | .inl ρ=>k.1 ρ
  | .inr r=>kr r
 |_::e::b,rt,k,kr=>fun o=>match o with
  | .inl ρ=>k.1 ρ
  | .inr o=>bB (e::b) rt k.2 kr o
open Classical in
noncomputable def I9{b A:Type}(l:List b)(F:List b->Option A):Option A:=
 if h:∃a,∀c:List b,c.Perm l->F c=some a then some (choose h)else none
theorem MQ{c A:Type}{l:List c}{F:List c->Option A}{a:A}:I9 l F=some a<->∀b:List c,b.Perm l->F b=some a:=by
 unfold I9;constructor
 ·intro h;split at h
  ·rename_i d;simp only[Ac]at h;rw[<-h];exact Classical.choose_spec d
  ·cases h
 ·intro h;have d:∃a,∀b:List c,b.Perm l->F b=some a:=⟨a,h⟩;rw[dif_pos d];have:=Classical.choose_spec d l (List.Perm.refl l);rw[<-this];exact h l (List.Perm.refl l)
def ER{X S T:Type}(step:X->S->Option (S⊕T))(ay:S->Option (S⊕T)):List X->S->Option T
 | [],s=>(ay s).bind fun w=>match w with
  | .inl _=>none
  | .inr t=>some t
 |x::xs,s=>(step x s).bind fun w=>match w with
  | .inl s'=>ER step ay xs s'
  | .inr t=>some t
inductive GL where
 |g (g:Gh)
 |l (l:SL)
def Ff:List GL->List SL
 | []=> []
 | .g _::gs=>Ff gs
 | .l l::gs=>l::Ff gs
inductive HT where
 |nil
 |n (k:HT)
 |g (g:Gh) (k:HT)
 |sp (g:Nat) (t f:HT)
inductive AC where
 |skip
 |reg (draw:Bool) (D:List Nat) (ls:List SL)
 |rg (D:List Nat) (gs:List GL)
 |rgt (draw:Bool) (D:List Nat) (ls:List SL) (h:HT)
 |rga (D:List Nat) (ls:List SL) (gs:List Gh)
 |regE (e:Bool) (D:List Nat) (ls:List SL)
 |regW (W:List (Nat×Nat)) (ls:List SL)
 |sq (a b:AC)
 |seq (Γ:TC) (a b:AC)
 |join (Γ:TC) (ex:List Nat) (rt:Bool) (a b:AC)
 |cond (c:SO) (x y:AC)
 |block (id:Nat) (b:AC)
 |loop (Γ:TC) (ex:List Nat) (rt:Bool) (b:AC)
 |mloop (Γ:TC) (ex:List Nat) (rt:Bool) (it d ok i:Nat) (b:AC)
 |peel (Γ1:TC) (a:AC) (Γ:TC) (ex:List Nat) (rt:Bool) (b:AC)
 |exit (id:Nat)
 |ret
 |gh (g:Gh) (c:AC)
 |raw (c:Co)
def erase:AC->Co
 | .skip=>.skip
 | .reg draw D ls=>.reg draw D ls
 | .rg D gs=>.reg false D (Ff gs)
 | .rgt draw D ls _=>.reg draw D ls
 | .rga D ls _=>.reg true D ls
 | .regE _ D ls=>.regE D ls
 | .regW _ ls=>.regW ls
 | .sq a b| .seq _ a b| .join _ _ _ a b=>.seq (erase a) (erase b)
 | .cond c x y=>.cond c (erase x) (erase y)
 | .block id b=>.block id (erase b)
 | .loop _ _ _ b=>.loop (erase b)
 | .peel _ _ _ _ _ b=>.loop (erase b)
 | .mloop _ _ _ it d ok i b=>.loop (.seq (.mnext it d ok) (.seq (.cond (.t ok) .skip (.exit i)) (erase b)))
 | .exit id=>.exit id
 | .ret=>.ret
 | .gh _ c=>erase c
 | .raw c=>c
structure bq (A:Type) (Γ:TC) where
 Γ':TC
 run:HS Γ->(HS Γ'->Option A)->Option A
def Ie(A:Type)(X:TP)(msk:List Nat):(ls:List SL)->(Γ:TC)->Option (bq A Γ)
 | [],Γ=>some ⟨Γ,fun ρ K=>K ρ⟩
 |l::ls,Γ=>match cn X Γ msk l with
  |some o=>match Ie A X msk ls o.Γ' with
   |some q=>some ⟨q.Γ',fun ρ K=>o.d.app ρ fun b=>q.run (o.up ρ b) K⟩
   |none=>none
  |none=>none
def FV(A:Type)(X:TP)(draw:Bool)(D:List Nat)(ls:List SL)(Γ:TC):Option (bq A Γ):=
 match D with
 | []=>Ie A (cond draw X.noE X) [] ls Γ
 |d::ds=>match Ie A (cond draw X.noE X) (if draw then d::ds else []) ls (Bh (d::ds) Γ)with
  |some q=>some ⟨q.Γ',fun ρ K=>q.run (BF (d::ds) ρ) K⟩
  |none=>none
def G1(A:Type)(X:TP):(gs:List GL)->(Γ:TC)->Option (bq A Γ)
 | [],Γ=>some ⟨Γ,fun ρ K=>K ρ⟩
 | .l l::gs,Γ=>match cn X Γ [] l with
  |some o=>match G1 A X gs o.Γ' with
   |some q=>some ⟨q.Γ',fun ρ K=>o.d.app ρ fun b=>q.run (o.up ρ b) K⟩
   |none=>none
  |none=>none
 | .g g::gs,Γ=>match cq X Γ g with
  |some p=>match G1 A X gs p.Γ' with
   |some q=>some ⟨q.Γ',fun ρ K=>q.run (p.up ρ) K⟩
   |none=>none
  |none=>none
def J1(A:Type)(X:TP)(D:List Nat)(gs:List GL)(Γ:TC):Option (bq A Γ):=
 match D with
 | []=>G1 A X gs Γ
 |d::ds=>match G1 A X gs (Bh (d::ds) Γ)with
  |some q=>some ⟨q.Γ',fun ρ K=>q.run (BF (d::ds) ρ) K⟩
  |none=>none
def G2(A:Type)(X:TP)(msk:List Nat):(ls:List RL)->(Γ:TC)->Option (bq A Γ)
 | [],Γ=>some ⟨Γ,fun ρ K=>K ρ⟩
 | .l l::ls,Γ=>match cn X Γ msk l with
  |some o=>match G2 A X msk ls o.Γ' with
   |some q=>some ⟨q.Γ',fun ρ K=>o.d.app ρ fun b=>q.run (o.up ρ b) K⟩
   |none=>none
  |none=>none
 | .sk (some d)::ls,Γ=>match G2 A X msk ls ((.s d,.undef)::Γ)with
  |some q=>some ⟨q.Γ',fun ρ K=>q.run ((),ρ) K⟩
  |none=>none
 | .sk none::ls,Γ=>G2 A X msk ls Γ
def De(A:Type)(X:TP)(draw:Bool)(msk:List Nat):(h:HT)->(ls:List RL)->(Γ c:TC)->Option (HS Γ->(HS c->Option A)->Option A)
 | .nil,ls,Γ,c=>match G2 A X msk ls Γ with
  |some q=>match Cc q.Γ' c with
   |some f=>some fun ρ K=>q.run ρ fun i=>K (f i)
   |none=>none
  |none=>none
 | .n k,.l l::ls,Γ,c=>match cn X Γ msk l with
  |some o=>match De A X draw msk k ls o.Γ' c with
   |some q=>some fun ρ K=>o.d.app ρ fun b=>q (o.up ρ b) K
   |none=>none
  |none=>none
 | .n k,.sk (some d)::ls,Γ,c=>match De A X draw msk k ls ((.s d,.undef)::Γ) c with
  |some q=>some fun ρ K=>q ((),ρ) K
  |none=>none
 | .n k,.sk none::ls,Γ,c=>De A X draw msk k ls Γ c
 | .n _,[],_,_=>none
 | .g g k,ls,Γ,c=>match draw with
  |true=>none
  |false=>match cq X Γ g with
   |some p=>match De A X draw msk k ls p.Γ' c with
    |some q=>some fun ρ K=>q (p.up ρ) K
    |none=>none
   |none=>none
 | .sp g t f,ls,Γ,c=>match Ka g ls with
  |true=>match get Γ (.s g),De A X draw msk t (EW g true [] ls) Γ c,De A X draw msk f (EW g false [] ls) Γ c with
   |some ⟨.v .bool,e⟩,some dt,some df=>some fun ρ K=>if e ρ=true then dt ρ K else df ρ K
   |_,_,_=>none
  |false=>none
def Ih(A:Type)(X:TP)(draw:Bool)(D:List Nat)(ls:List SL)(h:HT)(Γ b:TC):Option (HS Γ->(HS b->Option A)->Option A):=
 match D with
 | []=>De A (cond draw X.noE X) draw [] h (ls.map .l) Γ b
 |d::ds=>match De A (cond draw X.noE X) draw (if draw then d::ds else []) h (ls.map .l) (Bh (d::ds) Γ) b with
  |some q=>some fun ρ K=>q (BF (d::ds) ρ) K
  |none=>none
def CP:ax->Bool
 | .s _=>true
 | .o N| .c N _=> !Nat.ble As N
def Ge(e:ax×EK):Bool:=CP e.1&&match e.2.refs with
 |some id=> !Nat.ble As id
 |none=>true
def EM(e:ax×EK):Bool:= !CP e.1
def Er(f:ax×EK->Bool):TC->List ax->TC
 | [],_=> []
 |e::Γ,seen=>match seen.contains e.1 with
  |true=>Er f Γ seen
  |false=>match f e with
   |true=>e::Er f Γ (e.1::seen)
   |false=>Er f Γ (e.1::seen)
structure S0 (A:Type) (Γ Θ:TC) where
 Γ':TC
 Θ':TC
 run:HS Γ->HS Θ->(HS Γ'->HS Θ'->Option A)->Option A
def P6(l:SL):Bool:=(!l.op.hard||l.op.stores)&&l.dst.all fun j=>Nat.blt j As
def dZ(X:TP)(Γ Θ:TC)(l:SL):Option (bE (Θ++Γ)):=match l.op.calls with
 |true=>match Γ.all fun e=>CP e.1 with
  |true=>H9 X (Θ++Γ) l
  |false=>none
 |false=>none
def If(A:Type)(X:TP)(D:List Nat):(ls:List SL)->(Γ Θ:TC)->Option (S0 A Γ Θ)
 | [],Γ,Θ=>some ⟨Γ,Θ,fun ρ θ K=>K ρ θ⟩
 |l::ls,Γ,Θ=>match dZ X Γ Θ l with
  |some o=>match Cc o.Γ' (Er Ge o.Γ' []),Cc o.Γ' (Er EM o.Γ' [])with
   |some g,some f=>match If A X D ls (Er Ge o.Γ' []) (Er EM o.Γ' [])with
    |some q=>some ⟨q.Γ',q.Θ',fun ρ θ K=>o.d.app (CB Θ θ ρ) fun b=>q.run (g (o.up (CB Θ θ ρ) b)) (f (o.up (CB Θ θ ρ) b)) K⟩
    |none=>none
   |_,_=>none
  |none=>match P6 l with
   |true=>match HA X Γ D l with
    |some o=>match If A X D ls o.Γ' Θ with
     |some q=>some ⟨q.Γ',q.Θ',fun ρ θ K=>o.d.app ρ fun b=>q.run (o.up ρ b) θ K⟩
     |none=>none
    |none=>none
   |false=>none
def OH(A:Type)(X:TP)(D:List Nat)(ls:List SL)(Γ:TC):Option (bq A Γ):=
 match Cc (Bh D Γ) (Er Ge (Bh D Γ) []),Cc (Bh D Γ) (Er EM (Bh D Γ) [])with
 |some g,some f=>match If A X D ls (Er Ge (Bh D Γ) []) (Er EM (Bh D Γ) [])with
  |some q=>match q.Γ'.all fun e=>CP e.1 with
   |true=>some ⟨q.Θ'++q.Γ',fun ρ K=>q.run (g (BF D ρ)) (f (BF D ρ)) fun b c=>K (CB q.Θ' c b)⟩
   |false=>none
  |none=>none
 |_,_=>none
def XD(Γ:TC)(W:List (Nat×Nat))(k:Nat):Bool:=match get Γ (.s k)with
 |some ⟨.ptr id o,_⟩=>cR W id o
 |_=>false
def PC(Γ:TC)(W:List (Nat×Nat))(sz:Option Nat)(k:Nat):Bool:=match get Γ (.s k)with
 |some ⟨.ptr id o,_⟩=>G6 W id (o+sz.getD 1)
 |some ⟨.v (.nam N),_⟩=>G6 W N (sz.getD 1)
 |some ⟨.v (.pt _),_⟩|some ⟨.rp _ _,_⟩|some ⟨.eptr _ _ _,_⟩=>true
 |_=>false
def VO(Γ:TC)(W:List (Nat×Nat)):aa->Bool
 | .load sz (.t k)=>PC Γ W sz k
 | .load _ _=>false
 |op=>op.simple
def dV(Γ:TC)(W:List (Nat×Nat))(l:SL):Bool:=match l.via with
 |some k=>XD Γ W k
 |none=>VO Γ W l.op
def Ig(A:Type)(X:TP)(W:List (Nat×Nat)):(ls:List SL)->(Γ:TC)->Option (bq A Γ)
 | [],Γ=>some ⟨Γ,fun ρ K=>K ρ⟩
 |l::ls,Γ=>match dV Γ W l with
  |true=>match cn X.noE Γ [] l with
   |some o=>match Ig A X W ls o.Γ' with
    |some q=>some ⟨q.Γ',fun ρ K=>o.d.app ρ fun b=>q.run (o.up ρ b) K⟩
    |none=>none
   |none=>none
  |false=>none
def OI(A:Type)(X:TP)(e:Bool)(D:List Nat)(ls:List SL)(Γ:TC):Option (bq A Γ):=match e with
 |true=>OH A X D ls Γ
 |false=>FV A X true D ls Γ
def G3(A:Type)(X:TP):AC->(Γ:TC)->Option (bq A Γ)
 | .skip,Γ=>some ⟨Γ,fun ρ K=>K ρ⟩
 | .reg draw D ls,Γ=>FV A X draw D ls Γ
 | .rg D gs,Γ=>J1 A X D gs Γ
 | .regE e D ls,Γ=>OI A X e D ls Γ
 | .regW W ls,Γ=>Ig A X W ls Γ
 | .sq a b,Γ=>match G3 A X a Γ with
  |some p=>match G3 A X b p.Γ' with
   |some q=>some ⟨q.Γ',fun ρ K=>p.run ρ fun d=>q.run d K⟩
   |none=>none
  |none=>none
 | .gh g c,Γ=>match cq X Γ g with
  |some p=>match G3 A X c p.Γ' with
   |some q=>some ⟨q.Γ',fun ρ K=>q.run (p.up ρ) K⟩
   |none=>none
  |none=>none
 |_,_=>none
def IJ(X:TP)(Γ:TC):AW->Option (Σ t:Ty,ab (HS Γ) (D t))
 | .tmp t=>match cm Γ [] (.t t)with
  |some q=>some q.2
  |none=>none
 | .cell a sz=>match b5 X.G Γ (.t a)with
  |some k=>match E3 Γ [] sz (D6 Γ [] k)with
   |some ⟨.v t,d⟩=>some ⟨t,d⟩
   |some ⟨.own id,.tot _⟩=>match get Γ (.o id)with
    |some ⟨.arr _ _ t,xs⟩=>some ⟨.sl t,.tot xs⟩
    |_=>none
   |_=>none
  |none=>none
def II(X:TP)(Γ:TC):List AW->Option (Σ r:Ty,ab (HS Γ) (D r))
 | []=>some ⟨.nil,.tot fun _=>()⟩
 | [x]=>match IJ X Γ x with
  |some q=>some ⟨.one q.1,q.2⟩
  |none=>none
 |x::y::xs=>match IJ X Γ x,II X Γ (y::xs)with
  |some q,some p=>some ⟨.cons q.1 p.1,q.2.both p.2⟩
  |_,_=>none
def Nf(X:TP)(Γ:TC):List AW->Option (Σ t:Ty,ab (HS Γ) (D t))
 | [x]=>IJ X Γ x
 |xs=>match II X Γ xs with
  |some q=>some ⟨.tup q.1,q.2⟩
  |none=>none
def Qv(Γ:TC):(rs:List AW)->(b:Ty)->Option (HS Γ->D b)
 | [.tmp i],.nw e size t=>match get Γ (.s i)with
  |some ⟨.own id,_⟩=>match get Γ (.o id)with
   |some ⟨.arr e' size' t',xs⟩=>if h:t'=t then(if e'=e/\size'=size then some fun ρ=>(h▸xs ρ:List (D t))else none)else none
   |_=>none
  |some ⟨.v .nsl,_⟩=>some fun _=>([]:List (D t))
  |_=>none
 |_,_=>none
structure ct (Γ:TC) (R:Type):Type 1 where
 B:Type
 d:ab (HS Γ) B
 up:HS Γ->B->R
def dp(X:TP)(rs:List AW)(b:Ty)(Γ:TC):Option (ct Γ (D b)):=
 match Qv Γ rs b with
 |some g=>some ⟨Unit,.tot fun _=>(),fun ρ _=>g ρ⟩
 |none=>match Nf X Γ rs with
  |some q=>match Ba q.1 b with
   |some g=>some ⟨D q.1,q.2,fun _ v=>g v⟩
   |none=>none
  |none=>none
def Jz(X:TP):(gs:List Gh)->(Γ:TC)->Option (Σ Γ':TC,HS Γ->HS Γ')
 | [],Γ=>some ⟨Γ,fun ρ=>ρ⟩
 |g::gs,Γ=>match cq X Γ g with
  |some p=>match Jz X gs p.Γ' with
   |some q=>some ⟨q.1,fun ρ=>q.2 (p.up ρ)⟩
   |none=>none
  |none=>none
noncomputable def den(X:TP)(R:Type)(rd:(Γ:TC)->Option (ct Γ R)):AC->(A:Type)->(t:XC)->(j Γ:TC)->Option (HS Γ->d5 A t j R->Option A)
 | .skip,A,t,j,Γ=>match Cc Γ j with
  |some f=>some fun ρ k=>k.n (f ρ)
  |none=>none
 | .reg draw D ls,A,t,j,Γ=>match FV A X draw D ls Γ with
  |some q=>match Cc q.Γ' j with
   |some f=>some fun ρ k=>q.run ρ fun l=>k.n (f l)
   |none=>none
  |none=>none
 | .rg D gs,A,t,j,Γ=>match J1 A X D gs Γ with
  |some q=>match Cc q.Γ' j with
   |some f=>some fun ρ k=>q.run ρ fun l=>k.n (f l)
   |none=>none
  |none=>none
 | .rgt draw D ls h,A,t,j,Γ=>match Ih A X draw D ls h Γ j with
  |some q=>some fun ρ k=>q ρ k.n
  |none=>none
 | .rga D ls gs,A,t,j,Γ=>match FV A X true D ls Γ with
  |some q=>match Jz X gs q.Γ' with
   |some p=>match Cc p.1 j with
    |some f=>some fun ρ k=>q.run ρ fun l=>k.n (f (p.2 l))
    |none=>none
   |none=>none
  |none=>none
 | .regE e D ls,A,t,j,Γ=>match OI A X e D ls Γ with
  |some q=>match Cc q.Γ' j with
   |some f=>some fun ρ k=>q.run ρ fun l=>k.n (f l)
   |none=>none
  |none=>none
 | .regW W ls,A,t,j,Γ=>match Ig A X W ls Γ with
  |some q=>match Cc q.Γ' j with
   |some f=>some fun ρ k=>q.run ρ fun l=>k.n (f l)
   |none=>none
  |none=>none
 | .sq a b,A,t,j,Γ=>match G3 A X a Γ with
  |some q=>match den X R rd b A t j q.Γ' with
   |some db=>some fun ρ k=>q.run ρ fun l=>db l k
   |none=>none
  |none=>none
 | .seq Γm a b,A,t,j,Γ=>match den X R rd a A t Γm Γ,den X R rd b A t j Γm with
  |some da,some db=>some fun ρ k=>da ρ ⟨fun u=>db u k,k.e,k.r⟩
  |_,_=>none
 | .join Γm ex rt a b,A,t,j,Γ=>match Kx t ex with
  |some ys=>match HG A t ys,den X R rd a (Ea R ((0,Γm)::ys) rt) ys Γm Γ,den X R rd b A t j Γm with
   |some g,some da,some db=>some fun ρ k=>(da ρ ⟨(bA ((0,Γm)::ys) rt (fun o=>o)).1,(bA ((0,Γm)::ys) rt (fun o=>o)).2,bV ((0,Γm)::ys) rt (fun o=>o)⟩).bind (bB ((0,Γm)::ys) rt (fun u=>db u k,g k.e) k.r)
   |_,_,_=>none
  |none=>none
 | .cond c x y,A,t,j,Γ=>match ao Γ c,den X R rd x A t j Γ,den X R rd y A t j Γ with
  |some ⟨.bool,d⟩,some dx,some dy=>some fun ρ k=>d.app ρ fun b=>if b=true then dx ρ k else dy ρ k
  |_,_,_=>none
 | .block id b,A,t,j,Γ=>match den X R rd b A ((id,j)::t) j Γ with
  |some db=>some fun ρ k=>db ρ ⟨k.n,(k.n,k.e),k.r⟩
  |none=>none
 | .loop Γh ex rt b,A,t,_,Γ=>match Kx t ex with
  |some ys=>match HG A t ys,Cc Γ Γh,den X R rd b (HS Γh⊕Ea R ys rt) ys Γh Γh with
   |some g,some f,some db=>some fun ρ k=>(iter (fun ρ=>db ρ ⟨fun l=>some (.inl l),bA ys rt Sum.inr,bV ys rt Sum.inr⟩) (f ρ)).bind (bB ys rt (g k.e) k.r)
   |_,_,_=>none
  |none=>none
 | .peel Γ1 a Γh ex rt b,A,t,_,Γ=>match decide (erase a=erase b),Kx t ex with
  |true,some ys=>match HG A t ys,Cc Γ Γ1,den X R rd a (HS Γh⊕Ea R ys rt) ys Γh Γ1,den X R rd b (HS Γh⊕Ea R ys rt) ys Γh Γh with
   |some g,some f,some da,some db=>some fun ρ k=>((da (f ρ) ⟨fun l=>some (.inl l),bA ys rt Sum.inr,bV ys rt Sum.inr⟩).bind fun w=>match w with
    | .inl l=>iter (fun ρ=>db ρ ⟨fun l=>some (.inl l),bA ys rt Sum.inr,bV ys rt Sum.inr⟩) l
    | .inr o=>some o).bind (bB ys rt (g k.e) k.r)
   |_,_,_,_=>none
  |_,_=>none
 | .mloop Γh ex rt it d ok i b,A,t,_,Γ=>match get Γ (.s it),get Γ (.o it)with
  |some ⟨.iter id,_⟩,some ⟨.mit kt vt,m⟩=>match Nat.beq id it&&(Nat.blt it As&&H7 it (erase b)),Kx t ex with
   |true,some ys=>match HG A t ys,Cc Γ Γh,Cc ((.s it,.iter it)::(.o it,.mcur kt vt)::Γh) Γh,Ee (HS Γh⊕Ea R ys rt) ys i,den X R rd b (HS Γh⊕Ea R ys rt) ys ((.s it,.iter it)::(.o it,.mcur kt vt)::Γh) ((.s ok,.v .bool)::(.s d,.undef)::(.s it,.iter it)::(.o it,.mcur kt vt)::Γh)with
    |some g,some f,some fb,some q,some db=>match Cc ((.s ok,.v .bool)::(.s d,.undef)::Γh) q.1 with
     |some c=>some fun ρ k=>I9 (m ρ) fun B=>(ER (fun x ρ=>db (true,(),(),x,ρ) ⟨fun l=>some (.inl (fb l)),bA ys rt Sum.inr,bV ys rt Sum.inr⟩) (fun ρ=>q.2 (bA ys rt Sum.inr) (c (false,(),ρ))) B (f ρ)).bind (bB ys rt (g k.e) k.r)
     |none=>none
    |_,_,_,_,_=>none
   |_,_=>none
  |_,_=>none
 | .exit i,A,t,_,Γ=>match Ee A t i with
  |some q=>match Cc Γ q.1 with
   |some f=>some fun ρ k=>q.2 k.e (f ρ)
   |none=>none
  |none=>none
 | .ret,A,t,j,Γ=>match rd Γ with
  |some q=>some fun ρ k=>q.d.app ρ fun v=>k.r (q.up ρ v)
  |none=>none
 | .raw _,_,_,_,_=>some fun _ _=>none
 | .gh g c,A,t,j,Γ=>match cq X Γ g with
  |some p=>match den X R rd c A t j p.Γ' with
   |some dc=>some fun ρ k=>dc (p.up ρ) k
   |none=>none
  |none=>none
end WB
