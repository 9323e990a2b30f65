/-
  OWN TEXTS, MERGED (wip/merge.py): CoreTf, CoreTg, CoreTga, CoreTh, CoreTi, CoreTj, CoreTjt, CoreTk, CoreTkr, CoreTks. No condition of their own.
-/
import Derived.Test.YtbajcpobojindaaGreatDoorK4
set_option linter.unusedVariables false
set_option linter.unusedSimpArgs false
open Go.IntKind (i64 u64 u8 u32)
namespace WB
open Go Go.RowKit
theorem FN{t:Ty}{x:D t}{c:CV}(ho:E1 t=true)(h:Can t x [c]):Cw c=true:=by
 cases t<;>simp only[E1,Ag]at ho<;>unfold Can at h
 case clo=>obtain⟨l,e,_⟩:=h;cases e;rfl
 case falt f r l=>
  obtain⟨c',e,_,hc'⟩:=KN (t:=.falt f r l) ho (by unfold Can;exact h);cases e;cases c<;>first|rfl|(exact absurd rfl (hc' _).1)|(exact absurd rfl (hc' _).2)
 case sl=>obtain⟨_,_,e,_⟩:=h;cases e;rfl
 case map=>obtain⟨_,_,_,e,_⟩:=h;cases e;rfl
 case err=>cases x<;>(cases h;rfl)
 case pt=>obtain⟨l,e,_⟩:=h;cases e;rfl
 case bptr=>rcases h with e|e|e<;>(cases e;rfl)
 all_goals(cases h;rfl)
theorem NZ:∀{r:Ty} {x:D r} {l:List CV},ER r=true→Can r x l→l.all Cw=true:=by
 intro r
 induction r with
 |nil=>intro x l _ h;unfold Can at h;subst h;rfl
 |one t _=>intro x l ho h;unfold Can at h;obtain⟨c,rfl,h⟩:=h;simp[FN ho h]
 |cons t r _ ihr=>
  intro x l ho h;simp only[ER,Af]at ho;unfold Can at h;obtain⟨c,l',rfl,h1,h2⟩:=h;simp only[List.all_cons,Af];exact⟨FN ho.1 h1,ihr ho.2 h2⟩
 |_=>intro x l ho;cases ho
theorem JS{t:Ty}{n:Nat}{xs:List (D t)}{es:List CV}(hv:t.val=true)(hl:Ba (BD t)=some n)(ho:ER (BD t)=true)(h:Ap (fun x c=>Can t x [c]) xs es):(es.all (fun v=>Bq v==n)&&es.all fun v=>v.cells.all Cw)=true:=by
 rw[Af,List.all_eq_true,List.all_eq_true];refine⟨fun c hc=> ?_,fun c hc=> ?_⟩
 ·obtain⟨i,hi⟩:=List.getElem?_of_mem hc;obtain⟨a,_,h7⟩:=h.getB hi;simp[(F3 hv hl h7).2]
 ·obtain⟨i,hi⟩:=List.getElem?_of_mem hc;obtain⟨a,_,h7⟩:=h.getB hi;exact NZ ho (FT hv h7)
theorem N5{n:Nat}{i:Int}(e:(n:Int)=i)(h:i≤140737488355328):n≤140737488355328:=by omega
theorem N6{n:Nat}{i:Int}(e:(n:Int)=i)(h:i≤4611686018427387904):n≤4611686018427387904:=by omega
section
variable {G:Nat→List CV} {Γ:TC} {msk:List Nat} {ρ:HS Γ} {st:St} {rd:Nat→Ob}
theorem WU{α β:Type}{R:α→β→Prop}{xs:List α}{es:List β}(h:Ap R xs es){n:Int}{a:α}(ha:lAt xs n=some a):∃b,idxOf n es.length=some n.toNat∧es[n.toNat]? =some b∧R a b∧xs[n.toNat]? =some a:=by
 unfold lAt at ha;split at ha<;>(try cases ha;done);rename_i hn;obtain⟨b,h1,h2⟩:=h.get ha;refine⟨b, ?_,h1,h2,ha⟩;unfold idxOf;rw[h.length,if_pos hn]
theorem N1{α:Type}{xs:List α}{n:Int}{a:α}(ha:lAt xs n=some a):0≤n∧n<xs.length∧xs[n.toNat]? =some a:=by
 unfold lAt at ha;split at ha<;>(try cases ha;done);rename_i hn;exact⟨hn.1,hn.2,ha⟩
theorem N2{α:Type}{xs ys:List α}{lo hi:Int}(h:Be xs lo hi=some ys):0≤lo∧lo≤hi∧hi≤xs.length∧ys=(xs.take hi.toNat).drop lo.toNat:=by
 unfold Be at h;split at h<;>(try cases h;done);rename_i hh;cases h;exact⟨hh.1,hh.2.1,hh.2.2,rfl⟩
theorem M9:∀{ns:List Int} {es:List CV},Ap (fun x c=>Can (.int .u8) x [c]) ns es→Ep es=some ns
 | [],es,h=>by unfold Ap at h;subst h;rfl
 |n::ns,es,h=>by
  obtain⟨c,es',rfl,h1,h2⟩:=h;unfold Can at h1;cases h1;simp[Ep,M9 h2]
theorem Fn{x:SO}{q:Σ k:EK,Dyn (HS Γ) (DK k)}(h:(rdK G Γ x).map (Df Γ msk)=some q)(hr:Rep Γ ρ st)(hrd:∀id,msk.contains id=false→rd id=st.ob id){a:DK q.1}(ha:q.2.val ρ=some a)(hk:drK q.1=true):RS q.1 a (deref rd (so G st.fr x)):=by
 obtain⟨p,hp,rfl⟩:=Aa.1 h;exact Iu hr hrd (fun x hx=>Bc hp hr hx) ha hk
theorem Wx{k:EK}{z:DK k}{s:SV}(hk:QY k=true)(h:RS k z s):∀id i sz o,s≠ .eptr id i sz o:=by
 intro id i sz o hs;subst hs;cases k<;>(try cases hk;done)
 case v t=>obtain⟨c,e,_⟩:=h;cases e
 case rp ex r=>obtain⟨_,_,e,_⟩:=h;cases e
 case ptr=>cases h
 case aptr=>obtain⟨e,_⟩:=h;cases e
theorem Xw{sz:Option Nat}{q q':Σ k:EK,Dyn (HS Γ) (DK k)}(h:DE Γ msk sz q=some q'){y:DK q'.1}(hy:q'.2.val ρ=some y):∃z,q.2.val ρ=some z:=by
 unfold DE at h
 repeat' split at h
 all_goals try(cases h;done)
 all_goals
  cases h;try dsimp only at hy
  first
   |exact(Dyn.map_val hy).imp fun _ hh=>hh.1
   |exact(Dyn.comp_val hy).imp fun _ hh=>hh.1
   |exact(Dyn.comp_val hy).elim fun _ hh=>(Dyn.map_val hh.1).imp fun _ h2=>h2.1
theorem KZ{sz:Option Nat}{q q':Σ k:EK,Dyn (HS Γ) (DK k)}(h:DE Γ msk sz q=some q'):drK q.1=true:=by
 obtain⟨k,d⟩:=q
 cases k<;>first
  |rfl
  |(cases h;done)
  |(rename_i t;cases t<;>first|rfl|(cases h;done))
theorem NB(hr:Rep Γ ρ st){G:Nat→List CV}{t:Ty}:∀{xs:List SO} {e:Dyn (HS Γ) (List (D t))} {ys:List (D t)},H4 Γ t xs=some e→e.val ρ=some ys→∃l,Aq (fun x=>closed (so G st.fr x)) xs=some l∧Ap (fun x c=>Can t x [c]) ys l
 | [],e,ys,h,hy=>by
  simp only[H4,Ac]at h;subst h;cases hy;exact⟨[],rfl,rfl⟩
 |x::xs,e,ys,h,hy=>by
  simp only[H4]at h;split at h<;>(try cases h;done);rename_i q e' hq he';split at h<;>(try cases h;done);rename_i g hg;cases h;obtain⟨p,h1,h2⟩:=Dyn.map_val hy;obtain⟨h3,h4⟩:=Dyn.both_val h1;obtain⟨c,h5,h6⟩:=A5 (G:=G) hq hr h3;obtain⟨l,h7,h8⟩:=NB hr (G:=G) he' h4;subst h2;refine⟨c::l, ?_,c,l,rfl,Co _ _ hg h6,h8⟩;have e:Aq (fun x=>closed (so G st.fr x)) (x::xs)=(closed (so G st.fr x)).bind fun b=>(Aq (fun x=>closed (so G st.fr x)) xs).map fun bs=>b::bs:=rfl;rw[e,h5,h7];rfl
theorem TX(hr:Rep Γ ρ st)(hrd:∀id,msk.contains id=false→rd id=st.ob id){op:SOp}{q:Σ k:EK,Dyn (HS Γ) (DK k)}{y:DK q.1}(h:OT G Γ msk op=some q)(hy:q.2.val ρ=some y):
  ∃sv,Am rd (so G st.fr) op=some sv∧RS q.1 y sv:=by
 cases op<;>simp only[OT]at h<;>(try cases h;done)
 case mov x=>exact⟨_,rfl,Bc h hr hy⟩
 case pick c a b=>
  split at h<;>(try cases h;done);rename_i dc qa qb hc ha hb
  have fin:∀{t:Ty} {f:D qa.1→D t} {g:D qb.1→D t},(∀{x:D qa.1} {cs:List CV},Can qa.1 x cs→Can t (f x) cs)→(∀{x:D qb.1} {cs:List CV},Can qb.1 x cs→Can t (g x) cs)→∀{z:D t},(Jh dc (qa.2.map fun _ y=>f y) (qb.2.map fun _ y=>g y)).val ρ=some z→
    ∃sv,Am rd (so G st.fr) (.pick c a b)=some sv∧RS (.v t) z sv:=by
   intro t f g hf hg z hz;obtain⟨b',h1,h2⟩:=Yj hz;obtain⟨c1,h3,h4⟩:=A5 (G:=G) hc hr h1;unfold Can at h4;cases h4;cases b'
   ·simp only[Ag,if_false]at h2;obtain⟨w,h5,h6⟩:=Dyn.map_val h2;obtain⟨c2,h7,h8⟩:=A5 (G:=G) hb hr h5;exact⟨so G st.fr b,by simp[Am,h3],c2,h7,h6▸hg h8⟩
   ·simp only[if_true]at h2;obtain⟨w,h5,h6⟩:=Dyn.map_val h2;obtain⟨c2,h7,h8⟩:=A5 (G:=G) ha hr h5;exact⟨so G st.fr a,by simp[Am,h3],c2,h7,h6▸hf h8⟩
  have idm:∀{t:Ty} (d:Dyn (HS Γ) (D t)),d.map (fun _ y=>y)=d:=by
   intro t d
   cases d with
   |tot f=>rfl
   |par f=>
    simp only[Dyn.map,Dyn.par.injEq];funext a;cases f a<;>rfl
  split at h
  ·rename_i g hg;cases h;try dsimp only at hy
   refine fin (f:=fun y=>y) (fun hx=>hx) (fun hx=>Co _ _ hg hx) ?_;rw[idm];exact hy
  ·split at h<;>(try cases h;done);rename_i g hg;cases h;try dsimp only at hy
   refine fin (g:=fun y=>y) (fun hx=>Co _ _ hg hx) (fun hx=>hx) ?_;rw[idm];exact hy
 case bin op x y'=>
  split at h<;>(try cases h;done);rename_i p q' hp hq;split at h<;>(try cases h;done);rename_i b hb;cases h;try dsimp only at hy
  obtain⟨z,h1,h2⟩:=Dyn.comp_val hy;obtain⟨h3,h4⟩:=Dyn.both_val h1;obtain⟨c1,e1,g1⟩:=A5 (G:=G) hp hr h3;obtain⟨c2,e2,g2⟩:=A5 (G:=G) hq hr h4;obtain⟨c,h5,h6⟩:=U7 hb g1 g2 h2;exact⟨.c c,by simp[Am,e1,e2,h5],c,rfl,h6⟩
 case eqs neg ts x y'=>
  split at h<;>(try cases h;done);rename_i r d s e hd he;split at h<;>(try cases h;done);rename_i f hf
  split at h<;>
  ·cases h;try dsimp only at hy
   obtain⟨z,h1,h2⟩:=Dyn.map_val hy;obtain⟨h3,h4⟩:=Dyn.both_val h1;obtain⟨c1,e1,g1⟩:=A5 (G:=G) hd hr h3;obtain⟨c2,e2,g2⟩:=A5 (G:=G) he hr h4;unfold Can at g1 g2;obtain⟨l1,q1,g1⟩:=g1;obtain⟨l2,q2,g2⟩:=g2;cases q1;cases q2;have h5:=Wd hf g1 g2;exact⟨.c (.bool y),by rw[h2];simp[Am,e1,e2,eqA,h5],_,rfl,by unfold Can;rfl⟩
 case beq neg x y'=>
  split at h<;>(try cases h;done);rename_i d e hd he
  split at h<;>
  ·cases h;try dsimp only at hy
   obtain⟨z,h1,h2⟩:=Dyn.map_val hy;obtain⟨h3,h4⟩:=Dyn.both_val h1;obtain⟨c1,e1,g1⟩:=A5 (G:=G) hd hr h3;obtain⟨c2,e2,g2⟩:=A5 (G:=G) he hr h4;unfold Can at g1 g2;cases g1;cases g2;exact⟨.c (.bool y),by rw[h2];simp[Am,e1,e2],_,rfl,by unfold Can;rfl⟩
 case isnil kd neg x=>
  split at h<;>(try cases h;done)
  ·rename_i d hd
   split at h<;>
   ·cases h;try dsimp only at hy
    obtain⟨z,h1,h2⟩:=Dyn.map_val hy;obtain⟨c1,e1,g1⟩:=A5 (G:=G) hd hr h1;unfold Can at g1;cases g1;refine⟨.c (.bool y), ?_,_,rfl,by unfold Can;rfl⟩;rw[h2];cases z<;>simp[Am,e1]
  ·rename_i d hd;cases h;try dsimp only at hy
   obtain⟨z,h1,h2⟩:=Dyn.map_val hy;obtain⟨c1,e1,g1⟩:=A5 (G:=G) hd hr h1;unfold Can at g1;cases g1;refine⟨.c (.bool y), ?_,_,rfl,by unfold Can;rfl⟩;rw[h2];cases neg<;>simp[Am,e1]
  ·rename_i d hd;cases h;try dsimp only at hy
   obtain⟨z,h1,h2⟩:=Dyn.map_val hy;obtain⟨c1,e1,g1⟩:=A5 (G:=G) hd hr h1;unfold Can at g1;cases g1;refine⟨.c (.bool y), ?_,_,rfl,by unfold Can;rfl⟩;rw[h2];cases neg<;>simp[Am,e1]
 case mentry x=>
  split at h<;>(try cases h;done);rename_i id d hd;split at h<;>(try cases h;done);rename_i k v f hg;cases h;try dsimp only at hy
  obtain⟨u,hu,rfl⟩:=Dyn.map_val hy;obtain⟨ks,vs,ck,cv,e,hk,hv⟩:=Eg hg hr hrd;have hs:so G st.fr x=.iter id:=Bc hd hr hu;refine⟨.c (.tup [ck,cv]),by simp only[Am,hs,e],_,rfl, ?_⟩;unfold Can;refine⟨[ck,cv],rfl, ?_⟩;unfold Can;exact⟨ck,[cv],rfl,hk,by unfold Can;exact⟨cv,rfl,hv⟩⟩
 case un op x=>
  split at h<;>(try cases h;done)
  all_goals
   rename_i d hd;cases h;try dsimp only at hy
   obtain⟨z,h1,h2⟩:=Dyn.map_val hy;obtain⟨c1,e1,g1⟩:=A5 (G:=G) hd hr h1;unfold Can at g1;cases g1;subst h2;exact⟨_,by simp only[Am,e1];rfl,_,rfl,by unfold Can;rfl⟩
 case cvi k x=>
  split at h<;>(try cases h;done);rename_i k' d hd;cases h;try dsimp only at hy
  obtain⟨z,h1,h2⟩:=Dyn.map_val hy;obtain⟨c1,e1,g1⟩:=A5 (G:=G) hd hr h1;unfold Can at g1;cases g1;subst h2;exact⟨_,by simp only[Am,e1];rfl,_,rfl,by unfold Can;rfl⟩
 case cvrune x=>
  split at h<;>(try cases h;done);rename_i k' d hd;cases h;try dsimp only at hy
  obtain⟨z,h1,h2⟩:=Dyn.map_val hy;obtain⟨c1,e1,g1⟩:=A5 (G:=G) hd hr h1;unfold Can at g1;cases g1;subst h2;exact⟨_,by simp only[Am,e1];rfl,_,rfl,by unfold Can;rfl⟩
 case bytes e x=>
  split at h<;>(try cases h;done);rename_i d hd;cases h;try dsimp only at hy
  obtain⟨s,h1,h2⟩:=Dyn.comp_val hy;obtain⟨c1,e1,g1⟩:=A5 (G:=G) hd hr h1;unfold Can at g1;cases g1;simp only[Dyn.val]at h2;split at h2<;>(try cases h2;done);rename_i hl;cases h2;refine⟨_,by simp only[Am,e1];rw[if_pos hl],_,rfl, ?_⟩;unfold Can;refine⟨_,_,rfl, ?_⟩;clear h1 e1 hl hy
  induction s with
  |nil=>rfl
  |cons b s ih=>exact⟨_,_,rfl,by unfold Can;rfl,ih⟩
 case cvbs x=>
  split at h<;>(try cases h;done)
  ·rename_i d hd;cases h;try dsimp only at hy
   obtain⟨ns,h1,h2⟩:=Dyn.map_val hy;obtain⟨c,e1,g1⟩:=Bc hd hr h1;unfold Can at g1;obtain⟨nl,es,e2,g1⟩:=g1;cases e2;exact⟨.c (.str y),by simp only[Am,e1,M9 g1,Option.map_some,h2],_,rfl,by unfold Can;rfl⟩
  ·rename_i d hd;cases h;try dsimp only at hy
   obtain⟨ns,h1,h2⟩:=Dyn.map_val hy;obtain⟨c,e1,g1⟩:=Bc hd hr h1;unfold Can at g1;cases g1;exact⟨.c (.str y),by rw[h2];simp[Am,e1,Ep],_,rfl,by unfold Can;rfl⟩
  ·rename_i id d hd;split at h<;>(try cases h;done);rename_i e' sz xs hg;cases h;try dsimp only at hy
   obtain⟨u,h1,h2⟩:=Dyn.map_val hy;obtain⟨es,e,hes⟩:=Eg hg hr hrd;have hs:so G st.fr x=.osl id:=Bc hd hr h1;exact⟨.c (.str y),by simp only[Am,hs,e,M9 hes,Option.map_some,h2],_,rfl,by unfold Can;rfl⟩
 case cvid x=>
  split at h<;>(try cases h;done);rename_i d hd;cases h;try dsimp only at hy
  obtain⟨c1,e1,g1⟩:=A5 (G:=G) hd hr hy;have g1':=g1;unfold Can at g1';cases g1';exact⟨_,by simp only[Am,e1],_,rfl,g1⟩
 case nchk x=>
  split at h<;>(try cases h;done)
  ·rename_i N d hd;cases h;try dsimp only at hy
   obtain⟨c,e1,g1⟩:=Bc (G:=G) hd hr hy;have g1':=g1;unfold Can at g1';cases g1';exact⟨_,by simp only[Am,e1],_,rfl,g1⟩
  ·rename_i r d hd;cases h;try dsimp only at hy
   obtain⟨c,e1,g1⟩:=Bc (G:=G) hd hr hy;have g1':=g1;unfold Can at g1';obtain⟨cs,e2,_⟩:=g1';cases e2;exact⟨_,by simp only[Am,e1],_,rfl,g1⟩
  ·rename_i ex r d hd;cases h;try dsimp only at hy
   obtain⟨cs,rest,e1,g1,g2⟩:=Bc (G:=G) hd hr hy;exact⟨_,by simp only[Am,e1],cs,rest,rfl,g1,g2⟩
  ·rename_i id o d hd;cases h;try dsimp only at hy
   have hs:so G st.fr x=.ptr id o:=Bc hd hr hy;exact⟨_,by simp only[Am,hs],rfl⟩
  ·rename_i id s o d hd;cases h;try dsimp only at hy
   have hs:so G st.fr x=.eptr id y s o:=Bc hd hr hy;exact⟨_,by simp only[Am,hs],rfl⟩
 case lsl e size AK=>
  split at h<;>(try cases h;done);rename_i x xs;split at h<;>(try cases h;done);rename_i t d hd;split at h<;>(try cases h;done);rename_i l hl;split at h<;>(try cases h;done);rename_i hv;cases h;try dsimp only at hy
  obtain⟨cs,h1,h2⟩:=NB hr (G:=G) hl hy
  have hall:(cs.all fun v=>Bq v==size)=true:=by
   rw[List.all_eq_true];intro c hc;obtain⟨i,hi⟩:=List.getElem?_of_mem hc;obtain⟨a,_,h7⟩:=h2.getB hi;simp[(F3 hv.1 hv.2 h7).2]
  refine⟨.c (.sl none cs), ?_,_,rfl,by unfold Can;exact⟨none,cs,rfl,h2⟩⟩;simp only[Am,h1,Option.bind_some];rw[if_pos hall]
 case build z AK=>
  split at h<;>(try cases h;done);rename_i p hp;split at h<;>(try cases h;done);rename_i r hr';cases h;try dsimp only at hy
  obtain⟨_,l,cs',h1,h2,h3⟩:=Yd (G:=G) hr hr' hy (cs:=z) (fun y hy'=>by cases hy';exact Hi hp);refine⟨.c (.agg cs'), ?_,_,rfl,by unfold Can;exact⟨_,rfl,h3⟩⟩;simp only[Am];rw[h1];simp[h2]
 case field off sz x=>
  split at h<;>(try cases h;done);rename_i r d hd;split at h
  ·split at h<;>(try cases h;done);rename_i p hp;cases h;try dsimp only at hy
   obtain⟨z,h1,h2⟩:=Dyn.map_val hy;obtain⟨c1,e1,g1⟩:=A5 (G:=G) hd hr h1;unfold Can at g1;obtain⟨l,e2,g1⟩:=g1;cases e2;obtain⟨c,h3,h4⟩:=HA hp g1;exact⟨.c c,by simp[Am,e1,Cx,h3],c,rfl,h2▸h4⟩
  ·rename_i n;split at h<;>(try cases h;done);rename_i p hp;split at h<;>(try cases h;done);rename_i hn;cases h;try dsimp only at hy
   obtain⟨z,h1,h2⟩:=Dyn.map_val hy;obtain⟨c1,e1,g1⟩:=A5 (G:=G) hd hr h1;unfold Can at g1;obtain⟨l,e2,g1⟩:=g1;cases e2;obtain⟨h3,h4⟩:=T6 hp g1;have hle:off+n≤l.length:=by omega
   exact⟨.c (.agg ((l.drop off).take n)),by simp[Am,e1,Cx,hle],_,rfl,by unfold Can;exact⟨_,rfl,h2▸h3⟩⟩
 case ext x i=>
  split at h<;>(try cases h;done)
  ·rename_i r d hd;split at h<;>(try cases h;done);rename_i p hp;cases h;try dsimp only at hy
   obtain⟨z,h1,h2⟩:=Dyn.map_val hy;obtain⟨c1,e1,g1⟩:=Bc hd hr h1;unfold Can at g1;obtain⟨l,e2,g1⟩:=g1;cases e2;obtain⟨c,h3,h4⟩:=HA hp g1;exact⟨.c c,by simp[Am,e1,h3],c,rfl,h2▸h4⟩
  ·rename_i id k v d hd;split at h<;>(try cases h;done)
   ·cases h;try dsimp only at hy
    obtain⟨z,h1,h2⟩:=Dyn.map_val hy;obtain⟨ck,cv,e1,g1,g2⟩:=Bc hd hr h1;exact⟨.c cv,by simp[Am,e1],cv,rfl,h2▸g2⟩
   ·cases h;try dsimp only at hy
    obtain⟨z,h1,h2⟩:=Dyn.map_val hy;obtain⟨ck,cv,e1,g1,g2⟩:=Bc hd hr h1;exact⟨.stamp id ck,by simp[Am,e1],ck,rfl,h2▸g1⟩
 case minmax mx xs=>
  split at h<;>(try cases h;done);rename_i x xs;split at h<;>(try cases h;done);rename_i k d hd;split at h<;>(try cases h;done);rename_i e he;cases h;try dsimp only at hy
  obtain⟨a,l,h1,h2,h3⟩:=X8 (G:=G) hr he hy;obtain⟨c1,e1,g1⟩:=A5 (G:=G) hd hr h1;unfold Can at g1;cases g1;refine⟨_, ?_,_,rfl,by unfold Can;rfl⟩;have e:Aq (fun x=>closed (so G st.fr x)) (x::xs)=(closed (so G st.fr x)).bind fun b=>(Aq (fun x=>closed (so G st.fr x)) xs).map fun bs=>b::bs:=rfl;simp only[Am];rw[e,e1,h2];simp only[closed,Option.bind_some,Option.map_some,h3]
 case fnv f caps=>
  split at h<;>(try cases h;done);rename_i p hp;cases h;try dsimp only at hy
  obtain⟨l,h1,h2⟩:=Ik (G:=G) hr hp hy;refine⟨.c (.fn f l), ?_,_,rfl,by unfold Can;exact⟨l,rfl,h2⟩⟩;simp only[Am];rw[h1];rfl
 case faddr off x=>
  split at h<;>(try cases h;done)
  ·rename_i ex r d hd;split at h<;>(try cases h;done);rename_i p hp;cases h;try dsimp only at hy
   obtain⟨z,h1,h2⟩:=Dyn.map_val hy;obtain⟨cs,rest,e1,g1,g2⟩:=Fn hd hr hrd h1 rfl;obtain⟨g3,g4⟩:=Ki hp g1;have hle:off≤cs.length:=by omega
   refine⟨_,by simp only[Am,e1];rw[if_pos (by simp;omega)],cs.drop off,rest, ?_,h2▸g3,g2⟩;rw[List.drop_append_of_le_length hle]
  ·rename_i r d hd;split at h<;>(try cases h;done);rename_i p hp;cases h;try dsimp only at hy
   obtain⟨z,h1,h2⟩:=Dyn.map_val hy;obtain⟨c0,e1,hc0⟩:=Fn hd hr hrd h1 rfl;unfold Can at hc0;obtain⟨cs,e,g1⟩:=hc0;cases e;obtain⟨g3,g4⟩:=Ki hp g1;have hle:off≤cs.length:=by omega
   refine⟨_,by simp only[Am,e1];rw[if_pos hle],cs.drop off,[],by rw[List.append_nil],h2▸g3,fun _=>rfl⟩
  ·rename_i id o d hd;cases h;try dsimp only at hy
   have hs:deref rd (so G st.fr x)=.ptr id o:=Fn hd hr hrd hy rfl;exact⟨.ptr id (o+off),by simp[Am,hs],rfl⟩
  ·rename_i id s o d hd;cases h;try dsimp only at hy
   have hs:deref rd (so G st.fr x)=.eptr id y s o:=Fn hd hr hrd hy rfl;exact⟨.eptr id y s (o+off),by simp[Am,hs],rfl⟩
  ·rename_i id n o d hd;split at h<;>(try cases h;done);rename_i h0;cases h;try dsimp only at hy
   have hs:=Fn hd hr hrd hy rfl;obtain⟨hs1,hs2⟩:=hs;exact⟨.ptr id (o+y),by simp[Am,hs1,h0],rfl,hs2⟩
 case iaddr size x i=>
  split at h<;>(try cases h;done)
  ·rename_i e d k di hd hdi;split at h<;>(try cases h;done);rename_i hv;cases h;try dsimp only at hy
   obtain⟨z,h1,h2⟩:=Dyn.comp_val hy;obtain⟨h3,h4⟩:=Dyn.both_val h1;obtain⟨a,h5,h6⟩:=Aa.1 h2;obtain⟨c1,e1,g1⟩:=Bc hd hr h3;obtain⟨c2,e2,g2⟩:=A5 (G:=G) hdi hr h4;unfold Can at g1 g2;cases g2;obtain⟨nl,es,e3,g1⟩:=g1;cases e3;obtain⟨c,i1,i2,i3,_⟩:=WU g1 h5;obtain⟨n1,n2⟩:=F3 hv.1 hv.2 i3;refine⟨.c (.rp c.cells), ?_,c.cells,[],by simp,h6▸FT hv.1 i3,fun _=>rfl⟩;simp[Am,D1,e1,e2,i1,i2,n2]
  ·rename_i id f k di hd hdi;split at h<;>(try cases h;done);rename_i e' sz t xs hg;split at h<;>(try cases h;done);rename_i hsz;cases h;try dsimp only at hy
   obtain⟨z,h1,h2⟩:=Dyn.comp_val hy;obtain⟨n,h3,h4⟩:=Dyn.map_val h1;obtain⟨u,n⟩:=n;obtain⟨h5,h6⟩:=Dyn.both_val h3;have h2':z=some y:=h2;subst h2';obtain⟨c2,e2,g2⟩:=A5 (G:=G) hdi hr h6;unfold Can at g2;cases g2;obtain⟨es,e,hes⟩:=Eg hg hr hrd;have hs:so G st.fr x=.osl id:=Bc hd hr h5;split at h4<;>(try cases h4;done);rename_i hn;cases h4;refine⟨.eptr id n.toNat size 0, ?_,rfl⟩
   have hi:idxOf n es.length=some n.toNat:=by
    unfold idxOf;rw[hes.length,if_pos hn]
   simp[Am,D1,hs,e2,e,hsz,hi]
 case aaddr len size x i=>
  split at h<;>(try cases h;done)
  case h_2=>
   rename_i id o d k di hd hdi;split at h<;>(try cases h;done);rename_i hsz;subst hsz;cases h;try dsimp only at hy
   obtain⟨z,h1,h2⟩:=Dyn.comp_val hy;obtain⟨h3,h4⟩:=Dyn.both_val h1;obtain⟨c2,e2,g2⟩:=A5 (G:=G) hdi hr h4;unfold Can at g2;cases g2;have hs:so G st.fr x=.ptr id o:=Bc hd hr h3;have h2':(if 0≤(z.2:Int)∧(z.2:Int)<(len:Int)then some (z.2:Int).toNat else none)=some y:=h2;split at h2'<;>(try cases h2';done);rename_i hn;cases h2';refine⟨.ptr id (o+(z.2:Int).toNat), ?_,rfl,(Int.toNat_lt hn.1).2 hn.2⟩
   have hi:idxOf z.2 len=some z.2.toNat:=by
    unfold idxOf;rw[if_pos hn]
   simp[Am,DA,hs,e2,hi]
  rename_i r d k di hd hdi;split at h<;>(try cases h;done);rename_i p hp;split at h<;>(try cases h;done);rename_i f hf;split at h<;>(try cases h;done);rename_i hlen;cases h;try dsimp only at hy
  obtain⟨z,h1,h2⟩:=Dyn.comp_val hy;obtain⟨h3,h4⟩:=Dyn.both_val h1;obtain⟨cs,rest,e1,g1,g3⟩:=Bc hd hr h3;have hrest:=g3 rfl;subst hrest;obtain⟨c2,e2,g2⟩:=A5 (G:=G) hdi hr h4;unfold Can at g2;cases g2;obtain⟨j1,j2,j3⟩:=N1 h2;obtain⟨a1,a2⟩:=M4 hf g1;obtain⟨a3,a4⟩:=a2 j3;have hl:=Ew hlen g1;refine⟨.c (.rp ((cs++ []).drop (z.2.toNat*size))), ?_,(cs.drop (z.2.toNat*size)).take size,(cs.drop (z.2.toNat*size)).drop size, ?_,a3,fun hh=>by cases hh⟩
  ·have hi:idxOf z.2 len=some z.2.toNat:=by
    unfold idxOf;rw[if_pos ⟨j1,by rw[a1]at j2;exact j2⟩]
   simp[Am,DA,e1,e2,hl,hi]
  ·rw[List.append_nil,List.take_append_drop]
 case sidx x i=>
  split at h<;>(try cases h;done);rename_i d k di hd hdi;cases h;try dsimp only at hy
  obtain⟨z,h1,h2⟩:=Dyn.comp_val hy;obtain⟨h3,h4⟩:=Dyn.both_val h1;obtain⟨c1,e1,g1⟩:=A5 (G:=G) hd hr h3;obtain⟨c2,e2,g2⟩:=A5 (G:=G) hdi hr h4;unfold Can at g1 g2;cases g1;cases g2;have h2':sAt z.1 z.2=some y:=h2;unfold sAt at h2';split at h2'<;>(try cases h2';done);rename_i hn;obtain⟨b,h5,h6⟩:=Aa.1 h2';refine⟨.c (.int .u8 y), ?_,_,rfl,by unfold Can;rfl⟩
  have hi:idxOf z.2 z.1.length=some z.2.toNat:=by
   unfold idxOf;rw[if_pos hn]
  simp[Am,e1,e2,hi,h5,h6]
 case aidx len size sz x i=>
  split at h<;>(try cases h;done);rename_i r d k di hd hdi;split at h
  ·split at h<;>(try cases h;done);rename_i p hp;split at h<;>(try cases h;done);rename_i p1 hp1;split at h<;>(try cases h;done);rename_i f hf;split at h<;>(try cases h;done);rename_i hlen;subst hlen;cases h;try dsimp only at hy
   obtain⟨z,h1,h2⟩:=Dyn.comp_val hy;obtain⟨h3,h4⟩:=Dyn.both_val h1;obtain⟨a,h5,h6⟩:=Aa.1 h2;obtain⟨c1,e1,g1⟩:=A5 (G:=G) hd hr h3;obtain⟨c2,e2,g2⟩:=A5 (G:=G) hdi hr h4;unfold Can at g1 g2;cases g2;obtain⟨l,e3,g1⟩:=g1;cases e3;obtain⟨j1,j2,j3⟩:=N1 h5;obtain⟨a1,a2⟩:=M4 hf g1;obtain⟨a3,a4⟩:=a2 j3;obtain⟨c,b1,b2⟩:=HA hp1 a3;refine⟨.c c, ?_,c,rfl,h6▸b2⟩
   have hi:idxOf z.2 len=some z.2.toNat:=by
    unfold idxOf;rw[if_pos ⟨j1,by rw[a1]at j2;exact j2⟩]
   simp only[Nat.mul_one]at b1 a4
   have hc:l[z.2.toNat]? =some c:=by
    rw[List.getElem?_take_of_lt (by omega),List.getElem?_drop]at b1;simpa using b1
   simp[Am,e1,e2,hi,Cx,hc]
  ·rename_i n;split at h<;>(try cases h;done);rename_i p hp;split at h<;>(try cases h;done);rename_i f hf;split at h<;>(try cases h;done);rename_i hlen;obtain⟨hlen,hpos⟩:=hlen;subst hlen;cases h;try dsimp only at hy
   obtain⟨z,h1,h2⟩:=Dyn.comp_val hy;obtain⟨h3,h4⟩:=Dyn.both_val h1;obtain⟨c1,e1,g1⟩:=A5 (G:=G) hd hr h3;obtain⟨c2,e2,g2⟩:=A5 (G:=G) hdi hr h4;unfold Can at g1 g2;cases g2;obtain⟨l,e3,g1⟩:=g1;cases e3;obtain⟨j1,j2,j3⟩:=N1 h2;obtain⟨a1,a2⟩:=M4 hf g1;obtain⟨a3,a4⟩:=a2 j3;refine⟨.c (.agg ((l.drop (z.2.toNat*n)).take n)), ?_,_,rfl,by unfold Can;exact⟨_,rfl,a3⟩⟩
   have hi:idxOf z.2 len=some z.2.toNat:=by
    unfold idxOf;rw[if_pos ⟨j1,by rw[a1]at j2;exact j2⟩]
   simp[Am,e1,e2,hi,Cx,a4]
 case load sz x=>
  split at h<;>(try cases h;done);rename_i p hp;exact La hr hrd h hy fun x hx=>Iu hr hrd (fun x hx=>Bc hp hr hx) hx (KZ h)
 case loadb sz x=>
  split at h<;>(try cases h;done);rename_i p hp;split at h<;>(try cases h;done);rename_i hfl;have key:∀z,(Df Γ msk p).2.val ρ=some z→RS (Df Γ msk p).1 z (deref rd (so G st.fr x)):=fun z hz=>Iu hr hrd (fun x hx=>Bc hp hr hx) hz (KZ h);obtain⟨sv,h1,h2⟩:=La hr hrd h hy key;obtain⟨z,hz⟩:=Xw h hy;have hne:∀id i s o,deref rd (so G st.fr x)≠ .eptr id i s o:=Wx hfl (key z hz);refine⟨sv, ?_,h2⟩;simp only[Am];clear key hz;generalize deref rd (so G st.fr x)=w at h1 hne⊢;cases w<;>first|exact h1|exact absurd rfl (hne _ _ _ _)
 case len kd x=>
  split at h<;>(try cases h;done);rename_i d hd;cases h;try dsimp only at hy
  exact⟨_,by simp only[Am];rw[Xr hr hrd hd hy];rfl,_,rfl,by unfold Can;rfl⟩
 case sslice x lo hi=>
  split at h<;>(try cases h;done);rename_i d hd;split at h<;>(try cases h;done);rename_i e he;cases h;try dsimp only at hy
  obtain⟨p,h1,h2⟩:=Dyn.comp_val hy;obtain⟨h3,h4,h5⟩:=PD (G:=G) hr he h1;obtain⟨c1,e1,g1⟩:=A5 (G:=G) hd hr h3;unfold Can at g1;cases g1;obtain⟨l1,l2,l3,l4⟩:=N2 h2;refine⟨.c (.str y), ?_,_,rfl,by unfold Can;rfl⟩;simp only[Am,e1];rw[h4 _ rfl (by omega),Option.bind_some,h5 l1,Option.bind_some,if_pos (by omega),l4]
 case slice size x lo hi=>
  split at h<;>(try cases h;done);rename_i e d hd;split at h<;>(try cases h;done);rename_i hv;split at h<;>(try cases h;done);rename_i g hg;cases h;try dsimp only at hy
  obtain⟨p,h1,h2⟩:=Dyn.comp_val hy;obtain⟨h3,h4,h5⟩:=PD (G:=G) hr hg h1;obtain⟨c1,e1,g1⟩:=A5 (G:=G) hd hr h3;unfold Can at g1;obtain⟨nl,es,e3,g1⟩:=g1;cases e3;obtain⟨l1,l2,l3,l4⟩:=N2 h2;have hlen:=g1.length;refine⟨.c (.sl nl ((es.take p.2.2.toNat).drop p.2.1.toNat)), ?_,_,rfl,by unfold Can;exact⟨_,_,rfl,by rw[l4];exact(g1.take _).drop _⟩⟩;simp only[Am,e1]
  have hall:(es.all fun e=>Bq e==size)=true:=by
   rw[List.all_eq_true];intro c hc;obtain⟨i,hi⟩:=List.getElem?_of_mem hc;obtain⟨a,_,h7⟩:=g1.getB hi;simp[(F3 hv.1 hv.2 h7).2]
  rw[h4 _ (by rw[hlen]) (by omega),Option.bind_some,h5 l1,Option.bind_some,if_pos ⟨by omega,hall⟩]
 case slice3 size x lo hi mx=>
  split at h<;>(try cases h;done)
  ·rename_i d kh dh km dm hd hdh hdm;cases h;try dsimp only at hy
   obtain⟨p,h1,h2⟩:=Dyn.comp_val hy;obtain⟨h3,h4⟩:=Dyn.both_val h1;obtain⟨h5,h6⟩:=Dyn.both_val h4;simp only[Dyn.val]at h2;split at h2<;>(try cases h2;done);rename_i hz;cases h2;obtain⟨c1,e1,g1⟩:=A5 (G:=G) hd hr h3;obtain⟨c2,e2,g2⟩:=A5 (G:=G) hdh hr h5;obtain⟨c3,e3,g3⟩:=A5 (G:=G) hdm hr h6;unfold Can at g1 g2 g3;cases g1;cases g2;cases g3;refine⟨.c (.sl (some true) []), ?_,_,rfl,by unfold Can;rfl⟩;simp[Am,e1,e2,e3,BL,hz.1,hz.2]
  ·rename_i e d kh dh km dm hd hdh hdm;split at h<;>(try cases h;done);rename_i hv;cases h;try dsimp only at hy
   obtain⟨p,h1,h2⟩:=Dyn.comp_val hy;obtain⟨h3,h4⟩:=Dyn.both_val h1;obtain⟨h5,h6⟩:=Dyn.both_val h4;simp only[Dyn.val]at h2;split at h2<;>(try cases h2;done);rename_i hz;obtain⟨c1,e1,g1⟩:=A5 (G:=G) hd hr h3;obtain⟨c2,e2,g2⟩:=A5 (G:=G) hdh hr h5;obtain⟨c3,e3,g3⟩:=A5 (G:=G) hdm hr h6;unfold Can at g1 g2 g3;obtain⟨nl,es,q1,g1⟩:=g1;cases q1;cases g2;cases g3;obtain⟨l1,l2,l3,l4⟩:=N2 h2;have hlen:=g1.length;refine⟨.c (.sl nl ((es.take p.2.1.toNat).drop (0:Int).toNat)), ?_,_,rfl,by unfold Can;exact⟨_,_,rfl,by rw[l4];exact(g1.take _).drop _⟩⟩
   have hall:(es.all fun e=>Bq e==size)=true:=by
    rw[List.all_eq_true];intro c hc;obtain⟨i,hi⟩:=List.getElem?_of_mem hc;obtain⟨a,_,h7⟩:=g1.getB hi;simp[(F3 hv.1 hv.2 h7).2]
   simp only[Am,e1,e2,e3,BL,←hz,if_pos l2,Option.map_none,Option.bind_some];rw[if_pos ⟨⟨by omega,by omega,by simp⟩,hall⟩];rfl
 case capp e0 size bytes x y'=>
  split at h<;>(try cases h;done);rename_i dx e dy hd he;split at h<;>(try cases h;done);rename_i hv;cases h;try dsimp only at hy
  obtain⟨p,h1,h2⟩:=Dyn.comp_val hy;obtain⟨h3,h4⟩:=Dyn.both_val h1;simp only[Dyn.val]at h2;split at h2<;>(try cases h2;done);rename_i hb;cases h2;obtain⟨c1,e1,g1⟩:=A5 (G:=G) hd hr h3;obtain⟨c2,e2,g2⟩:=A5 (G:=G) he hr h4;unfold Can at g1 g2;cases g1;obtain⟨nl,es,q1,g2⟩:=g2;cases q1;have hlen:=g2.length;refine⟨.c (.sl none es), ?_,_,rfl,by unfold Can;exact⟨_,_,rfl,g2⟩⟩;simp only[Am,e1,e2];rw[if_pos ⟨JS hv.1 hv.2.1 hv.2.2 g2,by rw[hlen];exact N5 (by rw[Int.natCast_mul]) hb.1,by rw[hlen];exact N6 rfl hb.2⟩]
 case lookup mt kt z ok x k=>
  obtain⟨c,h1,h2⟩:=Xy hr hrd h hy;exact⟨.c c,by simp only[Am,h1,Option.map_some],h2⟩
 case asl n x=>
  split at h<;>(try cases h;done);rename_i r d hd;split at h<;>(try cases h;done);rename_i f hf;split at h<;>(try cases h;done);rename_i hlen;cases h;try dsimp only at hy
  obtain⟨z,h3,rfl⟩:=Dyn.map_val hy;obtain⟨cs,rest,e1,g1,g3⟩:=Bc hd hr h3;have hrest:=g3 rfl;subst hrest;rw[List.append_nil]at e1;have hl:=Ew hlen g1;have hs:=T2 hf g1;subst hs;refine⟨.c (.sl (some false) ((f z).map CV.str)), ?_,_,rfl,by unfold Can;exact⟨_,_,rfl,T5 _⟩⟩;simp only[Am,e1,T4,hl,and_self,if_true]
end
def EK.refs:EK→Option Nat
 | .ptr id _| .eptr id _ _| .aptr id _ _| .own id| .mp id| .iter id| .ent id _ _| .stamp id _=>some id
 | .opt k=>k.refs
 |_=>none
def BO:TC→Key→Option EK
 | [],_=>none
 |e::Γ,p=>if e.1=p then some e.2 else BO Γ p
theorem B5:∀{Γ:TC} {p:Key} {q:Σ k:EK,HS Γ→DK k},get Γ p=some q→BO Γ p=some q.1
 | [],p,q,h=>by cases h
 |e::Γ,p,q,h=>by
  unfold get at h;unfold BO;split at h
  ·rename_i he;cases h;rw[if_pos he]
  ·rename_i he;rw[if_neg he];split at h<;>(try cases h;done);rename_i t ht;cases h;exact B5 ht
theorem Nm:∀{Γ:TC} {p:Key} {k:EK},BO Γ p=some k→∃f,get Γ p=some ⟨k,f⟩
 | [],p,k,h=>by cases h
 |e::Γ,p,k,h=>by
  unfold BO at h;unfold get;split at h
  ·rename_i he;cases h;rw[if_pos he];exact⟨_,rfl⟩
  ·rename_i he;rw[if_neg he];obtain⟨f,hf⟩:=Nm h;rw[hf];exact⟨_,rfl⟩
def Gq(Γ:TC)(ids:List Nat):List Key:=(Γ.map (·.1)).filter fun p=>match BO Γ p with
 |some k=>match k.refs with
  |some id=>ids.contains id
  |none=>false
 |none=>false
def shT:List Key→TC→TC
 | [],Γ=>Γ
 |k::ks,Γ=>(k,.undef)::shT ks Γ
def shP{Γ:TC}:(ks:List Key)→HS Γ→HS (shT ks Γ)
 | [],ρ=>ρ
 |_::ks,ρ=>((),shP ks ρ)
def goT:List Nat→TC→TC
 | [],Γ=>Γ
 |d::ds,Γ=>(.o d,.gone)::goT ds Γ
def goP{Γ:TC}:(ds:List Nat)→HS Γ→HS (goT ds Γ)
 | [],ρ=>ρ
 |_::ds,ρ=>((),goP ds ρ)
def Bt(ids:List Nat)(Γ:TC):TC:=goT ids (shT (Gq Γ ids) Γ)
def B4(ids:List Nat){Γ:TC}(ρ:HS Γ):HS (Bt ids Γ):=goP ids (shP (Gq Γ ids) ρ)
section
variable {Γ:TC} {ρ:HS Γ} {st:St}
theorem Hv(ρ:HS Γ):∀{ks:List Key} {p:Key} {q:Σ k:EK,HS (shT ks Γ)→DK k},get (shT ks Γ) p=some q→(p∈ks∧q.1=.undef)∨(p∉ks∧∃f,get Γ p=some ⟨q.1,f⟩∧q.2 (shP ks ρ)=f ρ)
 | [],p,q,h=>.inr ⟨by simp,q.2,h,rfl⟩
 |k::ks,p,q,h=>by
  by_cases hk:k=p
  ·subst hk;change get ((k,.undef)::shT ks Γ) k=some q at h;rw[C7]at h;cases h;exact .inl ⟨by simp,rfl⟩
  ·obtain⟨f,hf,hx⟩:=Ce hk h;rcases Hv ρ hf with⟨h1,h2⟩|⟨h1,g,h2,h3⟩
   ·exact .inl ⟨by simp[h1],h2⟩
   ·refine .inr ⟨by simp[h1,Ne.symm hk],g,h2, ?_⟩;exact(hx _).trans h3
theorem Hu(ρ:HS Γ):∀{ds:List Nat} {p:Key} {q:Σ k:EK,HS (goT ds Γ)→DK k},get (goT ds Γ) p=some q→(∃d∈ds,p=.o d∧q.1=.gone)∨((∀d∈ds,p≠ .o d)∧∃f,get Γ p=some ⟨q.1,f⟩∧q.2 (goP ds ρ)=f ρ)
 | [],p,q,h=>.inr ⟨by simp,q.2,h,rfl⟩
 |d::ds,p,q,h=>by
  by_cases hk:Key.o d=p
  ·subst hk;change get ((.o d,.gone)::goT ds Γ) (.o d)=some q at h;rw[C7]at h;cases h;exact .inl ⟨d,by simp,rfl,rfl⟩
  ·obtain⟨f,hf,hx⟩:=Ce hk h;rcases Hu ρ hf with⟨d',h0,h1,h2⟩|⟨h1,g,h2,h3⟩
   ·exact .inl ⟨d',by simp[h0],h1,h2⟩
   ·refine .inr ⟨fun d' hd'=> ?_,g,h2, ?_⟩
    ·simp only[List.mem_cons]at hd';rcases hd' with rfl|hd'
     ·exact Ne.symm hk
     ·exact h1 d' hd'
    ·exact(hx _).trans h3
theorem Ff:∀{Γ:TC} {p:Key} {k:EK},BO Γ p=some k→p∈Γ.map (·.1)
 | [],p,k,h=>by cases h
 |e::Γ,p,k,h=>by
  unfold BO at h;split at h
  ·rename_i he;simp[←he]
  ·simp only[List.map_cons,List.mem_cons];exact .inr (Ff h)
theorem RS.kill{ids:List Nat}{k:EK}{x:DK k}{sv:SV}(h:RS k x sv)(hn:∀id,k.refs=some id→ids.contains id=false):RS k x (Au ids sv):=by
 induction k
 case v t=>obtain⟨c,rfl,hc⟩:=h;exact⟨c,rfl,hc⟩
 case opt k ih=>
  unfold RS at h⊢
  cases x with
  |none=>simp only at h;subst h;rfl
  |some y=>exact ih h hn
 case rp ex r=>obtain⟨cs,rest,rfl,hc⟩:=h;exact⟨cs,rest,rfl,hc⟩
 case undef=>trivial
 case ptr id o=>have:=hn id rfl;unfold RS at h;subst h;simp[RS,Au];simpa using this
 case eptr id s o=>have:=hn id rfl;unfold RS at h;subst h;simp[RS,Au];simpa using this
 case aptr id n o=>have:=hn id rfl;obtain⟨h,hi⟩:=h;subst h;refine⟨?_,hi⟩;simp[Au];simpa using this
 case own id=>have:=hn id rfl;unfold RS at h;subst h;simp[RS,Au];simpa using this
 case mp id=>have:=hn id rfl;unfold RS at h;subst h;simp[RS,Au];simpa using this
 case iter id=>have:=hn id rfl;unfold RS at h;subst h;simp[RS,Au];simpa using this
 case ent id k v=>
  have:=hn id rfl;obtain⟨ck,cv,rfl,h1,h2⟩:=h;refine⟨ck,cv, ?_,h1,h2⟩;simp only[Au,this,Ag,if_false]
 case stamp id k=>
  have:=hn id rfl;obtain⟨ck,rfl,h1⟩:=h;refine⟨ck, ?_,h1⟩;simp only[Au,this,Ag,if_false]
 all_goals exact h
theorem Xv(ids:List Nat){p:Key}{k:EK}{f:HS Γ→DK k}(hg:get Γ p=some ⟨k,f⟩)(hp:p∉Gq Γ ids):∀id,k.refs=some id→ids.contains id=false:=by
 intro id hid;have hk:=B5 hg
 cases hc:ids.contains id with
 |false=>rfl
 |true=>
  exfalso;apply hp;unfold Gq;rw[List.mem_filter];refine⟨Ff hk, ?_⟩;simp only at hk;simp only[hk,hid,hc]
theorem Rep.kill(h:Rep Γ ρ st)(ids:List Nat):Rep (Bt ids Γ) (B4 ids ρ) (WB.kill ids st):=by
 have AX:∀p q,(∀d,p≠ .o d)→get (Bt ids Γ) p=some q→q.1=.undef∨∃f,get Γ p=some ⟨q.1,f⟩∧q.2 (B4 ids ρ)=f ρ∧∀id,q.1.refs=some id→ids.contains id=false:=by
  intro p q hp hq;rcases Hu (shP (Gq Γ ids) ρ) hq with⟨d,_,h1,_⟩|⟨_,f,h2,h3⟩
  ·exact absurd h1 (hp d)
  ·rcases Hv ρ h2 with⟨_,h4⟩|⟨h4,g,h5,h6⟩
   ·exact .inl h4
   ·refine .inr ⟨g,h5, ?_,Xv ids h5 h4⟩;rw[←h6];exact h3
 have key:∀q:Σ k:EK,HS (Bt ids Γ)→DK k,q.1=.undef→∀sv,RS q.1 (q.2 (B4 ids ρ)) sv:=by
  intro q hq sv;obtain⟨k,f⟩:=q;simp only at hq;subst hq
  trivial
 refine⟨fun i q hq=> ?_,fun id q hq=> ?_⟩
 ·rcases AX _ q (by simp) hq with h1|⟨f,h1,h2,h3⟩
  ·exact key q h1 _
  ·rw[h2];exact RS.kill (h.s i _ h1) h3
 ·rcases Hu (shP (Gq Γ ids) ρ) hq with⟨d,hd,h1,h2⟩|⟨hnd,f,h2,h3⟩
  ·cases h1;obtain⟨k,f⟩:=q;simp only at h2;subst h2;have:ids.contains id=true:=by simpa using hd
   show(WB.kill ids st).ob id=.none;simp only[WB.kill,this,if_true]
  ·have hnc:ids.contains id=false:=by
    cases hc:ids.contains id with
    |false=>rfl
    |true=>exact absurd rfl (hnd id (by simpa using hc))
   rcases Hv ρ h2 with⟨_,h4⟩|⟨h4,g,h5,h6⟩
   ·obtain⟨k,f'⟩:=q;simp only at h4;subst h4
    trivial
   ·have hob:=h.o id _ h5;have e:q.2 (B4 ids ρ)=g ρ:=by rw[←h6];exact h3
    rw[e];have e2:(WB.kill ids st).ob id=BZ ids (st.ob id):=by simp only[WB.kill,hnc,Ag,if_false]
    rw[e2];obtain⟨k,f'⟩:=q;simp only at hob⊢;cases k<;>try exact hob
    ·obtain⟨cs,h7,h8,h9⟩:=hob;rw[h7];refine⟨cs.map (Au ids),rfl,by simp[h8],fun j q' hj hq'=> ?_⟩;rcases AX _ q' (by simp) hq' with g1|⟨f2,g1,g2,g3⟩
     ·exact⟨Au ids (cs[j]'(by omega)),by simp[Ai (show j<cs.length by omega)],key q' g1 _⟩
     ·obtain⟨sv,g4,g5⟩:=h9 j _ hj g1;exact⟨Au ids sv,by simp[g4],g2▸RS.kill g5 g3⟩
    all_goals first
     |(obtain⟨es,h7,h8⟩:=hob;rw[h7];exact⟨es,rfl,h8⟩)
     |(obtain⟨z,ks,vs,h7,h8⟩:=hob;rw[h7];exact⟨z,ks,vs,rfl,h8⟩)
     |(obtain⟨ks,vs,ck,cv,h7,h8⟩:=hob;rw[h7];exact⟨ks,vs,ck,cv,rfl,h8⟩)
     |(obtain⟨ks,vs,cur,h7,h8⟩:=hob;rw[h7];exact⟨ks,vs,cur,rfl,h8⟩)
     |(unfold RO at hob;rw[hob];rfl)
def CK(id:Nat)(Γ:TC)(ρ:HS Γ)(Γc:TC)(ρc:HS Γc):Prop:=∀p q,get Γc p=some q→(∃j,p=.c id j)∨∃f,get Γ p=some ⟨q.1,f⟩∧q.2 ρc=f ρ
theorem CK.refl(id:Nat):CK id Γ ρ Γ ρ:=fun p q h=>.inr ⟨q.2,h,rfl⟩
theorem Rep.newObj{Γc:TC}{ρc:HS Γc}{d:Nat}{k ko:EK}{x:DK k}{y:DK ko}{v:SV}{o:Ob}(h:Rep Γ ρ st)(hx:CK d Γ ρ Γc ρc)(ho:RO Γc ρc d ko y o)(hs:RS k x v):
  Rep ((.s d,k)::(.o d,ko)::Γc) (x,y,ρc) {fr:=upd st.fr d v,ob:=upd st.ob d o}:=by
 have down:∀p q,p≠ .s d→p≠ .o d→get ((.s d,k)::(.o d,ko)::Γc) p=some q→∃f,get Γc p=some ⟨q.1,f⟩∧q.2 (x,y,ρc)=f ρc:=by
  intro p q h1 h2 hq;obtain⟨f,hf,e⟩:=Ce (Ne.symm h1) hq;obtain⟨g,hg,e2⟩:=Ce (Ne.symm h2) hf;exact⟨g,hg,(e _).trans (e2 _)⟩
 refine⟨fun i q hq=> ?_,fun id q hq=> ?_⟩
 ·by_cases hi:i=d
  ·subst hi;rw[C7]at hq;cases hq;simpa[upd]using hs
  ·obtain⟨f,hf,e⟩:=down _ q (by simpa using hi) (by simp) hq;rcases hx _ _ hf with⟨j,hj⟩|⟨g,hg,e2⟩
   ·cases hj
   ·have:=h.s i _ hg;simp only at e2;rw[e];simp only[upd,hi,if_false];rw[e2];exact this
 ·by_cases hi:id=d
  ·subst hi;obtain⟨f,hf,e⟩:=Ce (by simp) hq;rw[C7]at hf;obtain⟨kq,fq⟩:=q;simp only[Ac,Sigma.mk.injEq]at hf;obtain⟨rfl,hf⟩:=hf;cases eq_of_heq hf;have e':=e (x,y,ρc);simp only at e';simp only[upd,if_true];rw[e'];exact RO.congr ho fun j q' hq'=>down _ q' (by simp) (by simp) hq'
  ·obtain⟨f,hf,e⟩:=down _ q (by simp) (by simpa using hi) hq;rcases hx _ _ hf with⟨j,hj⟩|⟨g,hg,e2⟩
   ·cases hj
   ·have:=h.o id _ hg;simp only at e2;rw[e];simp only[upd,hi,if_false];rw[e2];refine RO.congr this fun j q' hq'=> ?_;obtain⟨f',hf',e'⟩:=down _ q' (by simp) (by simp) hq';rcases hx _ _ hf' with⟨j',hj'⟩|⟨g',hg',e2'⟩
    ·cases hj';exact absurd rfl hi
    ·exact⟨g',hg',e'.trans e2'⟩
theorem Rep.turnObj{id:Nat}{k:EK}{y:DK k}{o:Ob}(h:Rep Γ ρ st)(ho:RO Γ ρ id k y o):Rep ((.o id,k)::Γ) (y,ρ) {st with ob:=upd st.ob id o}:=by
 have down:∀p q,p≠ .o id→get ((.o id,k)::Γ) p=some q→∃f,get Γ p=some ⟨q.1,f⟩∧q.2 (y,ρ)=f ρ:=by
  intro p q h1 hq;obtain⟨f,hf,e⟩:=Ce (Ne.symm h1) hq;exact⟨f,hf,e _⟩
 refine⟨fun i q hq=> ?_,fun id' q hq=> ?_⟩
 ·obtain⟨f,hf,e⟩:=down _ q (by simp) hq;rw[e];exact h.s i _ hf
 ·by_cases hi:id'=id
  ·subst hi;rw[C7]at hq;cases hq;simp only[upd,if_true];exact RO.congr ho fun j q' hq'=>down _ q' (by simp) hq'
  ·obtain⟨f,hf,e⟩:=down _ q (by simpa using hi) hq;have:=h.o id' _ hf;rw[e];simp only[upd,hi,if_false];exact RO.congr this fun j q' hq'=>down _ q' (by simp) hq'
theorem Rep.turnCells{bt:Option TypeId}{Γc:TC}{ρc:HS Γc}{id n:Nat}{f:HS Γ→DK (.box n bt)}{cs:List SV}(h:Rep Γ ρ st)(hx:CK id Γ ρ Γc ρc)(hg:get Γ (.o id)=some ⟨.box n bt,f⟩)(hl:cs.length=n)
  (hc:∀j q,j<n→get Γc (.c id j)=some q→∃sv,cs[j]? =some sv∧RS q.1 (q.2 ρc) sv):Rep Γc ρc {st with ob:=upd st.ob id (.box cs bt)}:=by
 refine⟨fun i q hq=> ?_,fun id' q hq=> ?_⟩
 ·rcases hx _ _ hq with⟨j,hj⟩|⟨g,hg',e2⟩
  ·cases hj
  ·rw[e2];exact h.s i _ hg'
 ·rcases hx _ _ hq with⟨j,hj⟩|⟨g,hg',e2⟩
  ·cases hj
  ·by_cases hi:id'=id
   ·subst hi;rw[hg]at hg';simp only[upd,if_true];obtain⟨k,f'⟩:=q;simp only[Ac,Sigma.mk.injEq]at hg';obtain⟨rfl,_⟩:=hg';exact⟨cs,rfl,hl,hc⟩
   ·have:=h.o id' _ hg';rw[e2];simp only[upd,hi,if_false];refine RO.congr this fun j q' hq'=> ?_;rcases hx _ _ hq' with⟨j',hj'⟩|⟨g',hg2,e3⟩
    ·cases hj';exact absurd rfl hi
    ·exact⟨g',hg2,e3⟩
end
def ES(id:Nat):(off:Nat)→(r:Ty)→(Γ:TC)→Option (Σ Γ':TC,HS Γ→D r→HS Γ')
 |_,.nil,Γ=>some ⟨Γ,fun ρ _=>ρ⟩
 |off,.one t,Γ=>some ⟨(.c id off,.v t)::Γ,fun ρ x=>(x,ρ)⟩
 |off,.cons t r,Γ=>match ES id (off+1) r Γ with
  |some p=>some ⟨(.c id off,.v t)::p.1,fun ρ x=>(x.1,p.2 ρ x.2)⟩
  |none=>none
 |_,_,_=>none
theorem Ji{id:Nat}:∀{r:Ty} {off:Nat} {Γ:TC} {p:Σ Γ':TC,HS Γ→D r→HS Γ'} {ρ:HS Γ} {x:D r} {l:List CV},ES id off r Γ=some p→Can r x l→
  CK id Γ ρ p.1 (p.2 ρ x)∧∀j q,get p.1 (.c id j)=some q→(off≤j∧∃c,l[j-off]? =some c∧RS q.1 (q.2 (p.2 ρ x)) (.c c))∨((j<off∨off+l.length≤j)∧∃f,get Γ (.c id j)=some ⟨q.1,f⟩∧q.2 (p.2 ρ x)=f ρ):=by
 intro r
 induction r with
 |nil=>
  intro off Γ p ρ x l h hc;simp only[ES,Ac]at h;subst h;unfold Can at hc;subst hc;refine⟨CK.refl id,fun j q hq=>.inr ⟨by simp;omega,q.2,hq,rfl⟩⟩
 |one t _=>
  intro off Γ p ρ x l h hc;simp only[ES,Ac]at h;subst h;unfold Can at hc;obtain⟨c,rfl,hc⟩:=hc;refine⟨fun p q hq=> ?_,fun j q hq=> ?_⟩
  ·by_cases hp:Key.c id off=p
   ·exact .inl ⟨off,hp.symm⟩
   ·obtain⟨f,hf,e⟩:=Ce hp hq;exact .inr ⟨f,hf,e _⟩
  ·by_cases hj:j=off
   ·subst hj;rw[C7]at hq;cases hq;exact .inl ⟨Nat.le_refl _,c,by simp,c,rfl,hc⟩
   ·obtain⟨f,hf,e⟩:=Ce (by simpa using Ne.symm hj) hq;exact .inr ⟨by simp;omega,f,hf,e _⟩
 |cons t r _ ihr=>
  intro off Γ p ρ x l h hc;simp only[ES]at h;split at h<;>(try cases h;done);rename_i p' hp';cases h;unfold Can at hc;obtain⟨c,l',rfl,h1,h2⟩:=hc;obtain⟨g1,g2⟩:=ihr (ρ:=ρ) hp' h2;refine⟨fun p q hq=> ?_,fun j q hq=> ?_⟩
  ·by_cases hp:Key.c id off=p
   ·exact .inl ⟨off,hp.symm⟩
   ·obtain⟨f,hf,e⟩:=Ce hp hq;rcases g1 _ _ hf with hh|⟨f',hf',e'⟩
    ·exact .inl hh
    ·exact .inr ⟨f',hf',(e _).trans e'⟩
  ·by_cases hj:j=off
   ·subst hj;rw[C7]at hq;cases hq;exact .inl ⟨Nat.le_refl _,c,by simp,c,rfl,h1⟩
   ·obtain⟨f,hf,e⟩:=Ce (by simpa using Ne.symm hj) hq;rcases g2 j _ hf with⟨k1,c',k2,k3⟩|⟨k1,f',k2,k3⟩
    ·refine .inl ⟨by omega,c', ?_,(e _)▸k3⟩;have:j-off=(j-(off+1))+1:=by omega
     rw[this];simpa using k2
    ·exact .inr ⟨by simp;omega,f',k2,(e _).trans k3⟩
 |_=>intro off Γ p ρ x l h;cases h
def Gm:(k k':EK)→Option (DK k→DK k')
 | .v t,.v t'=>Bi t t'
 |k,k'=>if h:k=k' then some fun x=>h▸x else none
theorem Qb{k k':EK}{f:DK k→DK k'}(h:(if h:k=k' then some (fun x=>h▸x:DK k→DK k')else none)=some f):∃e:k=k',∀x,f x=e▸x:=by
 split at h<;>(try cases h;done);rename_i e;subst e;cases h;exact⟨rfl,fun _=>rfl⟩
theorem Qc{k k':EK}{f:DK k→DK k'}(h:Gm k k'=some f){x:DK k}{sv:SV}(hs:RS k x sv):RS k' (f x) sv:=by
 unfold Gm at h;split at h
 ·obtain⟨c,e,hc⟩:=hs;exact⟨c,e,Co _ _ h hc⟩
 ·obtain⟨e,hf⟩:=Qb h;subst e;rw[hf];exact hs
theorem Vu{k k':EK}{f:DK k→DK k'}(h:Gm k k'=some f){Γ Γ':TC}{ρ:HS Γ}{ρ':HS Γ'}{id:Nat}{x:DK k}{ob:Ob}(ho:RO Γ ρ id k x ob)
  (hc:∀j q,get Γ' (.c id j)=some q→∃p g,get Γ (.c id j)=some p∧Gm p.1 q.1=some g∧q.2 ρ'=g (p.2 ρ)):RO Γ' ρ' id k' (f x) ob:=by
 unfold Gm at h;split at h
 ·exact ho.elim
 ·obtain⟨e,hf⟩:=Qb h;subst e;rw[hf];cases k<;>try exact ho
  obtain⟨cs,e,hl,hh⟩:=ho;refine⟨cs,e,hl,fun j q hj hq=> ?_⟩;obtain⟨p,g,h1,h2,h3⟩:=hc j q hq;obtain⟨sv,h4,h5⟩:=hh j p hj h1;exact⟨sv,h4,h3▸Qc h2 h5⟩
def BT(Γ:TC):(Γ':TC)→Option (HS Γ→HS Γ')
 | []=>some fun _=>()
 |e::Γ'=>match get Γ e.1,BT Γ Γ' with
  |some q,some f=>match Gm q.1 e.2 with
   |some g=>some fun ρ=>(g (q.2 ρ),f ρ)
   |none=>none
  |_,_=>none
theorem JY{Γ:TC}{ρ:HS Γ}:∀{Γ':TC} {f:HS Γ→HS Γ'},BT Γ Γ'=some f→∀p q,get Γ' p=some q→∃r g,get Γ p=some r∧Gm r.1 q.1=some g∧q.2 (f ρ)=g (r.2 ρ)
 | [],f,h,p,q,hq=>by cases hq
 |e::Γ',f,h,p,q,hq=>by
  simp only[BT]at h;split at h<;>(try cases h;done);rename_i r f' hr hf';split at h<;>(try cases h;done);rename_i g hg;cases h;obtain⟨key,k⟩:=e;by_cases hk:key=p
  ·subst hk;rw[C7]at hq;cases hq;exact⟨r,g,hr,hg,rfl⟩
  ·obtain⟨f2,h2,h3⟩:=Ce hk hq;obtain⟨r2,g2,h4,h5,h6⟩:=JY (ρ:=ρ) hf' p _ h2;exact⟨r2,g2,h4,h5,(h3 _).trans h6⟩
theorem CM{Γ Γ':TC}{ρ:HS Γ}{st:St}{f:HS Γ→HS Γ'}(h:BT Γ Γ'=some f)(hr:Rep Γ ρ st):Rep Γ' (f ρ) st:=by
 refine⟨fun i q hq=> ?_,fun id q hq=> ?_⟩
 ·obtain⟨r,g,h1,h2,h3⟩:=JY (ρ:=ρ) h _ q hq;rw[h3];exact Qc h2 (hr.s i r h1)
 ·obtain⟨r,g,h1,h2,h3⟩:=JY (ρ:=ρ) h _ q hq;rw[h3];exact Vu h2 (hr.o id r h1) fun j q' hq'=>JY (ρ:=ρ) h _ q' hq'
def C0:(Θ:TC)→{Γ:TC}→HS Θ→HS Γ→HS (Θ++Γ)
 | [],_,_,ρ=>ρ
 |_::Θ,_,θ,ρ=>(θ.1,C0 Θ θ.2 ρ)
theorem DC{Γ:TC}:∀{Θ:TC} {p:Key} {q:Σ k:EK,HS (Θ++Γ)→DK k},get (Θ++Γ) p=some q→
  (p∈Θ.map (·.1)∧∃f,get Θ p=some ⟨q.1,f⟩∧∀θ ρ,q.2 (C0 Θ θ ρ)=f θ)∨(p∉Θ.map (·.1)∧∃f,get Γ p=some ⟨q.1,f⟩∧∀θ ρ,q.2 (C0 Θ θ ρ)=f ρ)
 | [],p,q,h=>.inr ⟨by simp,q.2,h,fun _ _=>rfl⟩
 |(k0,e0)::Θ,p,q,h=>by
  by_cases hk:k0=p
  ·subst hk;change get ((k0,e0)::(Θ++Γ)) k0=some q at h;rw[C7]at h;cases h;exact .inl ⟨by simp,_,C7 Θ k0 e0,fun _ _=>rfl⟩
  ·obtain⟨f,hf,hx⟩:=Ce (Γ:=Θ++Γ) hk h;rcases DC hf with⟨h1,g,hg,e⟩|⟨h1,g,hg,e⟩
   ·refine .inl ⟨by simp[h1],fun θ=>g θ.2, ?_,fun θ ρ=>(hx _).trans (e θ.2 ρ)⟩;unfold get;rw[if_neg hk,hg]
   ·exact .inr ⟨by simp[h1,Ne.symm hk],g,hg,fun θ ρ=>(hx _).trans (e θ.2 ρ)⟩
def AT:TC→List Nat
 | []=> []
 |(.o id,_)::Θ=>id::AT Θ
 |_::Θ=>AT Θ
theorem FL:∀{Θ:TC} {id:Nat},id∈AT Θ↔Key.o id∈Θ.map (·.1)
 | [],id=>by simp[AT]
 |(.o i,k)::Θ,id=>by simp[AT,FL (Θ:=Θ)]
 |(.s i,k)::Θ,id=>by simp[AT,FL (Θ:=Θ)]
 |(.c i j,k)::Θ,id=>by simp[AT,FL (Θ:=Θ)]
def Ty.names(T:Nat→Bool):Ty→Bool
 | .nam M| .bptr M=>T M
 | .agg r| .tup r| .pt r| .clo _ r| .sl r| .one r=>r.names T
 | .falt _ r l=>r.names T&&l.names T
 | .map k v=>k.names T&&v.names T
 | .cons t r=>t.names T&&r.names T
 | .nw _ _ t=>t.names T
 |_=>true
def okC(T:Nat→Bool)(Θ:TC):EK→Bool
 | .v t=>t.val&&t.ok&&t.names T
 | .own K=>T K&&(match BO Θ (.o K)with
  |some (.arr _ _ _)|some (.buf _)=>true
  |_=>false)
 |_=>false
def okE(T:Nat→Bool)(Θ:TC):Key×EK→Bool
 |(.o id,.box n bt)=>T id&&(List.range n).all fun j=>match BO Θ (.c id j)with
  |some k=>okC T Θ k
  |none=>false
 |(.o id,.arr _ _ t)=>T id&&t.val&&t.ok&&t.names T
 |(.o id,.buf _)=>T id
 |(.c id j,_)=>match BO Θ (.o id)with
  |some (.box n bt)=>Nat.blt j n
  |_=>false
 |_=>false
def KS:TC→Bool
 | []=>true
 |e::Θ=> !(Θ.map (·.1)).contains e.1&&KS Θ
def okΘ(Θ:TC):Bool:=KS Θ&&Θ.all (okE (AT Θ).contains Θ)
theorem Pc:∀{Θ:TC} {θ θ':HS Θ},KS Θ=true→(∀p k (f:HS Θ→DK k),get Θ p=some ⟨k,f⟩→f θ=f θ')→θ=θ'
 | [],_,_,_,_=>rfl
 |(p,k)::Θ,θ,θ',hk,h=>by
  simp only[KS,Af,Bool.not_eq_true']at hk;have h1:θ.1=θ'.1:=h p k (fun ρ=>ρ.1) (C7 Θ p k)
  have h2:θ.2=θ'.2:=Pc (Θ:=Θ) hk.2 fun p' k' f hf=>by
   have hne:p≠p':=fun e=>by
    have:=Ff (B5 hf);rw[←e]at this;have h3:=hk.1;simp only[List.contains_eq_mem,decide_eq_false_iff_not]at h3;exact h3 this
   exact h p' k' (fun ρ=>f ρ.2) (by unfold get;rw[if_neg hne,hf])
  exact Prod.ext h1 h2
theorem Cs{Θ:TC}{pr:Key×EK→Bool}(h:Θ.all pr=true){p:Key}{k:EK}(hk:BO Θ p=some k):pr (p,k)=true:=by
 induction Θ with
 |nil=>cases hk
 |cons e Θ ih=>
  simp only[List.all_cons,Af]at h;unfold BO at hk;split at hk
  ·rename_i he;cases hk;rw[←he];exact h.1
  ·exact ih h.2 hk
theorem Rep.uniq{Θ:TC}{θ θ':HS Θ}{st st':St}(ho:okΘ Θ=true)(hob:st.ob=st'.ob)(h:Rep Θ θ st)(h':Rep Θ θ' st'):θ=θ':=by
 simp only[okΘ,Af]at ho;refine Pc ho.1 fun p k f hg=> ?_;have hok:=Cs ho.2 (B5 hg)
 cases p with
 |s i=>cases k<;>cases hok
 |o id=>
  have r:=h.o id _ hg;have r':=h'.o id _ hg;rw[←hob]at r';cases k<;>(try cases hok;done)
  case box n=>rfl
  case arr e size t=>
   obtain⟨es,e1,c1⟩:=r;obtain⟨es',e2,c2⟩:=r';rw[e1]at e2;cases e2;exact Ap.uniq (R:=fun x c=>Can t x [c]) (fun a a' b h k=>Can.uniq t h k) c1 c2
  case buf e=>
   have r1:st.ob id=.buf e (f θ):=r;have r2:st.ob id=.buf e (f θ'):=r';rw[r1]at r2;exact(Ob.buf.inj r2).2
 |c id j=>
  have hok':(match BO Θ (.o id)with
   |some (.box n bt)=>Nat.blt j n
   |_=>false)=true:=hok
  split at hok'<;>(try cases hok';done);rename_i n _ hn;have hj:j<n:=Nat.lt_of_succ_le (Ah hok');obtain⟨fo,hfo⟩:=Nm hn;obtain⟨cs,e1,_,c1⟩:=h.o id _ hfo;obtain⟨cs',e2,_,c2⟩:=h'.o id _ hfo;rw[←hob,e1]at e2;cases e2;obtain⟨sv,g1,g2⟩:=c1 j _ hj hg;obtain⟨sv',g3,g4⟩:=c2 j _ hj hg;rw[g1]at g3;cases g3;have hbox:=Cs ho.2 hn;simp only[okE,Af,List.all_eq_true,List.mem_range]at hbox;have hc:=hbox.2 j hj;rw[B5 hg]at hc;cases k<;>(try cases hc;done)
  case v t=>
   obtain⟨c,d1,d2⟩:=g2;obtain⟨c',d3,d4⟩:=g4;rw[d1]at d3;cases d3;exact Can.uniq t d2 d4
  case own K=>rfl
def Nb(Θ:TC)(θ:HS Θ)(id j:Nat):SV:=
 match get Θ (.c id j)with
 |some ⟨.v t,f⟩=>.c (enc t (f θ))
 |some ⟨.own K,_⟩=>.osl K
 |_=>.undef
def DZ(Θ:TC)(θ:HS Θ)(id:Nat):Ob:=
 match get Θ (.o id)with
 |some ⟨.box n bt,_⟩=>.box ((List.range n).map (Nb Θ θ id)) bt
 |some ⟨.arr e size t,f⟩=>.arr e size ((f θ).map (enc t))
 |some ⟨.buf e,f⟩=>.buf e (f θ)
 |_=>.none
theorem Q7{t:Ty}(hv:t.val=true)(ho:t.ok=true):∀(ys:List (D t)),Ap (fun x c=>Can t x [c]) ys (ys.map (enc t))
 | []=>rfl
 |y::ys=>⟨_,_,rfl,Can.enc y hv ho,Q7 hv ho ys⟩
theorem Wb{Θ:TC}(ho:okΘ Θ=true)(θ:HS Θ)(fr:Nat→SV):Rep Θ θ {fr:=fr,ob:=DZ Θ θ}:=by
 simp only[okΘ,Af]at ho;refine⟨fun i q hq=> ?_,fun id q hq=> ?_⟩
 ·have:=Cs ho.2 (B5 hq);obtain⟨k,f⟩:=q;cases k<;>cases this
 ·have hok:=Cs ho.2 (B5 hq);obtain⟨k,f⟩:=q;show RO Θ θ id k (f θ) (DZ Θ θ id);unfold DZ;rw[hq];cases k<;>(try cases hok;done)
  case box n=>
   refine⟨_,rfl,by simp,fun j q' hj hq'=> ?_⟩;simp only[okE,Af,List.all_eq_true,List.mem_range]at hok;have hc:=hok.2 j hj;rw[B5 hq']at hc;refine⟨Nb Θ θ id j,by simp[hj], ?_⟩;unfold Nb;rw[hq'];obtain⟨k',f'⟩:=q';cases k'<;>(try cases hc;done)
   case v t=>
    simp only[okC,Af]at hc;exact⟨_,rfl,Can.enc _ hc.1.1 hc.1.2⟩
   case own K=>rfl
  case arr e size t=>
   simp only[okE,Af]at hok;exact⟨_,rfl,Q7 hok.1.1.2 hok.1.2 _⟩
  case buf e=>rfl
theorem Rep.turned{Γ Θ:TC}{ρ:HS Γ}{θ:HS Θ}{st:St}{H':Nat→Ob}{fr:Nat→SV}(ho:okΘ Θ=true)(h:Rep Γ ρ st)(hΘ:Rep Θ θ {fr:=fr,ob:=H'}):Rep (Θ++Bt (AT Θ) Γ) (C0 Θ θ (B4 (AT Θ) ρ)) (Ck (AT Θ) H' st):=by
 simp only[okΘ,Af]at ho;have hk:=h.kill (AT Θ);refine⟨fun i q hq=> ?_,fun id q hq=> ?_⟩
 ·rcases DC hq with⟨h1,f,hf,_⟩|⟨_,f,hf,e⟩
  ·have:=Cs ho.2 (B5 hf);obtain⟨k,fq⟩:=q;cases k<;>cases this
  ·rw[e];exact hk.s i _ hf
 ·rcases DC hq with⟨h1,f,hf,e⟩|⟨h1,f,hf,e⟩
  ·have hid:(AT Θ).contains id=true:=by simpa using FL.2 h1
   have r:=hΘ.o id _ hf;have hok:=Cs ho.2 (B5 hf);rw[e];show RO _ _ id q.1 (f θ) (if(AT Θ).contains id=true then H' id else _);rw[if_pos hid];obtain⟨k,fq⟩:=q;cases k<;>(try cases hok;done)
   case box n=>
    obtain⟨cs,e1,hl,hc⟩:=r;refine⟨cs,e1,hl,fun j q' hj hq'=> ?_⟩;simp only[okE,Af,List.all_eq_true,List.mem_range]at hok;have hcj:=hok.2 j hj
    cases hkc:BO Θ (.c id j)with
    |none=>rw[hkc]at hcj;cases hcj
    |some kc=>
     rcases DC hq' with⟨_,f',hf',e'⟩|⟨h1',_⟩
     ·rw[e'];exact hc j _ hj hf'
     ·exact absurd (Ff hkc) h1'
   all_goals exact r
  ·have hid:¬(AT Θ).contains id=true:=fun hh=>h1 (FL.1 (by simpa using hh));have r:=hk.o id _ hf;have hob:(WB.kill (AT Θ) st).ob id=BZ (AT Θ) (st.ob id):=by show(if _ then _ else _)=_;rw[if_neg hid]
   rw[hob]at r;rw[e];show RO _ _ id q.1 (f _) (if(AT Θ).contains id=true then H' id else BZ (AT Θ) (st.ob id));rw[if_neg hid];refine RO.congr r fun j q' hq'=> ?_;rcases DC hq' with⟨h1',f',hf',_⟩|⟨_,f',hf',e'⟩
   ·exfalso;have hok:=Cs ho.2 (B5 hf')
    have hok':(match BO Θ (.o id)with
     |some (.box n bt)=>Nat.blt j n
     |_=>false)=true:=hok
    split at hok'<;>(try cases hok';done);rename_i n _ hn;exact hid (by simpa using FL.2 (Ff hn))
   ·exact⟨f',hf',e' _ _⟩
theorem Rep.unturned{Γ Θ:TC}{ρ:HS Γ}{θ:HS Θ}{st:St}(ho:okΘ Θ=true)(h:Rep Γ ρ st)(hΘ:Rep Θ θ st):Rep (Θ++Bt (AT Θ) Γ) (C0 Θ θ (B4 (AT Θ) ρ)) st:=by
 simp only[okΘ,Af]at ho
 have down:∀p q,p∉Θ.map (·.1)→get (Bt (AT Θ) Γ) p=some q→q.1=.undef∨∃f,get Γ p=some ⟨q.1,f⟩∧q.2 (B4 (AT Θ) ρ)=f ρ:=by
  intro p q hp hq;rcases Hu (shP (Gq Γ (AT Θ)) ρ) hq with⟨d,hd,h1,_⟩|⟨_,f,hf,e⟩
  ·exact absurd (h1▸FL.1 hd) hp
  ·rcases Hv ρ hf with⟨_,h2⟩|⟨_,g,hg,e2⟩
   ·exact .inl h2
   ·exact .inr ⟨g,hg,e.trans e2⟩
 refine⟨fun i q hq=> ?_,fun id q hq=> ?_⟩
 ·rcases DC hq with⟨h1,f,hf,e⟩|⟨h1,f,hf,e⟩
  ·rw[e];exact hΘ.s i _ hf
  ·rcases down _ _ h1 hf with h2|⟨g,hg,e2⟩
   ·obtain⟨k,fq⟩:=q;simp only at h2;subst h2
    trivial
   ·have e3:=(e θ (B4 (AT Θ) ρ)).trans e2;rw[e3];exact h.s i _ hg
 ·rcases DC hq with⟨h1,f,hf,e⟩|⟨h1,f,hf,e⟩
  ·have r:=hΘ.o id _ hf;have hok:=Cs ho.2 (B5 hf);rw[e];obtain⟨k,fq⟩:=q;cases k<;>(try cases hok;done)
   case box n=>
    obtain⟨cs,e1,hl,hc⟩:=r;refine⟨cs,e1,hl,fun j q' hj hq'=> ?_⟩;simp only[okE,Af,List.all_eq_true,List.mem_range]at hok;have hcj:=hok.2 j hj
    cases hkc:BO Θ (.c id j)with
    |none=>rw[hkc]at hcj;cases hcj
    |some kc=>
     rcases DC hq' with⟨_,f',hf',e'⟩|⟨h1',_⟩
     ·rw[e'];exact hc j _ hj hf'
     ·exact absurd (Ff hkc) h1'
   all_goals exact r
  ·rcases down _ _ h1 hf with h2|⟨g,hg,e2⟩
   ·obtain⟨k,fq⟩:=q;simp only at h2;subst h2
    trivial
   ·have r:=h.o id _ hg;have e3:=(e θ (B4 (AT Θ) ρ)).trans e2;rw[e3];obtain⟨k,fq⟩:=q;cases k<;>try exact r
    obtain⟨cs,q1,q2,q3⟩:=r;refine⟨cs,q1,q2,fun j q' hj hq'=> ?_⟩;rcases DC hq' with⟨h1',f',hf',_⟩|⟨h1',f',hf',e'⟩
    ·exfalso;have hok:=Cs ho.2 (B5 hf')
     have hok':(match BO Θ (.o id)with
      |some (.box n bt)=>Nat.blt j n
      |_=>false)=true:=hok
     split at hok'<;>(try cases hok';done);rename_i n' _ hn;exact h1 (Ff hn)
    ·rcases down _ _ h1' hf' with h2|⟨g',hg',e2'⟩
     ·obtain⟨k',fq'⟩:=q';simp only at h2;subst h2;have:j<cs.length:=by omega
      exact⟨cs[j],by simp[this],trivial⟩
     ·obtain⟨sv,q4,q5⟩:=q3 j _ hj hg';have e3':=(e' θ (B4 (AT Θ) ρ)).trans e2';rw[e3'];exact⟨sv,q4,q5⟩
structure Sig where
 a:Ty
 r:Ty
 fn:D a→Option (D r)
structure BX where
 Θ:TC
 a:Ty
 r:Ty
 fn:D a→HS Θ→Option (D r×HS Θ)
def D3:Option TC→Dm
 |none=>.no
 |some Θ=>⟨fun N=>(AT Θ).contains N=true,fun N=>(AT Θ).contains N=true⟩
def KY:Option TC→Nat→Bool
 |none,_=>false
 |some Θ,id=>(AT Θ).contains id
theorem Xs{o:Option TC}{id:Nat}(h:KY o id=false):¬(D3 o).I id:=by
 cases o with
 |none=>exact fun h=>h
 |some Θ=>intro h2;have h1:(AT Θ).contains id=false:=h;have h3:(AT Θ).contains id=true:=h2;rw[h1]at h3;cases h3
structure TP where
 G:Nat→List CV
 T:FuncId→Option Sig
 TT:Nat→Option Ty
 TM:Nat→Option (Ty×Ty)
 cp:FuncId→Bool:=fun _=>false
 TN:FuncId→Option Sig:=fun _=>none
 TE:FuncId→Option BX:=fun _=>none
 Θ:Option TC:=none
def HiE(E:Env):Prop:=∀f e,E.ef f=some e→(e.T.all fun N=>Nat.ble As N)=true
theorem HiE.at{E:Env}(h:HiE E)(D:Option (List Nat)):HiE (E.at D):=by
 cases D with
 |none=>exact h
 |some D=>intro f e he;cases he
theorem HiE.named{E:Env}:HiE E.named:=by
 intro f e he;simp only[Env.named]at he;split at he
 ·split at he
  ·cases he;assumption
  ·cases he
 ·cases he
structure TOk (X:TP) (E:Env):Prop where
 G:E.G=X.G
 cp:E.cp=X.cp
 fn:∀f s,X.T f=some s→s.r.val=true∧s.r.ok=true∧∀x l y,Can s.a x l→s.fn x=some y→E.fn f l=some (.val (enc s.r y))
 ef:∀f,(X.T f).isSome=true∨(X.TN f).isSome=true→E.ef f=none
 nw:∀f a e size t fn,X.TN f=some ⟨a,.nw e size t,fn⟩→t.val=true∧∀x l ys,Can a x l→fn x=some ys→∃es,E.fn f l=some (.new (.arr e size es))∧Ap (fun x c=>Can t x [c]) ys es
 hi:HiE E
def BF(X:TP)(E:Env):Prop:=∀f s,X.TE f=some s→(s.r.val=true∧((AT s.Θ).all fun N=>Nat.ble As N)=true)∧s.r.ok=true∧∃e,E.ef f=some e∧e.T=AT s.Θ∧
 ∀x l θ H y θ',Can s.a x l→Rep s.Θ θ {fr:=fun _=>.undef,ob:=H}→s.fn x θ=some (y,θ')→e.fn l H=some (enc s.r y,DZ s.Θ θ')
def TP.noE(X:TP):TP:={X with TE:=fun _=>none}
theorem TOk.noE{X:TP}{E:Env}(h:TOk X E):TOk X.noE E:=⟨h.G,h.cp,h.fn,h.ef,h.nw,h.hi⟩
theorem BF.noE(X:TP)(E:Env):BF X.noE E:=fun _ _ h=>by cases h
theorem TOk.named{X:TP}{E:Env}(h:TOk X E):TOk X E.named:=⟨h.G,h.cp,fun f s hs=>by
 obtain⟨h1,h2,h3⟩:=h.fn f s hs;refine⟨h1,h2,fun x l y hx hy=> ?_⟩
 show(match E.fn f l with
  |some (Res.new o)=>if DD o=true then some (Res.new o)else none
  |r=>r)=_
 rw[h3 x l y hx hy],fun f hf=>by
 show(match E.ef f with
  |some e=>if(e.T.all fun N=>Nat.ble As N)=true then some e else none
  |none=>none)=none
 rw[h.ef f hf],fun f a e size t fn hs=>by
 obtain⟨h1,h2⟩:=h.nw f a e size t fn hs;refine⟨h1,fun x l ys hx hy=> ?_⟩;obtain⟨es,h3,h4⟩:=h2 x l ys hx hy;refine⟨es, ?_,h4⟩
 show(match E.fn f l with
  |some (Res.new o)=>if DD o=true then some (Res.new o)else none
  |r=>r)=_
 rw[h3]
 rfl,HiE.named⟩
theorem BF.named{X:TP}{E:Env}(h:BF X E):BF X E.named:=fun f s hs=>by
 obtain⟨h1,h2,e,h3,h4,h5⟩:=h f s hs;refine⟨h1,h2,e, ?_,h4,h5⟩
 show(match E.ef f with
  |some e=>if(e.T.all fun N=>Nat.ble As N)=true then some e else none
  |none=>none)=_
 rw[h3];simp only;rw[h4,if_pos h1.2]
def Env.pois(E:Env):Env:={E with ef:=fun f=>(E.ef f).map fun e=>⟨e.T,fun _ _=>none⟩}
theorem TOk.pois{X:TP}{E:Env}(h:TOk X E):TOk X E.pois:=⟨h.G,h.cp,h.fn,fun f hf=>by
 show(E.ef f).map _=none
 rw[h.ef f hf];rfl,h.nw,fun f e he=>by
 obtain⟨e0,h0,rfl⟩:=Aa.1 he
 exact h.hi f e0 h0⟩
theorem TOk.at{X:TP}{E:Env}(h:TOk X E)(D:Option (List Nat)):TOk X (E.at D):=⟨by rw[DS];exact h.G,by rw[Uv];exact h.cp,by rw[PC];exact h.fn,fun f hf=>Uw (h.ef f hf),by rw[PC];exact h.nw,h.hi.at D⟩
def mlT:Ty→Bool
 | .int _| .bool| .str=>true
 | .agg r| .tup r=>mlT r
 | .nil=>true
 | .one t=>mlT t
 | .cons t r=>mlT t&&mlT r
 |_=>false
theorem RN:∀{t:Ty} {x:D t} {cs:List CV},mlT t=true→Can t x cs→Cg cs=true:=by
 intro t
 induction t with
 |int k=>intro x cs _ h;unfold Can at h;subst h;rfl
 |bool=>intro x cs _ h;unfold Can at h;subst h;rfl
 |str=>intro x cs _ h;unfold Can at h;subst h;rfl
 |nil=>intro x cs _ h;unfold Can at h;subst h;rfl
 |agg r ih=>intro x cs hm h;unfold Can at h;obtain⟨l,rfl,h⟩:=h;simp[Cg,memless,ih hm h]
 |tup r ih=>intro x cs hm h;unfold Can at h;obtain⟨l,rfl,h⟩:=h;simp[Cg,memless,ih hm h]
 |one t ih=>intro x cs hm h;unfold Can at h;obtain⟨c,rfl,h⟩:=h;exact ih hm h
 |cons t r iht ihr=>
  intro x cs hm h;simp only[mlT,Af]at hm;unfold Can at h;obtain⟨c,l,rfl,h1,h2⟩:=h;have:=iht hm.1 h1;simp only[Cg,Bool.and_true]at this;simp[Cg,this,ihr hm.2 h2]
 |_=>intro x cs hm;cases hm
def B6:(r s:Ty)→Σ q:Ty,D r→D s→D q
 | .one t,.nil=>⟨.one t,fun x _=>x⟩
 | .one t,s=>⟨.cons t s,fun x y=>(x,y)⟩
 | .cons t r,s=>⟨.cons t (B6 r s).1,fun x y=>(x.1,(B6 r s).2 x.2 y)⟩
 |_,s=>⟨s,fun _ y=>y⟩
theorem GX:∀{r s:Ty} {n:Nat} {x:D r} {y:D s} {l m:List CV},Ba r=some n→Can r x l→Can s y m→Can (B6 r s).1 ((B6 r s).2 x y) (l++m):=by
 intro r
 induction r with
 |nil=>intro s n x y l m _ h k;unfold Can at h;subst h;exact k
 |one t _=>
  intro s n x y l m _ h k;unfold Can at h;obtain⟨c,rfl,h⟩:=h;cases s
  case nil=>
   unfold Can at k;subst k;change Can (.one t) x [c];unfold Can;exact⟨c,rfl,h⟩
  all_goals
   change Can (.cons t _) (x,y) (c::m);unfold Can;exact⟨c,m,rfl,h,k⟩
 |cons t r _ ihr=>
  intro s n x y l m hn h k;simp only[Ba,Aa]at hn;obtain⟨n',hn,_⟩:=hn;unfold Can at h;obtain⟨c,l',rfl,h1,h2⟩:=h;change Can (.cons t (B6 r s).1) (x.1,(B6 r s).2 x.2 y) (c::(l'++m));unfold Can;exact⟨c,l'++m,rfl,h1,ihr hn h2 k⟩
 |_=>intro s n x y l m hn;cases hn
def NK{V:Type}(m y:List (List UInt8×V)):Option (List (List UInt8×V)):=
 if m.isEmpty=true∧(y.all fun p=>decide (p.1.length≤9223372036854775807))=true∧y.length≤9223372036854775807 then some y else none
structure OpD (Γ:TC):Type 1 where
 Γ':TC
 B:Type
 d:Dyn (HS Γ) B
 up:HS Γ→B→HS Γ'
section
variable (X:TP) (Γ:TC) (msk:List Nat)
def rdC:SO→Option (Bool×Σ t:Ty,Dyn (HS Γ) (D t))
 | .t i=>match get Γ (.s i)with
  |some ⟨.v t,f⟩=>some (true,⟨t,.tot f⟩)
  |some ⟨.opt (.v t),f⟩=>some (true,⟨t,.par f⟩)
  |some ⟨.own id,_⟩=>match D6 Γ msk id with
   |some ⟨.arr _ _ t,xs⟩=>some (false,⟨.sl t,.tot xs⟩)
   |_=>none
  |some ⟨.mp id,_⟩=>match D6 Γ msk id with
   |some ⟨.mob _ k v,xs⟩=>some (false,⟨.map k v,.tot xs⟩)
   |_=>none
  |_=>none
 | .k c=>match B2 c with
  |some q=>some (true,⟨q.1,.tot fun _=>q.2⟩)
  |none=>none
 | .g _=>none
def Fa:List SO→Option (Bool×Σ r:Ty,Dyn (HS Γ) (D r))
 | []=>some (true,⟨.nil,.tot fun _=>()⟩)
 | [x]=>match rdC Γ msk x with
  |some q=>some (q.1,⟨.one q.2.1,q.2.2⟩)
  |none=>none
 |x::y::xs=>match rdC Γ msk x,Fa (y::xs)with
  |some q,some p=>some (q.1&&p.1,⟨.cons q.2.1 p.2.1,q.2.2.both p.2.2⟩)
  |_,_=>none
def GZ(a Rt:Ty)(fl:Bool):(t:Ty)→Option (D t→D a→Option (D Rt))
 | .nfn=>some fun _ _=>none
 | .clo g r=>match X.T g with
  |some s=>match Bi (B6 a r).1 s.a,Bi s.r Rt with
   |some h,some k=>if(fl||mlT s.r)=true then some fun x y=>(s.fn (h ((B6 a r).2 y x))).map k else none
   |_,_=>none
  |none=>none
 | .falt g r l=>match X.T g with
  |some s=>match Bi (B6 a r).1 s.a,Bi s.r Rt,GZ a Rt fl l with
   |some h,some k,some F=>if(fl||mlT s.r)=true then some fun x y=>match x with
     | .inl c=>(s.fn (h ((B6 a r).2 y c))).map k
     | .inr z=>F z y
    else none
   |_,_,_=>none
  |none=>none
 |_=>none
def JQ:SOp→Option (Σ k:EK,Dyn (HS Γ) (DK k))
 | .call f args=>match X.T f with
  |some s=>match Fa Γ msk args with
   |some q=>match Bi q.2.1 s.a with
    |some g=>if(q.1||mlT s.r)=true then some ⟨.v s.r,(q.2.2.map fun _ x=>g x).comp (.par s.fn)⟩else none
    |none=>none
   |none=>none
  |none=>none
 | .callv f args=>match rdV Γ f with
  |some ⟨.clo g r,d⟩=>match X.T g with
   |some s=>match Fa Γ msk args with
    |some q=>match Ba q.2.1,Bi (B6 q.2.1 r).1 s.a with
     |some _,some h=>if(q.1||mlT s.r)=true then some ⟨.v s.r,((q.2.2.both d).map fun _ x=>h ((B6 q.2.1 r).2 x.1 x.2)).comp (.par s.fn)⟩else none
     |_,_=>none
    |none=>none
   |none=>none
  |some ⟨.falt g r l,d⟩=>match X.T g with
   |some s=>match Fa Γ msk args with
    |some q=>match Ba q.2.1,GZ X q.2.1 s.r q.1 (.falt g r l)with
     |some _,some F=>some ⟨.v s.r,(q.2.2.both d).comp (.par fun x=>F x.2 x.1)⟩
     |_,_=>none
    |none=>none
   |none=>none
  |_=>none
 |_=>none
def E2(d:Nat):SOp→Option (OpD Γ)
 | .alloc z=>match EC z with
  |some q=>match ES d 0 q.1 Γ with
   |some p=>some ⟨(.s d,.ptr d 0)::(.o d,.box z.length none)::p.1,Unit,.tot fun _=>(),fun ρ _=>((),(),p.2 ρ q.2)⟩
   |none=>none
  |none=>none
 | .allocT T z=>match EC z with
  |some q=>match ES d 0 q.1 Γ with
   |some p=>some ⟨(.s d,.ptr d 0)::(.o d,.box z.length (some T))::p.1,Unit,.tot fun _=>(),fun ρ _=>((),(),p.2 ρ q.2)⟩
   |none=>none
  |none=>none
 | .box x=>match rdV Γ x with
  |some ⟨.agg r,e⟩=>match Ba r,ES d 0 r Γ with
   |some n,some p=>some ⟨(.s d,.ptr d 0)::(.o d,.box n none)::p.1,D r,e,fun ρ y=>((),(),p.2 ρ y)⟩
   |_,_=>none
  |some ⟨t,e⟩=>if E1 t=true then some ⟨(.s d,.ptr d 0)::(.o d,.box 1 none)::(.c d 0,.v t)::Γ,D t,e,fun ρ y=>((),(),y,ρ)⟩else none
  |none=>none
 | .mksl e size AK=>match X.TT e with
  |some t=>match H4 Γ t AK with
   |some l=>if t.val=true∧Ba (BD t)=some size then some ⟨(.s d,.own d)::(.o d,.arr e size t)::Γ,List (D t),l,fun ρ y=>((),y,ρ)⟩else none
   |none=>none
  |none=>none
 | .mkmap mt kt z=>match X.TM mt with
  |some (k,v)=>if BE v [z]=true∧ktB kt k=true∧E3 k=true then some ⟨(.s d,.mp d)::(.o d,.mob mt k v)::Γ,Unit,.tot fun _=>(),fun ρ _=>((),[],ρ)⟩else none
  |none=>none
 | .make e size bytes z x y=>match X.TT e,rdV Γ x,rdV Γ y with
  |some t,some ⟨.int _,dx⟩,some ⟨.int _,dy⟩=>if BE t [z]=true then some ⟨(.s d,.own d)::(.o d,.arr e size t)::Γ,List (D t),(dx.both dy).comp (.par fun p=>if 0≤p.1∧p.1≤p.2∧p.2*(bytes:Int)≤140737488355328∧p.2≤4611686018427387904 then some (List.replicate p.1.toNat (Bv t))else none),fun ρ y=>((),y,ρ)⟩else none
  |_,_,_=>none
 | .nbytes e x=>match rdV Γ x with
  |some ⟨.str,dx⟩=>some ⟨(.s d,.own d)::(.o d,.arr e 1 (.int .u8))::Γ,List Int,dx.comp (.par fun s=>if s.length≤70368744177664 then some (s.map fun b=>(b.toNat:Int))else none),fun ρ y=>((),y,ρ)⟩
  |_=>none
 | .mrange x=>match rdV Γ x with
  |some ⟨.map k v,dx⟩=>some ⟨(.s d,.iter d)::(.o d,.mit k v)::Γ,List (D k×D v),dx,fun ρ y=>((),y,ρ)⟩
  |some ⟨.nmap,dx⟩=>none
  |_=>none
 | .siter x=>match rdV Γ x with
  |some ⟨.str,e⟩=>some ⟨(.s d,.iter d)::(.o d,.sit)::Γ,List UInt8,e,fun ρ y=>((),(y,0),ρ)⟩
  |_=>none
 |_=>none
def IX(t:Ty)(x:SO):Option (Dyn (HS Γ) (List (D t))):=
 match rdC Γ [] x with
 |some (_,⟨u,e⟩)=>match Bi u (.sl t)with
  |some g=>some (e.map fun _ y=>g y)
  |none=>none
 |none=>none
def HE(t:Ty)(o n:Nat)(u:Ty):Option (D t→D u→D t):=
 match t with
 | .agg r=>match Ba (BD u),Jj (BD u) r o with
  |some m,some q=>if h:q.1=r then if m=n∧u.val=true then some fun x y=>h▸q.2 x (Fo u y)else none else none
  |_,_=>none
 |t=>if n=1∧o=0∧E1 u=true then match Bi u t with
   |some g=>some fun _ y=>g y
   |none=>none
  else none
def Jv(id:Nat)(t:Ty)(o:Nat):(n j:Nat)→Option (Σ Γ':TC,HS Γ→Nat→D t→HS Γ')
 |0,_=>some ⟨Γ,fun ρ _ _=>ρ⟩
 |n+1,j=>match get Γ (.c id (o+j)),Jv id t o n (j+1)with
  |some ⟨.v u,f⟩,some p=>if h:u=t then some ⟨(.c id (o+j),.v t)::p.1,fun ρ i y=>(if i=j then y else(h▸f ρ:D t),p.2 ρ i y)⟩else none
  |_,_=>none
def FO(d:Option Nat):SOp→Option (OpD Γ)
 | .store n a x=>match (rdK X.G Γ a).map (Df Γ [])with
  |some ⟨.ptr id o,.tot _⟩=>match get Γ (.o id)with
   |some ⟨.box nb bt,_⟩=>match rdK X.G Γ x with
    |some ⟨.v (.agg r),e⟩=>match Ba r,ES id o r Γ with
     |some m,some p=>if m=n∧o+n≤nb∧ER r=true then some ⟨p.1,D r,e,fun ρ y=>p.2 ρ y⟩else none
     |_,_=>none
    |some ⟨.v t,e⟩=>if n=1∧o<nb∧E1 t=true then some ⟨(.c id o,.v t)::Γ,D t,e,fun ρ y=>(y,ρ)⟩else none
    |some ⟨.own i,.tot _⟩=>if n=1∧o<nb then some ⟨(.c id o,.own i)::Γ,Unit,.tot fun _=>(),fun ρ _=>((),ρ)⟩else none
    |some ⟨.mp i,.tot _⟩=>if n=1∧o<nb then some ⟨(.c id o,.mp i)::Γ,Unit,.tot fun _=>(),fun ρ _=>((),ρ)⟩else none
    |_=>none
   |_=>none
  |some ⟨.aptr id len o,di⟩=>match get Γ (.o id)with
   |some ⟨.box nb bt,_⟩=>match rdV Γ x with
    |some ⟨t,e⟩=>match Jv Γ id t o len 0 with
     |some p=>if n=1∧o+len≤nb∧E1 t=true then some ⟨p.1,Nat×D t,di.both e,fun ρ z=>p.2 ρ z.1 z.2⟩else none
     |none=>none
    |none=>none
   |_=>none
  |some ⟨.eptr id size o,di⟩=>match get Γ (.o id)with
   |some ⟨.arr e sz t,xs⟩=>match rdV Γ x with
    |some ⟨u,dx⟩=>match HE t o n u with
     |some g=>if size=sz∧0<n∧t.val=true∧Ba (BD t)=some sz∧ER (BD u)=true then some ⟨(.o id,.arr e sz t)::Γ,List (D t),((di.both dx).map fun ρ p=>((xs ρ)[p.1]?).map fun el=>(xs ρ).set p.1 (g el p.2)).comp (.par fun y=>y),fun ρ y=>(y,ρ)⟩else none
     |none=>none
    |none=>none
   |_=>none
  |some ⟨.v (.pt (.one .bool)),da⟩=>match rdV Γ x with
   |some ⟨.bool,dx⟩=>if n=1 then some ⟨Γ,Unit,(da.both dx).comp (.par fun p=>if(show Bool from p.1)=(show Bool from p.2)then some ()else none),fun ρ _=>ρ⟩else none
   |_=>none
  |_=>none
 | .append e size bytes x y=>match rdK X.G Γ x with
  |some ⟨.own id,.tot _⟩=>match get Γ (.o id)with
   |some ⟨.arr e' size' t,xs⟩=>match IX Γ t y,d with
    |some l,some d=>if e'=e∧size'=size∧t.val=true∧Ba (BD t)=some size∧ER (BD t)=true then some ⟨(.s d,.own id)::(.o id,.arr e size t)::Bt [id] Γ,List (D t),(l.map fun ρ ys=>if(((xs ρ).length:Int)+(ys.length:Int))*(bytes:Int)≤140737488355328∧((xs ρ).length:Int)+(ys.length:Int)≤4611686018427387904 then some (xs ρ++ys)else none).comp (.par fun y=>y),fun ρ y=>((),y,B4 [id] ρ)⟩else none
    |_,_=>none
   |_=>none
  |some ⟨.v .nsl,.tot _⟩=>match X.TT e with
   |some t=>match IX Γ t y,d with
    |some l,some d=>if t.val=true∧Ba (BD t)=some size∧ER (BD t)=true then some ⟨(.s d,.own d)::(.o d,.arr e size t)::Bt [d] Γ,List (D t),l.comp (.par fun ys=>if(ys.length:Int)*(bytes:Int)≤140737488355328∧(ys.length:Int)≤4611686018427387904 then some ys else none),fun ρ y=>((),y,B4 [d] ρ)⟩else none
    |_,_=>none
   |none=>none
  |_=>none
 | .cpy e size x y=>match rdK X.G Γ x with
  |some ⟨.own id,.tot _⟩=>match get Γ (.o id)with
   |some ⟨.arr e' size' t,xs⟩=>match IX Γ t y,d with
    |some l,some d=>if e'=e∧size'=size∧t.val=true∧Ba (BD t)=some size∧ER (BD t)=true then some ⟨(.s d,.v (.int .i64))::(.o id,.arr e size t)::Γ,List (D t),l,fun ρ ys=>(((min ys.length (xs ρ).length:Nat):Int),ys.take (min ys.length (xs ρ).length)++(xs ρ).drop (min ys.length (xs ρ).length),ρ)⟩else none
    |_,_=>none
   |_=>none
  |_=>none
 | .mapent mt x k=>match rdK X.G Γ x,rdV Γ k,d with
  |some ⟨.mp id,.tot _⟩,some q,some d=>match get Γ (.o id)with
   |some ⟨.mob mt' kt vt,m⟩=>match Bi q.1 kt with
    |some g=>if mt'=mt∧E3 kt=true then some ⟨(.s d,.ent id kt vt)::(.o id,.mob mt kt vt)::Γ,D kt×D vt,q.2.map fun ρ k=>(g k,(Bh (eqZ kt) (Bv vt) (g k) (m ρ)).1),fun ρ p=>(p,B0 (eqZ kt) p.1 p.2 (m ρ),ρ)⟩else none
    |none=>none
   |_=>none
  |_,_,_=>none
 | .entst x s v=>match rdK X.G Γ x,rdK X.G Γ s,rdV Γ v with
  |some ⟨.mp id,.tot _⟩,some ⟨.stamp id' kt,.tot fs⟩,some q=>match get Γ (.o id)with
   |some ⟨.mob mt kt' vt,m⟩=>match Bi q.1 vt with
    |some g=>if h:kt=kt' then if id=id'∧E3 kt'=true then some ⟨(.o id,.mob mt kt' vt)::Γ,List (D kt'×D vt),(q.2.map fun ρ v=>if(Bh (eqZ kt') (Bv vt) (h▸fs ρ) (m ρ)).2=true then some (B0 (eqZ kt') (h▸fs ρ) (g v) (m ρ))else none).comp (.par fun y=>y),fun ρ y=>(y,ρ)⟩else none else none
    |none=>none
   |_=>none
  |_,_,_=>none
 | .mapupd mt x k v=>match rdK X.G Γ x,rdV Γ k,rdV Γ v with
  |some ⟨.mp id,.tot _⟩,some q,some p=>match get Γ (.o id)with
   |some ⟨.mob mt' kt vt,m⟩=>match Bi q.1 kt,Bi p.1 vt with
    |some g,some f=>if mt'=mt∧E3 kt=true then some ⟨(.o id,.mob mt kt vt)::Γ,List (D kt×D vt),(q.2.both p.2).map fun ρ z=>B0 (eqZ kt) (g z.1) (f z.2) (m ρ),fun ρ y=>(y,ρ)⟩else none
    |_,_=>none
   |_=>none
  |_,_,_=>none
 |_=>none
def Oc(d:Option Nat):SOp→Option (OpD Γ)
 | .mcopy f x y=>if X.cp f=true then match rdK X.G Γ x,rdV Γ y,d with
  |some ⟨.mp id,.tot _⟩,some ⟨.map .str ut,q⟩,some d=>match get Γ (.o id)with
   |some ⟨.mob mt .str vt,m⟩=>match Bi (.map .str ut) (.map .str vt)with
    |some g=>some ⟨(.s d,.v (.tup .nil))::(.o id,.mob mt .str vt)::Γ,List (List UInt8×D vt),(q.map fun ρ y=>NK (m ρ) (g y)).comp (.par fun y=>y),fun ρ y=>((),y,ρ)⟩
    |none=>none
   |_=>none
  |_,_,_=>none
 else none
 |_=>none
def gD{A B:Type}(f:A→Bool)(want:Bool):Dyn A B→Dyn A (Option B)
 | .tot g=>.tot fun ρ=>if f ρ=want then some (g ρ)else none
 | .par g=>.par fun ρ=>if f ρ=want then(g ρ).map some else some none
def gO{A B:Type}(f:A→Option Bool)(want:Bool):Dyn A B→Dyn A (Option B)
 | .tot g=>.tot fun ρ=>if f ρ=some want then some (g ρ)else none
 | .par g=>.par fun ρ=>if f ρ=some want then(g ρ).map some else some none
def LZ(op:SOp):Option (Σ k:EK,Dyn (HS Γ) (DK k)):=
 match op.cls with
 | .val| .grow=>OT X.G Γ msk op
 | .call=>JQ X Γ msk op
 |_=>none
def Oa(d:Nat):SOp→Option (OpD Γ)
 | .call f args=>match X.TN f with
  |some ⟨a,.nw e size t,fn⟩=>match get Γ (.o d)with
   |some ⟨.gone,_⟩=>match Fa Γ msk args with
    |some q=>match Bi q.2.1 a with
     |some g=>if(q.1||mlT t)=true then some ⟨(.s d,.own d)::(.o d,.arr e size t)::Γ,List (D t),(q.2.2.map fun _ x=>g x).comp (.par fn),fun ρ y=>((),y,ρ)⟩else none
     |none=>none
    |none=>none
   |_=>none
  |_=>none
 |_=>none
structure EfD (Γ:TC) where
 Θ:TC
 r:Ty
 θ:HS Γ→HS Θ
 d:Dyn (HS Γ) (D r×HS Θ)
def MF{Θ Θ':TC}{a r r':Ty}(fn:D a→HS Θ→Option (D r×HS Θ))(h:Θ=Θ')(h':r=r'):D a→HS Θ'→Option (D r'×HS Θ'):=h▸h'▸fn
def Ij(a:Ty)(Θ:TC)(r:Ty):(t:Ty)→Option (D t→D a→HS Θ→Option (D r×HS Θ))
 | .clo g c=>match X.TE g with
  |some s=>match Bi (B6 a c).1 s.a with
   |some h=>if hΘ:s.Θ=Θ then(if hr:s.r=r then some fun x y θ=>MF s.fn hΘ hr (h ((B6 a c).2 y x)) θ else none)else none
   |none=>none
  |none=>none
 | .falt g c l=>match X.TE g,Ij a Θ r l with
  |some s,some F=>match Bi (B6 a c).1 s.a with
   |some h=>if hΘ:s.Θ=Θ then(if hr:s.r=r then some fun x y θ=>match x with
     | .inl z=>MF s.fn hΘ hr (h ((B6 a c).2 y z)) θ
     | .inr z=>F z y θ
    else none)else none
   |none=>none
  |_,_=>none
 |_=>none
def efK:SOp→Option (EfD Γ)
 | .call f args=>match X.TE f with
  |some s=>match F2 Γ args,BT Γ s.Θ with
   |some q,some g=>match Bi q.1 s.a with
    |some h=>some ⟨s.Θ,s.r,g,(q.2.map fun ρ x=>(h x,g ρ)).comp (.par fun p=>s.fn p.1 p.2)⟩
    |none=>none
   |_,_=>none
  |none=>none
 | .callv f args=>match rdV Γ f,F2 Γ args with
  |some ⟨.clo g c,d⟩,some q=>match X.TE g with
   |some s=>match Ba q.1,Bi (B6 q.1 c).1 s.a,BT Γ s.Θ with
    |some _,some h,some gθ=>some ⟨s.Θ,s.r,gθ,((q.2.both d).map fun ρ x=>(h ((B6 q.1 c).2 x.1 x.2),gθ ρ)).comp (.par fun p=>s.fn p.1 p.2)⟩
    |_,_,_=>none
   |none=>none
  |some ⟨.falt g c l,d⟩,some q=>match X.TE g with
   |some s=>match Ba q.1,BT Γ s.Θ,Ij X q.1 s.Θ s.r (.falt g c l)with
    |some _,some gθ,some F=>some ⟨s.Θ,s.r,gθ,((q.2.both d).map fun ρ x=>(x,gθ ρ)).comp (.par fun p=>F p.1.2 p.1.1 p.2)⟩
    |_,_,_=>none
   |none=>none
  |_,_=>none
 |_=>none
def GC(l:SL):Option (OpD Γ):=
 match efK X Γ l.op with
 |some e=>if okΘ e.Θ=true then match l.guard,l.dst with
  |none,some d=>some ⟨(.s d,.v e.r)::(e.Θ++Bt (AT e.Θ) Γ),D e.r×HS e.Θ,e.d,fun ρ p=>(p.1,C0 e.Θ p.2 (B4 (AT e.Θ) ρ))⟩
  |none,none=>some ⟨e.Θ++Bt (AT e.Θ) Γ,D e.r×HS e.Θ,e.d,fun ρ p=>C0 e.Θ p.2 (B4 (AT e.Θ) ρ)⟩
  |some (g,want),some d=>match get Γ (.s g)with
   |some ⟨.v .bool,f⟩=>some ⟨(.s d,.opt (.v e.r))::(e.Θ++Bt (AT e.Θ) Γ),Option (D e.r×HS e.Θ),gD f want e.d,fun ρ b=>(b.map fun p=>p.1,C0 e.Θ (match b with
         |some p=>p.2
         |none=>e.θ ρ) (B4 (AT e.Θ) ρ))⟩
   |some ⟨.opt (.v .bool),f⟩=>some ⟨(.s d,.opt (.v e.r))::(e.Θ++Bt (AT e.Θ) Γ),Option (D e.r×HS e.Θ),gO f want e.d,fun ρ b=>(b.map fun p=>p.1,C0 e.Θ (match b with
         |some p=>p.2
         |none=>e.θ ρ) (B4 (AT e.Θ) ρ))⟩
   |_=>none
  |_,_=>none
  else none
 |none=>none
def GD(l:SL):Option (OpD Γ):=
 match l.guard with
 |none=>match l.op.cls with
  | .new=>match l.dst with
   |some d=>match get Γ (.o d)with
    |some ⟨.gone,_⟩=>E2 X Γ d l.op
    |_=>none
   |none=>none
  | .eff=>FO X Γ l.dst l.op
  | .copy=>Oc X Γ l.dst l.op
  |_=>match LZ X Γ (hid l.op msk) l.op with
   |some q=>match l.dst with
    |some d=>some ⟨(.s d,q.1)::Γ,DK q.1,q.2,fun ρ x=>(x,ρ)⟩
    |none=>some ⟨Γ,DK q.1,q.2,fun ρ _=>ρ⟩
   |none=>match l.dst with
    |some d=>Oa X Γ (hid l.op msk) d l.op
    |none=>none
 |some (g,want)=>match LZ X Γ (hid l.op msk) l.op,l.dst with
  |some q,some d=>match get Γ (.s g)with
   |some ⟨.v .bool,f⟩=>some ⟨(.s d,.opt q.1)::Γ,Option (DK q.1),gD f want q.2,fun ρ x=>(x,ρ)⟩
   |some ⟨.opt (.v .bool),f⟩=>some ⟨(.s d,.opt q.1)::Γ,Option (DK q.1),gO f want q.2,fun ρ x=>(x,ρ)⟩
   |_=>none
  |_,_=>none
def opL(l:SL):Option (OpD Γ):=
 match GC X Γ l with
 |some o=>some o
 |none=>GD X Γ msk l
end
section
variable {X:TP} {E:Env} {Γ:TC} {msk:List Nat} {ρ:HS Γ} {st:St} {rd:Nat→Ob}
theorem LH{x:SO}{fl:Bool}{q:Σ t:Ty,Dyn (HS Γ) (D t)}(h:rdC Γ msk x=some (fl,q))(hr:Rep Γ ρ st)(hrd:∀id,msk.contains id=false→rd id=st.ob id){a:D q.1}(ha:q.2.val ρ=some a){G:Nat→List CV}:
  ∃c,Cn rd (so G st.fr x)=some c∧Can q.1 a [c]∧(fl=true→isC (so G st.fr x)=true)∧
   (so G st.fr x=.c c∨(∃id e size es,so G st.fr x=.osl id∧rd id=.arr e size es∧c=.sl none es)∨∃nl ks vs,c=.map nl ks vs):=by
 cases x with
 |t i=>
  simp only[rdC]at h;split at h
  ·rename_i t f hg;cases h;cases ha;obtain⟨c,e,hc⟩:=hr.s i _ hg;have e':so G st.fr (.t i)=.c c:=e;exact⟨c,by rw[e'];rfl,hc,fun _=>by rw[e'];rfl,.inl e'⟩
  ·rename_i t f hg;cases h;have:=hr.s i _ hg;have ha':f ρ=some a:=ha;unfold RS at this;simp only[ha']at this;unfold RS at this;obtain⟨c,e,hc⟩:=this;have e':so G st.fr (.t i)=.c c:=e;exact⟨c,by rw[e'];rfl,hc,fun _=>by rw[e'];rfl,.inl e'⟩
  ·rename_i id f hg;split at h<;>(try cases h;done);rename_i e' size t xs ho;cases h;cases ha;obtain⟨es,e,hes⟩:=Eg ho hr hrd;have e2:so G st.fr (.t i)=.osl id:=hr.s i _ hg;exact⟨.sl none es,by rw[e2];simp only[Cn,e],by unfold Can;exact⟨_,_,rfl,hes⟩,(fun hh=>by cases hh),.inr (.inl ⟨id,_,_,es,e2,e,rfl⟩)⟩
  ·rename_i id f hg;split at h<;>(try cases h;done);rename_i mt k v xs ho;cases h;cases ha;obtain⟨z,ks,vs,e,_,hk,hv⟩:=Eg ho hr hrd;have e2:so G st.fr (.t i)=.omap id:=hr.s i _ hg;exact⟨.map none ks vs,by rw[e2];simp only[Cn,e],by unfold Can;exact⟨_,_,_,rfl,hk,hv⟩,(fun hh=>by cases hh),.inr (.inr ⟨_,_,_,rfl⟩)⟩
  ·cases h
 |k c=>
  simp only[rdC]at h;split at h<;>(try cases h;done);rename_i p hp;cases h;cases ha;exact⟨c,rfl,Ip hp,fun _=>rfl,.inl rfl⟩
 |g i=>cases h
theorem Ig(hr:Rep Γ ρ st)(hrd:∀id,msk.contains id=false→rd id=st.ob id){G:Nat→List CV}:∀{xs:List SO} {fl:Bool} {q:Σ r:Ty,Dyn (HS Γ) (D r)} {a:D q.1},Fa Γ msk xs=some (fl,q)→q.2.val ρ=some a→
  ∃l,Aq (fun x=>Cn rd (so G st.fr x)) xs=some l∧Can q.1 a l∧(fl=true→(xs.all fun x=>isC (so G st.fr x))=true)
 | [],fl,q,a,h,ha=>by
  simp only[Fa,Ac]at h;cases h;exact⟨[],rfl,by unfold Can;rfl,fun _=>rfl⟩
 | [x],fl,q,a,h,ha=>by
  simp only[Fa]at h;split at h<;>(try cases h;done);rename_i p hp;cases h;obtain⟨c,h1,h2,h3,_⟩:=LH (G:=G) (fl:=p.1) (q:=p.2) hp hr hrd ha;exact⟨[c],by simp[Aq,h1],by unfold Can;exact⟨c,rfl,h2⟩,fun hh=>by simp[h3 hh]⟩
 |x::y::xs,fl,q,a,h,ha=>by
  simp only[Fa]at h;split at h<;>(try cases h;done);rename_i p p' hp hp';cases h;obtain⟨g1,g2⟩:=Dyn.both_val ha;obtain⟨c,h1,h2,h3,_⟩:=LH (G:=G) (fl:=p.1) (q:=p.2) hp hr hrd g1;obtain⟨l,h4,h5,h6⟩:=Ig hr hrd (G:=G) (fl:=p'.1) (q:=p'.2) hp' g2;refine⟨c::l, ?_,by unfold Can;exact⟨c,l,rfl,h2,h5⟩,fun hh=> ?_⟩
  ·have e:Aq (fun x=>Cn rd (so G st.fr x)) (x::y::xs)=(Cn rd (so G st.fr x)).bind fun b=>(Aq (fun x=>Cn rd (so G st.fr x)) (y::xs)).map fun bs=>b::bs:=rfl;rw[e,h1,h4];rfl
  ·simp only[Af]at hh;have:=h6 hh.2;rw[List.all_cons,h3 hh.1,this];rfl
theorem Nc{t:Ty}{x:D t}(hv:t.val=true)(ho:t.ok=true)(hm:mlT t=true):memless (enc t x)=true:=by
 have:=RN hm (Can.enc x hv ho);simpa[Cg]using this
theorem UG(hT:TOk X E){a Rt:Ty}{fl:Bool}{n:Nat}(hn:Ba a=some n):∀{t:Ty} {F:D t→D a→Option (D Rt)} {x:D t} {y:D a} {z:D Rt} {c:CV} {l:List CV},GZ X a Rt fl t=some F→F x y=some z→Can t x [c]→Can a y l→
  ∃g caps s v,c=.fn g caps∧E.fn g (l++caps)=some (.val (enc (Sig.r s) v))∧Can Rt z [enc s.r v]∧(fl||memless (enc s.r v))=true∧E.ef g=none:=by
 have one:∀{g:Nat} {r:Ty} {s:Sig} {h:D (B6 a r).1→D s.a} {k:D s.r→D Rt} {c:D r} {y:D a} {z:D Rt} {caps l:List CV},X.T g=some s→Bi (B6 a r).1 s.a=some h→Bi s.r Rt=some k→(fl||mlT s.r)=true→(s.fn (h ((B6 a r).2 y c))).map k=some z→Can r c caps→Can a y l→
   ∃v,E.fn g (l++caps)=some (.val (enc s.r v))∧Can Rt z [enc s.r v]∧(fl||memless (enc s.r v))=true:=by
  intro g r s h k c y z caps l hs hh hk hf hz hc hy;obtain⟨v,h1,h2⟩:=Aa.1 hz;obtain⟨s1,s2,s3⟩:=hT.fn g s hs;refine⟨v,s3 _ _ v (Co _ _ hh (GX hn hy hc)) h1,h2▸Co _ _ hk (Can.enc v s1 s2), ?_⟩
  cases fl with
  |true=>rfl
  |false=>
   simp only[Bool.false_or]at hf⊢;exact Nc s1 s2 hf
 intro t
 induction t with
 |clo g r _=>
  intro F x y z c l h hz hx hy;simp only[GZ]at h;split at h<;>(try cases h;done);rename_i s hs;split at h<;>(try cases h;done);rename_i hh kk h1 h2;split at h<;>(try cases h;done);rename_i hf;cases h;unfold Can at hx;obtain⟨caps,e,hx⟩:=hx;cases e;obtain⟨v,g1,g2,g3⟩:=one hs h1 h2 hf hz hx hy;exact⟨g,caps,s,v,rfl,g1,g2,g3,hT.ef g (.inl (by rw[hs];rfl))⟩
 |falt g r l' _ ihl=>
  intro F x y z c l h hz hx hy;simp only[GZ]at h;split at h<;>(try cases h;done);rename_i s hs;split at h<;>(try cases h;done);rename_i hh kk FF h1 h2 h3;split at h<;>(try cases h;done);rename_i hf;cases h
  cases x with
  |inl w=>
   unfold Can at hx;obtain⟨caps,e,hx⟩:=hx;cases e;obtain⟨v,g1,g2,g3⟩:=one hs h1 h2 hf hz hx hy;exact⟨g,caps,s,v,rfl,g1,g2,g3,hT.ef g (.inl (by rw[hs];rfl))⟩
  |inr w=>
   unfold Can at hx;exact ihl h3 hz hx.2 hy
 |nfn=>
  intro F x y z c l h hz;simp only[GZ,Ac]at h;subst h;cases hz
 |_=>intro F x y z c l h;cases h
theorem UH(hT:TOk X E)(hr:Rep Γ ρ st)(hrd:∀id,msk.contains id=false→rd id=st.ob id){op:SOp}{q:Σ k:EK,Dyn (HS Γ) (DK k)}{y:DK q.1}(hcls:op.cls=.call)(h:JQ X Γ msk op=some q)(hy:q.2.val ρ=some y)(d:Option Nat):
  ∃v,A4 E rd st d op=some (st.set d (.c v))∧RS q.1 y (.c v):=by
 cases op<;>(try cases h;done)
 case call f args=>
  simp only[JQ]at h;split at h<;>(try cases h;done);rename_i s hs;split at h<;>(try cases h;done);rename_i p hp;split at h<;>(try cases h;done);rename_i g hg;split at h<;>(try cases h;done);rename_i hc;cases h;try dsimp only at hy
  obtain⟨z,h1,h2⟩:=Dyn.comp_val hy;obtain⟨a,h3,h4⟩:=Dyn.map_val h1;subst h4;obtain⟨l,h5,h6,h7⟩:=Ig hr hrd (G:=E.G) (fl:=p.1) (q:=p.2) hp h3;obtain⟨s1,s2,s3⟩:=hT.fn f s hs;have h8:=s3 _ l y (Co _ _ hg h6) h2;refine⟨enc s.r y, ?_,_,rfl,Can.enc y s1 s2⟩
  have hm:((args.all fun x=>isC (so E.G st.fr x))||(Res.val (enc s.r y)).memless)=true:=by
   cases hp1:p.1 with
   |true=>rw[h7 hp1];rfl
   |false=>
    rw[hp1]at hc;simp only[Bool.false_or]at hc;simp[Res.memless,Nc s1 s2 hc]
  simp only[A4,SOp.cls,hT.ef f (.inl (by rw[hs];rfl)),Dc,h5,Option.bind_some,List.append_nil,h8,hm,if_true,DN]
 case callv f args=>
  simp only[JQ]at h;split at h<;>(try cases h;done)
  case h_2=>
   rename_i g r lt e he;split at h<;>(try cases h;done);rename_i s hs;split at h<;>(try cases h;done);rename_i p hp;split at h<;>(try cases h;done);rename_i n F hn hF;cases h;try dsimp only at hy
   obtain⟨z,h1,h2⟩:=Dyn.comp_val hy;obtain⟨h3,h3'⟩:=Dyn.both_val h1;obtain⟨l,h5,h6,h7⟩:=Ig hr hrd (G:=E.G) (fl:=p.1) (q:=p.2) hp h3;obtain⟨c,e1,e2⟩:=A5 (G:=E.G) he hr h3';obtain⟨g',caps,s',v,e3,h8,h9,h10,h11⟩:=UG hT hn hF h2 e2 h6;subst e3;refine⟨enc s'.r v, ?_,_,rfl,h9⟩
   have hm:((args.all fun x=>isC (so E.G st.fr x))||(Res.val (enc s'.r v)).memless)=true:=by
    cases hp1:p.1 with
    |true=>rw[h7 hp1];rfl
    |false=>
     rw[hp1]at h10;simp only[Bool.false_or]at h10;simp[Res.memless,h10]
   simp only[A4,SOp.cls,e1,h11,Dc,h5,Option.bind_some,h8,hm,if_true,DN]
  rename_i g r e he;split at h<;>(try cases h;done);rename_i s hs;split at h<;>(try cases h;done);rename_i p hp;split at h<;>(try cases h;done);rename_i n k hn hk;split at h<;>(try cases h;done);rename_i hc;cases h;try dsimp only at hy
  obtain⟨z,h1,h2⟩:=Dyn.comp_val hy;obtain⟨a,h3,h4⟩:=Dyn.map_val h1;obtain⟨h3,h3'⟩:=Dyn.both_val h3;subst h4;obtain⟨l,h5,h6,h7⟩:=Ig hr hrd (G:=E.G) (fl:=p.1) (q:=p.2) hp h3;obtain⟨c,e1,e2⟩:=A5 (G:=E.G) he hr h3';unfold Can at e2;obtain⟨caps,e3,e2⟩:=e2;cases e3;obtain⟨s1,s2,s3⟩:=hT.fn g s hs;have h8:=s3 _ (l++caps) y (Co _ _ hk (GX hn h6 e2)) h2;refine⟨enc s.r y, ?_,_,rfl,Can.enc y s1 s2⟩
  have hm:((args.all fun x=>isC (so E.G st.fr x))||(Res.val (enc s.r y)).memless)=true:=by
   cases hp1:p.1 with
   |true=>rw[h7 hp1];rfl
   |false=>
    rw[hp1]at hc;simp only[Bool.false_or]at hc;simp[Res.memless,Nc s1 s2 hc]
  simp only[A4,SOp.cls,e1,hT.ef g (.inl (by rw[hs];rfl)),Dc,h5,Option.bind_some,h8,hm,if_true,DN]
theorem Ma(hT:TOk X E)(hr:Rep Γ ρ st)(hrd:∀id,msk.contains id=false→rd id=st.ob id){op:SOp}{q:Σ k:EK,Dyn (HS Γ) (DK k)}{y:DK q.1}(h:LZ X Γ msk op=some q)(hy:q.2.val ρ=some y)(d:Option Nat):
  ∃sv,A4 E rd st d op=some (st.set d sv)∧RS q.1 y sv:=by
 unfold LZ at h;split at h
 ·rename_i hcls;obtain⟨sv,h1,h2⟩:=TX hr hrd h hy;rw[←hT.G]at h1;exact⟨sv,by simp only[A4,hcls,h1,Option.map_some],h2⟩
 ·rename_i hcls;obtain⟨sv,h1,h2⟩:=TX hr hrd h hy;rw[←hT.G]at h1;exact⟨sv,by simp only[A4,hcls,h1,Option.map_some],h2⟩
 ·rename_i hcls;obtain⟨v,h1,h2⟩:=UH hT hr hrd hcls h hy d;exact⟨.c v,h1,h2⟩
 ·cases h
theorem XX(hr:Rep Γ ρ st){d:Nat}{op:SOp}{o:OpD Γ}{b:o.B}(h:E2 X Γ d op=some o)(hb:o.d.val ρ=some b):∃v ob,Bw (so X.G st.fr) d op=some (v,ob)∧Rep o.Γ' (o.up ρ b) {fr:=upd st.fr d v,ob:=upd st.ob d ob}:=by
 cases op<;>(try cases h;done)
 case alloc z=>
  simp only[E2]at h;split at h<;>(try cases h;done);rename_i q hq;split at h<;>(try cases h;done);rename_i p hp;cases h;have hc:=Hi hq;obtain⟨h1,h2⟩:=Ji (ρ:=ρ) hp hc;refine⟨.ptr d 0,.box (z.map .c) none,rfl,Rep.newObj hr h1 ⟨z.map .c,rfl,by simp,fun j q' hj hq'=> ?_⟩ rfl⟩;rcases h2 j q' hq' with⟨_,c,h3,h4⟩|⟨h3,_⟩
  ·exact⟨.c c,by simpa using h3,h4⟩
  ·omega
 case allocT T z=>
  simp only[E2]at h;split at h<;>(try cases h;done);rename_i q hq;split at h<;>(try cases h;done);rename_i p hp;cases h;have hc:=Hi hq;obtain⟨h1,h2⟩:=Ji (ρ:=ρ) hp hc;refine⟨.ptr d 0,.box (z.map .c) (some T),rfl,Rep.newObj hr h1 ⟨z.map .c,rfl,by simp,fun j q' hj hq'=> ?_⟩ rfl⟩;rcases h2 j q' hq' with⟨_,c,h3,h4⟩|⟨h3,_⟩
  ·exact⟨.c c,by simpa using h3,h4⟩
  ·omega
 case box x=>
  simp only[E2]at h;split at h<;>(try cases h;done)
  ·rename_i r e he;split at h<;>(try cases h;done);rename_i n p hn hp;cases h;try dsimp only at hb
   obtain⟨c,e1,e2⟩:=A5 (G:=X.G) he hr hb;unfold Can at e2;obtain⟨l,e3,e2⟩:=e2;cases e3;have hl:=Ew hn e2;obtain⟨h1,h2⟩:=Ji (ρ:=ρ) hp e2;refine⟨.ptr d 0,.box (l.map .c) none,by simp only[Bw,e1],Rep.newObj hr h1 ⟨l.map .c,rfl,by simp[hl],fun j q' hj hq'=> ?_⟩ rfl⟩;rcases h2 j q' hq' with⟨_,c,h3,h4⟩|⟨h3,_⟩
   ·exact⟨.c c,by have h3':l[j]? =some c:=by simpa using h3
                  simp[h3'],h4⟩
   ·omega
  ·rename_i t e hne he;split at h<;>(try cases h;done);rename_i h1;cases h;try dsimp only at hb
   obtain⟨c,e1,e2⟩:=A5 (G:=X.G) he hr hb
   have hn:Bw (so X.G st.fr) d (.box x)=some (.ptr d 0,.box [.c c] none):=by
    simp only[Bw,e1];have:=FN h1 e2;cases c<;>first|rfl|(simp[Cw]at this)
   refine⟨_,_,hn, ?_⟩
   have hx:CK d Γ ρ ((.c d 0,.v t)::Γ) (b,ρ):=fun p q hq=>by
    by_cases hp:Key.c d 0=p
    ·exact .inl ⟨0,hp.symm⟩
    ·obtain⟨f,hf,e⟩:=Ce hp hq;exact .inr ⟨f,hf,e _⟩
   refine Rep.newObj hr hx ⟨[.c c],rfl,rfl,fun j q' hj hq'=> ?_⟩ rfl;have hj0:j=0:=by omega
   subst hj0;rw[C7]at hq';cases hq';exact⟨.c c,rfl,c,rfl,e2⟩
 case mksl e size AK=>
  simp only[E2]at h;split at h<;>(try cases h;done);rename_i t ht;split at h<;>(try cases h;done);rename_i l hl;split at h<;>(try cases h;done);rename_i hv;cases h;obtain⟨cs,h1,h2⟩:=NB hr (G:=X.G) hl hb
  have hall:(cs.all fun v=>Bq v==size)=true:=by
   rw[List.all_eq_true];intro c hc;obtain⟨i,hi⟩:=List.getElem?_of_mem hc;obtain⟨a,_,h7⟩:=h2.getB hi;simp[(F3 hv.1 hv.2 h7).2]
  refine⟨.osl d,.arr e size cs, ?_,Rep.newObj hr (CK.refl d) ⟨cs,rfl,h2⟩ rfl⟩;simp only[Bw];rw[h1,Option.bind_some,if_pos hall]
 case mkmap mt kt z=>
  simp only[E2]at h;split at h<;>(try cases h;done);rename_i k v hm;split at h<;>(try cases h;done);rename_i hh;cases h;have hk:=R6 hh.2.1;subst hk;exact⟨.omap d,.map mt (ktT k) z [] [],rfl,Rep.newObj hr (CK.refl d) ⟨z,[],[],rfl,OX hh.1,rfl,rfl⟩ rfl⟩
 case make e size bytes z x y=>
  simp only[E2]at h;split at h<;>(try cases h;done);rename_i t k dx k' dy ht hx hy;split at h<;>(try cases h;done);rename_i hz;cases h;obtain⟨p,h1,h2⟩:=Dyn.comp_val hb;obtain⟨h3,h4⟩:=Dyn.both_val h1;obtain⟨c1,e1,g1⟩:=A5 (G:=X.G) hx hr h3;obtain⟨c2,e2,g2⟩:=A5 (G:=X.G) hy hr h4;unfold Can at g1 g2;cases g1;cases g2;simp only[Dyn.val]at h2;split at h2<;>(try cases h2;done);rename_i hc;cases h2;refine⟨.osl d,.arr e size (List.replicate p.1.toNat z), ?_,Rep.newObj hr (CK.refl d) ⟨_,rfl,Ap.replicate (R:=fun x c=>Can t x [c]) (OX hz) _⟩ rfl⟩;simp only[Bw,e1,e2];rw[if_pos hc]
 case nbytes e x=>
  simp only[E2]at h;split at h<;>(try cases h;done);rename_i dx he;cases h;obtain⟨s,h1,h2⟩:=Dyn.comp_val hb;obtain⟨c,e1,e2⟩:=A5 (G:=X.G) he hr h1;unfold Can at e2;cases e2;simp only[Dyn.val]at h2;split at h2<;>(try cases h2;done);rename_i hle;cases h2;refine⟨.osl d,.arr e 1 (s.map fun b=>.int .u8 b.toNat), ?_,Rep.newObj hr (CK.refl d) ⟨_,rfl, ?_⟩ rfl⟩
  ·simp only[Bw,e1];rw[if_pos hle]
  ·clear h1 e1 hb hle
   induction s with
   |nil=>rfl
   |cons b s ih=>exact⟨_,_,rfl,by unfold Can;rfl,ih⟩
 case siter x=>
  simp only[E2]at h;split at h<;>(try cases h;done);rename_i e he;cases h;obtain⟨c,e1,e2⟩:=A5 (G:=X.G) he hr hb;unfold Can at e2;cases e2;exact⟨.iter d,.siter b 0,by simp only[Bw,e1],Rep.newObj hr (CK.refl d) rfl rfl⟩
 case mrange x=>
  simp only[E2]at h;split at h<;>(try cases h;done);rename_i k v dx he;cases h;obtain⟨c,e1,e2⟩:=A5 (G:=X.G) he hr hb;unfold Can at e2;obtain⟨nl,ks,vs,e',hk,hv⟩:=e2;cases e';exact⟨.iter d,.miter ks vs none,by simp only[Bw,e1],Rep.newObj hr (CK.refl d) ⟨_,_,_,rfl,hk,hv⟩ rfl⟩
theorem NP(hr:Rep Γ ρ st){G:Nat→List CV}{t:Ty}{x:SO}{l:Dyn (HS Γ) (List (D t))}{ys:List (D t)}(h:IX Γ t x=some l)(hy:l.val ρ=some ys):∃es,Ct st (so G st.fr x)=some es∧Ap (fun x c=>Can t x [c]) ys es:=by
 unfold IX at h;split at h<;>(try cases h;done);rename_i fl u e he;split at h<;>(try cases h;done);rename_i g hg;cases h;obtain⟨y,h1,h2⟩:=Dyn.map_val hy;obtain⟨c,h3,h4,_,h5⟩:=LH (msk:= []) (rd:=st.ob) (G:=G) he hr (fun _ _=>rfl) h1;have h6:=Co _ _ hg h4;unfold Can at h6;obtain⟨nl,es,e1,h6⟩:=h6;cases e1;refine⟨es, ?_,h2▸h6⟩;rcases h5 with h5|⟨id,e',size,es',h5,h7,h8⟩|⟨nl',ks,vs,h5⟩
 ·rw[h5];rfl
 ·cases h8;rw[h5];simp only[Ct,h7]
 ·cases h5
theorem Yp{t u:Ty}{o n:Nat}{g:D t→D u→D t}(h:HE t o n u=some g){x:D t}{y:D u}{c c':CV}(hv:t.val=true)(hx:Can t x [c])(hy:Can u y [c']):
  Bq c'=n∧o+n≤Bq c∧Can t (g x y) [Fl c o n c']:=by
 have single:∀{f:D u→D t},n=1∧o=0∧E1 u=true→Bi u t=some f→(∀l,c≠ .agg l)→Bq c'=n∧o+n≤Bq c∧Can t (f y) [Fl c o n c']:=by
  intro f ⟨h1,h2,h3⟩ hf hna;have ho:=FN h3 hy;have h4:Bq c'=1:=by cases c'<;>first|rfl|(simp[Cw]at ho)
  have h5:Bq c=1:=by cases c<;>first|rfl|(exact absurd rfl (hna _))
  have h6:Fl c o n c'=c':=by cases c<;>first|rfl|(exact absurd rfl (hna _))
  rw[h6];exact⟨by omega,by omega,Co _ _ hf hy⟩
 cases t
 case agg r=>
  simp only[HE]at h;split at h<;>(try cases h;done);rename_i m q hm hq;split at h<;>(try cases h;done);rename_i he;split at h<;>(try cases h;done);rename_i hn;cases h;obtain⟨r',f⟩:=q;simp only at he;subst he;unfold Can at hx;obtain⟨l,e,hx⟩:=hx;cases e;obtain⟨g1,g2⟩:=S0 hq hx (FT hn.2 hy);obtain⟨n1,n2⟩:=F3 hn.2 hm hy;rw[n1]at g1 g2;rw[hn.1]at n2 g1 g2;refine⟨n2,g2, ?_⟩;unfold Can;exact⟨_,rfl,g1⟩
 case falt f0 r0 l0=>
  simp only[HE]at h;split at h<;>(try cases h;done);rename_i hh;split at h<;>(try cases h;done);rename_i f hf;have hg:=Option.some.inj h;rw[←hg];refine single hh hf fun l hl=> ?_;subst hl;obtain⟨c1,e,_,e2⟩:=KN (t:=.falt f0 r0 l0) hv hx;cases e;exact(e2 _).1 rfl
 all_goals(try(cases hv;done))
 all_goals
  simp only[HE]at h;split at h<;>(try cases h;done);rename_i hh;split at h<;>(try cases h;done);rename_i f hf;have hg:=Option.some.inj h;rw[←hg];refine single hh hf fun l hl=> ?_;subst hl;unfold Can at hx
  first
   |(rcases hx with e|e|e<;>(cases e;done))
   |(cases hx;done)
   |(obtain⟨_,e,_⟩:=hx;cases e;done)
   |(obtain⟨_,_,e,_⟩:=hx;cases e;done)
   |(obtain⟨_,_,_,e,_⟩:=hx;cases e;done)
   |(cases x<;>cases hx;done)
theorem P5{α β:Type}{eq:α→α→Bool}{z:β}{x:α}{y:β}:∀{m:List (α×β)},(Bh eq z x m).2=true→(B0 eq x y m).map (·.1)=m.map (·.1)
 | [],h=>by cases h
 |p::m,h=>by
  unfold Bh at h;unfold B0;split
  ·rfl
  ·rename_i hp;rw[if_neg hp]at h;simp[P5 h]
theorem Ap.fst{α β γ:Type}{R:α→γ→Prop}:∀{m m':List (α×β)} {ks:List γ},m.map (·.1)=m'.map (·.1)→Ap (fun x c=>R x.1 c) m ks→Ap (fun x c=>R x.1 c) m' ks
 | [],[],_,_,h=>h
 | [],_::_,_,e,_=>by cases e
 |_::_,[],_,e,_=>by cases e
 |p::m,p'::m',ks,e,h=>by
  simp only[List.map_cons,List.cons.injEq]at e;obtain⟨c,ks',rfl,h1,h2⟩:=h;exact⟨c,ks',rfl,(by show R p'.1 c;rw[←e.1];exact h1),Ap.fst e.2 h2⟩
theorem Hb{bt:Option TypeId}{id nb off:Nat}{fo:HS Γ→DK (.box nb bt)}{cs:List SV}{k:EK}{x:DK k}{sv:SV}(hr:Rep Γ ρ st)(ho:get Γ (.o id)=some ⟨.box nb bt,fo⟩)(hl:cs.length=nb)(hcs:∀j q,j<nb→get Γ (.c id j)=some q→∃sv,cs[j]? =some sv∧RS q.1 (q.2 ρ) sv)
  (hoff:off<nb) (hs:RS k x sv):Rep ((.c id off,k)::Γ) (x,ρ) {st with ob:=upd st.ob id (.box (cs.set off sv) bt)}:=by
 refine Rep.turnCells hr (Γc:=(.c id off,k)::Γ) (ρc:=(x,ρ)) (fun p q hq=> ?_) ho (cs:=cs.set off sv) (by simp[hl]) fun j q hj hq=> ?_
 ·by_cases hp:Key.c id off=p
  ·exact .inl ⟨off,hp.symm⟩
  ·obtain⟨f,hf,e⟩:=Ce hp hq;exact .inr ⟨f,hf,e _⟩
 ·by_cases hjo:off=j
  ·subst hjo;rw[C7]at hq;cases hq;exact⟨sv,by simp[List.getElem?_set];omega,hs⟩
  ·obtain⟨f,hf,e'⟩:=Ce (by simpa using hjo) hq;obtain⟨sv',h6,h7⟩:=hcs j _ hj hf;exact⟨sv',by simp[hjo,h6],(e' _)▸h7⟩
theorem Rep.newObjS{d id:Nat}{k ko:EK}{x:DK k}{y:DK ko}{v:SV}{o:Ob}(h:Rep Γ ρ st)(ho:RO Γ ρ id ko y o)(hs:RS k x v):
  Rep ((.s d,k)::(.o id,ko)::Γ) (x,y,ρ) {fr:=upd st.fr d v,ob:=upd st.ob id o}:=by
 have h1:=Rep.turnObj h ho;have h2:=Rep.set h1 (d:=d) hs;exact h2
theorem Tm{id:Nat}{t:Ty}{o nb:Nat}{cs:List SV}(hcs:∀j q,j<nb→get Γ (.c id j)=some q→∃sv,cs[j]? =some sv∧RS q.1 (q.2 ρ) sv){i:Nat}{y:D t}{c:CV}(hc:Can t y [c]):∀{n j:Nat} {p:Σ Γ':TC,HS Γ→Nat→D t→HS Γ'},Jv Γ id t o n j=some p→o+j+n≤nb→
  CK id Γ ρ p.1 (p.2 ρ i y)∧∀j' q,get p.1 (.c id j')=some q→(o+j≤j'∧j'<o+j+n∧∃sv,(if j'=o+i then some (.c c)else cs[j']?)=some sv∧RS q.1 (q.2 (p.2 ρ i y)) sv)∨((j'<o+j∨o+j+n≤j')∧∃f,get Γ (.c id j')=some ⟨q.1,f⟩∧q.2 (p.2 ρ i y)=f ρ)
 |0,j,p,h,_=>by
  simp only[Jv,Ac]at h;subst h;exact⟨CK.refl id,fun j' q hq=>.inr ⟨by omega,q.2,hq,rfl⟩⟩
 |n+1,j,p,h,hb=>by
  simp only[Jv]at h;split at h<;>(try cases h;done);rename_i u f p' hf hp';split at h<;>(try cases h;done);rename_i hu;subst hu;cases h;obtain⟨g1,g2⟩:=Tm hcs hc hp' (by omega);refine⟨fun k q hq=> ?_,fun j' q hq=> ?_⟩
  ·by_cases hk:Key.c id (o+j)=k
   ·exact .inl ⟨_,hk.symm⟩
   ·obtain⟨f',hf',e⟩:=Ce hk hq;rcases g1 _ _ hf' with hh|⟨f2,hf2,e2⟩
    ·exact .inl hh
    ·exact .inr ⟨f2,hf2,(e _).trans e2⟩
  ·by_cases hj:j'=o+j
   ·subst hj;rw[C7]at hq;cases hq;refine .inl ⟨by omega,by omega, ?_⟩;by_cases hi:i=j
    ·subst hi;refine⟨.c c,by simp,c,rfl, ?_⟩;simpa using hc
    ·obtain⟨sv,h1,h2⟩:=hcs (o+j) _ (by omega) hf;refine⟨sv,by rw[if_neg (by omega)];exact h1, ?_⟩;simp only[hi,if_false];exact h2
   ·obtain⟨f',hf',e⟩:=Ce (by simpa using Ne.symm hj) hq;rcases g2 j' _ hf' with⟨k1,k2,sv,k3,k4⟩|⟨k1,f2,k2,k3⟩
    ·exact .inl ⟨by omega,by omega,sv,k3,(e _)▸k4⟩
    ·exact .inr ⟨by omega,f2,k2,(e _).trans k3⟩
theorem XW(hr:Rep Γ ρ st){d:Option Nat}{op:SOp}{o:OpD Γ}{b:o.B}(h:FO X Γ d op=some o)(hb:o.d.val ρ=some b):∃st',AY d (so X.G st.fr) st op=some st'∧Rep o.Γ' (o.up ρ b) st':=by
 cases op<;>(try cases h;done)
 case store n a x=>
  simp only[FO]at h;split at h<;>(try cases h;done)
  ·rename_i id off fa ha;have ha':deref st.ob (so X.G st.fr a)=.ptr id off:=Fn ha hr (fun _ _=>rfl) (a:=fa ρ) rfl rfl;split at h<;>(try cases h;done);rename_i nb fo ho;obtain⟨cs,e,hl,hcs⟩:=hr.o id _ ho;split at h<;>(try cases h;done)
   ·rename_i r ex hx;split at h<;>(try cases h;done);rename_i m p hm hp;split at h<;>(try cases h;done);rename_i hh;cases h;obtain⟨c,e1,e2⟩:=Bc hx hr hb;unfold Can at e2;obtain⟨l,e3,e2⟩:=e2;cases e3;have hlen:=Ew hm e2;obtain⟨h1,h2⟩:=Ji (ρ:=ρ) hp e2;refine⟨_, ?_,Rep.turnCells hr h1 ho (cs:=Fq cs off (l.map .c)) ?_ fun j q hj hq=> ?_⟩
    ·simp only[AY,ha',e,e1];rw[if_pos ⟨by omega,by omega,NZ hh.2.2 e2⟩]
    ·simp[Fq];omega
    ·rcases h2 j q hq with⟨h3,c,h4,h5⟩|⟨h3,f,h4,h5⟩
     ·have hjl:=(Ae.1 h4).1;refine⟨.c c, ?_,h5⟩;simp only[Fq];rw[List.append_assoc,List.getElem?_append_right (by simp;omega),List.getElem?_append_left (by simp;omega)];have:j-(cs.take off).length=j-off:=by simp;omega
      rw[this,List.getElem?_map,h4];rfl
     ·obtain⟨sv,h6,h7⟩:=hcs j _ hj h4;refine⟨sv, ?_,h5▸h7⟩;simp only[Fq];rcases h3 with h3|h3
      ·rw[List.append_assoc,List.getElem?_append_left (by simp;omega),List.getElem?_take_of_lt h3,h6]
      ·rw[List.getElem?_append_right (by simp;omega),List.getElem?_drop];have:off+(l.map SV.c).length+(j-(cs.take off++l.map SV.c).length)=j:=by simp;omega
       rw[this,h6]
   ·rename_i t ex hna hx;split at h<;>(try cases h;done);rename_i hh;cases h;obtain⟨c,e1,e2⟩:=Bc hx hr hb;have ho1:=FN hh.2.2 e2;refine⟨_, ?_,Hb hr ho hl hcs hh.2.1 (k:=.v t) (x:=b) (sv:=.c c) ⟨c,rfl,e2⟩⟩;simp only[AY,ha',e,e1]
    cases c<;>first
     |(simp[Cw]at ho1;done)
     |(exact if_pos ⟨hh.1,by omega,ho1⟩)
   ·rename_i i fx hx;split at h<;>(try cases h;done);rename_i hh;cases h;have e1:so X.G st.fr x=.osl i:=Bc hx hr (a:=fx ρ) rfl;refine⟨_, ?_,Hb hr ho hl hcs hh.2 (k:=.own i) (x:=()) (sv:=.osl i) rfl⟩;simp only[AY,ha',e,e1];exact if_pos ⟨hh.1,by omega,rfl⟩
   ·rename_i i fx hx;split at h<;>(try cases h;done);rename_i hh;cases h;have e1:so X.G st.fr x=.omap i:=Bc hx hr (a:=fx ρ) rfl;refine⟨_, ?_,Hb hr ho hl hcs hh.2 (k:=.mp i) (x:=()) (sv:=.omap i) rfl⟩;simp only[AY,ha',e,e1];exact if_pos ⟨hh.1,by omega,rfl⟩
  ·rename_i id len off di ha;split at h<;>(try cases h;done);rename_i nb fo ho;obtain⟨cs,e,hl,hcs⟩:=hr.o id _ ho;split at h<;>(try cases h;done);rename_i t ex hx;split at h<;>(try cases h;done);rename_i p hp;split at h<;>(try cases h;done);rename_i hh;obtain⟨hn,hbd,hone⟩:=hh;cases h;obtain⟨h3,h4⟩:=Dyn.both_val hb;obtain⟨ha',hi⟩:=Fn (rd:=st.ob) ha hr (fun _ _=>rfl) h3 rfl
   have hlt:off+b.1<cs.length:=by
    have:b.1<len:=hi;rw[hl];exact Nat.lt_of_lt_of_le (Nat.add_lt_add_left this off) hbd
   obtain⟨c,e1,e2⟩:=A5 (G:=X.G) hx hr h4;have ho1:=FN hone e2;obtain⟨h1,h2⟩:=Tm (i:=b.1) hcs e2 hp (by omega);refine⟨_, ?_,Rep.turnCells hr h1 ho (cs:=cs.set (off+b.1) (.c c)) (by simpa using hl) fun j q hj hq=> ?_⟩
   ·simp only[AY,ha',e,e1]
    cases c<;>first
     |(simp[Cw]at ho1;done)
     |(exact if_pos ⟨hn,hlt,ho1⟩)
   ·rcases h2 j q hq with⟨_,_,sv,h6,h7⟩|⟨h5,f,h6,h7⟩
    ·refine⟨sv, ?_,h7⟩;rw[←h6,List.getElem?_set];by_cases hji:j=off+b.1
     ·subst hji;rw[if_pos rfl,if_pos hlt,if_pos rfl]
     ·rw[if_neg (Ne.symm hji),if_neg hji]
    ·obtain⟨sv,h8,h9⟩:=hcs j _ hj h6;refine⟨sv, ?_,h7▸h9⟩;rw[List.getElem?_set_ne (by have:b.1<len:=hi;omega)];exact h8
  ·rename_i id size off di ha;split at h<;>(try cases h;done);rename_i e' sz t xs ho;split at h<;>(try cases h;done);rename_i u dx hx;split at h<;>(try cases h;done);rename_i g hg;split at h<;>(try cases h;done);rename_i hh;obtain⟨hsz,hn,hv,hlt,hone⟩:=hh;cases h;obtain⟨w,h1,h2⟩:=Dyn.comp_val hb;obtain⟨p,h3,h4⟩:=Dyn.map_val h1;obtain⟨h5,h6⟩:=Dyn.both_val h3;have h2':w=some b:=h2;rw[h2']at h4;obtain⟨el,h7,h8⟩:=Aa.1 h4.symm;have ha':deref st.ob (so X.G st.fr a)=.eptr id p.1 size off:=Fn ha hr (fun _ _=>rfl) h5 rfl;obtain⟨c,e1,e2⟩:=A5 (G:=X.G) hx hr h6;obtain⟨es,e,hes⟩:=hr.o id _ ho;obtain⟨c0,h9,h10⟩:=hes.get h7;obtain⟨g1,g2,g3⟩:=Yp hg hv h10 e2
   have hob:c.cells.all Cw=true:=by
    unfold HE at hg
    cases hu:u.val with
    |true=>exact NZ hone (FT hu e2)
    |false=>
     exfalso;split at hg
     ·split at hg<;>(try cases hg;done);split at hg<;>(try cases hg;done);split at hg<;>(try cases hg;done);rename_i hh;rw[hu]at hh;cases hh.2
     ·split at hg<;>(try cases hg;done);rename_i hh;have:=hh.2.2;cases u<;>first|(cases hu;done)|(cases this;done)|(simp only[Ty.val]at hu;simp only[E1]at this;rw[hu]at this;cases this;done)
   refine⟨_, ?_,Rep.turnObj hr (k:=.arr e' sz t) (y:=b) ⟨es.set p.1 (Fl c0 off n c),rfl,h8▸hes.set p.1 g3⟩⟩;simp only[AY,ha',e,e1];rw[if_pos ⟨hsz,hn,g1,hob⟩,h9,Option.bind_some,if_pos g2]
  ·rename_i da ha;split at h<;>(try cases h;done);rename_i dx hx;split at h<;>(try cases h;done);rename_i hn;cases h;obtain⟨p,h1,h2⟩:=Dyn.comp_val hb;obtain⟨h3,h4⟩:=Dyn.both_val h1;obtain⟨c,e1,e2⟩:=Fn (rd:=st.ob) ha hr (fun _ _=>rfl) h3 rfl;unfold Can at e2;obtain⟨l,e3,e2⟩:=e2;cases e3;unfold Can at e2;obtain⟨c',rfl,e2⟩:=e2;unfold Can at e2;cases e2;obtain⟨c2,g1,g2⟩:=A5 (G:=X.G) hx hr h4;unfold Can at g2;cases g2;simp only[Dyn.val,Ad]at h2;obtain⟨h5,_⟩:=h2;refine⟨st, ?_,hr⟩;simp only[AY,e1,g1];exact if_pos ⟨hn,h5⟩
 case append e size bytes x y=>
  simp only[FO]at h;split at h<;>(try cases h;done)
  ·rename_i id fx hx;split at h<;>(try cases h;done);rename_i e' size' t xs ho;split at h<;>(try cases h;done);rename_i l d' hl;split at h<;>(try cases h;done);rename_i hh;obtain⟨he,hs,hv,hlr,hone⟩:=hh;cases h;have hx':so X.G st.fr x=.osl id:=Bc hx hr (a:=fx ρ) rfl;obtain⟨w,h1,h2⟩:=Dyn.comp_val hb;obtain⟨ys,h3,h4⟩:=Dyn.map_val h1;have h2':w=some b:=h2;rw[h2']at h4;split at h4<;>(try cases h4;done);rename_i hc;cases h4;obtain⟨news,h5,h6⟩:=NP hr (G:=X.G) hl h3;obtain⟨es,e0,hes⟩:=hr.o id _ ho;have hall:=JS hv hlr hone h6;have hl1:=hes.length;have hl2:=h6.length;refine⟨_, ?_,Rep.newObjS (hr.kill [id]) (k:=.own id) (ko:=.arr e size t) (x:=()) (y:=xs ρ++ys) (v:=.osl id) (o:=.arr e size (es++news)) ⟨_,rfl,hes.append h6⟩ rfl⟩;simp only[AY,h5,hall,if_true,hx',e0];rw[if_pos ⟨he,hs,by rw[hl1,hl2];exact N5 (by rw[Int.natCast_mul,Int.natCast_add]) hc.1,by rw[hl1,hl2];exact N6 (by rw[Int.natCast_add]) hc.2⟩];rfl
  ·rename_i fx hx;split at h<;>(try cases h;done);rename_i t ht;split at h<;>(try cases h;done);rename_i l d' hl;split at h<;>(try cases h;done);rename_i hh;obtain⟨hv,hlr,hone⟩:=hh;cases h;obtain⟨c,hx',hcx⟩:=Bc hx hr (a:=fx ρ) rfl;unfold Can at hcx;cases hcx;obtain⟨ys,h1,h2⟩:=Dyn.comp_val hb;simp only[Dyn.val]at h2;split at h2<;>(try cases h2;done);rename_i hc;cases h2;obtain⟨news,h5,h6⟩:=NP hr (G:=X.G) hl h1;have hall:=JS hv hlr hone h6;have hl2:=h6.length;refine⟨_, ?_,Rep.newObjS (hr.kill [d']) (k:=.own d') (ko:=.arr e size t) (x:=()) (y:=b) (v:=.osl d') (o:=.arr e size news) ⟨_,rfl,h6⟩ rfl⟩;simp only[AY,h5,hall,if_true,hx'];rw[if_pos ⟨by rw[hl2];exact N5 (by rw[Int.natCast_mul]) hc.1,by rw[hl2];exact N6 rfl hc.2⟩]
 case cpy e size x y=>
  simp only[FO]at h;split at h<;>(try cases h;done);rename_i id fx hx;split at h<;>(try cases h;done);rename_i e' size' t xs ho;split at h<;>(try cases h;done);rename_i l d' hl;split at h<;>(try cases h;done);rename_i hh;obtain⟨he,hs,hv,hlr,hone⟩:=hh;cases h;have hx':so X.G st.fr x=.osl id:=Bc hx hr (a:=fx ρ) rfl;obtain⟨news,h5,h6⟩:=NP hr (G:=X.G) hl hb;obtain⟨es,e0,hes⟩:=hr.o id _ ho;have hall:=JS hv hlr hone h6;have hl1:=hes.length;have hl2:=h6.length;have e1:min news.length es.length=min b.length (xs ρ).length:=by rw[hl1,hl2]
  refine⟨_, ?_,Rep.newObjS hr (d:=d') (k:=.v (.int .i64)) (ko:=.arr e size t) (x:=((min b.length (xs ρ).length:Nat):Int)) (y:=b.take (min b.length (xs ρ).length)++(xs ρ).drop (min b.length (xs ρ).length)) (v:=.c (.int .i64 ((min news.length es.length:Nat):Int))) (o:=.arr e size (news.take (min news.length es.length)++es.drop (min news.length es.length))) ⟨_,rfl,by rw[e1];exact(h6.take _).append (hes.drop _)⟩ ⟨_,rfl,by rw[e1];unfold Can;rfl⟩⟩;simp only[AY,h5,hx',e0];rw[if_pos ⟨⟨he,hs⟩,hall⟩];rfl
 case mapent mt x k=>
  simp only[FO]at h;split at h<;>(try cases h;done);rename_i id fx q d' hx hk;split at h<;>(try cases h;done);rename_i mt' kt vt m ho;split at h<;>(try cases h;done);rename_i g hg;split at h<;>(try cases h;done);rename_i hh;obtain⟨hm,hp⟩:=hh;cases h;have hx':so X.G st.fr x=.omap id:=Bc hx hr (a:=fx ρ) rfl;dsimp only at hb;obtain⟨y,h1,h2⟩:=Dyn.map_val hb;obtain⟨ck,e1,e2⟩:=A5 (G:=X.G) hk hr h1;have e3:=Co _ _ hg e2;obtain⟨z,ks,vs,e0,hz,hks,hvs⟩:=hr.o id _ ho;obtain⟨cv,l1,l2⟩:=Lc hp e3 hz hks hvs;obtain⟨i1,i2⟩:=KK hp e3 l2 hks hvs;subst h2;refine⟨_, ?_,Rep.newObjS hr (k:=.ent id kt vt) (ko:=.mob mt kt vt) (x:=_) (y:=_) (v:=.ent id ck cv) (o:=.map mt (ktT kt) z (Bk (ktT kt) ks ck) (Bl (ktT kt) ks vs ck cv)) ⟨z,_,_,rfl,hz,i1,i2⟩ ⟨ck,cv,rfl,e3,l2⟩⟩;simp only[AY,hx',e1,e0];rw[if_pos ⟨hm,(Gt hp e3 e3).2,by rw[hks.length,hvs.length]⟩];simp only[l1,St.set,hm]
 case entst x s v=>
  simp only[FO]at h;split at h<;>(try cases h;done);rename_i id fx id' kt fs q hx hs hv;split at h<;>(try cases h;done);rename_i mt kt' vt m ho;split at h<;>(try cases h;done);rename_i g hg;split at h<;>(try cases h;done);rename_i hk;subst hk;split at h<;>(try cases h;done);rename_i hh;obtain⟨hid,hp⟩:=hh;subst hid;cases h;have hx':so X.G st.fr x=.omap id:=Bc hx hr (a:=fx ρ) rfl;obtain⟨ck,hs',hck⟩:=Bc hs hr (a:=fs ρ) rfl;obtain⟨w,h1,h2⟩:=Dyn.comp_val hb;obtain⟨y,h3,h4⟩:=Dyn.map_val h1;have h2':w=some b:=h2;rw[h2']at h4;split at h4<;>(try cases h4;done);rename_i hkey;cases h4;obtain⟨cv,e1,e2⟩:=A5 (G:=X.G) hv hr h3;have e3:=Co _ _ hg e2;obtain⟨z,ks,vs,e0,hz,hks,hvs⟩:=hr.o id _ ho;obtain⟨i1,i2⟩:=KK hp hck e3 hks hvs;refine⟨_, ?_,Rep.turnObj hr (k:=.mob mt kt vt) (y:=B0 (eqZ kt) (fs ρ) (g y) (m ρ)) ⟨z,ks,Bl (ktT kt) ks vs ck cv,rfl,hz,Ap.fst (R:=fun k c=>Can kt k [c]) (P5 hkey).symm hks,i2⟩⟩;simp only[AY,hx',hs',e1,e0,if_true]
 case mapupd mt x k v=>
  simp only[FO]at h;split at h<;>(try cases h;done);rename_i id fx q p hx hk hv;split at h<;>(try cases h;done);rename_i mt' kt vt m ho;split at h<;>(try cases h;done);rename_i g f hg hf;split at h<;>(try cases h;done);rename_i hh;obtain⟨hm,hp⟩:=hh;cases h;have hx':so X.G st.fr x=.omap id:=Bc hx hr (a:=fx ρ) rfl;dsimp only at hb;obtain⟨y,h1,h2⟩:=Dyn.map_val hb;obtain⟨h3,h4⟩:=Dyn.both_val h1;obtain⟨ck,e1,e2⟩:=A5 (G:=X.G) hk hr h3;obtain⟨cv,e1',e2'⟩:=A5 (G:=X.G) hv hr h4;have e3:=Co _ _ hg e2;have e3':=Co _ _ hf e2';obtain⟨z,ks,vs,e0,hz,hks,hvs⟩:=hr.o id _ ho;obtain⟨i1,i2⟩:=KK hp e3 e3' hks hvs;refine⟨_, ?_,Rep.turnObj hr (k:=.mob mt kt vt) (y:=b) ⟨z,Bk (ktT kt) ks ck,Bl (ktT kt) ks vs ck cv,rfl,hz,h2▸i1,h2▸i2⟩⟩;simp only[AY,hx',e1,e1',e0];rw[if_pos ⟨hm,(Gt hp e3 e3).2⟩,hm]
theorem XV(hT:TOk X E)(hr:Rep Γ ρ st){d:Option Nat}{op:SOp}{o:OpD Γ}{b:o.B}(h:Oc X Γ d op=some o)(hb:o.d.val ρ=some b)(rd:Nat→Ob):∃st',A4 E rd st d op=some st'∧Rep o.Γ' (o.up ρ b) st':=by
 unfold Oc at h;split at h<;>(try cases h;done);rename_i f x y;split at h<;>(try cases h;done);rename_i hcp;split at h<;>(try cases h;done);rename_i id fx ut q d hx hy;split at h<;>(try cases h;done);rename_i mt vt m ho;split at h<;>(try cases h;done);rename_i g hg;cases h;have hx':so X.G st.fr x=.omap id:=Bc hx hr (a:=fx ρ) rfl;obtain⟨w,h1,h2⟩:=Dyn.comp_val hb;obtain⟨yv,h3,h4⟩:=Dyn.map_val h1;have h2':w=some b:=h2;rw[h2']at h4;have h5:NK (m ρ) (g yv)=some b:=h4.symm;unfold NK at h5;split at h5<;>(try cases h5;done);rename_i hcond;obtain⟨c1,c2,c3⟩:=hcond;simp only[Ac]at h5;obtain⟨cv,e1,e2⟩:=A5 (G:=X.G) hy hr h3;have e3:=Co _ _ hg e2;obtain⟨z,ks,vs,e0,hz,hks,hvs⟩:=hr.o id _ ho;have hm:m ρ= []:=List.isEmpty_iff.1 c1;replace hks:Ap (fun(x:List UInt8×D vt) c=>Can .str x.1 [c]) (m ρ) ks:=hks;replace hvs:Ap (fun(x:List UInt8×D vt) c=>Can vt x.2 [c]) (m ρ) vs:=hvs;rw[hm]at hks hvs;unfold Ap at hks hvs;subst hks;subst hvs;unfold Can at e3;obtain⟨nl,ks,us,e4,k1,k2⟩:=e3;cases e4
 have key:∀(l:List (List UInt8×D vt)) (ks:List CV),Ap (fun x c=>Can .str x.1 [c]) l ks→(l.all fun p=>decide (p.1.length≤9223372036854775807))=true→ks.all GS=true:=by
  intro l
  induction l with
  |nil=>intro ks h _;unfold Ap at h;subst h;rfl
  |cons p l ih=>
   intro ks h hl;obtain⟨c,ks',rfl,q1,q2⟩:=h;simp only[List.all_cons,Af]at hl⊢;unfold Can at q1;cases q1;exact⟨hl.1,ih ks' q2 hl.2⟩
 have kl:ks.length≤9223372036854775807:=by rw[k1.length];exact c3
 subst h5;refine⟨_, ?_,Rep.set (Rep.turnObj hr (k:=.mob mt .str vt) (y:=g yv) ⟨z,ks,us,rfl,hz,k1,k2⟩) (k:=.v (.tup .nil)) (x:=()) ⟨.tup [],rfl,by unfold Can;exact⟨[],rfl,by unfold Can;rfl⟩⟩⟩;have hcp':E.cp f=true:=by rw[hT.cp];exact hcp
 have e0':st.ob id=.map mt .str z [] []:=e0;show F8 E (so E.G st.fr) st (some d) f x y=_;unfold F8;rw[if_pos hcp',hT.G,hx',e1];dsimp only;rw[e0'];dsimp only;rw[if_pos ⟨key _ _ k1 c2,kl⟩];rfl
end
def Ni:CV→Bool
 | .bool _| .tup []=>true
 |_=>false
def Et:Ob→Bool
 | .miter _ _ _=>true
 |_=>false
structure Kp (st s:St):Prop where
 fix:∀(i:Nat) (c:CV),Ni c=true→st.fr i=.c c→s.fr i=.c c
 it:∀id,Et (s.ob id)=true→s.ob id=st.ob id
theorem Kp.refl(st:St):Kp st st:=⟨fun _ _ _ h=>h,fun _ _=>rfl⟩
theorem Kp.trans{s t u:St}(h:Kp s t)(k:Kp t u):Kp s u:=⟨fun i c hc h0=>k.fix i c hc (h.fix i c hc h0),fun id hi=>by
 have e:=k.it id hi;rw[e]
 exact h.it id (e▸hi)⟩
def Av(le:Dm)(st st':St):Prop:=(∀{P:Program} {G:Nat→List CV} {w0:WL} {M0:MM} {n:Nat} {a:Act} {w:World} {z:Cz},w0.le=le→SR P G w0 M0 n st a w z→∃z',SR P G w0 M0 n st' a w z')∧
 Kp st st'
variable {le:Dm}
theorem Av.refl(st:St):Av le st st:=⟨fun _ h=>⟨_,h⟩,Kp.refl st⟩
theorem Av.trans{s t u:St}(h:Av le s t)(k:Av le t u):Av le s u:=⟨fun he hs=>by
 obtain⟨z',h1⟩:=h.1 he hs
 exact k.1 he h1,h.2.trans k.2⟩
theorem II{st:St}{ids:List Nat}{i:Nat}{c:CV}(h:st.fr i=.c c):(WB.kill ids st).fr i=.c c:=by
 show Au ids (st.fr i)=_;rw[h];rfl
theorem Mo{fr:Nat→SV}{j i:Nat}{c:CV}{v:SV}(h:fr i=.c c)(hj:fr j≠ .c c):upd fr j v i=.c c:=by
 by_cases e:i=j
 ·subst e;exact absurd h hj
 ·rw[A0 _ _ e];exact h
theorem Rs{D:List Nat}{o:Ob}(h:Et (BZ D o)=true):BZ D o=o:=by cases o<;>first|rfl|cases h
theorem G4{st:St}{ids:List Nat}{id:Nat}(h:Et ((WB.kill ids st).ob id)=true):(WB.kill ids st).ob id=st.ob id:=by
 unfold WB.kill at h⊢;simp only at h⊢;split
 ·rename_i hh;rw[if_pos hh]at h;cases h
 ·rename_i hh;rw[if_neg hh]at h;exact Rs h
theorem Ft{ob:Nat→Ob}{j id:Nat}{o:Ob}(ho:Et o=false)(h:Et (upd ob j o id)=true):upd ob j o id=ob id:=by
 by_cases e:id=j
 ·subst e;rw[AZ,ho]at h;cases h
 ·rw[A0 _ _ e]
theorem Av.kill(st:St)(ids:List Nat):Av le st (WB.kill ids st):=⟨fun _ h=>⟨_,h.killed ids⟩,fun _ _ _ h=>II h,fun _ h=>G4 h⟩
section
variable {P:Program} {G:Nat→List CV} {w0:WL} {M0:MM} {n:Nat} {st:St} {a:Act} {w:World} {z:Cz}
theorem SR.reslot(h:SR P G w0 M0 n st a w z){i:Nat}{sv:SV}(hs:Ar w (Ao M0 z st.ob) z st.ob sv (a.tmps.getD i undef)):SR P G w0 M0 n {st with fr:=upd st.fr i sv} a w z:=by
 refine⟨h.size,h.defers,h.below,h.outer,h.nam,h.glob,fun j=> ?_,h.ob,h.lo,h.apart⟩;show Ar w _ z st.ob (upd st.fr i sv j) _;by_cases hj:j=i
 ·subst hj;rw[AZ];exact hs
 ·rw[A0 _ _ hj];exact h.fr j
theorem SR.reob(h:SR P G w0 M0 n st a w z){b:Nat}{o:Ob}(hl:st.ob b≠ .none)(hl':o≠ .none)(hbox:∀{bt} cs',o=.box cs' bt→∃cs bt',st.ob b=.box cs bt')(ho:Bf P w (Ao M0 z st.ob) 0 z st.ob b (z.σ b) o):SR P G w0 M0 n {st with ob:=upd st.ob b o} a w z:=by
 have live:∀id,upd st.ob b o id≠ .none↔st.ob id≠ .none:=by
  intro id;by_cases hid:id=b
  ·subst hid;simp[AZ,hl,hl']
  ·rw[A0 _ _ hid]
 have hm:∀g,Ao M0 z (upd st.ob b o) g→Ao M0 z st.ob g:=fun g hg=>Or.imp id (fun⟨id,h1,h2⟩=>⟨id,(live id).1 h1,h2⟩) hg;have hk:Br w (Ao M0 z st.ob) w (Ao M0 z (upd st.ob b o)):=⟨Nat.le_refl _,fun _ _ _=>rfl,fun g _ hg=>hm g hg,rfl⟩;have hz:∀s,E8 st.ob z (upd st.ob b o) z s:=fun s=>⟨fun id _ hh=>(live id).2 hh,fun _ _ _=>rfl,fun _ _ _ _ _ hh=>hh⟩
 have hn:Gc w0 M0 n z (upd st.ob b o):=h.nam.of rfl fun N cs' hN hc=>by
  by_cases hNb:N=b
  ·subst hNb;rw[AZ]at hc;obtain⟨cs,_,e⟩:=hbox cs' hc;exact⟨cs,_,e,rfl⟩
  ·rw[A0 _ _ hNb]at hc;exact⟨cs',_,hc,rfl⟩
 refine⟨h.size,h.defers,h.below,h.outer,hn,h.glob,fun i=>Ar.keep hk (hz _) (h.fr i),fun id=> ?_,fun id g h1 h2=>h.lo id g ((live id).1 h1) h2,fun i j g hij h1 h2=>h.apart i j g hij ((live i).1 h1) ((live j).1 h2)⟩;show Bf P w _ _ z (upd st.ob b o) id (z.σ id) (upd st.ob b o id);by_cases hid:id=b
 ·subst hid;rw[AZ];exact Bf.keep hk (fun _ _=>rfl) (fun _ _ _ _=>hz _) (fun _ _ hh=>hh) ho
 ·rw[A0 _ _ hid];exact Bf.keep hk (fun _ _=>rfl) (fun _ _ _ _=>hz _) (fun _ _ hh=>hh) (h.ob id)
def Ll(o:Ob):Prop:=(o≠ .none∧(∀cs bt,o≠ .box cs bt)∧Et o=false)∧∀(P:Program) (w:World) (M:MM) (z:Cz) (ob:Nat→Ob) (id:Nat),Bf P w M 0 z ob id (.slice none 0 0) o
theorem RX{e size:Nat}:Ll (.arr e size []):=⟨⟨fun h=>(by cases h),fun _ _ h=>(by cases h),rfl⟩,fun _ _ _ _ _ _=>⟨[],⟨by simp,.inl ⟨rfl,rfl⟩⟩,rfl⟩⟩
theorem XK{e:Nat}:Ll (.buf e []):=⟨⟨fun h=>(by cases h),fun _ _ h=>(by cases h),rfl⟩,fun _ _ _ _ _ _=>⟨by simp[Lib.byteCells],.inl ⟨rfl,rfl⟩⟩⟩
theorem SR.newNil(h:SR P G w0 M0 n st a w z){id:Nat}{o0:Ob}(h0:Ll o0)(hn:st.ob id=.none):SR P G w0 M0 n {st with ob:=upd st.ob id o0} a w (z.new id (.slice none 0 0)):=by
 have hk:=KR (M0:=M0) (z:=z) (d:=id) (v:=.slice none 0 0) (o:=o0) (w:=w) (w':=w) hn (Below.refl _ _) (fun g hg=>by cases hg)
 have hnm:Gc w0 M0 n (z.new id (.slice none 0 0)) (upd st.ob id o0):=h.nam.of rfl fun N cs' hN hc=>by
  by_cases hNb:N=id
  ·subst hNb;rw[AZ]at hc;exact absurd hc (h0.1.2.1 _ _)
  ·rw[A0 _ _ hNb]at hc;exact⟨cs',_,hc,by simp[Cz.new,upd,hNb]⟩
 refine⟨h.size,h.defers,h.below,h.outer,hnm,h.glob,fun i=>Ar.keep hk (IH hn _) (h.fr i),fun i=> ?_,fun i g h1 h2=> ?_,fun i j g hij h1 h2 h3 h4=> ?_⟩
 ·show Bf P w _ _ _ (upd st.ob id _) i _ (upd st.ob id _ i);by_cases hi:i=id
  ·subst hi;rw[AZ];have:(z.new i (.slice none 0 0)).σ i=.slice none 0 0:=by simp[Cz.new,upd]
   rw[this];exact h0.2 _ _ _ _ _ _
  ·rw[A0 _ _ hi];have e1:(z.new id (.slice none 0 0)).σ i=z.σ i:=by simp[Cz.new,upd,hi]
   rw[e1];by_cases hl:st.ob i=.none
   ·rw[hl];trivial
   ·exact Bf.keep hk (fun g hg=>rfl) (fun _ _ _ _=>IH hn _) (fun k b hh=>by simpa[Cz.new,hi]using hh) (h.ob i)
 ·by_cases hi:i=id
  ·subst hi;simp only[Cz.new,AZ]at h2;cases h2
  ·simp only[A0 _ _ hi]at h1;simp only[Cz.new,A0 _ _ hi]at h2;exact h.lo i g h1 h2
 ·by_cases hi:i=id
  ·subst hi;simp only[Cz.new,AZ]at h3;cases h3
  ·by_cases hj:j=id
   ·subst hj;simp only[Cz.new,AZ]at h4;cases h4
   ·simp only[A0 _ _ hi]at h1;simp only[A0 _ _ hj]at h2;simp only[Cz.new,A0 _ _ hi]at h3;simp only[Cz.new,A0 _ _ hj]at h4;exact h.apart i j g hij h1 h2 h3 h4
theorem Rd(h:SR P G w0 M0 n st a w z){id et sz:Nat}(hI:¬w0.le.I id){es:List CV}(hob:st.ob id=.arr et sz es){v:Value}(hv:Ar w (Ao M0 z st.ob) z st.ob (.osl id) v):RelC w (Ao M0 z (kill [id] st).ob) (.sl none es) v:=by
 have hless:∀g,Ao M0 z (kill [id] st).ob g→Ao M0 z st.ob g:=fun g hg=>Or.imp _root_.id Je hg;have hk:Br w (Ao M0 z st.ob) w (Ao M0 z (kill [id] st).ob):=⟨Nat.le_refl _,fun _ _ _=>rfl,fun g _ hg=>hless g hg,rfl⟩;obtain⟨hlive,e⟩:=hv
 have hout:∀g,blk (z.σ id)=some g→¬Ao M0 z (kill [id] st).ob g:=fun g hb hm=>by
  rcases hm with hm|⟨id',hl',hb'⟩
  ·exact h.out hlive hb hI hm
  ·have hl2:=Fi.1 hl';have hne:id≠id':=fun e=>hl2.1 (by simp[e]);exact h.apart id id' g hne hlive hl2.2 hb hb'
 have ho:=h.ob id;rw[hob]at ho;obtain⟨xs,hown,hf⟩:=ho;unfold RelC;rcases hown.2 with⟨e1,e2⟩|⟨g,cap,cur,ty,fz,e1,e2,e3,_,_,e4,e5,e6,e7⟩
 ·refine⟨none,0,0,by rw[e,e1],e2.symm,Nat.le_refl _,(fun hh=>by cases hh),(fun hh=>by cases hh),fun _=>rfl,fun hne=> ?_⟩;exact absurd (List.eq_nil_of_length_eq_zero e2) hne
 ·refine⟨some ⟨g,0,none⟩,es.length,cap,by rw[e,e1],rfl,e4,(fun hh=>by cases hh),(fun hh=>by cases hh),(fun hh=>by cases hh),fun _=>⟨⟨g,0,none⟩,sz,rfl,heap_lt e3,hout g (by rw[e1];rfl), ?_⟩⟩;refine E9 fun k el hel=> ?_;obtain⟨u,g1,g2,g3⟩:=Fw hf hel;refine⟨u,RelC.keep hk _ _ g1,g2,fun j u' hu=> ?_⟩;rw[Do,cell_of_row w g _ cur ty fz e3];have h8:=g3 j u' hu;rw[←e7,List.getElem?_take]at h8;split at h8
  ·simpa using h8
  ·cases h8
theorem P1{ob:Nat→Ob}{M:MM}:∀{cvs:List CV} {vs:List Value},Az w M z ob (cvs.map .c) vs→RelL w M cvs vs
 | [],vs,h=>h
 |c::cvs,vs,h=>by
  obtain⟨v,vs',rfl,h1,h2⟩:=h;exact RelL.cons h1 (P1 h2)
theorem W6{bt:Option TypeId}(h:SR P G w0 M0 n st a w z){id:Nat}(hI:¬w0.le.I id){cvs:List CV}(hob:st.ob id=.box (cvs.map .c) bt){v:Value}(hv:Ar w (Ao M0 z st.ob) z st.ob (.ptr id 0) v):RelC w (Ao M0 z (kill [id] st).ob) (.wp cvs) v:=by
 have hless:∀g,Ao M0 z (kill [id] st).ob g→Ao M0 z st.ob g:=fun g hg=>Or.imp _root_.id Je hg;have hk:Br w (Ao M0 z st.ob) w (Ao M0 z (kill [id] st).ob):=⟨Nat.le_refl _,fun _ _ _=>rfl,fun g _ hg=>hless g hg,rfl⟩;obtain⟨hlive,g0,e0,e⟩:=hv
 have hout:∀g,blk (z.σ id)=some g→¬Ao M0 z (kill [id] st).ob g:=fun g hb hm=>by
  rcases hm with hm|⟨id',hl',hb'⟩
  ·exact h.out hlive hb hI hm
  ·have hl2:=Fi.1 hl';have hne:id≠id':=fun e=>hl2.1 (by simp[e]);exact h.apart id id' g hne hlive hl2.2 hb hb'
 have ho:=h.ob id;rw[hob]at ho;obtain⟨g,ty,vs,e1,e2,e3⟩:=ho;rw[e0]at e1;cases e1;unfold RelC;exact⟨g0,ty.1,vs,e,e2,hout g0 (by rw[e0];rfl),RelL.keep hk _ _ (P1 e3)⟩
theorem W7(h:SR P G w0 M0 n st a w z){id:Nat}(hI:¬w0.le.I id){mt:TypeId}{kt:KT}{zc:CV}{ks vs:List CV}(hob:st.ob id=.map mt kt zc ks vs){v:Value}(hv:Ar w (Ao M0 z st.ob) z st.ob (.omap id) v):RelC w (Ao M0 z (kill [id] st).ob) (.map none ks vs) v:=by
 have hless:∀g,Ao M0 z (kill [id] st).ob g→Ao M0 z st.ob g:=fun g hg=>Or.imp _root_.id Je hg;have hk:Br w (Ao M0 z st.ob) w (Ao M0 z (kill [id] st).ob):=⟨Nat.le_refl _,fun _ _ _=>rfl,fun g _ hg=>hless g hg,rfl⟩;obtain⟨hlive,e⟩:=hv
 have hout:∀g,blk (z.σ id)=some g→¬Ao M0 z (kill [id] st).ob g:=fun g hb hm=>by
  rcases hm with hm|⟨id',hl',hb'⟩
  ·exact h.out hlive hb hI hm
  ·have hl2:=Fi.1 hl';have hne:id≠id':=fun e=>hl2.1 (by simp[e]);exact h.apart id id' g hne hlive hl2.2 hb hb'
 obtain⟨hmt,ks',vs',r,ens,clk,hmp,e1,hh,h1,h2,h3,h4,h5,h6,_⟩:=H5 h hob;obtain⟨ens',hp,h1',h2'⟩:=SG hmp h1 h2;unfold RelC;refine⟨some r,by rw[e,e1],(fun hh=>by cases hh),(fun hh=>by cases hh),(fun hh=>by cases hh),fun b hb=> ?_⟩;cases hb;exact⟨hout r (by rw[e1];rfl),ens,ens',clk,hh,⟨NU h3 h1 h4,h5,h6⟩,hp,RelL.keep hk _ _ h1',RelL.keep hk _ _ h2'⟩
end
theorem RY{w:World}{M:MM}{v:Value}(h:RelC w M (.sl (some true) []) v):v=.slice none 0 0:=by
 unfold RelC at h;obtain⟨a,m,c,rfl,h1,_,h2,_,h3,_⟩:=h;have:=h2 rfl;subst this;have hm:m=0:=by simpa using h1
 subst hm;rw[h3 rfl]
theorem Av.own{st:St}{i id e size:Nat}(hi:st.fr i=.c (.sl (some true) []))(hn:st.ob id=.none):Av le st {fr:=upd st.fr i (.osl id),ob:=upd st.ob id (.arr e size [])}:=by
 refine⟨fun{P G w0 M0 n a w z} he h=> ?_,⟨fun k c hc hk=> ?_,fun k hk=> ?_⟩⟩
 ·have h1:=h.newNil (RX (e:=e) (size:=size)) hn;refine⟨_,h1.reslot (i:=i) (sv:=.osl id) ⟨by simp[upd], ?_⟩⟩;have hr:=h.fr i;rw[hi]at hr;rw[RY hr];simp[Cz.new,upd]
 ·exact Mo hk (by rw[hi];intro e;cases e;cases hc)
 ·exact Ft rfl hk
theorem Az.set{P:Program}{w:World}{M:MM}{z:Cz}{ob:Nat→Ob}:∀{cs:List SV} {vs:List Value} (j:Nat) {s:SV},Az w M z ob cs vs→(∀v,vs[j]? =some v→Ar w M z ob s v)→Az w M z ob (cs.set j s) vs
 | [],_,_,_,h,_=>by simpa using h
 |c::cs,vs,0,s,h,k=>by
  obtain⟨v,vs',rfl,_,h2⟩:=h;exact⟨v,vs',rfl,k v rfl,h2⟩
 |c::cs,vs,j+1,s,h,k=>by
  obtain⟨v,vs',rfl,h1,h2⟩:=h;exact⟨v,vs',rfl,h1,Az.set (P:=P) j h2 (fun u hu=>k u (by simpa using hu))⟩
theorem Av.ownc{bt:Option TypeId}{st:St}{b j id:Nat}{o0:Ob}(h0:Ll o0){cs:List SV}(hb:st.ob b=.box cs bt)(hj:cs[j]? =some (.c (.sl (some true) [])))(hn:st.ob id=.none):Av le st {fr:=st.fr,ob:=upd (upd st.ob id o0) b (.box (cs.set j (.osl id)) bt)}:=by
 refine⟨fun{P G w0 M0 n a w z} he h=> ?_,⟨fun k c hc hk=> ?_,fun k hk=> ?_⟩⟩
 ·have hne:b≠id:=fun e=>by rw[e,hn]at hb;cases hb
  have h1:=h.newNil h0 hn;have ho:=h1.ob b;simp only[A0 _ _ hne,hb]at ho;have ho0:=h.ob b;rw[hb]at ho0;obtain⟨g,ty,vs,e1,e2,e3⟩:=ho;obtain⟨g',ty',vs',e1',e2',e3'⟩:=ho0;have hσ:(z.new id (.slice none 0 0)).σ b=z.σ b:=by simp[Cz.new,upd,hne]
  rw[hσ,e1']at e1;cases e1;rw[e2']at e2;obtain rfl:vs=vs':=by simp only[Ac,Obj.cells.injEq,Array.mk.injEq]at e2;exact e2.1.symm
  refine⟨_,h1.reob (b:=b) (o:=.box (cs.set j (.osl id)) bt) ?_ (by simp) (fun _ _=>⟨cs,bt,by simp only[A0 _ _ hne,hb]⟩) ⟨g,ty',vs,by rw[hσ,e1'],e2',Az.set (P:=P) j e3 fun v hv=>⟨by simp[upd,h0.1.1], ?_⟩⟩⟩
  ·simp only[A0 _ _ hne,hb];simp
  ·obtain⟨v',h3,h4⟩:=Az.get e3' hj;rw[hv]at h3;cases h3;rw[RY h4];simp[Cz.new,upd]
 ·exact hk
 ·have e1:upd (upd st.ob id o0) b (.box (cs.set j (.osl id)) bt) k=upd st.ob id o0 k:=Ft rfl hk;have e2:Et (upd st.ob id o0 k)=true:=e1▸hk;exact e1.trans (Ft h0.1.2.2 e2)
theorem Av.frz{st:St}{i id e size:Nat}{es:List CV}(hI:¬le.I id)(hi:st.fr i=.osl id)(ho:st.ob id=.arr e size es):Av le st {fr:=upd (WB.kill [id] st).fr i (.c (.sl none es)),ob:=(WB.kill [id] st).ob}:=by
 refine⟨fun{P G w0 M0 n a w z} he h=> ?_,⟨fun k c hc hk=> ?_,fun k hk=> ?_⟩⟩
 ·have hr:=h.fr i;rw[hi]at hr;exact⟨z,(h.killed [id]).reslot (Rd h (he▸hI) ho hr)⟩
 ·exact Mo (II hk) (by intro e;have e2:Au [id] (st.fr i)=.c c:=e;rw[hi]at e2;simp[Au]at e2)
 ·exact G4 hk
theorem Av.frzb{bt:Option TypeId}{st:St}{i id:Nat}{cvs:List CV}(hI:¬le.I id)(hi:st.fr i=.ptr id 0)(ho:st.ob id=.box (cvs.map .c) bt):Av le st {fr:=upd (WB.kill [id] st).fr i (.c (.wp cvs)),ob:=(WB.kill [id] st).ob}:=by
 refine⟨fun{P G w0 M0 n a w z} he h=> ?_,⟨fun k c hc hk=> ?_,fun k hk=> ?_⟩⟩
 ·have hr:=h.fr i;rw[hi]at hr;exact⟨z,(h.killed [id]).reslot (W6 h (he▸hI) ho hr)⟩
 ·exact Mo (II hk) (by intro e;have e2:Au [id] (st.fr i)=.c c:=e;rw[hi]at e2;simp[Au]at e2)
 ·exact G4 hk
theorem Av.frzm{st:St}{i id:Nat}{mt:TypeId}{kt:KT}{zc:CV}{ks vs:List CV}(hI:¬le.I id)(hi:st.fr i=.omap id)(ho:st.ob id=.map mt kt zc ks vs):Av le st {fr:=upd (WB.kill [id] st).fr i (.c (.map none ks vs)),ob:=(WB.kill [id] st).ob}:=by
 refine⟨fun{P G w0 M0 n a w z} he h=> ?_,⟨fun k c hc hk=> ?_,fun k hk=> ?_⟩⟩
 ·have hr:=h.fr i;rw[hi]at hr;exact⟨z,(h.killed [id]).reslot (W7 h (he▸hI) ho hr)⟩
 ·exact Mo (II hk) (by intro e;have e2:Au [id] (st.fr i)=.c c:=e;rw[hi]at e2;simp[Au]at e2)
 ·exact G4 hk
theorem Av.frzc{bt:Option TypeId}{st:St}{b j id e size:Nat}{cs:List SV}{es:List CV}(hI:¬le.I id)(hb:st.ob b=.box cs bt)(hj:cs[j]? =some (.osl id))(ho:st.ob id=.arr e size es):Av le st {fr:=(WB.kill [id] st).fr,ob:=upd (WB.kill [id] st).ob b (.box ((cs.map (Au [id])).set j (.c (.sl none es))) bt)}:=by
 refine⟨fun{P G w0 M0 n a w z} he h=> ?_,⟨fun k c hc hk=> ?_,fun k hk=> ?_⟩⟩
 ·have hne:b≠id:=fun e=>by rw[e,ho]at hb;cases hb
  have h1:=h.killed [id];have hkb:(WB.kill [id] st).ob b=.box (cs.map (Au [id])) bt:=by simp[WB.kill,hne,hb,BZ]
  have o1:=h1.ob b;rw[hkb]at o1;have o0:=h.ob b;rw[hb]at o0;obtain⟨g,ty,vs,e1,e2,e3⟩:=o1;obtain⟨g',ty',vs',e1',e2',e3'⟩:=o0;rw[e1']at e1;cases e1;rw[e2']at e2;obtain rfl:vs=vs':=by simp only[Ac,Obj.cells.injEq,Array.mk.injEq]at e2;exact e2.1.symm
  refine⟨z,h1.reob (b:=b) (by rw[hkb];simp) (by simp) (fun _ _=>⟨_,_,hkb⟩) ⟨g,ty',vs,e1',e2',Az.set (P:=P) j e3 fun v hv=> ?_⟩⟩;obtain⟨v',h3,h4⟩:=Az.get e3' hj;rw[hv]at h3;cases h3;exact Rd h (he▸hI) ho h4
 ·exact II hk
 ·have e1:upd (WB.kill [id] st).ob b (.box ((cs.map (Au [id])).set j (.c (.sl none es))) bt) k=(WB.kill [id] st).ob k:=Ft rfl hk;exact e1.trans (G4 (e1▸hk))
def C6(N:Nat):Nat→Bool:=fun N'=>N' !=N
def dropB(d N:Nat)(ob:Nat→Ob)(id:Nat):Bool:=id==d||id==N||(match ob id with
 | .arr _ _ es=> !noNamL (C6 N) es
 | .map _ _ _ ks vs=> !(noNamL (C6 N) ks&&noNamL (C6 N) vs)
 | .miter _ _ _=>true
 |_=>false)
def Bz(p:Nat→Bool)(N:Nat):SV→SV
 | .c v=>if BQ (C6 N) v=true then .c v else .undef
 | .stamp id k=>if p id|| !BQ (C6 N) k then .undef else .stamp id k
 | .ent id k v=>if p id|| !BQ (C6 N) k|| !BQ (C6 N) v then .undef else .ent id k v
 |s=>match s.ref with
  |some id=>if p id then .undef else s
  |none=>s
def FC(p:Nat→Bool)(N:Nat):Ob→Ob
 | .box cs bt=>.box (cs.map (Bz p N)) bt
 |o=>o
def CJ(i d N:Nat)(cs:List SV)(bt:Option TypeId)(st:St):St:=
 {fr:=fun j=>if j=i then .c (.nam N)else Bz (dropB d N st.ob) N (st.fr j)
  ob:=fun id=>if id=N then .box (cs.map (Bz (dropB d N st.ob) N)) bt else if dropB d N st.ob id then .none else FC (dropB d N st.ob) N (st.ob id)}
section
variable {P:Program} {G:Nat→List CV} {w0:WL} {M0:MM} {n:Nat} {st:St} {a:Act} {w:World} {z:Cz}
theorem VI{d N:Nat}{ob:Nat→Ob}{id:Nat}(h:dropB d N ob id=false):id≠d∧id≠N:=by
 simp only[dropB,Bool.or_eq_false_iff,beq_eq_false_iff_ne]at h;exact h.1
theorem SR.tell{bt:Option TypeId}(h:SR P G w0 M0 n st a w z){i d N:Nat}{cs:List SV}(hd:d<As)(hN:As≤N)(hT:¬w0.le.T N)(hI:¬w0.le.I d)(hi:st.fr i=.ptr d 0)(hob:st.ob d=.box cs bt):
  ∃z',SR P G w0 M0 n (CJ i d N cs bt st) a w z':=by
 have ho:=h.ob d;rw[hob]at ho;obtain⟨g,ty,vs,e1,e2,e3⟩:=ho;have hlive:st.ob d≠ .none:=by rw[hob];simp
 have hblk:blk (z.σ d)=some g:=by rw[e1];rfl
 have hdN:d≠N:=by omega
 generalize hp:dropB d N st.ob=p;have pd:∀id,p id=false→id≠d∧id≠N:=fun id h1=>VI (hp▸h1);let z':Cz:={σ:=upd z.σ N (z.σ d),β:=fun id=>if id=N then fun _ _=>False else z.β id,al:=upd z.al N g};have σN:z'.σ N=z.σ d:=AZ _ _ _;have σne:∀id,id≠N→z'.σ id=z.σ id:=fun id hid=>A0 _ _ hid;have βne:∀id,id≠N→z'.β id=z.β id:=fun id hid=>by show(if id=N then _ else _)=_;rw[if_neg hid]
 have obN:(CJ i d N cs bt st).ob N=.box (cs.map (Bz p N)) bt:=by simp[CJ,hp]
 have obne:∀id,id≠N→(CJ i d N cs bt st).ob id=if p id then .none else FC p N (st.ob id):=fun id hid=>by simp[CJ,hp,hid]
 have dropLive:∀o,FC p N o≠ .none↔o≠ .none:=fun o=>by cases o<;>simp[FC]
 have liveT:∀id,id≠N→(CJ i d N cs bt st).ob id≠ .none→p id=false∧st.ob id≠ .none:=fun id hid hl=>by
  rw[obne id hid]at hl
  cases hpi:p id with
  |true=>rw[hpi]at hl;exact absurd rfl hl
  |false=>
   rw[hpi]at hl;exact⟨rfl,(dropLive _).1 (by simpa using hl)⟩
 have liveO:∀id,p id=false→st.ob id≠ .none→(CJ i d N cs bt st).ob id≠ .none:=fun id hpi hl=>by
  rw[obne id (pd id hpi).2,hpi];simpa using(dropLive _).2 hl
 have hless:∀g',Ao M0 z' (CJ i d N cs bt st).ob g'→Ao M0 z st.ob g':=fun g' hg=>by
  rcases hg with hg|⟨id,h1,h2⟩
  ·exact .inl hg
  ·by_cases hid:id=N
   ·subst hid;rw[σN]at h2;exact .inr ⟨d,hlive,h2⟩
   ·rw[σne id hid]at h2;exact .inr ⟨id,(liveT id hid h1).2,h2⟩
 have hk:Gd (C6 N) w (Ao M0 z st.ob) w (Ao M0 z' (CJ i d N cs bt st).ob):=⟨Nat.le_refl _,fun _ _ _=>rfl,fun g' _ hg=>hless g' hg,fun N' hN'=>by
  have:N'≠N:=by simpa[C6]using hN'
  exact A0 _ _ this⟩
 have hs:∀{s:SV} {v:Value},Ar w (Ao M0 z st.ob) z st.ob s v→Ar w (Ao M0 z' (CJ i d N cs bt st).ob) z' (CJ i d N cs bt st).ob (Bz p N s) v:=by
  intro s v hv;have hat:∀id,p id=false→st.ob id≠ .none→(CJ i d N cs bt st).ob id≠ .none∧z'.σ id=z.σ id∧z'.β id=z.β id:=fun id hpi hl=>⟨liveO id hpi hl,σne id (pd id hpi).2,βne id (pd id hpi).2⟩
  cases s with
  |c cv=>
   simp only[Bz];split
   ·rename_i hn;exact RelC.named hk cv v hn hv
   ·trivial
  |undef=>trivial
  |stamp id k=>
   simp only[Bz];split
   ·trivial
   ·rename_i hc;simp only[Aj,not_or,Bool.not_eq_true,Bool.not_eq_true']at hc;obtain⟨hl,b,h1,h2⟩:=hv;obtain⟨q1,_,q3⟩:=hat id hc.1 hl;exact⟨q1,b,by rw[q3];exact h1,h2⟩
  |ent id k u=>
   simp only[Bz];split
   ·trivial
   ·rename_i hc;simp only[Aj,not_or,Bool.not_eq_true,Bool.not_eq_true']at hc;obtain⟨hl,b,uv,h1,h2,h3⟩:=hv;obtain⟨q1,_,q3⟩:=hat id hc.1.1 hl;exact⟨q1,b,uv,by rw[q3];exact h1,h2,RelC.named hk u uv (by simpa using hc.2) h3⟩
  |ptr id o=>
   simp only[Bz,SV.ref];split
   ·trivial
   ·rename_i hc;obtain⟨hl,gg,h1,h2⟩:=hv;obtain⟨q1,q2,_⟩:=hat id (by simpa using hc) hl;exact⟨q1,gg,q2.trans h1,h2⟩
  |eptr id k sz o=>
   simp only[Bz,SV.ref];split
   ·trivial
   ·rename_i hc;obtain⟨hl,gg,nn,c,h1,h2⟩:=hv;obtain⟨q1,q2,_⟩:=hat id (by simpa using hc) hl;exact⟨q1,gg,nn,c,q2.trans h1,h2⟩
  |osl id=>
   simp only[Bz,SV.ref];split
   ·trivial
   ·rename_i hc;obtain⟨q1,q2,_⟩:=hat id (by simpa using hc) hv.1;exact⟨q1,hv.2.trans q2.symm⟩
  |omap id=>
   simp only[Bz,SV.ref];split
   ·trivial
   ·rename_i hc;obtain⟨q1,q2,_⟩:=hat id (by simpa using hc) hv.1;exact⟨q1,hv.2.trans q2.symm⟩
  |iter id=>
   simp only[Bz,SV.ref];split
   ·trivial
   ·rename_i hc;obtain⟨q1,q2,_⟩:=hat id (by simpa using hc) hv.1;exact⟨q1,hv.2.trans q2.symm⟩
 have hss:∀(l:List SV) vs,Az w (Ao M0 z st.ob) z st.ob l vs→Az w (Ao M0 z' (CJ i d N cs bt st).ob) z' (CJ i d N cs bt st).ob (l.map (Bz p N)) vs:=by
  intro l
  induction l with
  |nil=>intro vs hh;exact hh
  |cons c l ih=>
   intro vs hh;obtain⟨v,vs',e,h1,h2⟩:=hh;exact⟨v,vs',e,hs h1,ih vs' h2⟩
 refine⟨z',h.size,h.defers,h.below,h.outer,⟨h.nam.lent,fun N' cs' hN' hc=> ?_,fun N' hN'=> ?_,h.nam.low⟩,h.glob,fun j=> ?_,fun id=> ?_,fun id g' h1 h2=> ?_,fun k j g' hij h1 h2 h3 h4=> ?_⟩
 ·by_cases hid:N'=N
  ·subst hid;rw[σN,e1];show _=Value.pointer (some ⟨upd z.al N' g N',0,none⟩);rw[AZ]
  ·rw[obne N' hid]at hc;rw[σne N' hid];show _=Value.pointer (some ⟨upd z.al N g N',0,none⟩);rw[A0 _ _ hid];split at hc
   ·cases hc
   ·cases ho':st.ob N'<;>rw[ho']at hc<;>cases hc;exact h.nam.told N' _ hN' ho'
 ·show upd z.al N g N'=_;have hne:N'≠N:=fun e=>hT (by rw[←e];exact hN');rw[A0 _ _ hne];exact h.nam.names N' hN'
 ·show Ar w _ z' _ (if j=i then .c (.nam N)else Bz (dropB d N st.ob) N (st.fr j)) _;rw[hp];by_cases hji:j=i
  ·subst hji;rw[if_pos rfl];have hr:=h.fr j;rw[hi]at hr;obtain⟨_,g2,q1,q2⟩:=hr;rw[e1]at q1;cases q1;show RelC w (Ao M0 z' (CJ j d N cs bt st).ob) (.nam N) _;unfold RelC;rw[q2];show _=Value.pointer (some ⟨upd z.al N g N,0,none⟩);rw[AZ]
  ·rw[if_neg hji];exact hs (h.fr j)
 ·by_cases hid:id=N
  ·subst hid;rw[obN,σN];exact⟨g,ty,vs,e1,e2,hss cs vs e3⟩
  ·rw[obne id hid,σne id hid]
   cases hpi:p id with
   |true=>simp only[if_true];trivial
   |false=>
    simp only[Ag,if_false];have hoi:=h.ob id;have hdp:dropB d N st.ob id=false:=by rw[hp];exact hpi
    simp only[dropB,Bool.or_eq_false_iff]at hdp;have hm:=hdp.2
    cases hob2:st.ob id with
    |none=>trivial
    |box l=>
     rw[hob2]at hoi;obtain⟨g3,ty3,vs3,q1,q2,q3⟩:=hoi;exact⟨g3,ty3,vs3,q1,q2,hss l vs3 q3⟩
    |arr e size es=>
     rw[hob2]at hoi hm;obtain⟨xs,q1,q2⟩:=hoi;exact⟨xs,q1,AW.named hk (by simpa using hm) q2⟩
    |map mt kt zc ks vs=>
     rw[hob2]at hoi hm;simp only[Bool.not_eq_false',Af]at hm;obtain⟨hmt,ks',vs',r,ens,clk,hmp,e,g1,g2,g3,g4,g5,g6,g7,g8⟩:=hoi;refine⟨hmt,ks',vs',r,ens,clk,hmp,e,g1,RelL.named hk _ _ (H9.2 fun c hc=>H9.1 hm.1 c (hmp.ks.mem_iff.1 hc)) g2,RelL.named hk _ _ (H9.2 fun c hc=>H9.1 hm.2 c (hmp.vs.mem_iff.1 hc)) g3,g4,g5,g6,g7,fun k b hb=>g8 k b ?_⟩;rw[βne id hid]at hb;exact hb
    |siter s pos=>rw[hob2]at hoi;exact hoi
    |miter ks vs cur=>rw[hob2]at hm;cases hm
    |buf e s=>rw[hob2]at hoi;exact hoi
 ·by_cases hid:id=N
  ·subst hid;rw[σN]at h2;have:=h.lo d g' hlive h2;refine⟨this.1.elim .inl fun hL=>absurd (h.nam.lent _ _ hL).2 hI,this.2⟩
  ·rw[σne id hid]at h2;exact h.lo id g' (liveT id hid h1).2 h2
 ·by_cases hk1:k=N
  ·subst hk1;have hj:j≠k:=fun e=>hij e.symm;rw[σN]at h3;rw[σne j hj]at h4;have hl:=liveT j hj h2;exact h.apart d j g' (fun e=>(pd j hl.1).1 e.symm) hlive hl.2 h3 h4
  ·by_cases hj:j=N
   ·subst hj;rw[σN]at h4;rw[σne k hk1]at h3;have hl:=liveT k hk1 h1;exact h.apart k d g' (pd k hl.1).1 hl.2 hlive h3 h4
   ·rw[σne k hk1]at h3;rw[σne j hj]at h4;exact h.apart k j g' hij (liveT k hk1 h1).2 (liveT j hj h2).2 h3 h4
end
theorem Av.tell{bt:Option TypeId}{le:Dm}{st:St}{i d N:Nat}{cs:List SV}(hd:d<As)(hN:As≤N)(hT:¬le.T N)(hI:¬le.I d)(hi:st.fr i=.ptr d 0)(hob:st.ob d=.box cs bt):Av le st (CJ i d N cs bt st):=by
 refine⟨fun{P G w0 M0 n a w z} he h=> ?_,⟨fun k c hc hk=> ?_,fun k hk=> ?_⟩⟩
 ·subst he;exact h.tell hd hN hT hI hi hob
 ·show(if k=i then _ else Bz (dropB d N st.ob) N (st.fr k))=_;rw[if_neg (by intro e;subst e;rw[hi]at hk;cases hk),hk];cases c<;>first|rfl|cases hc|(rename_i l;cases l<;>first|rfl|cases hc)
 ·have h1:Et (if k=N then Ob.box (cs.map (Bz (dropB d N st.ob) N)) bt else if dropB d N st.ob k then .none else FC (dropB d N st.ob) N (st.ob k))=true:=hk;show(if k=N then Ob.box (cs.map (Bz (dropB d N st.ob) N)) bt else if dropB d N st.ob k then .none else FC (dropB d N st.ob) N (st.ob k))=st.ob k;split at h1
  ·cases h1
  ·split at h1
   ·cases h1
   ·rename_i e1 e2;rw[if_neg e1,if_neg e2];cases ho:st.ob k<;>rw[ho]at h1<;>first|rfl|cases h1
variable {le:Dm}
def DJ(le:Dm)(E:Env):List SL→(St→Prop)→St→Prop
 | [],Q,st=>∃s,Av le st s∧Q s
 |l::ls,Q,st=>∃s,Av le st s∧∃s',Aw E none l s=some s'∧DJ le E ls Q s'
theorem SN{E:Env}:∀{ls:List SL} {Q:St→Prop} {st st':St},BU E none ls st=some st'→Q st'→DJ le E ls Q st
 | [],Q,st,st',h,hq=>by cases h;exact⟨_,Av.refl _,hq⟩
 |l::ls,Q,st,st',h,hq=>by
  simp only[BU]at h;obtain⟨s,h1,h2⟩:=Ab.1 h;exact⟨st,Av.refl st,s,h1,SN h2 hq⟩
theorem Js{E:Env}:∀{ls:List SL} {Q Q':St→Prop} {st:St},(∀s,Q s→Q' s)→DJ le E ls Q st→DJ le E ls Q' st
 | [],_,_,_,h,⟨s,h1,h2⟩=>⟨s,h1,h s h2⟩
 |_::_,_,_,_,h,⟨s,h1,s',h2,h3⟩=>⟨s,h1,s',h2,Js h h3⟩
theorem YC{E:Env}{ls:List SL}{Q:St→Prop}{st s:St}(h:Av le st s)(hr:DJ le E ls Q s):DJ le E ls Q st:=by
 cases ls with
 |nil=>obtain⟨s',h1,h2⟩:=hr;exact⟨s',h.trans h1,h2⟩
 |cons l ls=>obtain⟨s',h1,h2⟩:=hr;exact⟨s',h.trans h1,h2⟩
def C5(le:Dm)(E:Env):Cc→(Ex→St→Prop)→St→Prop
 | .skip,Q,st=>∃s,Av le st s∧Q .normal s
 | .reg true D ls,Q,st=>∃s,Av le st s∧∃st',Cd E true D ls s=some st'∧∃s2,Av le st' s2∧Q .normal s2
 | .reg false D ls,Q,st=>∃s,Av le st s∧DJ le E ls (Q .normal) (if D.isEmpty then s else kill D s)
 | .regE D ls,Q,st=>∃s,Av le st s∧∃st',(Cd E true D ls s=some st'∨Hq E D ls s=some st')∧Q .normal st'
 | .mnext it d ok,Q,st=>∃s,Av le st s∧pwp E (.mnext it d ok) Q s
 | .seq a b,Q,st=>∃s,Av le st s∧C5 le E a (fun e s'=>match e with| .normal=>C5 le E b Q s'|e=>Q e s') s
 | .cond c x y,Q,st=>∃s,Av le st s∧∃b,so E.G s.fr c=.c (.bool b)∧(b=true→C5 le E x Q s)∧(b=false→C5 le E y Q s)
 | .block id c,Q,st=>∃s,Av le st s∧C5 le E c (fun e s'=>match e with| .exit i=>if i=id then Q .normal s' else Q (.exit i) s'|e=>Q e s') s
 | .loop c,Q,st=>∃s,Av le st s∧∃(R:Nat→St→Prop),(∃m,R m s)∧∀m s,R m s→C5 le E c (fun e s'=>match e with| .normal=>∃k,k<m∧R k s'|e=>Q e s') s
 | .exit id,Q,st=>∃s,Av le st s∧Q (.exit id) s
 | .ret,Q,st=>∃s,Av le st s∧Q .ret s
 | .bad,_,_=>False
theorem S7{E:Env}{c:Cc}{Q:Ex→St→Prop}{st s:St}(h:Av le st s)(hp:C5 le E c Q s):C5 le E c Q st:=by
 cases c
 case reg draw D ls=>
  cases draw<;>(obtain⟨s',h1,h2⟩:=hp;exact⟨s',h.trans h1,h2⟩)
 all_goals first|(exact hp.elim)|(obtain⟨s',h1,h2⟩:=hp;exact⟨s',h.trans h1,h2⟩)
theorem S5{E:Env}{draw:Bool}{D:List Nat}{ls:List SL}{Q:Ex→St→Prop}{st st':St}(h:Cd E draw D ls st=some st')(hq:Q .normal st'):C5 le E (.reg draw D ls) Q st:=by
 cases draw with
 |true=>exact⟨st,Av.refl st,st',h,st',Av.refl st',hq⟩
 |false=>exact⟨st,Av.refl st,SN (by simpa[Cd]using h) hq⟩
theorem CI{E:Env}:∀(c:Cc) {Q Q':Ex→St→Prop} {st:St},(∀e s,Q e s→Q' e s)→C5 le E c Q st→C5 le E c Q' st
 | .skip,Q,Q',st,h,⟨s,hs,hp⟩=>⟨s,hs,h _ _ hp⟩
 | .reg true _ _,Q,Q',st,h,⟨s,hs,s',h1,s2,hs2,h2⟩=>⟨s,hs,s',h1,s2,hs2,h _ _ h2⟩
 | .reg false _ _,Q,Q',st,h,⟨s,hs,h1⟩=>⟨s,hs,Js (h .normal) h1⟩
 | .regE _ _,Q,Q',st,h,⟨s,hs,s',h1,h2⟩=>⟨s,hs,s',h1,h _ _ h2⟩
 | .mnext _ _ _,Q,Q',st,h,⟨s,hs,h1⟩=>⟨s,hs,GJ _ h h1⟩
 | .seq a b,Q,Q',st,h,⟨s,hs,hp⟩=>by
  refine⟨s,hs,CI a (fun e s hs=> ?_) hp⟩
  cases e with
  |normal=>exact CI b h hs
  |exit i=>exact h _ _ hs
  |ret=>exact h _ _ hs
 | .cond c x y,Q,Q',st,h,⟨s,hs,b,h1,h2,h3⟩=>⟨s,hs,b,h1,fun hb=>CI x h (h2 hb),fun hb=>CI y h (h3 hb)⟩
 | .block id c,Q,Q',st,h,⟨s,hs,hp⟩=>by
  refine⟨s,hs,CI c (fun e s hs=> ?_) hp⟩
  cases e with
  |normal=>exact h _ _ hs
  |exit i=>
   simp only at hs⊢;split<;>rename_i hi
   ·rw[if_pos hi]at hs;exact h _ _ hs
   ·rw[if_neg hi]at hs;exact h _ _ hs
  |ret=>exact h _ _ hs
 | .loop c,Q,Q',st,h,⟨s,hs,R,h1,h2⟩=>by
  refine⟨s,hs,R,h1,fun m s hs=>CI c (fun e s' hs'=> ?_) (h2 m s hs)⟩
  cases e with
  |normal=>exact hs'
  |exit i=>exact h _ _ hs'
  |ret=>exact h _ _ hs'
 | .exit i,Q,Q',st,h,⟨s,hs,hp⟩=>⟨s,hs,h _ _ hp⟩
 | .ret,Q,Q',st,h,⟨s,hs,hp⟩=>⟨s,hs,h _ _ hp⟩
 | .bad,Q,Q',st,h,hp=>hp.elim
section
variable {P:Program} {E:Env} {w0:WL} {M0:MM} {n:Nat}
theorem SQ(hE:EOk P E)(hle:w0.le=le){ops:Array Oper}{all:List SL}(hc:Aq (De P n ops) ops.toList=some all){Q:St→Prop}{K:Exit→Act→World→Prop}(hK:∀s a w z,Q s→SR P E.G w0 M0 n s a w z→K .normal a w):∀{ls pre:List SL} {st:St} {a:Act} {w:World} {z:Cz},all=pre++ls→SR P E.G w0 M0 n st a w z→DJ le E ls Q st→wpOps P ops K (List.range' pre.length ls.length) a w
 | [],pre,st,a,w,z,he,h,hr=>by
  obtain⟨s,h1,h2⟩:=hr;obtain⟨z',h'⟩:=h1.1 hle h;exact hK _ _ _ _ h2 h'
 |l::ls,pre,st,a,w,z,he,h,hr=>by
  obtain⟨s,h1,s',h2,h3⟩:=hr;obtain⟨z',h'⟩:=h1.1 hle h;have hlen:=DB hc;have hl:all[pre.length]? =some l:=by rw[he];simp
  have hi:pre.length<ops.toList.length:=by rw[←hlen];exact(Ae.1 hl).1
  have ho:ops.toList[pre.length]? =some (ops.toList[pre.length]):=Ai hi;obtain⟨l',g1,g2⟩:=If hc ho;rw[hl]at g1;simp only[Ac]at g1;subst g1;have ho':ops[pre.length]? =some (ops.toList[pre.length]):=by rw[←Array.getElem?_toList];exact ho
  rw[List.length_cons,List.range'_succ];refine Ks hE h' ho' g2 h2 fun a' w' z'' hS=> ?_;have:=SQ hE hle hc hK (ls:=ls) (pre:=pre++ [l]) (by rw[he];simp) hS h3;simpa using this
theorem F6(hE:EOk P E)(hle:w0.le=le):∀(c:Code) {sc:Cc} {Q:Ex→St→Prop} {st:St} {a:Act} {w:World} {z:Cz},B7 P n c=some sc→SR P E.G w0 M0 n st a w z→C5 le E sc Q st→c.wp P (Fv P E w0 M0 n Q) a w
 | .skip,sc,Q,st,a,w,z,hc,h,hp=>by
  simp only[B7,Ac]at hc;subst hc;obtain⟨s,hs,hp⟩:=hp;obtain⟨z',h'⟩:=hs.1 hle h;exact wp_skip ⟨.normal,s,z',rfl,hp,h'⟩
 | .region id ops draw,sc,Q,st,a,w,z,hc,h,hp=>by
  simp only[B7]at hc;split at hc
  ·rename_i p hn;cases hc;obtain⟨s,hs,hp⟩:=hp;obtain⟨z',h'⟩:=hs.1 hle h
   cases draw with
   |true=>cases hn
   |false=>exact RQ hE hn h' hp
  have hc':=hc;simp only[Io]at hc'
  have:sc=.bad∨(∃dr D l,sc=.reg dr D l)∨(∃D l,sc=.regE D l)∨∃ls,Aq (De P n ops) ops.toList=some ls∧draw=true∧Qj P ops ls=some sc:=by
   split at hc'
   ·rename_i ls hls;split at hc'
    ·rename_i hdr;split at hc'
     ·rename_i sc' hcut;cases hc';exact .inr (.inr (.inr ⟨ls,hls,hdr,hcut⟩))
     split at hc'
     ·cases hc';exact .inr (.inr (.inl ⟨_,_,rfl⟩))
     ·split at hc'
      ·cases hc';exact .inr (.inl ⟨_,_,_,rfl⟩)
      ·split at hc'
       ·cases hc';exact .inr (.inl ⟨_,_,_,rfl⟩)
       ·cases hc';exact .inl rfl
    ·cases hc';exact .inr (.inl ⟨_,_,_,rfl⟩)
   ·cases hc';exact .inl rfl
  rcases this with rfl|⟨dr,D,l,rfl⟩|⟨D,l,rfl⟩|⟨ls,hls,rfl,hcut⟩
  ·exact hp.elim
  case inr.inr.inr=>
   obtain⟨c,_,hcut⟩:=Ab.1 hcut;split at hcut<;>(try cases hcut;done);rename_i hd;cases hcut;obtain⟨s,hs,s1,hs1,st1,hv1,s1',hs1',s2,hs2,st3,hv3,s4,hs4,hq⟩:=hp;unfold Cd at hv1 hv3;simp only[if_true]at hv1 hv3;obtain⟨z1,h1⟩:=hs.1 hle h;obtain⟨z2,h2⟩:=hs1.1 hle h1
   have start:∀{s:St} {a:Act} {w:World} {z:Cz},SR P E.G w0 M0 n s a w z→∃z',SR P E.G w0 M0 n (if(Ez ls).isEmpty then s else kill (Ez ls) s) a w z':=fun{s a w z} hS=>by
    split
    ·exact⟨z,hS⟩
    ·exact⟨z,hS.killed _⟩
   obtain⟨z3,h3⟩:=start h2;refine Qm hE hls hd.1 hd.2 h3 hv1 fun a' w' z'' hS'=> ?_;obtain⟨z4,h4⟩:=(hs1'.trans hs2).1 hle hS';obtain⟨z5,h5⟩:=start h4;exact⟨_,z5,st3,h5,hv3,fun a'' w'' z6 hS6=>let⟨z7,h7⟩:=hs4.1 hle hS6;⟨.normal,s4,z7,rfl,hq,h7⟩⟩
  case inr.inr.inl=>
   obtain⟨s,hs,hp⟩:=hp;obtain⟨z',h'⟩:=hs.1 hle h;exact Ou hE hc h' hp
  cases dr with
  |true=>
   obtain⟨s,hs,st',h1,s2,hs2,h2⟩:=hp;obtain⟨z',h'⟩:=hs.1 hle h;refine wp_mono (Ou hE hc h' (Q:=fun e t=>∃s2,Av le t s2∧Q e s2) ⟨st',h1,s2,hs2,h2⟩) fun e a' w' hpost=> ?_;obtain⟨e',t,z3,he,⟨s3,hs3,hq⟩,hS⟩:=hpost;obtain⟨z4,hS4⟩:=hs3.1 hle hS;exact⟨e',s3,z4,he,hq,hS4⟩
  |false=>
   obtain⟨s,hs,hp⟩:=hp;obtain⟨z',h'⟩:=hs.1 hle h;simp only[Io]at hc;split at hc
   case h_2=>cases hc
   rename_i ls hls;split at hc
   ·split at hc
    ·rename_i sc' hcut;obtain⟨c,_,hcut⟩:=Ab.1 hcut;split at hcut<;>(try cases hcut;done);cases hcut;cases hc
    split at hc
    ·cases hc
    ·split at hc
     ·cases hc
     ·split at hc<;>cases hc
   ·cases hc
    have start:∃z'',SR P E.G w0 M0 n (if(H8 P ops.toList l).isEmpty then s else kill (H8 P ops.toList l) s) a w z'':=by
     split
     ·exact⟨z',h'⟩
     ·exact⟨z',h'.killed _⟩
    obtain⟨z'',h''⟩:=start;have hdr:draw=false:=by simpa using ‹¬draw=true›
    subst hdr;refine wp_region ?_;have hlen:=DB hls;rw[List.range_eq_range',←Array.length_toList,←hlen];exact SQ hE hle hls (fun s' a' w' z3 hq hS=>⟨.normal,s',z3,rfl,hq,hS⟩) (pre:= []) rfl h'' hp
 | .seq x y,sc,Q,st,a,w,z,hc,h,hp=>by
  simp only[B7,Ab,Aa]at hc;obtain⟨sx,hx,sy,hy,rfl⟩:=hc;obtain⟨s,hs,hp⟩:=hp;obtain⟨z',h'⟩:=hs.1 hle h;refine wp_seq (wp_mono (F6 hE hle x hx h' hp) fun e a' w' hpost=> ?_);obtain⟨e',st',z',he,hq,hS⟩:=hpost;subst he
  cases e' with
  |normal=>exact F6 hE hle y hy hS hq
  |exit i=>exact⟨.exit i,st',z',rfl,hq,hS⟩
  |ret=>exact⟨.ret,st',z',rfl,hq,hS⟩
 | .cond c x y,sc,Q,st,a,w,z,hc,h,hp=>by
  simp only[B7,Ab,Aa]at hc;obtain⟨so',hso,sx,hx,sy,hy,rfl⟩:=hc;obtain⟨s,hs,b,h1,h2,h3⟩:=hp;obtain⟨z',h'⟩:=hs.1 hle h;have hr:=h'.ctx.c hso h1;have hb:=Dp hr;exact wp_cond_split hb (fun hh=>F6 hE hle x hx h' (h2 hh)) (fun hh=>F6 hE hle y hy h' (h3 hh))
 | .block id c,sc,Q,st,a,w,z,hc,h,hp=>by
  simp only[B7,Aa]at hc;obtain⟨sx,hx,rfl⟩:=hc;obtain⟨s,hs,hp⟩:=hp;obtain⟨z',h'⟩:=hs.1 hle h;refine wp_block (wp_mono (F6 hE hle c hx h' hp) fun e a' w' hpost=> ?_);obtain⟨e',st',z',he,hq,hS⟩:=hpost;subst he
  cases e' with
  |normal=>exact⟨.normal,st',z',rfl,hq,hS⟩
  |exit i=>
   simp only at hq;show(if i=id then _ else _);split at hq
   ·rename_i hi;rw[if_pos hi];exact⟨.normal,st',z',rfl,hq,hS⟩
   ·rename_i hi;rw[if_neg hi];exact⟨.exit i,st',z',rfl,hq,hS⟩
  |ret=>exact⟨.ret,st',z',rfl,hq,hS⟩
 | .loop c,sc,Q,st,a,w,z,hc,h,hp=>by
  simp only[B7,Aa]at hc;obtain⟨sx,hx,rfl⟩:=hc;obtain⟨s0,hs0,R,⟨m,hm⟩,hr⟩:=hp;obtain⟨z0',h'⟩:=hs0.1 hle h;refine wp_loop_ghost (fun k a w=>∃s z,R k s∧SR P E.G w0 M0 n s a w z) m ⟨s0,z0',hm,h'⟩ fun k a' w' hI=> ?_;obtain⟨s,z',hR,hS⟩:=hI;refine wp_mono (F6 hE hle c hx hS (hr k s hR)) fun e a'' w'' hpost=> ?_;obtain⟨e',st',z'',he,hq,hS'⟩:=hpost;subst he
  cases e' with
  |normal=>
   obtain⟨k',hk',hR'⟩:=hq;exact⟨k',hk',st',z'',hR',hS'⟩
  |exit i=>exact⟨.exit i,st',z'',rfl,hq,hS'⟩
  |ret=>exact⟨.ret,st',z'',rfl,hq,hS'⟩
 | .exit i,sc,Q,st,a,w,z,hc,h,hp=>by
  simp only[B7,Ac]at hc;subst hc;obtain⟨s,hs,hp⟩:=hp;obtain⟨z',h'⟩:=hs.1 hle h;exact wp_exit ⟨.exit i,s,z',rfl,hp,h'⟩
 | .label l,sc,Q,st,a,w,z,hc,h,hp=>by
  simp only[B7,Ac]at hc;subst hc;obtain⟨s,hs,hp⟩:=hp;obtain⟨z',h'⟩:=hs.1 hle h;exact wp_label ⟨.normal,s,z',rfl,hp,h'⟩
 | .scope c,sc,Q,st,a,w,z,hc,h,hp=>by
  simp only[B7]at hc;refine wp_scope_straight (wp_mono (F6 hE hle c hc h hp) fun e a' w' hpost=> ?_);obtain⟨e',st',z',he,hq,hS⟩:=hpost;subst he;cases e'<;>exact⟨_,st',z',rfl,hq,hS⟩
 | .ret,sc,Q,st,a,w,z,hc,h,hp=>by
  simp only[B7,Ac]at hc;subst hc;obtain⟨s,hs,hp⟩:=hp;obtain⟨z',h'⟩:=hs.1 hle h;exact wp_ret ⟨.ret,s,z',rfl,hp,h'⟩
 | .goto _,sc,Q,st,a,w,z,hc,h,hp=>by cases hc;exact hp.elim
 | .rangeFunc _ _ _ _,sc,Q,st,a,w,z,hc,h,hp=>by cases hc;exact hp.elim
 | .refuse _,sc,Q,st,a,w,z,hc,h,hp=>by cases hc;exact hp.elim
def Wu(rs:List Bx)(t:Ty)(y:D t)(e:Ex)(st:St):Prop:=
 match e with
 | .exit _=>False
 |_=>∃c,DI st rs=some c∧Can t y [c]
theorem Wz(hE:EOk P E){f:FuncId}{m:JJ}(hc:EB P f=some m){l:List CV}{t:Ty}{y:D t}(hl:l.length≤m.n)(h:C5 .no E m.code (Wu m.res t y) (G1 l)):Bs P f=true∧CallsTo P E.G f l (.val (enc t y)):=by
 unfold EB at hc;split at hc<;>(try cases hc;done);rename_i hb;refine⟨hb, ?_⟩;simp only[Ab,Aa,Ad]at hc;obtain⟨fn,hf,b,hbody,hn,c,hcode,rs,hrs,rfl⟩:=hc;intro w M vs hM hG hL;refine calls_of_wp hf hbody (wp_mono (F6 hE rfl b hcode (Rq hM hG hl hL (Ah hn)) h) fun e a' w' hpost=> ?_);obtain⟨e',st',z',he,hq,hS⟩:=hpost;subst he
 have fin_:(∃c,DI st' rs=some c∧Can t y [c])→a'.defers= []∧∃v,(results fn a'.tmps).run P w'=.ok v w'∧∃u,Ending.returned v=.returned u∧Below w.heap.size w w'∧Gf P w' M w.heap.size u (.val (enc t y)):=fun⟨c,hr,hcan⟩=>by
  obtain⟨v,h1,h2⟩:=SI hS hrs hr;exact⟨hS.defers,v,h1,v,rfl,ND.1 hS.below,RelC.enc hcan (R9 hS h2)⟩
 cases e' with
 |normal=>exact fin_ hq
 |exit i=>exact hq.elim
 |ret=>exact fin_ hq
end
inductive RL where
 |l (l:SL)
 |sk (d:Option Nat)
def RL.dst:RL→Option Nat
 | .l x=>x.dst
 | .sk d=>d
def Di(R:St→St→Prop)(E:Env)(D:Option (List Nat)):List RL→(St→Prop)→St→Prop
 | [],Q,st=>∃s,R st s∧Q s
 | .l l::ls,Q,st=>∃s,R st s∧∃s',Aw E D l s=some s'∧Di R E D ls Q s'
 | .sk d::ls,Q,st=>∃s,R st s∧Di R E D ls Q (s.set d Bn)
def GG(g:Nat)(b:Bool)(l:SL):SL:=
 match l.op with
 | .pick (.t c) x y=>if Nat.beq c g=true then⟨l.dst,.mov (cond b x y),l.guard⟩else l
 |_=>l
def Hp(S:List Nat)(d:Option Nat):List Nat:=match d with
 |some d=>S.filter fun i=> !Nat.beq i d
 |none=>S
def Ei(g:Nat)(b:Bool):List Nat→List RL→List RL
 |_,[]=> []
 |S,.sk d::ls=>.sk d::Ei g b S ls
 |S,.l l::ls=>match l.guard with
  |none=>.l (GG g b l)::Ei g b (Hp S l.dst) ls
  |some (j,w)=>match Nat.beq j g with
   |true=>match w==b with
    |true=>.l (GG g b ⟨l.dst,l.op,none⟩)::Ei g b (Hp S l.dst) ls
    |false=>.sk l.dst::Ei g b (l.dst.toList++S) ls
   |false=>match S.contains j with
    |true=>.sk l.dst::Ei g b (l.dst.toList++S) ls
    |false=>.l (GG g b l)::Ei g b (Hp S l.dst) ls
def IZ(g:Nat):List RL→Bool
 | []=>true
 |l::ls=>(match l.dst with|some d=> !Nat.beq d g|none=>true)&&IZ g ls
theorem Du{st:St}{d:Option Nat}{v:SV}{i:Nat}{c:CV}(hd:d≠some i)(h:st.fr i=.c c):(st.set d v).fr i=.c c:=by
 cases d with
 |none=>exact h
 |some d=>
  show upd st.fr d v i=_;rw[A0 _ _ (fun e=>hd (by rw[e]))];exact h
theorem Nx{L:List Nat}{s:SV}{c:CV}(h:s=.c c):Au L s=.c c:=by subst h;rfl
theorem P3{st st':St}{d:Option Nat}{v:SV}{o:Ob}{i:Nat}{c:CV}(hd:d≠some i)(h:st.fr i=.c c)(hs:By st d v o=some st'):st'.fr i=.c c:=by
 unfold By at hs;split at hs
 ·split at hs
  ·cases hs;exact Du (d:=some _) hd h
  ·cases hs
 ·cases hs
theorem YS{st st':St}{d:Option Nat}{r:Res}{i:Nat}{c:CV}(hd:d≠some i)(h:st.fr i=.c c)(hs:DN st d r=some st'):st'.fr i=.c c:=by
 cases r with
 |val v=>cases hs;exact Du hd h
 |new o=>exact P3 hd h hs
theorem Q5{ρ:SO→SV}{st st':St}{d:Option Nat}{e:Eff}{args:List SO}{caps:List CV}{i:Nat}{c:CV}(hd:d≠some i)(h:st.fr i=.c c)(hs:CP ρ st d e args caps=some st'):st'.fr i=.c c:=by
 unfold CP at hs;simp only[Ab,Ac]at hs;obtain⟨l,_,p,_,rfl⟩:=hs;exact Du hd (Nx h)
theorem PI{E:Env}{rd:Nat→Ob}{ρ:SO→SV}{st st':St}{d:Option Nat}{f:FuncId}{args:List SO}{caps:List CV}{i:Nat}{c:CV}(hd:d≠some i)(h:st.fr i=.c c)(hs:Dc E rd ρ st d f args caps=some st'):st'.fr i=.c c:=by
 unfold Dc at hs;simp only[Ab]at hs;obtain⟨l,_,r,_,hs⟩:=hs;split at hs
 ·exact YS hd h hs
 ·cases hs
theorem VR{d:Option Nat}{ρ:SO→SV}{st st':St}{op:SOp}{i:Nat}{c:CV}(hd:d≠some i)(h:st.fr i=.c c)(hs:AY d ρ st op=some st'):st'.fr i=.c c:=by
 cases op<;>simp only[AY,reduceCtorEq]at hs
 case append e size bytes x y=>
  split at hs
  ·cases hs
  ·split at hs
   ·split at hs
    ·split at hs
     ·split at hs
      ·cases hs;rename_i d';exact Du (st:=kill [d'] st) (d:=some d') hd (Nx h)
      ·cases hs
     ·cases hs
    ·split at hs
     ·split at hs
      ·cases hs;exact Du hd (Nx h)
      ·cases hs
     ·cases hs
    ·cases hs
   ·cases hs
 all_goals
  repeat' split at hs
  all_goals first
   |(cases hs;done)
   |(cases hs;exact h)
   |(cases hs;exact Du hd h)
   |skip
 all_goals
  rw[Ab]at hs;obtain⟨_,_,hs⟩:=hs;split at hs
  ·cases hs;exact h
  ·cases hs
theorem QP{E:Env}{rd:Nat→Ob}{st st':St}{d:Option Nat}{op:SOp}{i:Nat}{c:CV}(hd:d≠some i)(h:st.fr i=.c c)(hs:A4 E rd st d op=some st'):st'.fr i=.c c:=by
 unfold A4 at hs;dsimp only at hs;split at hs
 ·obtain⟨v,_,rfl⟩:=Aa.1 hs;exact Du hd h
 ·obtain⟨v,_,rfl⟩:=Aa.1 hs;exact Du hd h
 ·obtain⟨p,_,hs⟩:=Ab.1 hs;exact P3 hd h hs
 ·exact VR hd h hs
 ·split at hs
  ·split at hs
   ·exact Q5 hd h hs
   ·exact PI hd h hs
  ·split at hs
   ·split at hs
    ·exact Q5 hd h hs
    ·exact PI hd h hs
   ·cases hs
  ·cases hs
 ·split at hs
  ·unfold F8 at hs
   repeat' split at hs
   all_goals first
    |(cases hs;done)
    |(cases hs;exact Du hd h)
  ·cases hs
theorem QJ{E:Env}{D:Option (List Nat)}{l:SL}{st st':St}{i:Nat}{c:CV}(hd:l.dst≠some i)(h:st.fr i=.c c)(hs:Aw E D l st=some st'):st'.fr i=.c c:=by
 unfold Aw at hs;split at hs
 ·exact QP hd h hs
 ·split at hs
  ·split at hs
   ·exact QP hd h hs
   ·cases hs;exact Du hd h
  ·cases hs;exact Du hd h
  ·cases hs
theorem Oj{E:Env}{D:Option (List Nat)}{g:Nat}{b:Bool}{l:SL}{st:St}(hg:st.fr g=.c (.bool b)):Aw E D (GG g b l) st=Aw E D l st:=by
 obtain⟨d,op,gd⟩:=l;unfold GG;split
 ·rename_i c x y hop;have hop':op=.pick (.t c) x y:=hop;subst hop';split
  ·rename_i hc;have hc':=Nat.eq_of_beq_eq_true hc;subst hc'
   have key:∀rd,A4 (E.at D) rd st d (.mov (cond b x y))=A4 (E.at D) rd st d (.pick (.t c) x y):=by
    intro rd;simp only[A4,SOp.cls,Am];rw[show so (E.at D).G st.fr (.t c)=.c (.bool b)from hg];cases b<;>rfl
   unfold Aw
   cases gd with
   |none=>exact key _
   |some p=>
    obtain⟨j,w⟩:=p;dsimp only;split<;>first|rfl|(split<;>first|exact key _|rfl)
  ·rfl
 ·rfl
theorem Oi{g:Nat}{b:Bool}{l:SL}:(GG g b l).dst=l.dst:=by
 unfold GG;split
 ·split<;>rfl
 ·rfl
theorem ZL{E:Env}{D:Option (List Nat)}{g:Nat}{b:Bool}{d:Option Nat}{op:SOp}{st:St}(hg:st.fr g=.c (.bool b)):Aw E D ⟨d,op,none⟩ st=Aw E D ⟨d,op,some (g,b)⟩ st:=by
 unfold Aw;dsimp only;rw[hg];simp
theorem Za{E:Env}{D:Option (List Nat)}{g:Nat}{b w:Bool}{d:Option Nat}{op:SOp}{st:St}(hg:st.fr g=.c (.bool b))(h:(w==b)=false):Aw E D ⟨d,op,some (g,w)⟩ st=some (st.set d Bn):=by
 unfold Aw;dsimp only;rw[hg];have:¬b=w:=fun e=>by subst e;simp at h
 simp[this]
theorem Zb{E:Env}{D:Option (List Nat)}{g:Nat}{w:Bool}{d:Option Nat}{op:SOp}{st:St}(hg:st.fr g=Bn):Aw E D ⟨d,op,some (g,w)⟩ st=some (st.set d Bn):=by
 unfold Aw;dsimp only;rw[hg];rfl
theorem X7{S:List Nat}{d:Option Nat}{i:Nat}(h:i∈Hp S d):i∈S∧d≠some i:=by
 cases d with
 |none=>exact⟨h,fun e=>by cases e⟩
 |some d=>
  simp only[Hp,List.mem_filter,Bool.not_eq_true']at h;exact⟨h.1,fun e=>by cases e;simp at h⟩
theorem Jq{R:St→St→Prop}(hR:∀{st s:St},R st s→∀(i:Nat) (c:CV),Ni c=true→st.fr i=.c c→s.fr i=.c c){E:Env}{D:Option (List Nat)}{g:Nat}{b:Bool}{Q:St→Prop}:∀{ls:List RL} {S:List Nat} {st:St},IZ g ls=true→st.fr g=.c (.bool b)→(∀s∈S,st.fr s=Bn)→Di R E D (Ei g b S ls) Q st→Di R E D ls Q st
 | [],S,st,_,_,_,h=>h
 | .sk d::ls,S,st,hn,hg,hS,h=>by
  simp only[IZ,RL.dst,Af]at hn;obtain⟨s,h1,h2⟩:=h;have hdg:d≠some g:=fun e=>by subst e;simp at hn
  refine⟨s,h1,Jq hR hn.2 (Du hdg (hR h1 _ _ rfl hg)) (fun i hi=> ?_) h2⟩;by_cases hdi:d=some i
  ·subst hdi;show upd s.fr i Bn i=_;rw[AZ]
  ·exact Du hdi (hR h1 i (.tup []) rfl (hS i hi))
 | .l l::ls,S,st,hn,hg,hS,h=>by
  simp only[IZ,RL.dst,Af]at hn;have hdg:l.dst≠some g:=fun e=>by rw[e]at hn;simp at hn
  obtain⟨d,op,gd⟩:=l
  have run:∀l':SL,l'.dst=d→(∀s,s.fr g=.c (.bool b)→Aw E D l' s=Aw E D ⟨d,op,gd⟩ s)→Di R E D (.l l'::Ei g b (Hp S d) ls) Q st→Di R E D (.l ⟨d,op,gd⟩::ls) Q st:=by
   intro l' hd' he ⟨s,h1,s',h2,h3⟩;have hgs:=hR h1 _ _ rfl hg;rw[he s hgs]at h2;refine⟨s,h1,s',h2,Jq hR hn.2 (QJ hdg hgs h2) (fun i hi=> ?_) h3⟩;obtain⟨hi1,hi2⟩:=X7 hi;exact QJ hi2 (hR h1 i (.tup []) rfl (hS i hi1)) h2
  have sk:(∀s,R st s→Aw E D ⟨d,op,gd⟩ s=some (s.set d Bn))→Di R E D (.sk d::Ei g b (d.toList++S) ls) Q st→Di R E D (.l ⟨d,op,gd⟩::ls) Q st:=by
   intro he ⟨s,h1,h2⟩;refine⟨s,h1,_,he s h1,Jq hR hn.2 (Du hdg (hR h1 _ _ rfl hg)) (fun i hi=> ?_) h2⟩;by_cases hdi:d=some i
   ·subst hdi;show upd s.fr i Bn i=_;rw[AZ]
   ·rcases List.mem_append.1 hi with hi|hi
    ·cases d with
     |none=>cases hi
     |some d=>simp at hi;exact absurd (by rw[hi]) hdi
    ·exact Du hdi (hR h1 i (.tup []) rfl (hS i hi))
  cases gd with
  |none=>exact run _ Oi (fun s hs=>Oj hs) h
  |some p=>
   obtain⟨j,w⟩:=p;simp only[Ei]at h
   cases hj:Nat.beq j g with
   |true=>
    have hj':=Nat.eq_of_beq_eq_true hj;subst hj';simp only[hj]at h
    cases hw:w==b with
    |true=>
     simp only[hw]at h;have hw':w=b:=by simpa using hw
     subst hw';exact run _ Oi (fun s hs=>by rw[Oj hs,ZL hs]) h
    |false=>
     simp only[hw]at h;exact sk (fun s hs=>Za (hR hs _ _ rfl hg) hw) h
   |false=>
    simp only[hj]at h
    cases hc:S.contains j with
    |true=>
     simp only[hc]at h;exact sk (fun s hs=>Zb (hR hs j (.tup []) rfl (hS j (by simpa using hc)))) h
    |false=>
     simp only[hc]at h;exact run _ Oi (fun s hs=>Oj hs) h
theorem Oz{R:St→St→Prop}{E:Env}{D:Option (List Nat)}{Q Q':St→Prop}(h:∀s,Q s→Q' s):∀{ls:List RL} {st:St},Di R E D ls Q st→Di R E D ls Q' st
 | [],st,⟨s,h1,h2⟩=>⟨s,h1,h s h2⟩
 | .l _::_,st,⟨s,h1,s',h2,h3⟩=>⟨s,h1,s',h2,Oz h h3⟩
 | .sk _::_,st,⟨s,h1,h3⟩=>⟨s,h1,Oz h h3⟩
theorem SM{le:Dm}{E:Env}{Q:St→Prop}:∀{ls:List SL} {st:St},Di (Av le) E none (ls.map .l) Q st→DJ le E ls Q st
 | [],st,h=>h
 |_::_,st,⟨s,h1,s',h2,h3⟩=>⟨s,h1,s',h2,SM h3⟩
theorem SK{E:Env}{D:Option (List Nat)}{Q:St→Prop}:∀{ls:List SL} {st:St},Di Eq E D (ls.map .l) Q st→∃st',BU E D ls st=some st'∧Q st'
 | [],st,⟨s,h1,h2⟩=>⟨s,by rw[h1];rfl,h2⟩
 |_::_,st,⟨s,h1,s',h2,h3⟩=>by
  subst h1;obtain⟨st',h4,h5⟩:=SK h3;exact⟨st',by simp only[BU,h2,Option.bind_some];exact h4,h5⟩
def AH(id:Nat)(st s:St):Prop:=Et (s.ob id)=true→s.ob id=st.ob id
theorem AH.refl(id:Nat)(st:St):AH id st st:=fun _=>rfl
theorem AH.trans{id:Nat}{st u t:St}(h:AH id st u)(k:AH id u t):AH id st t:=fun hi=>by
 have e:=k hi;rw[e];exact h (e▸hi)
theorem AH.ob{id:Nat}{st s:St}(h:s.ob id=st.ob id):AH id st s:=fun _=>h
theorem AH.kill{id:Nat}{st:St}{D:List Nat}:AH id st (kill D st):=fun h=>G4 h
theorem AH.of{le:Dm}{id:Nat}{st s:St}(h:Av le st s):AH id st s:=fun hi=>h.2.it id hi
theorem E5{id:Nat}{st:St}{d:Option Nat}{v:SV}:(st.set d v).ob id=st.ob id:=by cases d<;>rfl
theorem P4{id:Nat}{st st':St}{d:Option Nat}{v:SV}{o:Ob}(hd:d≠some id)(hs:By st d v o=some st'):st'.ob id=st.ob id:=by
 unfold By at hs;split at hs
 ·split at hs
  ·cases hs;exact A0 _ _ (fun e=>hd (by rw[e]))
  ·cases hs
 ·cases hs
theorem YO{id i:Nat}{st:St}{o:Ob}(ho:Et o=false){fr:Nat→SV}{d:Option Nat}{v:SV}:AH id st (St.set {fr:=fr,ob:=upd st.ob i o} d v):=by
 intro hi;rw[E5]at hi⊢;exact Ft ho hi
theorem Ti{id i:Nat}{st:St}{o:Ob}(ho:Et o=false){fr:Nat→SV}{d:Option Nat}{v:SV}:AH id st (St.set {fr:=fr,ob:=upd (kill [i] st).ob i o} d v):=by
 intro hi;rw[E5]at hi⊢;have e1:=Ft (ob:=(kill [i] st).ob) (id:=id) ho hi;exact e1.trans (G4 (e1▸hi))
theorem VS{id:Nat}{d:Option Nat}{ρ:SO→SV}{st st':St}{op:SOp}(hs:AY d ρ st op=some st'):AH id st st':=by
 cases op<;>simp only[AY,reduceCtorEq]at hs
 case append e size bytes x y=>
  repeat' split at hs
  all_goals first
   |(cases hs;done)
   |(cases hs;exact Ti (d:=none) (v:=.undef) rfl)
   |(cases hs;exact Ti rfl)
 all_goals
  repeat' split at hs
  all_goals first
   |(cases hs;done)
   |(cases hs;exact AH.refl _ _)
   |(cases hs;exact fun hi=>Ft rfl hi)
   |(cases hs;exact YO rfl)
   |skip
 all_goals
  rw[Ab]at hs;obtain⟨_,_,hs⟩:=hs;split at hs
  ·cases hs;exact fun hi=>Ft rfl hi
  ·cases hs
theorem Kt{E:Env}(hE:HiE E){rd:Nat→Ob}{st st':St}{d:Option Nat}{op:SOp}{id:Nat}(hid:id<As)(hd:d≠some id)(hs:A4 E rd st d op=some st'):AH id st st':=by
 have call:∀{f:FuncId} {args:List SO} {caps:List CV},Dc E rd (so E.G st.fr) st d f args caps=some st'→AH id st st':=by
  intro f args caps hs;unfold Dc at hs;simp only[Ab]at hs;obtain⟨l,_,r,_,hs⟩:=hs;split at hs
  ·cases r with
   |val v=>cases hs;exact AH.ob E5
   |new o=>exact AH.ob (P4 hd hs)
  ·cases hs
 have eff:∀{f:FuncId} {e:Eff} {args:List SO} {caps:List CV},E.ef f=some e→CP (so E.G st.fr) st d e args caps=some st'→AH id st st':=by
  intro f e args caps he hs;unfold CP at hs;simp only[Ab,Ac]at hs;obtain⟨l,_,p,_,rfl⟩:=hs;intro hi;rw[E5]at hi⊢;have hT:=hE f e he
  have hn:¬e.T.contains id=true:=fun hc=>by
   have:=List.all_eq_true.1 hT id (by simpa using hc);have:=Ah this;omega
  unfold Ck at hi⊢;simp only at hi⊢;rw[if_neg hn]at hi⊢;exact Rs hi
 unfold A4 at hs;dsimp only at hs;split at hs
 ·obtain⟨v,_,rfl⟩:=Aa.1 hs;exact AH.ob E5
 ·obtain⟨v,_,rfl⟩:=Aa.1 hs;exact AH.ob E5
 ·obtain⟨p,_,hs⟩:=Ab.1 hs;exact AH.ob (P4 hd hs)
 ·exact VS hs
 ·split at hs
  ·split at hs
   ·rename_i he;exact eff he hs
   ·exact call hs
  ·split at hs
   ·split at hs
    ·rename_i he;exact eff he hs
    ·exact call hs
   ·cases hs
  ·cases hs
 ·split at hs
  ·unfold F8 at hs
   repeat' split at hs
   all_goals first
    |(cases hs;done)
    |(cases hs;intro hi;rw[E5]at hi⊢;exact Ft rfl hi)
  ·cases hs
theorem Wm{E:Env}(hE:HiE E){rd:Nat→Ob}{l:SL}{st st':St}{id:Nat}(hid:id<As)(hd:l.dst≠some id)(hs:B3 E rd l st=some st'):AH id st st':=by
 unfold B3 at hs;split at hs
 ·exact Kt hE hid hd hs
 ·split at hs
  ·split at hs
   ·exact Kt hE hid hd hs
   ·cases hs;exact AH.ob E5
  ·cases hs;exact AH.ob E5
  ·cases hs
theorem QK{E:Env}(hE:HiE E){D:Option (List Nat)}{l:SL}{st st':St}{id:Nat}(hid:id<As)(hd:l.dst≠some id)(hs:Aw E D l st=some st'):AH id st st':=by
 unfold Aw at hs;split at hs
 ·exact Kt (hE.at D) hid hd hs
 ·split at hs
  ·split at hs
   ·exact Kt (hE.at D) hid hd hs
   ·cases hs;exact AH.ob E5
  ·cases hs;exact AH.ob E5
  ·cases hs
def Fd(id:Nat)(ls:List SL):Bool:=ls.all fun l=>match l.dst with|some d=> !Nat.beq d id|none=>true
theorem MY{id:Nat}{l:SL}{ls:List SL}(h:Fd id (l::ls)=true):l.dst≠some id∧Fd id ls=true:=by
 unfold Fd at h⊢;simp only[List.all_cons,Af]at h;exact⟨fun e=>by rw[e]at h;simp at h,h.2⟩
theorem QN{E:Env}(hE:HiE E){D:Option (List Nat)}{id:Nat}(hid:id<As):∀{ls:List SL} {st st':St},Fd id ls=true→BU E D ls st=some st'→AH id st st'
 | [],st,st',_,h=>by cases h;exact AH.refl _ _
 |l::ls,st,st',hd,h=>by
  obtain⟨h1,h2⟩:=MY hd;simp only[BU]at h;obtain⟨s,h3,h4⟩:=Ab.1 h;exact(QK hE hid h1 h3).trans (QN hE hid h2 h4)
theorem QM{E:Env}{D:List Nat}{id:Nat}(hid:id<As):∀{ls:List SL} {st st':St},Fd id ls=true→EJ E.named D ls st=some st'→AH id st st'
 | [],st,st',_,h=>by cases h;exact AH.refl _ _
 |l::ls,st,st',hd,h=>by
  obtain⟨h1,h2⟩:=MY hd;simp only[EJ]at h;obtain⟨s,h3,h4⟩:=Ab.1 h;exact(Wm HiE.named hid h1 h3).trans (QM hid h2 h4)
theorem QS{E:Env}(hE:HiE E){dr:Bool}{D:List Nat}{ls:List SL}{st st':St}{id:Nat}(hid:id<As)(hd:Fd id ls=true)(h:Cd E dr D ls st=some st'):AH id st st':=by
 unfold Cd at h;refine AH.trans (u:=if D.isEmpty then st else kill D st) ?_ (QN hE hid hd h);split
 ·exact AH.refl _ _
 ·exact AH.kill
theorem Vt{id:Nat}{st:St}:AH id st (CL st):=by
 intro h;unfold CL at h⊢;simp only at h⊢;split
 ·rfl
 ·rename_i hn;rw[if_neg hn]at h;cases ho:st.ob id<;>rw[ho]at h<;>first|rfl|cases h
theorem Wn{E:Env}{D:List Nat}{ls:List SL}{st st':St}{id:Nat}(hid:id<As)(hd:Fd id ls=true)(h:Hq E D ls st=some st'):AH id st st':=
 (AH.kill.trans Vt).trans (QM hid hd h)
theorem SP{le:Dm}{E:Env}(hE:HiE E){id:Nat}(hid:id<As){Q:St→Prop}:∀{ls:List SL} {st:St},Fd id ls=true→DJ le E ls Q st→DJ le E ls (fun s=>Q s∧AH id st s) st
 | [],st,_,⟨s,h1,h2⟩=>⟨s,h1,h2,AH.of h1⟩
 |l::ls,st,hd,⟨s,h1,s',h2,h3⟩=>by
  obtain⟨g1,g2⟩:=MY hd;refine⟨s,h1,s',h2,Js (fun t ht=>⟨ht.1, ?_⟩) (SP hE hid g2 h3)⟩;exact((AH.of h1).trans (QK hE hid g1 h2)).trans ht.2
def G9(id:Nat):Cc→Bool
 | .skip| .exit _| .ret| .bad=>true
 | .mnext _ _ _=>false
 | .reg _ _ ls| .regE _ ls=>Fd id ls
 | .seq a b| .cond _ a b=>G9 id a&&G9 id b
 | .block _ c| .loop c=>G9 id c
theorem GI{le:Dm}{E:Env}(hE:HiE E){id:Nat}(hid:id<As):∀(c:Cc) {Q:Ex→St→Prop} {st:St},G9 id c=true→C5 le E c Q st→C5 le E c (fun e s=>Q e s∧AH id st s) st
 | .skip,Q,st,_,⟨s,hs,hp⟩=>⟨s,hs,hp,AH.of hs⟩
 | .mnext _ _ _,Q,st,hn,_=>by cases hn
 | .reg true D ls,Q,st,hn,⟨s,hs,s',h1,s2,hs2,h2⟩=>⟨s,hs,s',h1,s2,hs2,h2,((AH.of hs).trans (QS hE hid hn h1)).trans (AH.of hs2)⟩
 | .reg false D ls,Q,st,hn,⟨s,hs,h1⟩=>by
  refine⟨s,hs,Js (fun t ht=>⟨ht.1, ?_⟩) (SP hE hid hn h1)⟩;refine((AH.of hs).trans ?_).trans ht.2;split
  ·exact AH.refl _ _
  ·exact AH.kill
 | .regE D ls,Q,st,hn,⟨s,hs,s',h1,h2⟩=>⟨s,hs,s',h1,h2,(AH.of hs).trans (by
  rcases h1 with h1|h1
  ·exact QS hE hid hn h1
  ·exact Wn hid hn h1)⟩
 | .seq a b,Q,st,hn,⟨s,hs,hp⟩=>by
  simp only[G9,Af]at hn;refine⟨s,hs,CI a (fun e t ht=> ?_) (GI hE hid a hn.1 hp)⟩
  cases e with
  |normal=>exact CI b (fun e u hu=>⟨hu.1,((AH.of hs).trans ht.2).trans hu.2⟩) (GI hE hid b hn.2 ht.1)
  |exit i=>exact⟨ht.1,(AH.of hs).trans ht.2⟩
  |ret=>exact⟨ht.1,(AH.of hs).trans ht.2⟩
 | .cond c x y,Q,st,hn,⟨s,hs,b,h1,h2,h3⟩=>by
  simp only[G9,Af]at hn;exact⟨s,hs,b,h1,fun hb=>CI x (fun e u hu=>⟨hu.1,(AH.of hs).trans hu.2⟩) (GI hE hid x hn.1 (h2 hb)),fun hb=>CI y (fun e u hu=>⟨hu.1,(AH.of hs).trans hu.2⟩) (GI hE hid y hn.2 (h3 hb))⟩
 | .block i c,Q,st,hn,⟨s,hs,hp⟩=>by
  refine⟨s,hs,CI c (fun e t ht=> ?_) (GI hE hid c hn hp)⟩
  cases e with
  |normal=>exact⟨ht.1,(AH.of hs).trans ht.2⟩
  |exit j=>
   have h1:=ht.1;simp only at h1⊢;split<;>rename_i hj
   ·rw[if_pos hj]at h1;exact⟨h1,(AH.of hs).trans ht.2⟩
   ·rw[if_neg hj]at h1;exact⟨h1,(AH.of hs).trans ht.2⟩
  |ret=>exact⟨ht.1,(AH.of hs).trans ht.2⟩
 | .loop c,Q,st,hn,⟨s,hs,R,⟨m,hm⟩,hr⟩=>by
  refine⟨s,hs,fun m t=>R m t∧AH id st t,⟨m,hm,AH.of hs⟩,fun m t hR=>CI c (fun e u hu=> ?_) (GI hE hid c hn (hr m t hR.1))⟩
  cases e with
  |normal=>
   obtain⟨⟨k,hk,hRk⟩,hS⟩:=hu;exact⟨k,hk,hRk,hR.2.trans hS⟩
  |exit i=>exact⟨hu.1,hR.2.trans hu.2⟩
  |ret=>exact⟨hu.1,hR.2.trans hu.2⟩
 | .exit i,Q,st,_,⟨s,hs,hp⟩=>⟨s,hs,hp,AH.of hs⟩
 | .ret,Q,st,_,⟨s,hs,hp⟩=>⟨s,hs,hp,AH.of hs⟩
 | .bad,Q,st,_,hp=>hp.elim
end WB
