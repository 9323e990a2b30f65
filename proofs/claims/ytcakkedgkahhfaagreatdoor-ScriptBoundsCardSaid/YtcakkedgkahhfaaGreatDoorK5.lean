/-
  OWN TEXTS, MERGED (wip/merge.py): CoreTi, CoreTj, CoreTjt, CoreTk, CoreTkt, CoreTl, CoreTm, CoreTn, CoreTne. No condition of their own.
-/
import Derived.Test.YtcakkedgkahhfaaGreatDoorK4
set_option linter.unusedVariables false
set_option linter.unusedSimpArgs false
open Go.IntKind (i64 u64 u8 u32)
namespace WB
open Go Go.RowKit
section
variable {X:TP} {E:Env} {Γ:TC} {msk:List Nat} {ρ:HS Γ} {st:St} {rd:Nat→Ob}
theorem Iz{x:SO}{fl:Bool}{q:Σ t:Ty,Dyn (HS Γ) (D t)}(h:rdC Γ msk x=some (fl,q))(hr:Rep Γ ρ st)(hrd:∀id,msk.contains id=false→rd id=st.ob id){a:D q.1}(ha:q.2.val ρ=some a){G:Nat→List CV}:
  ∃c,B0 rd (so G st.fr x)=some c∧Can q.1 a [c]∧(fl=true→isC (so G st.fr x)=true)∧
   (so G st.fr x=.c c∨(∃id e size es,so G st.fr x=.osl id∧rd id=.arr e size es∧c=.sl none es)∨∃nl ks vs,c=.map nl ks vs):=by
 cases x with
 |t i=>
  simp only[rdC]at h;split at h
  ·rename_i t f hg;cases h;cases ha;obtain⟨c,e,hc⟩:=hr.s i _ hg;have e':so G st.fr (.t i)=.c c:=e;exact⟨c,by rw[e'];rfl,hc,fun _=>by rw[e'];rfl,.inl e'⟩
  ·rename_i t f hg;cases h;have:=hr.s i _ hg;have ha':f ρ=some a:=ha;unfold RS at this;simp only[ha']at this;unfold RS at this;obtain⟨c,e,hc⟩:=this;have e':so G st.fr (.t i)=.c c:=e;exact⟨c,by rw[e'];rfl,hc,fun _=>by rw[e'];rfl,.inl e'⟩
  ·rename_i id f hg;split at h<;>(try cases h;done);rename_i e' size t xs ho;cases h;cases ha;obtain⟨es,e,hes⟩:=Dt ho hr hrd;have e2:so G st.fr (.t i)=.osl id:=hr.s i _ hg;exact⟨.sl none es,by rw[e2];simp only[B0,e],by unfold Can;exact⟨_,_,rfl,hes⟩,(fun hh=>by cases hh),.inr (.inl ⟨id,_,_,es,e2,e,rfl⟩)⟩
  ·rename_i id f hg;split at h<;>(try cases h;done);rename_i mt k v xs ho;cases h;cases ha;obtain⟨z,ks,vs,e,_,hk,hv⟩:=Dt ho hr hrd;have e2:so G st.fr (.t i)=.omap id:=hr.s i _ hg;exact⟨.map none ks vs,by rw[e2];simp only[B0,e],by unfold Can;exact⟨_,_,_,rfl,hk,hv⟩,(fun hh=>by cases hh),.inr (.inr ⟨_,_,_,rfl⟩)⟩
  ·cases h
 |k c=>
  simp only[rdC]at h;split at h<;>(try cases h;done);rename_i p hp;cases h;cases ha;exact⟨c,rfl,Gg hp,fun _=>rfl,.inl rfl⟩
 |g i=>cases h
theorem FV(hr:Rep Γ ρ st)(hrd:∀id,msk.contains id=false→rd id=st.ob id){G:Nat→List CV}:∀{xs:List SO} {fl:Bool} {q:Σ r:Ty,Dyn (HS Γ) (D r)} {a:D q.1},DI Γ msk xs=some (fl,q)→q.2.val ρ=some a→
  ∃l,Au (fun x=>B0 rd (so G st.fr x)) xs=some l∧Can q.1 a l∧(fl=true→(xs.all fun x=>isC (so G st.fr x))=true)
 | [],fl,q,a,h,ha=>by
  simp only[DI,Ac]at h;cases h;exact⟨[],rfl,by unfold Can;rfl,fun _=>rfl⟩
 | [x],fl,q,a,h,ha=>by
  simp only[DI]at h;split at h<;>(try cases h;done);rename_i p hp;cases h;obtain⟨c,h1,h2,h3,_⟩:=Iz (G:=G) (fl:=p.1) (q:=p.2) hp hr hrd ha;exact⟨[c],by simp[Au,h1],by unfold Can;exact⟨c,rfl,h2⟩,fun hh=>by simp[h3 hh]⟩
 |x::y::xs,fl,q,a,h,ha=>by
  simp only[DI]at h;split at h<;>(try cases h;done);rename_i p p' hp hp';cases h;obtain⟨g1,g2⟩:=Dyn.both_val ha;obtain⟨c,h1,h2,h3,_⟩:=Iz (G:=G) (fl:=p.1) (q:=p.2) hp hr hrd g1;obtain⟨l,h4,h5,h6⟩:=FV hr hrd (G:=G) (fl:=p'.1) (q:=p'.2) hp' g2;refine⟨c::l, ?_,by unfold Can;exact⟨c,l,rfl,h2,h5⟩,fun hh=> ?_⟩
  ·have e:Au (fun x=>B0 rd (so G st.fr x)) (x::y::xs)=(B0 rd (so G st.fr x)).bind fun b=>(Au (fun x=>B0 rd (so G st.fr x)) (y::xs)).map fun bs=>b::bs:=rfl;rw[e,h1,h4];rfl
  ·simp only[Af]at hh;have:=h6 hh.2;rw[List.all_cons,h3 hh.1,this];rfl
theorem Jw{t:Ty}{x:D t}(hv:t.val=true)(ho:t.ok=true)(hm:mlT t=true):memless (enc t x)=true:=by
 have:=MS hm (Can.enc x hv ho);simpa[By]using this
theorem OR(hT:TOk X E){a Rt:Ty}{fl:Bool}{n:Nat}(hn:AG a=some n):∀{t:Ty} {F:D t→D a→Option (D Rt)} {x:D t} {y:D a} {z:D Rt} {c:CV} {l:List CV},Fn X a Rt fl t=some F→F x y=some z→Can t x [c]→Can a y l→
  ∃g caps s v,c=.fn g caps∧E.fn g (l++caps)=some (.val (enc (Sig.r s) v))∧Can Rt z [enc s.r v]∧(fl||memless (enc s.r v))=true∧E.ef g=none:=by
 have one:∀{g:Nat} {r:Ty} {s:Sig} {h:D (AZ a r).1→D s.a} {k:D s.r→D Rt} {c:D r} {y:D a} {z:D Rt} {caps l:List CV},X.T g=some s→AJ (AZ a r).1 s.a=some h→AJ s.r Rt=some k→(fl||mlT s.r)=true→(s.fn (h ((AZ a r).2 y c))).map k=some z→Can r c caps→Can a y l→
   ∃v,E.fn g (l++caps)=some (.val (enc s.r v))∧Can Rt z [enc s.r v]∧(fl||memless (enc s.r v))=true:=by
  intro g r s h k c y z caps l hs hh hk hf hz hc hy;obtain⟨v,h1,h2⟩:=Aa.1 hz;obtain⟨s1,s2,s3⟩:=hT.fn g s hs;refine⟨v,s3 _ _ v (B1 _ _ hh (Fk hn hy hc)) h1,h2▸B1 _ _ hk (Can.enc v s1 s2), ?_⟩
  cases fl with
  |true=>rfl
  |false=>
   simp only[Bool.false_or]at hf⊢;exact Jw s1 s2 hf
 intro t
 induction t with
 |clo g r _=>
  intro F x y z c l h hz hx hy;simp only[Fn]at h;split at h<;>(try cases h;done);rename_i s hs;split at h<;>(try cases h;done);rename_i hh kk h1 h2;split at h<;>(try cases h;done);rename_i hf;cases h;unfold Can at hx;obtain⟨caps,e,hx⟩:=hx;cases e;obtain⟨v,g1,g2,g3⟩:=one hs h1 h2 hf hz hx hy;exact⟨g,caps,s,v,rfl,g1,g2,g3,hT.ef g (.inl (by rw[hs];rfl))⟩
 |falt g r l' _ ihl=>
  intro F x y z c l h hz hx hy;simp only[Fn]at h;split at h<;>(try cases h;done);rename_i s hs;split at h<;>(try cases h;done);rename_i hh kk FF h1 h2 h3;split at h<;>(try cases h;done);rename_i hf;cases h
  cases x with
  |inl w=>
   unfold Can at hx;obtain⟨caps,e,hx⟩:=hx;cases e;obtain⟨v,g1,g2,g3⟩:=one hs h1 h2 hf hz hx hy;exact⟨g,caps,s,v,rfl,g1,g2,g3,hT.ef g (.inl (by rw[hs];rfl))⟩
  |inr w=>
   unfold Can at hx;exact ihl h3 hz hx.2 hy
 |nfn=>
  intro F x y z c l h hz;simp only[Fn,Ac]at h;subst h;cases hz
 |_=>intro F x y z c l h;cases h
theorem OS(hT:TOk X E)(hr:Rep Γ ρ st)(hrd:∀id,msk.contains id=false→rd id=st.ob id){op:SOp}{q:Σ k:EK,Dyn (HS Γ) (DK k)}{y:DK q.1}(hcls:op.cls=.call)(h:Hf X Γ msk op=some q)(hy:q.2.val ρ=some y)(d:Option Nat):
  ∃v,A9 E rd st d op=some (st.set d (.c v))∧RS q.1 y (.c v):=by
 cases op<;>(try cases h;done)
 case call f args=>
  simp only[Hf]at h;split at h<;>(try cases h;done);rename_i s hs;split at h<;>(try cases h;done);rename_i p hp;split at h<;>(try cases h;done);rename_i g hg;split at h<;>(try cases h;done);rename_i hc;cases h;try dsimp only at hy
  obtain⟨z,h1,h2⟩:=Dyn.comp_val hy;obtain⟨a,h3,h4⟩:=Dyn.map_val h1;subst h4;obtain⟨l,h5,h6,h7⟩:=FV hr hrd (G:=E.G) (fl:=p.1) (q:=p.2) hp h3;obtain⟨s1,s2,s3⟩:=hT.fn f s hs;have h8:=s3 _ l y (B1 _ _ hg h6) h2;refine⟨enc s.r y, ?_,_,rfl,Can.enc y s1 s2⟩
  have hm:((args.all fun x=>isC (so E.G st.fr x))||(Res.val (enc s.r y)).memless)=true:=by
   cases hp1:p.1 with
   |true=>rw[h7 hp1];rfl
   |false=>
    rw[hp1]at hc;simp only[Bool.false_or]at hc;simp[Res.memless,Jw s1 s2 hc]
  simp only[A9,SOp.cls,hT.ef f (.inl (by rw[hs];rfl)),CQ,h5,Option.bind_some,List.append_nil,h8,hm,if_true,Dh]
 case callv f args=>
  simp only[Hf]at h;split at h<;>(try cases h;done)
  case h_2=>
   rename_i g r lt e he;split at h<;>(try cases h;done);rename_i s hs;split at h<;>(try cases h;done);rename_i p hp;split at h<;>(try cases h;done);rename_i n F hn hF;cases h;try dsimp only at hy
   obtain⟨z,h1,h2⟩:=Dyn.comp_val hy;obtain⟨h3,h3'⟩:=Dyn.both_val h1;obtain⟨l,h5,h6,h7⟩:=FV hr hrd (G:=E.G) (fl:=p.1) (q:=p.2) hp h3;obtain⟨c,e1,e2⟩:=A6 (G:=E.G) he hr h3';obtain⟨g',caps,s',v,e3,h8,h9,h10,h11⟩:=OR hT hn hF h2 e2 h6;subst e3;refine⟨enc s'.r v, ?_,_,rfl,h9⟩
   have hm:((args.all fun x=>isC (so E.G st.fr x))||(Res.val (enc s'.r v)).memless)=true:=by
    cases hp1:p.1 with
    |true=>rw[h7 hp1];rfl
    |false=>
     rw[hp1]at h10;simp only[Bool.false_or]at h10;simp[Res.memless,h10]
   simp only[A9,SOp.cls,e1,h11,CQ,h5,Option.bind_some,h8,hm,if_true,Dh]
  rename_i g r e he;split at h<;>(try cases h;done);rename_i s hs;split at h<;>(try cases h;done);rename_i p hp;split at h<;>(try cases h;done);rename_i n k hn hk;split at h<;>(try cases h;done);rename_i hc;cases h;try dsimp only at hy
  obtain⟨z,h1,h2⟩:=Dyn.comp_val hy;obtain⟨a,h3,h4⟩:=Dyn.map_val h1;obtain⟨h3,h3'⟩:=Dyn.both_val h3;subst h4;obtain⟨l,h5,h6,h7⟩:=FV hr hrd (G:=E.G) (fl:=p.1) (q:=p.2) hp h3;obtain⟨c,e1,e2⟩:=A6 (G:=E.G) he hr h3';unfold Can at e2;obtain⟨caps,e3,e2⟩:=e2;cases e3;obtain⟨s1,s2,s3⟩:=hT.fn g s hs;have h8:=s3 _ (l++caps) y (B1 _ _ hk (Fk hn h6 e2)) h2;refine⟨enc s.r y, ?_,_,rfl,Can.enc y s1 s2⟩
  have hm:((args.all fun x=>isC (so E.G st.fr x))||(Res.val (enc s.r y)).memless)=true:=by
   cases hp1:p.1 with
   |true=>rw[h7 hp1];rfl
   |false=>
    rw[hp1]at hc;simp only[Bool.false_or]at hc;simp[Res.memless,Jw s1 s2 hc]
  simp only[A9,SOp.cls,e1,hT.ef g (.inl (by rw[hs];rfl)),CQ,h5,Option.bind_some,h8,hm,if_true,Dh]
theorem ID(hT:TOk X E)(hr:Rep Γ ρ st)(hrd:∀id,msk.contains id=false→rd id=st.ob id){op:SOp}{q:Σ k:EK,Dyn (HS Γ) (DK k)}{y:DK q.1}(h:IC X Γ msk op=some q)(hy:q.2.val ρ=some y)(d:Option Nat):
  ∃sv,A9 E rd st d op=some (st.set d sv)∧RS q.1 y sv:=by
 unfold IC at h;split at h
 ·rename_i hcls;obtain⟨sv,h1,h2⟩:=O5 hr hrd h hy;rw[←hT.G]at h1;exact⟨sv,by simp only[A9,hcls,h1,Option.map_some],h2⟩
 ·rename_i hcls;obtain⟨sv,h1,h2⟩:=O5 hr hrd h hy;rw[←hT.G]at h1;exact⟨sv,by simp only[A9,hcls,h1,Option.map_some],h2⟩
 ·rename_i hcls;obtain⟨v,h1,h2⟩:=OS hT hr hrd hcls h hy d;exact⟨.c v,h1,h2⟩
 ·cases h
theorem ME(hr:Rep Γ ρ st){G:Nat→List CV}{t:Ty}:∀{xs:List SO} {e:Dyn (HS Γ) (List (D t))} {ys:List (D t)},G0 Γ t xs=some e→e.val ρ=some ys→∃l,Au (fun x=>closed (so G st.fr x)) xs=some l∧As (fun x c=>Can t x [c]) ys l
 | [],e,ys,h,hy=>by
  simp only[G0,Ac]at h;subst h;cases hy;exact⟨[],rfl,rfl⟩
 |x::xs,e,ys,h,hy=>by
  simp only[G0]at h;split at h<;>(try cases h;done);rename_i q e' hq he';split at h<;>(try cases h;done);rename_i g hg;cases h;obtain⟨p,h1,h2⟩:=Dyn.map_val hy;obtain⟨h3,h4⟩:=Dyn.both_val h1;obtain⟨c,h5,h6⟩:=A6 (G:=G) hq hr h3;obtain⟨l,h7,h8⟩:=ME hr (G:=G) he' h4;subst h2;refine⟨c::l, ?_,c,l,rfl,B1 _ _ hg h6,h8⟩;have e:Au (fun x=>closed (so G st.fr x)) (x::xs)=(closed (so G st.fr x)).bind fun b=>(Au (fun x=>closed (so G st.fr x)) xs).map fun bs=>b::bs:=rfl;rw[e,h5,h7];rfl
theorem Re(hr:Rep Γ ρ st){d:Nat}{op:SOp}{o:OpD Γ}{b:o.B}(h:Ez X Γ d op=some o)(hb:o.d.val ρ=some b):∃v ob,Bl (so X.G st.fr) d op=some (v,ob)∧Rep o.Γ' (o.up ρ b) {fr:=upd st.fr d v,ob:=upd st.ob d ob}:=by
 cases op<;>(try cases h;done)
 case alloc z=>
  simp only[Ez]at h;split at h<;>(try cases h;done);rename_i q hq;split at h<;>(try cases h;done);rename_i p hp;cases h;have hc:=Gf hq;obtain⟨h1,h2⟩:=Iy (ρ:=ρ) hp hc;refine⟨.ptr d 0,.box (z.map .c),rfl,Rep.newObj hr h1 ⟨z.map .c,rfl,by simp,fun j q' hj hq'=> ?_⟩ rfl⟩;rcases h2 j q' hq' with⟨_,c,h3,h4⟩|⟨h3,_⟩
  ·exact⟨.c c,by simpa using h3,h4⟩
  ·omega
 case box x=>
  simp only[Ez]at h;split at h<;>(try cases h;done)
  ·rename_i r e he;split at h<;>(try cases h;done);rename_i n p hn hp;cases h;try dsimp only at hb
   obtain⟨c,e1,e2⟩:=A6 (G:=X.G) he hr hb;unfold Can at e2;obtain⟨l,e3,e2⟩:=e2;cases e3;have hl:=Dr hn e2;obtain⟨h1,h2⟩:=Iy (ρ:=ρ) hp e2;refine⟨.ptr d 0,.box (l.map .c),by simp only[Bl,e1],Rep.newObj hr h1 ⟨l.map .c,rfl,by simp[hl],fun j q' hj hq'=> ?_⟩ rfl⟩;rcases h2 j q' hq' with⟨_,c,h3,h4⟩|⟨h3,_⟩
   ·exact⟨.c c,by have h3':l[j]? =some c:=by simpa using h3
                  simp[h3'],h4⟩
   ·omega
  ·rename_i t e hne he;split at h<;>(try cases h;done);rename_i h1;cases h;try dsimp only at hb
   obtain⟨c,e1,e2⟩:=A6 (G:=X.G) he hr hb
   have hn:Bl (so X.G st.fr) d (.box x)=some (.ptr d 0,.box [.c c]):=by
    simp only[Bl,e1];have:=Ey h1 e2;cases c<;>first|rfl|(simp[BO]at this)
   refine⟨_,_,hn, ?_⟩
   have hx:Cy d Γ ρ ((.c d 0,.v t)::Γ) (b,ρ):=fun p q hq=>by
    by_cases hp:Key.c d 0=p
    ·exact .inl ⟨0,hp.symm⟩
    ·obtain⟨f,hf,e⟩:=Bw hp hq;exact .inr ⟨f,hf,e _⟩
   refine Rep.newObj hr hx ⟨[.c c],rfl,rfl,fun j q' hj hq'=> ?_⟩ rfl;have hj0:j=0:=by omega
   subst hj0;rw[BN]at hq';cases hq';exact⟨.c c,rfl,c,rfl,e2⟩
 case mksl e size parts=>
  simp only[Ez]at h;split at h<;>(try cases h;done);rename_i t ht;split at h<;>(try cases h;done);rename_i l hl;split at h<;>(try cases h;done);rename_i hv;cases h;obtain⟨cs,h1,h2⟩:=ME hr (G:=X.G) hl hb
  have hall:(cs.all fun v=>Bi v==size)=true:=by
   rw[List.all_eq_true];intro c hc;obtain⟨i,hi⟩:=List.getElem?_of_mem hc;obtain⟨a,_,h7⟩:=h2.getB hi;simp[(Fo hv.1 hv.2 h7).2]
  refine⟨.osl d,.arr e size cs, ?_,Rep.newObj hr (Cy.refl d) ⟨cs,rfl,h2⟩ rfl⟩;simp only[Bl];rw[h1,Option.bind_some,if_pos hall]
 case mkmap mt kt z=>
  simp only[Ez]at h;split at h<;>(try cases h;done);rename_i k v hm;split at h<;>(try cases h;done);rename_i hh;cases h;have hk:=M7 hh.2.1;subst hk;exact⟨.omap d,.map mt (ktT k) z [] [],rfl,Rep.newObj hr (Cy.refl d) ⟨z,[],[],rfl,KP hh.1,rfl,rfl⟩ rfl⟩
 case make e size bytes z x y=>
  simp only[Ez]at h;split at h<;>(try cases h;done);rename_i t k dx k' dy ht hx hy;split at h<;>(try cases h;done);rename_i hz;cases h;obtain⟨p,h1,h2⟩:=Dyn.comp_val hb;obtain⟨h3,h4⟩:=Dyn.both_val h1;obtain⟨c1,e1,g1⟩:=A6 (G:=X.G) hx hr h3;obtain⟨c2,e2,g2⟩:=A6 (G:=X.G) hy hr h4;unfold Can at g1 g2;cases g1;cases g2;simp only[Dyn.val]at h2;split at h2<;>(try cases h2;done);rename_i hc;cases h2;refine⟨.osl d,.arr e size (List.replicate p.1.toNat z), ?_,Rep.newObj hr (Cy.refl d) ⟨_,rfl,As.replicate (R:=fun x c=>Can t x [c]) (KP hz) _⟩ rfl⟩;simp only[Bl,e1,e2];rw[if_pos hc]
 case siter x=>
  simp only[Ez]at h;split at h<;>(try cases h;done);rename_i e he;cases h;obtain⟨c,e1,e2⟩:=A6 (G:=X.G) he hr hb;unfold Can at e2;cases e2;exact⟨.iter d,.siter b 0,by simp only[Bl,e1],Rep.newObj hr (Cy.refl d) rfl rfl⟩
theorem MW(hr:Rep Γ ρ st){G:Nat→List CV}{t:Ty}{x:SO}{l:Dyn (HS Γ) (List (D t))}{ys:List (D t)}(h:Ie Γ t x=some l)(hy:l.val ρ=some ys):∃es,Cu st (so G st.fr x)=some es∧As (fun x c=>Can t x [c]) ys es:=by
 unfold Ie at h;split at h<;>(try cases h;done);rename_i fl u e he;split at h<;>(try cases h;done);rename_i g hg;cases h;obtain⟨y,h1,h2⟩:=Dyn.map_val hy;obtain⟨c,h3,h4,_,h5⟩:=Iz (msk:= []) (rd:=st.ob) (G:=G) he hr (fun _ _=>rfl) h1;have h6:=B1 _ _ hg h4;unfold Can at h6;obtain⟨nl,es,e1,h6⟩:=h6;cases e1;refine⟨es, ?_,h2▸h6⟩;rcases h5 with h5|⟨id,e',size,es',h5,h7,h8⟩|⟨nl',ks,vs,h5⟩
 ·rw[h5];rfl
 ·cases h8;rw[h5];simp only[Cu,h7]
 ·cases h5
theorem L4{t:Ty}{n:Nat}{xs:List (D t)}{es:List CV}(hv:t.val=true)(hl:AG (Bz t)=some n)(ho:Ew (Bz t)=true)(h:As (fun x c=>Can t x [c]) xs es):(es.all (fun v=>Bi v==n)&&es.all fun v=>v.cells.all BO)=true:=by
 rw[Af,List.all_eq_true,List.all_eq_true];refine⟨fun c hc=> ?_,fun c hc=> ?_⟩
 ·obtain⟨i,hi⟩:=List.getElem?_of_mem hc;obtain⟨a,_,h7⟩:=h.getB hi;simp[(Fo hv hl h7).2]
 ·obtain⟨i,hi⟩:=List.getElem?_of_mem hc;obtain⟨a,_,h7⟩:=h.getB hi;exact Ke ho (E3 hv h7)
theorem Rx{t u:Ty}{o n:Nat}{g:D t→D u→D t}(h:FH t o n u=some g){x:D t}{y:D u}{c c':CV}(hv:t.val=true)(hx:Can t x [c])(hy:Can u y [c']):
  Bi c'=n∧o+n≤Bi c∧Can t (g x y) [DV c o n c']:=by
 have single:∀{f:D u→D t},n=1∧o=0∧Dv u=true→AJ u t=some f→(∀l,c≠ .agg l)→Bi c'=n∧o+n≤Bi c∧Can t (f y) [DV c o n c']:=by
  intro f ⟨h1,h2,h3⟩ hf hna;have ho:=Ey h3 hy;have h4:Bi c'=1:=by cases c'<;>first|rfl|(simp[BO]at ho)
  have h5:Bi c=1:=by cases c<;>first|rfl|(exact absurd rfl (hna _))
  have h6:DV c o n c'=c':=by cases c<;>first|rfl|(exact absurd rfl (hna _))
  rw[h6];exact⟨by omega,by omega,B1 _ _ hf hy⟩
 cases t
 case agg r=>
  simp only[FH]at h;split at h<;>(try cases h;done);rename_i m q hm hq;split at h<;>(try cases h;done);rename_i he;split at h<;>(try cases h;done);rename_i hn;cases h;obtain⟨r',f⟩:=q;simp only at he;subst he;unfold Can at hx;obtain⟨l,e,hx⟩:=hx;cases e;obtain⟨g1,g2⟩:=Nv hq hx (E3 hn.2 hy);obtain⟨n1,n2⟩:=Fo hn.2 hm hy;rw[n1]at g1 g2;rw[hn.1]at n2 g1 g2;refine⟨n2,g2, ?_⟩;unfold Can;exact⟨_,rfl,g1⟩
 case falt f0 r0 l0=>
  simp only[FH]at h;split at h<;>(try cases h;done);rename_i hh;split at h<;>(try cases h;done);rename_i f hf;have hg:=Option.some.inj h;rw[←hg];refine single hh hf fun l hl=> ?_;subst hl;obtain⟨c1,e,_,e2⟩:=HJ (t:=.falt f0 r0 l0) hv hx;cases e;exact(e2 _).1 rfl
 all_goals(try(cases hv;done))
 all_goals
  simp only[FH]at h;split at h<;>(try cases h;done);rename_i hh;split at h<;>(try cases h;done);rename_i f hf;have hg:=Option.some.inj h;rw[←hg];refine single hh hf fun l hl=> ?_;subst hl;unfold Can at hx
  first
   |(rcases hx with e|e|e<;>(cases e;done))
   |(cases hx;done)
   |(obtain⟨_,e,_⟩:=hx;cases e;done)
   |(obtain⟨_,_,e,_⟩:=hx;cases e;done)
   |(obtain⟨_,_,_,e,_⟩:=hx;cases e;done)
   |(cases x<;>cases hx;done)
theorem Ll{α β:Type}{eq:α→α→Bool}{z:β}{x:α}{y:β}:∀{m:List (α×β)},(C1 eq z x m).2=true→(D3 eq x y m).map (·.1)=m.map (·.1)
 | [],h=>by cases h
 |p::m,h=>by
  unfold C1 at h;unfold D3;split
  ·rfl
  ·rename_i hp;rw[if_neg hp]at h;simp[Ll h]
theorem As.fst{α β γ:Type}{R:α→γ→Prop}:∀{m m':List (α×β)} {ks:List γ},m.map (·.1)=m'.map (·.1)→As (fun x c=>R x.1 c) m ks→As (fun x c=>R x.1 c) m' ks
 | [],[],_,_,h=>h
 | [],_::_,_,e,_=>by cases e
 |_::_,[],_,e,_=>by cases e
 |p::m,p'::m',ks,e,h=>by
  simp only[List.map_cons,List.cons.injEq]at e;obtain⟨c,ks',rfl,h1,h2⟩:=h;exact⟨c,ks',rfl,(by show R p'.1 c;rw[←e.1];exact h1),As.fst e.2 h2⟩
theorem Gb{id nb off:Nat}{fo:HS Γ→DK (.box nb)}{cs:List SV}{k:EK}{x:DK k}{sv:SV}(hr:Rep Γ ρ st)(ho:get Γ (.o id)=some ⟨.box nb,fo⟩)(hl:cs.length=nb)(hcs:∀j q,j<nb→get Γ (.c id j)=some q→∃sv,cs[j]? =some sv∧RS q.1 (q.2 ρ) sv)
  (hoff:off<nb) (hs:RS k x sv):Rep ((.c id off,k)::Γ) (x,ρ) {st with ob:=upd st.ob id (.box (cs.set off sv))}:=by
 refine Rep.turnCells hr (Γc:=(.c id off,k)::Γ) (ρc:=(x,ρ)) (fun p q hq=> ?_) ho (cs:=cs.set off sv) (by simp[hl]) fun j q hj hq=> ?_
 ·by_cases hp:Key.c id off=p
  ·exact .inl ⟨off,hp.symm⟩
  ·obtain⟨f,hf,e⟩:=Bw hp hq;exact .inr ⟨f,hf,e _⟩
 ·by_cases hjo:off=j
  ·subst hjo;rw[BN]at hq;cases hq;exact⟨sv,by simp[List.getElem?_set];omega,hs⟩
  ·obtain⟨f,hf,e'⟩:=Bw (by simpa using hjo) hq;obtain⟨sv',h6,h7⟩:=hcs j _ hj hf;exact⟨sv',by simp[hjo,h6],(e' _)▸h7⟩
theorem Rep.newObjS{d id:Nat}{k ko:EK}{x:DK k}{y:DK ko}{v:SV}{o:Ob}(h:Rep Γ ρ st)(ho:RO Γ ρ id ko y o)(hs:RS k x v):
  Rep ((.s d,k)::(.o id,ko)::Γ) (x,y,ρ) {fr:=upd st.fr d v,ob:=upd st.ob id o}:=by
 have h1:=Rep.turnObj h ho;have h2:=Rep.set h1 (d:=d) hs;exact h2
theorem MA{n:Nat}{i:Int}(e:(n:Int)=i)(h:i≤140737488355328):n≤140737488355328:=by omega
theorem MB{n:Nat}{i:Int}(e:(n:Int)=i)(h:i≤4611686018427387904):n≤4611686018427387904:=by omega
theorem NR{id:Nat}{t:Ty}{o nb:Nat}{cs:List SV}(hcs:∀j q,j<nb→get Γ (.c id j)=some q→∃sv,cs[j]? =some sv∧RS q.1 (q.2 ρ) sv){i:Nat}{y:D t}{c:CV}(hc:Can t y [c]):∀{n j:Nat} {p:Σ Γ':TC,HS Γ→Nat→D t→HS Γ'},GM Γ id t o n j=some p→o+j+n≤nb→
  Cy id Γ ρ p.1 (p.2 ρ i y)∧∀j' q,get p.1 (.c id j')=some q→(o+j≤j'∧j'<o+j+n∧∃sv,(if j'=o+i then some (.c c)else cs[j']?)=some sv∧RS q.1 (q.2 (p.2 ρ i y)) sv)∨((j'<o+j∨o+j+n≤j')∧∃f,get Γ (.c id j')=some ⟨q.1,f⟩∧q.2 (p.2 ρ i y)=f ρ)
 |0,j,p,h,_=>by
  simp only[GM,Ac]at h;subst h;exact⟨Cy.refl id,fun j' q hq=>.inr ⟨by omega,q.2,hq,rfl⟩⟩
 |n+1,j,p,h,hb=>by
  simp only[GM]at h;split at h<;>(try cases h;done);rename_i u f p' hf hp';split at h<;>(try cases h;done);rename_i hu;subst hu;cases h;obtain⟨g1,g2⟩:=NR hcs hc hp' (by omega);refine⟨fun k q hq=> ?_,fun j' q hq=> ?_⟩
  ·by_cases hk:Key.c id (o+j)=k
   ·exact .inl ⟨_,hk.symm⟩
   ·obtain⟨f',hf',e⟩:=Bw hk hq;rcases g1 _ _ hf' with hh|⟨f2,hf2,e2⟩
    ·exact .inl hh
    ·exact .inr ⟨f2,hf2,(e _).trans e2⟩
  ·by_cases hj:j'=o+j
   ·subst hj;rw[BN]at hq;cases hq;refine .inl ⟨by omega,by omega, ?_⟩;by_cases hi:i=j
    ·subst hi;refine⟨.c c,by simp,c,rfl, ?_⟩;simpa using hc
    ·obtain⟨sv,h1,h2⟩:=hcs (o+j) _ (by omega) hf;refine⟨sv,by rw[if_neg (by omega)];exact h1, ?_⟩;simp only[hi,if_false];exact h2
   ·obtain⟨f',hf',e⟩:=Bw (by simpa using Ne.symm hj) hq;rcases g2 j' _ hf' with⟨k1,k2,sv,k3,k4⟩|⟨k1,f2,k2,k3⟩
    ·exact .inl ⟨by omega,by omega,sv,k3,(e _)▸k4⟩
    ·exact .inr ⟨by omega,f2,k2,(e _).trans k3⟩
theorem Rd(hr:Rep Γ ρ st){d:Option Nat}{op:SOp}{o:OpD Γ}{b:o.B}(h:EY X Γ d op=some o)(hb:o.d.val ρ=some b):∃st',AE d (so X.G st.fr) st op=some st'∧Rep o.Γ' (o.up ρ b) st':=by
 cases op<;>(try cases h;done)
 case store n a x=>
  simp only[EY]at h;split at h<;>(try cases h;done)
  ·rename_i id off fa ha;have ha':deref st.ob (so X.G st.fr a)=.ptr id off:=DW ha hr (fun _ _=>rfl) (a:=fa ρ) rfl rfl;split at h<;>(try cases h;done);rename_i nb fo ho;obtain⟨cs,e,hl,hcs⟩:=hr.o id _ ho;split at h<;>(try cases h;done)
   ·rename_i r ex hx;split at h<;>(try cases h;done);rename_i m p hm hp;split at h<;>(try cases h;done);rename_i hh;cases h;obtain⟨c,e1,e2⟩:=AL hx hr hb;unfold Can at e2;obtain⟨l,e3,e2⟩:=e2;cases e3;have hlen:=Dr hm e2;obtain⟨h1,h2⟩:=Iy (ρ:=ρ) hp e2;refine⟨_, ?_,Rep.turnCells hr h1 ho (cs:=Eb cs off (l.map .c)) ?_ fun j q hj hq=> ?_⟩
    ·simp only[AE,ha',e,e1];rw[if_pos ⟨by omega,by omega,Ke hh.2.2 e2⟩]
    ·simp[Eb];omega
    ·rcases h2 j q hq with⟨h3,c,h4,h5⟩|⟨h3,f,h4,h5⟩
     ·have hjl:=(Ae.1 h4).1;refine⟨.c c, ?_,h5⟩;simp only[Eb];rw[List.append_assoc,List.getElem?_append_right (by simp;omega),List.getElem?_append_left (by simp;omega)];have:j-(cs.take off).length=j-off:=by simp;omega
      rw[this,List.getElem?_map,h4];rfl
     ·obtain⟨sv,h6,h7⟩:=hcs j _ hj h4;refine⟨sv, ?_,h5▸h7⟩;simp only[Eb];rcases h3 with h3|h3
      ·rw[List.append_assoc,List.getElem?_append_left (by simp;omega),List.getElem?_take_of_lt h3,h6]
      ·rw[List.getElem?_append_right (by simp;omega),List.getElem?_drop];have:off+(l.map SV.c).length+(j-(cs.take off++l.map SV.c).length)=j:=by simp;omega
       rw[this,h6]
   ·rename_i t ex hna hx;split at h<;>(try cases h;done);rename_i hh;cases h;obtain⟨c,e1,e2⟩:=AL hx hr hb;have ho1:=Ey hh.2.2 e2;refine⟨_, ?_,Gb hr ho hl hcs hh.2.1 (k:=.v t) (x:=b) (sv:=.c c) ⟨c,rfl,e2⟩⟩;simp only[AE,ha',e,e1]
    cases c<;>first
     |(simp[BO]at ho1;done)
     |(exact if_pos ⟨hh.1,by omega,ho1⟩)
   ·rename_i i fx hx;split at h<;>(try cases h;done);rename_i hh;cases h;have e1:so X.G st.fr x=.osl i:=AL hx hr (a:=fx ρ) rfl;refine⟨_, ?_,Gb hr ho hl hcs hh.2 (k:=.own i) (x:=()) (sv:=.osl i) rfl⟩;simp only[AE,ha',e,e1];exact if_pos ⟨hh.1,by omega,rfl⟩
   ·rename_i i fx hx;split at h<;>(try cases h;done);rename_i hh;cases h;have e1:so X.G st.fr x=.omap i:=AL hx hr (a:=fx ρ) rfl;refine⟨_, ?_,Gb hr ho hl hcs hh.2 (k:=.mp i) (x:=()) (sv:=.omap i) rfl⟩;simp only[AE,ha',e,e1];exact if_pos ⟨hh.1,by omega,rfl⟩
  ·rename_i id len off di ha;split at h<;>(try cases h;done);rename_i nb fo ho;obtain⟨cs,e,hl,hcs⟩:=hr.o id _ ho;split at h<;>(try cases h;done);rename_i t ex hx;split at h<;>(try cases h;done);rename_i p hp;split at h<;>(try cases h;done);rename_i hh;obtain⟨hn,hbd,hone⟩:=hh;cases h;obtain⟨h3,h4⟩:=Dyn.both_val hb;obtain⟨ha',hi⟩:=DW (rd:=st.ob) ha hr (fun _ _=>rfl) h3 rfl
   have hlt:off+b.1<cs.length:=by
    have:b.1<len:=hi;rw[hl];exact Nat.lt_of_lt_of_le (Nat.add_lt_add_left this off) hbd
   obtain⟨c,e1,e2⟩:=A6 (G:=X.G) hx hr h4;have ho1:=Ey hone e2;obtain⟨h1,h2⟩:=NR (i:=b.1) hcs e2 hp (by omega);refine⟨_, ?_,Rep.turnCells hr h1 ho (cs:=cs.set (off+b.1) (.c c)) (by simpa using hl) fun j q hj hq=> ?_⟩
   ·simp only[AE,ha',e,e1]
    cases c<;>first
     |(simp[BO]at ho1;done)
     |(exact if_pos ⟨hn,hlt,ho1⟩)
   ·rcases h2 j q hq with⟨_,_,sv,h6,h7⟩|⟨h5,f,h6,h7⟩
    ·refine⟨sv, ?_,h7⟩;rw[←h6,List.getElem?_set];by_cases hji:j=off+b.1
     ·subst hji;rw[if_pos rfl,if_pos hlt,if_pos rfl]
     ·rw[if_neg (Ne.symm hji),if_neg hji]
    ·obtain⟨sv,h8,h9⟩:=hcs j _ hj h6;refine⟨sv, ?_,h7▸h9⟩;rw[List.getElem?_set_ne (by have:b.1<len:=hi;omega)];exact h8
  ·rename_i id size off di ha;split at h<;>(try cases h;done);rename_i e' sz t xs ho;split at h<;>(try cases h;done);rename_i u dx hx;split at h<;>(try cases h;done);rename_i g hg;split at h<;>(try cases h;done);rename_i hh;obtain⟨hsz,hn,hv,hlt,hone⟩:=hh;cases h;obtain⟨w,h1,h2⟩:=Dyn.comp_val hb;obtain⟨p,h3,h4⟩:=Dyn.map_val h1;obtain⟨h5,h6⟩:=Dyn.both_val h3;have h2':w=some b:=h2;rw[h2']at h4;obtain⟨el,h7,h8⟩:=Aa.1 h4.symm;have ha':deref st.ob (so X.G st.fr a)=.eptr id p.1 size off:=DW ha hr (fun _ _=>rfl) h5 rfl;obtain⟨c,e1,e2⟩:=A6 (G:=X.G) hx hr h6;obtain⟨es,e,hes⟩:=hr.o id _ ho;obtain⟨c0,h9,h10⟩:=hes.get h7;obtain⟨g1,g2,g3⟩:=Rx hg hv h10 e2
   have hob:c.cells.all BO=true:=by
    unfold FH at hg
    cases hu:u.val with
    |true=>exact Ke hone (E3 hu e2)
    |false=>
     exfalso;split at hg
     ·split at hg<;>(try cases hg;done);split at hg<;>(try cases hg;done);split at hg<;>(try cases hg;done);rename_i hh;rw[hu]at hh;cases hh.2
     ·split at hg<;>(try cases hg;done);rename_i hh;have:=hh.2.2;cases u<;>first|(cases hu;done)|(cases this;done)|(simp only[Ty.val]at hu;simp only[Dv]at this;rw[hu]at this;cases this;done)
   refine⟨_, ?_,Rep.turnObj hr (k:=.arr e' sz t) (y:=b) ⟨es.set p.1 (DV c0 off n c),rfl,h8▸hes.set p.1 g3⟩⟩;simp only[AE,ha',e,e1];rw[if_pos ⟨hsz,hn,g1,hob⟩,h9,Option.bind_some,if_pos g2]
  ·rename_i da ha;split at h<;>(try cases h;done);rename_i dx hx;split at h<;>(try cases h;done);rename_i hn;cases h;obtain⟨p,h1,h2⟩:=Dyn.comp_val hb;obtain⟨h3,h4⟩:=Dyn.both_val h1;obtain⟨c,e1,e2⟩:=DW (rd:=st.ob) ha hr (fun _ _=>rfl) h3 rfl;unfold Can at e2;obtain⟨l,e3,e2⟩:=e2;cases e3;unfold Can at e2;obtain⟨c',rfl,e2⟩:=e2;unfold Can at e2;cases e2;obtain⟨c2,g1,g2⟩:=A6 (G:=X.G) hx hr h4;unfold Can at g2;cases g2;simp only[Dyn.val,Ad]at h2;obtain⟨h5,_⟩:=h2;refine⟨st, ?_,hr⟩;simp only[AE,e1,g1];exact if_pos ⟨hn,h5⟩
 case append e size bytes x y=>
  simp only[EY]at h;split at h<;>(try cases h;done)
  ·rename_i id fx hx;split at h<;>(try cases h;done);rename_i e' size' t xs ho;split at h<;>(try cases h;done);rename_i l d' hl;split at h<;>(try cases h;done);rename_i hh;obtain⟨he,hs,hv,hlr,hone⟩:=hh;cases h;have hx':so X.G st.fr x=.osl id:=AL hx hr (a:=fx ρ) rfl;obtain⟨w,h1,h2⟩:=Dyn.comp_val hb;obtain⟨ys,h3,h4⟩:=Dyn.map_val h1;have h2':w=some b:=h2;rw[h2']at h4;split at h4<;>(try cases h4;done);rename_i hc;cases h4;obtain⟨news,h5,h6⟩:=MW hr (G:=X.G) hl h3;obtain⟨es,e0,hes⟩:=hr.o id _ ho;have hall:=L4 hv hlr hone h6;have hl1:=hes.length;have hl2:=h6.length;refine⟨_, ?_,Rep.newObjS (hr.kill [id]) (k:=.own id) (ko:=.arr e size t) (x:=()) (y:=xs ρ++ys) (v:=.osl id) (o:=.arr e size (es++news)) ⟨_,rfl,hes.append h6⟩ rfl⟩;simp only[AE,h5,hall,if_true,hx',e0];rw[if_pos ⟨he,hs,by rw[hl1,hl2];exact MA (by rw[Int.natCast_mul,Int.natCast_add]) hc.1,by rw[hl1,hl2];exact MB (by rw[Int.natCast_add]) hc.2⟩];rfl
  ·rename_i fx hx;split at h<;>(try cases h;done);rename_i t ht;split at h<;>(try cases h;done);rename_i l d' hl;split at h<;>(try cases h;done);rename_i hh;obtain⟨hv,hlr,hone⟩:=hh;cases h;obtain⟨c,hx',hcx⟩:=AL hx hr (a:=fx ρ) rfl;unfold Can at hcx;cases hcx;obtain⟨ys,h1,h2⟩:=Dyn.comp_val hb;simp only[Dyn.val]at h2;split at h2<;>(try cases h2;done);rename_i hc;cases h2;obtain⟨news,h5,h6⟩:=MW hr (G:=X.G) hl h1;have hall:=L4 hv hlr hone h6;have hl2:=h6.length;refine⟨_, ?_,Rep.newObjS (hr.kill [d']) (k:=.own d') (ko:=.arr e size t) (x:=()) (y:=b) (v:=.osl d') (o:=.arr e size news) ⟨_,rfl,h6⟩ rfl⟩;simp only[AE,h5,hall,if_true,hx'];rw[if_pos ⟨by rw[hl2];exact MA (by rw[Int.natCast_mul]) hc.1,by rw[hl2];exact MB rfl hc.2⟩]
 case mapent mt x k=>
  simp only[EY]at h;split at h<;>(try cases h;done);rename_i id fx q d' hx hk;split at h<;>(try cases h;done);rename_i mt' kt vt m ho;split at h<;>(try cases h;done);rename_i g hg;split at h<;>(try cases h;done);rename_i hh;obtain⟨hm,hp⟩:=hh;cases h;have hx':so X.G st.fr x=.omap id:=AL hx hr (a:=fx ρ) rfl;dsimp only at hb;obtain⟨y,h1,h2⟩:=Dyn.map_val hb;obtain⟨ck,e1,e2⟩:=A6 (G:=X.G) hk hr h1;have e3:=B1 _ _ hg e2;obtain⟨z,ks,vs,e0,hz,hks,hvs⟩:=hr.o id _ ho;obtain⟨cv,l1,l2⟩:=HZ hp e3 hz hks hvs;obtain⟨i1,i2⟩:=HI hp e3 l2 hks hvs;subst h2;refine⟨_, ?_,Rep.newObjS hr (k:=.ent id kt vt) (ko:=.mob mt kt vt) (x:=_) (y:=_) (v:=.ent id ck cv) (o:=.map mt (ktT kt) z (AP (ktT kt) ks ck) (AQ (ktT kt) ks vs ck cv)) ⟨z,_,_,rfl,hz,i1,i2⟩ ⟨ck,cv,rfl,e3,l2⟩⟩;simp only[AE,hx',e1,e0];rw[if_pos ⟨hm,(EQ hp e3 e3).2,by rw[hks.length,hvs.length]⟩];simp only[l1,St.set,hm]
 case entst x s v=>
  simp only[EY]at h;split at h<;>(try cases h;done);rename_i id fx id' kt fs q hx hs hv;split at h<;>(try cases h;done);rename_i mt kt' vt m ho;split at h<;>(try cases h;done);rename_i g hg;split at h<;>(try cases h;done);rename_i hk;subst hk;split at h<;>(try cases h;done);rename_i hh;obtain⟨hid,hp⟩:=hh;subst hid;cases h;have hx':so X.G st.fr x=.omap id:=AL hx hr (a:=fx ρ) rfl;obtain⟨ck,hs',hck⟩:=AL hs hr (a:=fs ρ) rfl;obtain⟨w,h1,h2⟩:=Dyn.comp_val hb;obtain⟨y,h3,h4⟩:=Dyn.map_val h1;have h2':w=some b:=h2;rw[h2']at h4;split at h4<;>(try cases h4;done);rename_i hkey;cases h4;obtain⟨cv,e1,e2⟩:=A6 (G:=X.G) hv hr h3;have e3:=B1 _ _ hg e2;obtain⟨z,ks,vs,e0,hz,hks,hvs⟩:=hr.o id _ ho;obtain⟨i1,i2⟩:=HI hp hck e3 hks hvs;refine⟨_, ?_,Rep.turnObj hr (k:=.mob mt kt vt) (y:=D3 (eqZ kt) (fs ρ) (g y) (m ρ)) ⟨z,ks,AQ (ktT kt) ks vs ck cv,rfl,hz,As.fst (R:=fun k c=>Can kt k [c]) (Ll hkey).symm hks,i2⟩⟩;simp only[AE,hx',hs',e1,e0,if_true]
 case mapupd mt x k v=>
  simp only[EY]at h;split at h<;>(try cases h;done);rename_i id fx q p hx hk hv;split at h<;>(try cases h;done);rename_i mt' kt vt m ho;split at h<;>(try cases h;done);rename_i g f hg hf;split at h<;>(try cases h;done);rename_i hh;obtain⟨hm,hp⟩:=hh;cases h;have hx':so X.G st.fr x=.omap id:=AL hx hr (a:=fx ρ) rfl;dsimp only at hb;obtain⟨y,h1,h2⟩:=Dyn.map_val hb;obtain⟨h3,h4⟩:=Dyn.both_val h1;obtain⟨ck,e1,e2⟩:=A6 (G:=X.G) hk hr h3;obtain⟨cv,e1',e2'⟩:=A6 (G:=X.G) hv hr h4;have e3:=B1 _ _ hg e2;have e3':=B1 _ _ hf e2';obtain⟨z,ks,vs,e0,hz,hks,hvs⟩:=hr.o id _ ho;obtain⟨i1,i2⟩:=HI hp e3 e3' hks hvs;refine⟨_, ?_,Rep.turnObj hr (k:=.mob mt kt vt) (y:=b) ⟨z,AP (ktT kt) ks ck,AQ (ktT kt) ks vs ck cv,rfl,hz,h2▸i1,h2▸i2⟩⟩;simp only[AE,hx',e1,e1',e0];rw[if_pos ⟨hm,(EQ hp e3 e3).2⟩,hm]
theorem Rc(hT:TOk X E)(hr:Rep Γ ρ st){d:Option Nat}{op:SOp}{o:OpD Γ}{b:o.B}(h:Kg X Γ d op=some o)(hb:o.d.val ρ=some b)(rd:Nat→Ob):∃st',A9 E rd st d op=some st'∧Rep o.Γ' (o.up ρ b) st':=by
 unfold Kg at h;split at h<;>(try cases h;done);rename_i f x y;split at h<;>(try cases h;done);rename_i hcp;split at h<;>(try cases h;done);rename_i id fx ut q d hx hy;split at h<;>(try cases h;done);rename_i mt vt m ho;split at h<;>(try cases h;done);rename_i g hg;cases h;have hx':so X.G st.fr x=.omap id:=AL hx hr (a:=fx ρ) rfl;obtain⟨w,h1,h2⟩:=Dyn.comp_val hb;obtain⟨yv,h3,h4⟩:=Dyn.map_val h1;have h2':w=some b:=h2;rw[h2']at h4;have h5:JU (m ρ) (g yv)=some b:=h4.symm;unfold JU at h5;split at h5<;>(try cases h5;done);rename_i hcond;obtain⟨c1,c2,c3⟩:=hcond;simp only[Ac]at h5;obtain⟨cv,e1,e2⟩:=A6 (G:=X.G) hy hr h3;have e3:=B1 _ _ hg e2;obtain⟨z,ks,vs,e0,hz,hks,hvs⟩:=hr.o id _ ho;have hm:m ρ= []:=List.isEmpty_iff.1 c1;replace hks:As (fun(x:List UInt8×D vt) c=>Can .str x.1 [c]) (m ρ) ks:=hks;replace hvs:As (fun(x:List UInt8×D vt) c=>Can vt x.2 [c]) (m ρ) vs:=hvs;rw[hm]at hks hvs;unfold As at hks hvs;subst hks;subst hvs;unfold Can at e3;obtain⟨nl,ks,us,e4,k1,k2⟩:=e3;cases e4
 have key:∀(l:List (List UInt8×D vt)) (ks:List CV),As (fun x c=>Can .str x.1 [c]) l ks→(l.all fun p=>decide (p.1.length≤9223372036854775807))=true→ks.all Fg=true:=by
  intro l
  induction l with
  |nil=>intro ks h _;unfold As at h;subst h;rfl
  |cons p l ih=>
   intro ks h hl;obtain⟨c,ks',rfl,q1,q2⟩:=h;simp only[List.all_cons,Af]at hl⊢;unfold Can at q1;cases q1;exact⟨hl.1,ih ks' q2 hl.2⟩
 have kl:ks.length≤9223372036854775807:=by rw[k1.length];exact c3
 subst h5;refine⟨_, ?_,Rep.set (Rep.turnObj hr (k:=.mob mt .str vt) (y:=g yv) ⟨z,ks,us,rfl,hz,k1,k2⟩) (k:=.v (.tup .nil)) (x:=()) ⟨.tup [],rfl,by unfold Can;exact⟨[],rfl,by unfold Can;rfl⟩⟩⟩;have hcp':E.cp f=true:=by rw[hT.cp];exact hcp
 have e0':st.ob id=.map mt .str z [] []:=e0;show Fu E (so E.G st.fr) st (some d) f x y=_;unfold Fu;rw[if_pos hcp',hT.G,hx',e1];dsimp only;rw[e0'];dsimp only;rw[if_pos ⟨key _ _ k1 c2,kl⟩];rfl
end
def Az(le:Di)(st st':St):Prop:=∀{P:Program} {G:Nat→List CV} {w0:WL} {M0:MM} {n:Nat} {a:Act} {w:World} {z:Cz},w0.le=le→SR P G w0 M0 n st a w z→∃z',SR P G w0 M0 n st' a w z'
variable {le:Di}
theorem Az.refl(st:St):Az le st st:=fun _ h=>⟨_,h⟩
theorem Az.trans{s t u:St}(h:Az le s t)(k:Az le t u):Az le s u:=fun he hs=>by
 obtain⟨z',h1⟩:=h he hs;exact k he h1
theorem Az.kill(st:St)(ids:List Nat):Az le st (WB.kill ids st):=fun _ h=>⟨_,h.killed ids⟩
section
variable {P:Program} {G:Nat→List CV} {w0:WL} {M0:MM} {n:Nat} {st:St} {a:Act} {w:World} {z:Cz}
theorem SR.reslot(h:SR P G w0 M0 n st a w z){i:Nat}{sv:SV}(hs:Av w (Ao M0 z st.ob) z st.ob sv (a.tmps.getD i undef)):SR P G w0 M0 n {st with fr:=upd st.fr i sv} a w z:=by
 refine⟨h.size,h.defers,h.below,h.outer,h.nam,h.glob,fun j=> ?_,h.ob,h.lo,h.apart⟩;show Av w _ z st.ob (upd st.fr i sv j) _;by_cases hj:j=i
 ·subst hj;rw[AK];exact hs
 ·rw[A0 _ _ hj];exact h.fr j
theorem SR.reob(h:SR P G w0 M0 n st a w z){b:Nat}{o:Ob}(hl:st.ob b≠ .none)(hl':o≠ .none)(hbox:∀cs',o=.box cs'→∃cs,st.ob b=.box cs)(ho:AI P w (Ao M0 z st.ob) 0 z st.ob b (z.σ b) o):SR P G w0 M0 n {st with ob:=upd st.ob b o} a w z:=by
 have live:∀id,upd st.ob b o id≠ .none↔st.ob id≠ .none:=by
  intro id;by_cases hid:id=b
  ·subst hid;simp[AK,hl,hl']
  ·rw[A0 _ _ hid]
 have hm:∀g,Ao M0 z (upd st.ob b o) g→Ao M0 z st.ob g:=fun g hg=>Or.imp id (fun⟨id,h1,h2⟩=>⟨id,(live id).1 h1,h2⟩) hg;have hk:AM w (Ao M0 z st.ob) w (Ao M0 z (upd st.ob b o)):=⟨Nat.le_refl _,fun _ _ _=>rfl,fun g _ hg=>hm g hg,rfl⟩;have hz:∀s,D1 st.ob z (upd st.ob b o) z s:=fun s=>⟨fun id _ hh=>(live id).2 hh,fun _ _ _=>rfl,fun _ _ _ _ _ hh=>hh⟩
 have hn:EA w0 M0 n z (upd st.ob b o):=h.nam.of rfl fun N cs' hN hc=>by
  by_cases hNb:N=b
  ·subst hNb;rw[AK]at hc;obtain⟨cs,e⟩:=hbox cs' hc;exact⟨cs,e,rfl⟩
  ·rw[A0 _ _ hNb]at hc;exact⟨cs',hc,rfl⟩
 refine⟨h.size,h.defers,h.below,h.outer,hn,h.glob,fun i=>Av.keep hk (hz _) (h.fr i),fun id=> ?_,fun id g h1 h2=>h.lo id g ((live id).1 h1) h2,fun i j g hij h1 h2=>h.apart i j g hij ((live i).1 h1) ((live j).1 h2)⟩;show AI P w _ _ z (upd st.ob b o) id (z.σ id) (upd st.ob b o id);by_cases hid:id=b
 ·subst hid;rw[AK];exact AI.keep hk (fun _ _=>rfl) (fun _ _ _ _=>hz _) (fun _ _ hh=>hh) ho
 ·rw[A0 _ _ hid];exact AI.keep hk (fun _ _=>rfl) (fun _ _ _ _=>hz _) (fun _ _ hh=>hh) (h.ob id)
theorem SR.newNil(h:SR P G w0 M0 n st a w z){id e size:Nat}(hn:st.ob id=.none):SR P G w0 M0 n {st with ob:=upd st.ob id (.arr e size [])} a w (z.new id (.slice none 0 0)):=by
 have hk:=HP (M0:=M0) (z:=z) (d:=id) (v:=.slice none 0 0) (o:=.arr e size []) (w:=w) (w':=w) hn (Below.refl _ _) (fun g hg=>by cases hg)
 have hnm:EA w0 M0 n (z.new id (.slice none 0 0)) (upd st.ob id (.arr e size [])):=h.nam.of rfl fun N cs' hN hc=>by
  by_cases hNb:N=id
  ·subst hNb;rw[AK]at hc;cases hc
  ·rw[A0 _ _ hNb]at hc;exact⟨cs',hc,by simp[Cz.new,upd,hNb]⟩
 refine⟨h.size,h.defers,h.below,h.outer,hnm,h.glob,fun i=>Av.keep hk (Gw hn _) (h.fr i),fun i=> ?_,fun i g h1 h2=> ?_,fun i j g hij h1 h2 h3 h4=> ?_⟩
 ·show AI P w _ _ _ (upd st.ob id _) i _ (upd st.ob id _ i);by_cases hi:i=id
  ·subst hi;rw[AK];have:(z.new i (.slice none 0 0)).σ i=.slice none 0 0:=by simp[Cz.new,upd]
   rw[this];exact⟨[],⟨by simp,.inl ⟨rfl,rfl⟩⟩,rfl⟩
  ·rw[A0 _ _ hi];have e1:(z.new id (.slice none 0 0)).σ i=z.σ i:=by simp[Cz.new,upd,hi]
   rw[e1];by_cases hl:st.ob i=.none
   ·rw[hl];trivial
   ·exact AI.keep hk (fun g hg=>rfl) (fun _ _ _ _=>Gw hn _) (fun k b hh=>by simpa[Cz.new,hi]using hh) (h.ob i)
 ·by_cases hi:i=id
  ·subst hi;simp only[Cz.new,AK]at h2;cases h2
  ·simp only[A0 _ _ hi]at h1;simp only[Cz.new,A0 _ _ hi]at h2;exact h.lo i g h1 h2
 ·by_cases hi:i=id
  ·subst hi;simp only[Cz.new,AK]at h3;cases h3
  ·by_cases hj:j=id
   ·subst hj;simp only[Cz.new,AK]at h4;cases h4
   ·simp only[A0 _ _ hi]at h1;simp only[A0 _ _ hj]at h2;simp only[Cz.new,A0 _ _ hi]at h3;simp only[Cz.new,A0 _ _ hj]at h4;exact h.apart i j g hij h1 h2 h3 h4
theorem Mt(h:SR P G w0 M0 n st a w z){id et sz:Nat}(hI:¬w0.le.I id){es:List CV}(hob:st.ob id=.arr et sz es){v:Value}(hv:Av w (Ao M0 z st.ob) z st.ob (.osl id) v):An w (Ao M0 z (kill [id] st).ob) (.sl none es) v:=by
 have hless:∀g,Ao M0 z (kill [id] st).ob g→Ao M0 z st.ob g:=fun g hg=>Or.imp _root_.id GB hg;have hk:AM w (Ao M0 z st.ob) w (Ao M0 z (kill [id] st).ob):=⟨Nat.le_refl _,fun _ _ _=>rfl,fun g _ hg=>hless g hg,rfl⟩;obtain⟨hlive,e⟩:=hv
 have hout:∀g,blk (z.σ id)=some g→¬Ao M0 z (kill [id] st).ob g:=fun g hb hm=>by
  rcases hm with hm|⟨id',hl',hb'⟩
  ·exact h.out hlive hb hI hm
  ·have hl2:=DP.1 hl';have hne:id≠id':=fun e=>hl2.1 (by simp[e]);exact h.apart id id' g hne hlive hl2.2 hb hb'
 have ho:=h.ob id;rw[hob]at ho;obtain⟨xs,hown,hf⟩:=ho;unfold An;rcases hown.2 with⟨e1,e2⟩|⟨g,cap,cur,e1,e2,e3,e4,e5,e6,e7⟩
 ·refine⟨none,0,0,by rw[e,e1],e2.symm,Nat.le_refl _,(fun hh=>by cases hh),(fun hh=>by cases hh),fun _=>rfl,fun hne=> ?_⟩;exact absurd (List.eq_nil_of_length_eq_zero e2) hne
 ·refine⟨some ⟨g,0,none⟩,es.length,cap,by rw[e,e1],rfl,e4,(fun hh=>by cases hh),(fun hh=>by cases hh),(fun hh=>by cases hh),fun _=>⟨⟨g,0,none⟩,sz,rfl,BV e3,hout g (by rw[e1];rfl), ?_⟩⟩;refine EC fun k el hel=> ?_;obtain⟨u,g1,g2,g3⟩:=Fh hf hel;refine⟨u,An.keep hk _ _ g1,g2,fun j u' hu=> ?_⟩;rw[CO,cell_of_row w g _ cur et (0,0) e3];have h8:=g3 j u' hu;rw[←e7,List.getElem?_take]at h8;split at h8
  ·simpa using h8
  ·cases h8
theorem Lj{ob:Nat→Ob}{M:MM}:∀{cvs:List CV} {vs:List Value},Ay w M z ob (cvs.map .c) vs→Am w M cvs vs
 | [],vs,h=>h
 |c::cvs,vs,h=>by
  obtain⟨v,vs',rfl,h1,h2⟩:=h;exact Am.cons h1 (Lj h2)
theorem Qh(h:SR P G w0 M0 n st a w z){id:Nat}(hI:¬w0.le.I id){cvs:List CV}(hob:st.ob id=.box (cvs.map .c)){v:Value}(hv:Av w (Ao M0 z st.ob) z st.ob (.ptr id 0) v):An w (Ao M0 z (kill [id] st).ob) (.wp cvs) v:=by
 have hless:∀g,Ao M0 z (kill [id] st).ob g→Ao M0 z st.ob g:=fun g hg=>Or.imp _root_.id GB hg;have hk:AM w (Ao M0 z st.ob) w (Ao M0 z (kill [id] st).ob):=⟨Nat.le_refl _,fun _ _ _=>rfl,fun g _ hg=>hless g hg,rfl⟩;obtain⟨hlive,g0,e0,e⟩:=hv
 have hout:∀g,blk (z.σ id)=some g→¬Ao M0 z (kill [id] st).ob g:=fun g hb hm=>by
  rcases hm with hm|⟨id',hl',hb'⟩
  ·exact h.out hlive hb hI hm
  ·have hl2:=DP.1 hl';have hne:id≠id':=fun e=>hl2.1 (by simp[e]);exact h.apart id id' g hne hlive hl2.2 hb hb'
 have ho:=h.ob id;rw[hob]at ho;obtain⟨g,ty,vs,e1,e2,e3⟩:=ho;rw[e0]at e1;cases e1;unfold An;exact⟨g0,ty,vs,e,e2,hout g0 (by rw[e0];rfl),Am.keep hk _ _ (Lj e3)⟩
theorem Qi(h:SR P G w0 M0 n st a w z){id:Nat}(hI:¬w0.le.I id){mt:TypeId}{kt:KT}{zc:CV}{ks vs:List CV}(hob:st.ob id=.map mt kt zc ks vs){v:Value}(hv:Av w (Ao M0 z st.ob) z st.ob (.omap id) v):An w (Ao M0 z (kill [id] st).ob) (.map none ks vs) v:=by
 have hless:∀g,Ao M0 z (kill [id] st).ob g→Ao M0 z st.ob g:=fun g hg=>Or.imp _root_.id GB hg;have hk:AM w (Ao M0 z st.ob) w (Ao M0 z (kill [id] st).ob):=⟨Nat.le_refl _,fun _ _ _=>rfl,fun g _ hg=>hless g hg,rfl⟩;obtain⟨hlive,e⟩:=hv
 have hout:∀g,blk (z.σ id)=some g→¬Ao M0 z (kill [id] st).ob g:=fun g hb hm=>by
  rcases hm with hm|⟨id',hl',hb'⟩
  ·exact h.out hlive hb hI hm
  ·have hl2:=DP.1 hl';have hne:id≠id':=fun e=>hl2.1 (by simp[e]);exact h.apart id id' g hne hlive hl2.2 hb hb'
 obtain⟨hmt,ks',vs',r,ens,clk,hmp,e1,hh,h1,h2,h3,h4,h5,h6,_⟩:=F7 h hob;obtain⟨ens',hp,h1',h2'⟩:=N5 hmp h1 h2;unfold An;refine⟨some r,by rw[e,e1],(fun hh=>by cases hh),(fun hh=>by cases hh),(fun hh=>by cases hh),fun b hb=> ?_⟩;cases hb;exact⟨hout r (by rw[e1];rfl),ens,ens',clk,hh,⟨Kb h3 h1 h4,h5,h6⟩,hp,Am.keep hk _ _ h1',Am.keep hk _ _ h2'⟩
end
theorem MY{w:World}{M:MM}{v:Value}(h:An w M (.sl (some true) []) v):v=.slice none 0 0:=by
 unfold An at h;obtain⟨a,m,c,rfl,h1,_,h2,_,h3,_⟩:=h;have:=h2 rfl;subst this;have hm:m=0:=by simpa using h1
 subst hm;rw[h3 rfl]
theorem Az.own{st:St}{i id e size:Nat}(hi:st.fr i=.c (.sl (some true) []))(hn:st.ob id=.none):Az le st {fr:=upd st.fr i (.osl id),ob:=upd st.ob id (.arr e size [])}:=fun{P G w0 M0 n a w z} he h=>by
 have h1:=h.newNil (e:=e) (size:=size) hn;refine⟨_,h1.reslot (i:=i) (sv:=.osl id) ⟨by simp[upd], ?_⟩⟩;have hr:=h.fr i;rw[hi]at hr;rw[MY hr];simp[Cz.new,upd]
theorem Ay.set{P:Program}{w:World}{M:MM}{z:Cz}{ob:Nat→Ob}:∀{cs:List SV} {vs:List Value} (j:Nat) {s:SV},Ay w M z ob cs vs→(∀v,vs[j]? =some v→Av w M z ob s v)→Ay w M z ob (cs.set j s) vs
 | [],_,_,_,h,_=>by simpa using h
 |c::cs,vs,0,s,h,k=>by
  obtain⟨v,vs',rfl,_,h2⟩:=h;exact⟨v,vs',rfl,k v rfl,h2⟩
 |c::cs,vs,j+1,s,h,k=>by
  obtain⟨v,vs',rfl,h1,h2⟩:=h;exact⟨v,vs',rfl,h1,Ay.set (P:=P) j h2 (fun u hu=>k u (by simpa using hu))⟩
theorem Az.ownc{st:St}{b j id e size:Nat}{cs:List SV}(hb:st.ob b=.box cs)(hj:cs[j]? =some (.c (.sl (some true) [])))(hn:st.ob id=.none):Az le st {fr:=st.fr,ob:=upd (upd st.ob id (.arr e size [])) b (.box (cs.set j (.osl id)))}:=fun{P G w0 M0 n a w z} he h=>by
 have hne:b≠id:=fun e=>by rw[e,hn]at hb;cases hb
 have h1:=h.newNil (e:=e) (size:=size) hn;have ho:=h1.ob b;simp only[A0 _ _ hne,hb]at ho;have ho0:=h.ob b;rw[hb]at ho0;obtain⟨g,ty,vs,e1,e2,e3⟩:=ho;obtain⟨g',ty',vs',e1',e2',e3'⟩:=ho0;have hσ:(z.new id (.slice none 0 0)).σ b=z.σ b:=by simp[Cz.new,upd,hne]
 rw[hσ,e1']at e1;cases e1;rw[e2']at e2;cases e2;refine⟨_,h1.reob (b:=b) (o:=.box (cs.set j (.osl id))) ?_ (by simp) (fun _ _=>⟨cs,by simp only[A0 _ _ hne,hb]⟩) ⟨g,ty,vs,by rw[hσ,e1'],e2',Ay.set (P:=P) j e3 fun v hv=>⟨by simp[upd], ?_⟩⟩⟩
 ·simp only[A0 _ _ hne,hb];simp
 ·obtain⟨v',h3,h4⟩:=Ay.get e3' hj;rw[hv]at h3;cases h3;rw[MY h4];simp[Cz.new,upd]
theorem Az.frz{st:St}{i id e size:Nat}{es:List CV}(hI:¬le.I id)(hi:st.fr i=.osl id)(ho:st.ob id=.arr e size es):Az le st {fr:=upd (WB.kill [id] st).fr i (.c (.sl none es)),ob:=(WB.kill [id] st).ob}:=fun{P G w0 M0 n a w z} he h=>by
 have hr:=h.fr i;rw[hi]at hr;exact⟨z,(h.killed [id]).reslot (Mt h (he▸hI) ho hr)⟩
theorem Az.frzb{st:St}{i id:Nat}{cvs:List CV}(hI:¬le.I id)(hi:st.fr i=.ptr id 0)(ho:st.ob id=.box (cvs.map .c)):Az le st {fr:=upd (WB.kill [id] st).fr i (.c (.wp cvs)),ob:=(WB.kill [id] st).ob}:=fun{P G w0 M0 n a w z} he h=>by
 have hr:=h.fr i;rw[hi]at hr;exact⟨z,(h.killed [id]).reslot (Qh h (he▸hI) ho hr)⟩
theorem Az.frzm{st:St}{i id:Nat}{mt:TypeId}{kt:KT}{zc:CV}{ks vs:List CV}(hI:¬le.I id)(hi:st.fr i=.omap id)(ho:st.ob id=.map mt kt zc ks vs):Az le st {fr:=upd (WB.kill [id] st).fr i (.c (.map none ks vs)),ob:=(WB.kill [id] st).ob}:=fun{P G w0 M0 n a w z} he h=>by
 have hr:=h.fr i;rw[hi]at hr;exact⟨z,(h.killed [id]).reslot (Qi h (he▸hI) ho hr)⟩
theorem Az.frzc{st:St}{b j id e size:Nat}{cs:List SV}{es:List CV}(hI:¬le.I id)(hb:st.ob b=.box cs)(hj:cs[j]? =some (.osl id))(ho:st.ob id=.arr e size es):Az le st {fr:=(WB.kill [id] st).fr,ob:=upd (WB.kill [id] st).ob b (.box ((cs.map (Ax [id])).set j (.c (.sl none es))))}:=fun{P G w0 M0 n a w z} he h=>by
 have hne:b≠id:=fun e=>by rw[e,ho]at hb;cases hb
 have h1:=h.killed [id];have hkb:(WB.kill [id] st).ob b=.box (cs.map (Ax [id])):=by simp[WB.kill,hne,hb,B3]
 have o1:=h1.ob b;rw[hkb]at o1;have o0:=h.ob b;rw[hb]at o0;obtain⟨g,ty,vs,e1,e2,e3⟩:=o1;obtain⟨g',ty',vs',e1',e2',e3'⟩:=o0;rw[e1']at e1;cases e1;rw[e2']at e2;cases e2;refine⟨z,h1.reob (b:=b) (by rw[hkb];simp) (by simp) (fun _ _=>⟨_,hkb⟩) ⟨g,ty,vs,e1',e2',Ay.set (P:=P) j e3 fun v hv=> ?_⟩⟩;obtain⟨v',h3,h4⟩:=Ay.get e3' hj;rw[hv]at h3;cases h3;exact Mt h (he▸hI) ho h4
def BG(N:Nat):Nat→Bool:=fun N'=>N' !=N
def dropB(d N:Nat)(ob:Nat→Ob)(id:Nat):Bool:=id==d||id==N||(match ob id with
 | .arr _ _ es=> !AS (BG N) es
 | .map _ _ _ ks vs=> !(AS (BG N) ks&&AS (BG N) vs)
 |_=>false)
def Bb(p:Nat→Bool)(N:Nat):SV→SV
 | .c v=>if Bm (BG N) v=true then .c v else .undef
 | .stamp id k=>if p id|| !Bm (BG N) k then .undef else .stamp id k
 | .ent id k v=>if p id|| !Bm (BG N) k|| !Bm (BG N) v then .undef else .ent id k v
 |s=>match s.ref with
  |some id=>if p id then .undef else s
  |none=>s
def Fx(p:Nat→Bool)(N:Nat):Ob→Ob
 | .box cs=>.box (cs.map (Bb p N))
 |o=>o
def BR(i d N:Nat)(cs:List SV)(st:St):St:=
 {fr:=fun j=>if j=i then .c (.nam N)else Bb (dropB d N st.ob) N (st.fr j)
  ob:=fun id=>if id=N then .box (cs.map (Bb (dropB d N st.ob) N))else if dropB d N st.ob id then .none else Fx (dropB d N st.ob) N (st.ob id)}
section
variable {P:Program} {G:Nat→List CV} {w0:WL} {M0:MM} {n:Nat} {st:St} {a:Act} {w:World} {z:Cz}
theorem P5{d N:Nat}{ob:Nat→Ob}{id:Nat}(h:dropB d N ob id=false):id≠d∧id≠N:=by
 simp only[dropB,Bool.or_eq_false_iff,beq_eq_false_iff_ne]at h;exact h.1
theorem SR.tell(h:SR P G w0 M0 n st a w z){i d N:Nat}{cs:List SV}(hd:d<Aw)(hN:Aw≤N)(hT:¬w0.le.T N)(hI:¬w0.le.I d)(hi:st.fr i=.ptr d 0)(hob:st.ob d=.box cs):
  ∃z',SR P G w0 M0 n (BR i d N cs st) a w z':=by
 have ho:=h.ob d;rw[hob]at ho;obtain⟨g,ty,vs,e1,e2,e3⟩:=ho;have hlive:st.ob d≠ .none:=by rw[hob];simp
 have hblk:blk (z.σ d)=some g:=by rw[e1];rfl
 have hdN:d≠N:=by omega
 generalize hp:dropB d N st.ob=p;have pd:∀id,p id=false→id≠d∧id≠N:=fun id h1=>P5 (hp▸h1);let z':Cz:={σ:=upd z.σ N (z.σ d),β:=fun id=>if id=N then fun _ _=>False else z.β id,al:=upd z.al N g};have σN:z'.σ N=z.σ d:=AK _ _ _;have σne:∀id,id≠N→z'.σ id=z.σ id:=fun id hid=>A0 _ _ hid;have βne:∀id,id≠N→z'.β id=z.β id:=fun id hid=>by show(if id=N then _ else _)=_;rw[if_neg hid]
 have obN:(BR i d N cs st).ob N=.box (cs.map (Bb p N)):=by simp[BR,hp]
 have obne:∀id,id≠N→(BR i d N cs st).ob id=if p id then .none else Fx p N (st.ob id):=fun id hid=>by simp[BR,hp,hid]
 have dropLive:∀o,Fx p N o≠ .none↔o≠ .none:=fun o=>by cases o<;>simp[Fx]
 have liveT:∀id,id≠N→(BR i d N cs st).ob id≠ .none→p id=false∧st.ob id≠ .none:=fun id hid hl=>by
  rw[obne id hid]at hl
  cases hpi:p id with
  |true=>rw[hpi]at hl;exact absurd rfl hl
  |false=>
   rw[hpi]at hl;exact⟨rfl,(dropLive _).1 (by simpa using hl)⟩
 have liveO:∀id,p id=false→st.ob id≠ .none→(BR i d N cs st).ob id≠ .none:=fun id hpi hl=>by
  rw[obne id (pd id hpi).2,hpi];simpa using(dropLive _).2 hl
 have hless:∀g',Ao M0 z' (BR i d N cs st).ob g'→Ao M0 z st.ob g':=fun g' hg=>by
  rcases hg with hg|⟨id,h1,h2⟩
  ·exact .inl hg
  ·by_cases hid:id=N
   ·subst hid;rw[σN]at h2;exact .inr ⟨d,hlive,h2⟩
   ·rw[σne id hid]at h2;exact .inr ⟨id,(liveT id hid h1).2,h2⟩
 have hk:EB (BG N) w (Ao M0 z st.ob) w (Ao M0 z' (BR i d N cs st).ob):=⟨Nat.le_refl _,fun _ _ _=>rfl,fun g' _ hg=>hless g' hg,fun N' hN'=>by
  have:N'≠N:=by simpa[BG]using hN'
  exact A0 _ _ this⟩
 have hs:∀{s:SV} {v:Value},Av w (Ao M0 z st.ob) z st.ob s v→Av w (Ao M0 z' (BR i d N cs st).ob) z' (BR i d N cs st).ob (Bb p N s) v:=by
  intro s v hv;have hat:∀id,p id=false→st.ob id≠ .none→(BR i d N cs st).ob id≠ .none∧z'.σ id=z.σ id∧z'.β id=z.β id:=fun id hpi hl=>⟨liveO id hpi hl,σne id (pd id hpi).2,βne id (pd id hpi).2⟩
  cases s with
  |c cv=>
   simp only[Bb];split
   ·rename_i hn;exact An.named hk cv v hn hv
   ·trivial
  |undef=>trivial
  |stamp id k=>
   simp only[Bb];split
   ·trivial
   ·rename_i hc;simp only[Aj,not_or,Bool.not_eq_true,Bool.not_eq_true']at hc;obtain⟨hl,b,h1,h2⟩:=hv;obtain⟨q1,_,q3⟩:=hat id hc.1 hl;exact⟨q1,b,by rw[q3];exact h1,h2⟩
  |ent id k u=>
   simp only[Bb];split
   ·trivial
   ·rename_i hc;simp only[Aj,not_or,Bool.not_eq_true,Bool.not_eq_true']at hc;obtain⟨hl,b,uv,h1,h2,h3⟩:=hv;obtain⟨q1,_,q3⟩:=hat id hc.1.1 hl;exact⟨q1,b,uv,by rw[q3];exact h1,h2,An.named hk u uv (by simpa using hc.2) h3⟩
  |ptr id o=>
   simp only[Bb,SV.ref];split
   ·trivial
   ·rename_i hc;obtain⟨hl,gg,h1,h2⟩:=hv;obtain⟨q1,q2,_⟩:=hat id (by simpa using hc) hl;exact⟨q1,gg,q2.trans h1,h2⟩
  |eptr id k sz o=>
   simp only[Bb,SV.ref];split
   ·trivial
   ·rename_i hc;obtain⟨hl,gg,nn,c,h1,h2⟩:=hv;obtain⟨q1,q2,_⟩:=hat id (by simpa using hc) hl;exact⟨q1,gg,nn,c,q2.trans h1,h2⟩
  |osl id=>
   simp only[Bb,SV.ref];split
   ·trivial
   ·rename_i hc;obtain⟨q1,q2,_⟩:=hat id (by simpa using hc) hv.1;exact⟨q1,hv.2.trans q2.symm⟩
  |omap id=>
   simp only[Bb,SV.ref];split
   ·trivial
   ·rename_i hc;obtain⟨q1,q2,_⟩:=hat id (by simpa using hc) hv.1;exact⟨q1,hv.2.trans q2.symm⟩
  |iter id=>
   simp only[Bb,SV.ref];split
   ·trivial
   ·rename_i hc;obtain⟨q1,q2,_⟩:=hat id (by simpa using hc) hv.1;exact⟨q1,hv.2.trans q2.symm⟩
 have hss:∀(l:List SV) vs,Ay w (Ao M0 z st.ob) z st.ob l vs→Ay w (Ao M0 z' (BR i d N cs st).ob) z' (BR i d N cs st).ob (l.map (Bb p N)) vs:=by
  intro l
  induction l with
  |nil=>intro vs hh;exact hh
  |cons c l ih=>
   intro vs hh;obtain⟨v,vs',e,h1,h2⟩:=hh;exact⟨v,vs',e,hs h1,ih vs' h2⟩
 refine⟨z',h.size,h.defers,h.below,h.outer,⟨h.nam.lent,fun N' cs' hN' hc=> ?_,fun N' hN'=> ?_,h.nam.low⟩,h.glob,fun j=> ?_,fun id=> ?_,fun id g' h1 h2=> ?_,fun k j g' hij h1 h2 h3 h4=> ?_⟩
 ·by_cases hid:N'=N
  ·subst hid;rw[σN,e1];show _=Value.pointer (some ⟨upd z.al N' g N',0,none⟩);rw[AK]
  ·rw[obne N' hid]at hc;rw[σne N' hid];show _=Value.pointer (some ⟨upd z.al N g N',0,none⟩);rw[A0 _ _ hid];split at hc
   ·cases hc
   ·cases ho':st.ob N'<;>rw[ho']at hc<;>cases hc;exact h.nam.told N' _ hN' ho'
 ·show upd z.al N g N'=_;have hne:N'≠N:=fun e=>hT (by rw[←e];exact hN');rw[A0 _ _ hne];exact h.nam.names N' hN'
 ·show Av w _ z' _ (if j=i then .c (.nam N)else Bb (dropB d N st.ob) N (st.fr j)) _;rw[hp];by_cases hji:j=i
  ·subst hji;rw[if_pos rfl];have hr:=h.fr j;rw[hi]at hr;obtain⟨_,g2,q1,q2⟩:=hr;rw[e1]at q1;cases q1;show An w (Ao M0 z' (BR j d N cs st).ob) (.nam N) _;unfold An;rw[q2];show _=Value.pointer (some ⟨upd z.al N g N,0,none⟩);rw[AK]
  ·rw[if_neg hji];exact hs (h.fr j)
 ·by_cases hid:id=N
  ·subst hid;rw[obN,σN];exact⟨g,ty,vs,e1,e2,hss cs vs e3⟩
  ·rw[obne id hid,σne id hid]
   cases hpi:p id with
   |true=>simp only[if_true];trivial
   |false=>
    simp only[Ag,if_false];have hoi:=h.ob id;have hdp:dropB d N st.ob id=false:=by rw[hp];exact hpi
    simp only[dropB,Bool.or_eq_false_iff]at hdp;have hm:=hdp.2
    cases hob2:st.ob id with
    |none=>trivial
    |box l=>
     rw[hob2]at hoi;obtain⟨g3,ty3,vs3,q1,q2,q3⟩:=hoi;exact⟨g3,ty3,vs3,q1,q2,hss l vs3 q3⟩
    |arr e size es=>
     rw[hob2]at hoi hm;obtain⟨xs,q1,q2⟩:=hoi;exact⟨xs,q1,AD.named hk (by simpa using hm) q2⟩
    |map mt kt zc ks vs=>
     rw[hob2]at hoi hm;simp only[Bool.not_eq_false',Af]at hm;obtain⟨hmt,ks',vs',r,ens,clk,hmp,e,g1,g2,g3,g4,g5,g6,g7,g8⟩:=hoi;refine⟨hmt,ks',vs',r,ens,clk,hmp,e,g1,Am.named hk _ _ (FB.2 fun c hc=>FB.1 hm.1 c (hmp.ks.mem_iff.1 hc)) g2,Am.named hk _ _ (FB.2 fun c hc=>FB.1 hm.2 c (hmp.vs.mem_iff.1 hc)) g3,g4,g5,g6,g7,fun k b hb=>g8 k b ?_⟩;rw[βne id hid]at hb;exact hb
    |siter s pos=>rw[hob2]at hoi;exact hoi
    |buf e s=>rw[hob2]at hoi;exact hoi
 ·by_cases hid:id=N
  ·subst hid;rw[σN]at h2;have:=h.lo d g' hlive h2;refine⟨this.1.elim .inl fun hL=>absurd (h.nam.lent _ _ hL).2 hI,this.2⟩
  ·rw[σne id hid]at h2;exact h.lo id g' (liveT id hid h1).2 h2
 ·by_cases hk1:k=N
  ·subst hk1;have hj:j≠k:=fun e=>hij e.symm;rw[σN]at h3;rw[σne j hj]at h4;have hl:=liveT j hj h2;exact h.apart d j g' (fun e=>(pd j hl.1).1 e.symm) hlive hl.2 h3 h4
  ·by_cases hj:j=N
   ·subst hj;rw[σN]at h4;rw[σne k hk1]at h3;have hl:=liveT k hk1 h1;exact h.apart k d g' (pd k hl.1).1 hl.2 hlive h3 h4
   ·rw[σne k hk1]at h3;rw[σne j hj]at h4;exact h.apart k j g' hij (liveT k hk1 h1).2 (liveT j hj h2).2 h3 h4
end
theorem Az.tell{le:Di}{st:St}{i d N:Nat}{cs:List SV}(hd:d<Aw)(hN:Aw≤N)(hT:¬le.T N)(hI:¬le.I d)(hi:st.fr i=.ptr d 0)(hob:st.ob d=.box cs):Az le st (BR i d N cs st):=fun{P G w0 M0 n a w z} he h=>by
 subst he;exact h.tell hd hN hT hI hi hob
variable {le:Di}
def DY(le:Di)(E:Env):List SL→(St→Prop)→St→Prop
 | [],Q,st=>∃s,Az le st s∧Q s
 |l::ls,Q,st=>∃s,Az le st s∧∃s',AB E none l s=some s'∧DY le E ls Q s'
theorem N8{E:Env}:∀{ls:List SL} {Q:St→Prop} {st st':St},CD E none ls st=some st'→Q st'→DY le E ls Q st
 | [],Q,st,st',h,hq=>by cases h;exact⟨_,Az.refl _,hq⟩
 |l::ls,Q,st,st',h,hq=>by
  simp only[CD]at h;obtain⟨s,h1,h2⟩:=Ab.1 h;exact⟨st,Az.refl st,s,h1,N8 h2 hq⟩
theorem N7{E:Env}:∀{ls:List SL} {Q Q':St→Prop} {st:St},(∀s,Q s→Q' s)→DY le E ls Q st→DY le E ls Q' st
 | [],_,_,_,h,⟨s,h1,h2⟩=>⟨s,h1,h s h2⟩
 |_::_,_,_,_,h,⟨s,h1,s',h2,h3⟩=>⟨s,h1,s',h2,N7 h h3⟩
theorem R7{E:Env}{ls:List SL}{Q:St→Prop}{st s:St}(h:Az le st s)(hr:DY le E ls Q s):DY le E ls Q st:=by
 cases ls with
 |nil=>obtain⟨s',h1,h2⟩:=hr;exact⟨s',h.trans h1,h2⟩
 |cons l ls=>obtain⟨s',h1,h2⟩:=hr;exact⟨s',h.trans h1,h2⟩
def BY(le:Di)(E:Env):BL→(Ex→St→Prop)→St→Prop
 | .skip,Q,st=>∃s,Az le st s∧Q .normal s
 | .reg true D ls,Q,st=>∃s,Az le st s∧∃st',BT E true D ls s=some st'∧Q .normal st'
 | .reg false D ls,Q,st=>∃s,Az le st s∧DY le E ls (Q .normal) (if D.isEmpty then s else kill D s)
 | .regE D ls,Q,st=>∃s,Az le st s∧∃st',(BT E true D ls s=some st'∨Gr E D ls s=some st')∧Q .normal st'
 | .seq a b,Q,st=>∃s,Az le st s∧BY le E a (fun e s'=>match e with| .normal=>BY le E b Q s'|e=>Q e s') s
 | .cond c x y,Q,st=>∃s,Az le st s∧∃b,so E.G s.fr c=.c (.bool b)∧(b=true→BY le E x Q s)∧(b=false→BY le E y Q s)
 | .block id c,Q,st=>∃s,Az le st s∧BY le E c (fun e s'=>match e with| .exit i=>if i=id then Q .normal s' else Q (.exit i) s'|e=>Q e s') s
 | .loop c,Q,st=>∃s,Az le st s∧∃(R:Nat→St→Prop),(∃m,R m s)∧∀m s,R m s→BY le E c (fun e s'=>match e with| .normal=>∃k,k<m∧R k s'|e=>Q e s') s
 | .exit id,Q,st=>∃s,Az le st s∧Q (.exit id) s
 | .ret,Q,st=>∃s,Az le st s∧Q .ret s
 | .bad,_,_=>False
theorem N2{E:Env}{c:BL}{Q:Ex→St→Prop}{st s:St}(h:Az le st s)(hp:BY le E c Q s):BY le E c Q st:=by
 cases c
 case reg draw D ls=>
  cases draw<;>(obtain⟨s',h1,h2⟩:=hp;exact⟨s',h.trans h1,h2⟩)
 all_goals first|(exact hp.elim)|(obtain⟨s',h1,h2⟩:=hp;exact⟨s',h.trans h1,h2⟩)
theorem N0{E:Env}{draw:Bool}{D:List Nat}{ls:List SL}{Q:Ex→St→Prop}{st st':St}(h:BT E draw D ls st=some st')(hq:Q .normal st'):BY le E (.reg draw D ls) Q st:=by
 cases draw with
 |true=>exact⟨st,Az.refl st,st',h,hq⟩
 |false=>exact⟨st,Az.refl st,N8 (by simpa[BT]using h) hq⟩
theorem Dz{E:Env}:∀(c:BL) {Q Q':Ex→St→Prop} {st:St},(∀e s,Q e s→Q' e s)→BY le E c Q st→BY le E c Q' st
 | .skip,Q,Q',st,h,⟨s,hs,hp⟩=>⟨s,hs,h _ _ hp⟩
 | .reg true _ _,Q,Q',st,h,⟨s,hs,s',h1,h2⟩=>⟨s,hs,s',h1,h _ _ h2⟩
 | .reg false _ _,Q,Q',st,h,⟨s,hs,h1⟩=>⟨s,hs,N7 (h .normal) h1⟩
 | .regE _ _,Q,Q',st,h,⟨s,hs,s',h1,h2⟩=>⟨s,hs,s',h1,h _ _ h2⟩
 | .seq a b,Q,Q',st,h,⟨s,hs,hp⟩=>by
  refine⟨s,hs,Dz a (fun e s hs=> ?_) hp⟩
  cases e with
  |normal=>exact Dz b h hs
  |exit i=>exact h _ _ hs
  |ret=>exact h _ _ hs
 | .cond c x y,Q,Q',st,h,⟨s,hs,b,h1,h2,h3⟩=>⟨s,hs,b,h1,fun hb=>Dz x h (h2 hb),fun hb=>Dz y h (h3 hb)⟩
 | .block id c,Q,Q',st,h,⟨s,hs,hp⟩=>by
  refine⟨s,hs,Dz c (fun e s hs=> ?_) hp⟩
  cases e with
  |normal=>exact h _ _ hs
  |exit i=>
   simp only at hs⊢;split<;>rename_i hi
   ·rw[if_pos hi]at hs;exact h _ _ hs
   ·rw[if_neg hi]at hs;exact h _ _ hs
  |ret=>exact h _ _ hs
 | .loop c,Q,Q',st,h,⟨s,hs,R,h1,h2⟩=>by
  refine⟨s,hs,R,h1,fun m s hs=>Dz c (fun e s' hs'=> ?_) (h2 m s hs)⟩
  cases e with
  |normal=>exact hs'
  |exit i=>exact h _ _ hs'
  |ret=>exact h _ _ hs'
 | .exit i,Q,Q',st,h,⟨s,hs,hp⟩=>⟨s,hs,h _ _ hp⟩
 | .ret,Q,Q',st,h,⟨s,hs,hp⟩=>⟨s,hs,h _ _ hp⟩
 | .bad,Q,Q',st,h,hp=>hp.elim
section
variable {P:Program} {E:Env} {w0:WL} {M0:MM} {n:Nat}
theorem N9(hE:EOk P E)(hle:w0.le=le){ops:Array Oper}{all:List SL}(hc:Au (Dn P n ops) ops.toList=some all){Q:St→Prop}{K:Exit→Act→World→Prop}(hK:∀s a w z,Q s→SR P E.G w0 M0 n s a w z→K .normal a w):∀{ls pre:List SL} {st:St} {a:Act} {w:World} {z:Cz},all=pre++ls→SR P E.G w0 M0 n st a w z→DY le E ls Q st→wpOps P ops K (List.range' pre.length ls.length) a w
 | [],pre,st,a,w,z,he,h,hr=>by
  obtain⟨s,h1,h2⟩:=hr;obtain⟨z',h'⟩:=h1 hle h;exact hK _ _ _ _ h2 h'
 |l::ls,pre,st,a,w,z,he,h,hr=>by
  obtain⟨s,h1,s',h2,h3⟩:=hr;obtain⟨z',h'⟩:=h1 hle h;have hlen:=Dl hc;have hl:all[pre.length]? =some l:=by rw[he];simp
  have hi:pre.length<ops.toList.length:=by rw[←hlen];exact(Ae.1 hl).1
  have ho:ops.toList[pre.length]? =some (ops.toList[pre.length]):=Ai hi;obtain⟨l',g1,g2⟩:=Ha hc ho;rw[hl]at g1;simp only[Ac]at g1;subst g1;have ho':ops[pre.length]? =some (ops.toList[pre.length]):=by rw[←Array.getElem?_toList];exact ho
  rw[List.length_cons,List.range'_succ];refine Mi hE h' ho' g2 h2 fun a' w' z'' hS=> ?_;have:=N9 hE hle hc hK (ls:=ls) (pre:=pre++ [l]) (by rw[he];simp) hS h3;simpa using this
theorem El(hE:EOk P E)(hle:w0.le=le):∀(c:Code) {sc:BL} {Q:Ex→St→Prop} {st:St} {a:Act} {w:World} {z:Cz},AT P n c=some sc→SR P E.G w0 M0 n st a w z→BY le E sc Q st→c.wp P (GY P E w0 M0 n Q) a w
 | .skip,sc,Q,st,a,w,z,hc,h,hp=>by
  simp only[AT,Ac]at hc;subst hc;obtain⟨s,hs,hp⟩:=hp;obtain⟨z',h'⟩:=hs hle h;exact wp_skip ⟨.normal,s,z',rfl,hp,h'⟩
 | .region id ops draw,sc,Q,st,a,w,z,hc,h,hp=>by
  have hc':=hc;simp only[AT]at hc'
  have:sc=.bad∨(∃dr D l,sc=.reg dr D l)∨∃D l,sc=.regE D l:=by
   split at hc'
   ·split at hc'
    ·split at hc'
     ·cases hc';exact .inr (.inr ⟨_,_,rfl⟩)
     ·split at hc'
      ·cases hc';exact .inr (.inl ⟨_,_,_,rfl⟩)
      ·split at hc'
       ·cases hc';exact .inr (.inl ⟨_,_,_,rfl⟩)
       ·cases hc';exact .inl rfl
    ·cases hc';exact .inr (.inl ⟨_,_,_,rfl⟩)
   ·cases hc';exact .inl rfl
  rcases this with rfl|⟨dr,D,l,rfl⟩|⟨D,l,rfl⟩
  ·exact hp.elim
  case inr.inr=>
   obtain⟨s,hs,hp⟩:=hp;obtain⟨z',h'⟩:=hs hle h;exact Kp hE hc h' hp
  cases dr with
  |true=>
   obtain⟨s,hs,hp⟩:=hp;obtain⟨z',h'⟩:=hs hle h;exact Kp hE hc h' hp
  |false=>
   obtain⟨s,hs,hp⟩:=hp;obtain⟨z',h'⟩:=hs hle h;simp only[AT]at hc;split at hc
   case h_2=>cases hc
   rename_i ls hls;split at hc
   ·split at hc
    ·cases hc
    ·split at hc
     ·cases hc
     ·split at hc<;>cases hc
   ·cases hc
    have start:∃z'',SR P E.G w0 M0 n (if(FA P ops.toList l).isEmpty then s else kill (FA P ops.toList l) s) a w z'':=by
     split
     ·exact⟨z',h'⟩
     ·exact⟨z',h'.killed _⟩
    obtain⟨z'',h''⟩:=start;have hdr:draw=false:=by simpa using ‹¬draw=true›
    subst hdr;refine wp_region ?_;have hlen:=Dl hls;rw[List.range_eq_range',←Array.length_toList,←hlen];exact N9 hE hle hls (fun s' a' w' z3 hq hS=>⟨.normal,s',z3,rfl,hq,hS⟩) (pre:= []) rfl h'' hp
 | .seq x y,sc,Q,st,a,w,z,hc,h,hp=>by
  simp only[AT,Ab,Aa]at hc;obtain⟨sx,hx,sy,hy,rfl⟩:=hc;obtain⟨s,hs,hp⟩:=hp;obtain⟨z',h'⟩:=hs hle h;refine wp_seq (wp_mono (El hE hle x hx h' hp) fun e a' w' hpost=> ?_);obtain⟨e',st',z',he,hq,hS⟩:=hpost;subst he
  cases e' with
  |normal=>exact El hE hle y hy hS hq
  |exit i=>exact⟨.exit i,st',z',rfl,hq,hS⟩
  |ret=>exact⟨.ret,st',z',rfl,hq,hS⟩
 | .cond c x y,sc,Q,st,a,w,z,hc,h,hp=>by
  simp only[AT,Ab,Aa]at hc;obtain⟨so',hso,sx,hx,sy,hy,rfl⟩:=hc;obtain⟨s,hs,b,h1,h2,h3⟩:=hp;obtain⟨z',h'⟩:=hs hle h;have hr:=h'.ctx.c hso h1;have hb:=Cv hr;exact wp_cond_split hb (fun hh=>El hE hle x hx h' (h2 hh)) (fun hh=>El hE hle y hy h' (h3 hh))
 | .block id c,sc,Q,st,a,w,z,hc,h,hp=>by
  simp only[AT,Aa]at hc;obtain⟨sx,hx,rfl⟩:=hc;obtain⟨s,hs,hp⟩:=hp;obtain⟨z',h'⟩:=hs hle h;refine wp_block (wp_mono (El hE hle c hx h' hp) fun e a' w' hpost=> ?_);obtain⟨e',st',z',he,hq,hS⟩:=hpost;subst he
  cases e' with
  |normal=>exact⟨.normal,st',z',rfl,hq,hS⟩
  |exit i=>
   simp only at hq;show(if i=id then _ else _);split at hq
   ·rename_i hi;rw[if_pos hi];exact⟨.normal,st',z',rfl,hq,hS⟩
   ·rename_i hi;rw[if_neg hi];exact⟨.exit i,st',z',rfl,hq,hS⟩
  |ret=>exact⟨.ret,st',z',rfl,hq,hS⟩
 | .loop c,sc,Q,st,a,w,z,hc,h,hp=>by
  simp only[AT,Aa]at hc;obtain⟨sx,hx,rfl⟩:=hc;obtain⟨s0,hs0,R,⟨m,hm⟩,hr⟩:=hp;obtain⟨z0',h'⟩:=hs0 hle h;refine wp_loop_ghost (fun k a w=>∃s z,R k s∧SR P E.G w0 M0 n s a w z) m ⟨s0,z0',hm,h'⟩ fun k a' w' hI=> ?_;obtain⟨s,z',hR,hS⟩:=hI;refine wp_mono (El hE hle c hx hS (hr k s hR)) fun e a'' w'' hpost=> ?_;obtain⟨e',st',z'',he,hq,hS'⟩:=hpost;subst he
  cases e' with
  |normal=>
   obtain⟨k',hk',hR'⟩:=hq;exact⟨k',hk',st',z'',hR',hS'⟩
  |exit i=>exact⟨.exit i,st',z'',rfl,hq,hS'⟩
  |ret=>exact⟨.ret,st',z'',rfl,hq,hS'⟩
 | .exit i,sc,Q,st,a,w,z,hc,h,hp=>by
  simp only[AT,Ac]at hc;subst hc;obtain⟨s,hs,hp⟩:=hp;obtain⟨z',h'⟩:=hs hle h;exact wp_exit ⟨.exit i,s,z',rfl,hp,h'⟩
 | .label l,sc,Q,st,a,w,z,hc,h,hp=>by
  simp only[AT,Ac]at hc;subst hc;obtain⟨s,hs,hp⟩:=hp;obtain⟨z',h'⟩:=hs hle h;exact wp_label ⟨.normal,s,z',rfl,hp,h'⟩
 | .scope c,sc,Q,st,a,w,z,hc,h,hp=>by
  simp only[AT]at hc;refine wp_scope_straight (wp_mono (El hE hle c hc h hp) fun e a' w' hpost=> ?_);obtain⟨e',st',z',he,hq,hS⟩:=hpost;subst he;cases e'<;>exact⟨_,st',z',rfl,hq,hS⟩
 | .ret,sc,Q,st,a,w,z,hc,h,hp=>by
  simp only[AT,Ac]at hc;subst hc;obtain⟨s,hs,hp⟩:=hp;obtain⟨z',h'⟩:=hs hle h;exact wp_ret ⟨.ret,s,z',rfl,hp,h'⟩
 | .goto _,sc,Q,st,a,w,z,hc,h,hp=>by cases hc;exact hp.elim
 | .rangeFunc _ _ _ _,sc,Q,st,a,w,z,hc,h,hp=>by cases hc;exact hp.elim
 | .refuse _,sc,Q,st,a,w,z,hc,h,hp=>by cases hc;exact hp.elim
def PW(rs:List Bc)(t:Ty)(y:D t)(e:Ex)(st:St):Prop:=
 match e with
 | .exit _=>False
 |_=>∃c,CK st rs=some c∧Can t y [c]
theorem PY(hE:EOk P E){f:FuncId}{m:GX}(hc:D5 P f=some m){l:List CV}{t:Ty}{y:D t}(hl:l.length≤m.n)(h:BY .no E m.code (PW m.res t y) (ET l)):AO P f=true∧CallsTo P E.G f l (.val (enc t y)):=by
 unfold D5 at hc;split at hc<;>(try cases hc;done);rename_i hb;refine⟨hb, ?_⟩;simp only[Ab,Aa,Ad]at hc;obtain⟨fn,hf,b,hbody,hn,c,hcode,rs,hrs,rfl⟩:=hc;intro w M vs hM hG hL;refine calls_of_wp hf hbody (wp_mono (El hE rfl b hcode (Mz hM hG hl hL (Ah hn)) h) fun e a' w' hpost=> ?_);obtain⟨e',st',z',he,hq,hS⟩:=hpost;subst he
 have fin_:(∃c,CK st' rs=some c∧Can t y [c])→a'.defers= []∧∃v,(results fn a'.tmps).run P w'=.ok v w'∧∃u,Ending.returned v=.returned u∧Below w.heap.size w w'∧Dk P w' M w.heap.size u (.val (enc t y)):=fun⟨c,hr,hcan⟩=>by
  obtain⟨v,h1,h2⟩:=N6 hS hrs hr;exact⟨hS.defers,v,h1,v,rfl,JL.1 hS.below,An.enc hcan (MF hS h2)⟩
 cases e' with
 |normal=>exact fin_ hq
 |exit i=>exact hq.elim
 |ret=>exact fin_ hq
end
def Ty.noN(N:Nat):Ty→Bool
 | .nam M| .bptr M=>M !=N
 | .agg r| .tup r| .pt r| .clo _ r| .sl r| .one r=>r.noN N
 | .falt _ r l=>r.noN N&&l.noN N
 | .map k v=>k.noN N&&v.noN N
 | .cons t r=>t.noN N&&r.noN N
 | .nw _ _ t=>t.noN N
 |_=>true
theorem Dd{T:Nat→Bool}{c:CV}:AS T [c]=Bm T c:=by simp[AS]
theorem E9{T:Nat→Bool}{α:Type}{R:α→CV→Prop}:∀{xs:List α} {es:List CV},(∀x c,R x c→Bm T c=true)→As R xs es→AS T es=true
 | [],es,_,h=>by unfold As at h;subst h;rfl
 |x::xs,es,f,h=>by
  obtain⟨c,es',rfl,h1,h2⟩:=h;simp[AS,f x c h1,E9 f h2]
theorem Can.noN{N:Nat}:∀{t:Ty} {x:D t} {cs:List CV},t.noN N=true→Can t x cs→AS (BG N) cs=true:=by
 intro t
 induction t with
 |nam M=>intro x cs h hc;unfold Can at hc;subst hc;simpa[AS,Bm,BG,Ty.noN]using h
 |bptr M=>
  intro x cs h hc;unfold Can at hc;rcases hc with rfl|rfl|rfl
  ·simpa[AS,Bm,BG,Ty.noN]using h
  ·simpa[AS,Bm,BG,Ty.noN]using h
  ·rfl
 |agg r ih=>intro x cs h hc;unfold Can at hc;obtain⟨l,rfl,hc⟩:=hc;rw[Dd];exact ih h hc
 |tup r ih=>intro x cs h hc;unfold Can at hc;obtain⟨l,rfl,hc⟩:=hc;rw[Dd];exact ih h hc
 |pt r ih=>intro x cs h hc;unfold Can at hc;obtain⟨l,rfl,hc⟩:=hc;rw[Dd];exact ih h hc
 |clo f r ih=>intro x cs h hc;unfold Can at hc;obtain⟨l,rfl,hc⟩:=hc;rw[Dd];exact ih h hc
 |falt f r l ih ihl=>
  intro x cs h hc;simp only[Ty.noN,Af]at h
  cases x with
  |inl y=>unfold Can at hc;obtain⟨cap,rfl,hc⟩:=hc;rw[Dd];exact ih h.1 hc
  |inr y=>unfold Can at hc;exact ihl h.2 hc.2
 |sl e ih=>
  intro x cs h hc;unfold Can at hc;obtain⟨nl,es,rfl,hc⟩:=hc;rw[Dd];exact E9 (fun y c hy=>by rw[←Dd];exact ih h hy) hc
 |map k v ihk ihv=>
  intro x cs h hc;simp only[Ty.noN,Af]at h;unfold Can at hc;obtain⟨nl,ks,vs,rfl,h1,h2⟩:=hc;rw[Dd];simp only[Bm,Af];exact⟨E9 (fun y c hy=>by rw[←Dd];exact ihk h.1 hy) h1,E9 (fun y c hy=>by rw[←Dd];exact ihv h.2 hy) h2⟩
 |one t ih=>intro x cs h hc;unfold Can at hc;obtain⟨c,rfl,hc⟩:=hc;exact ih h hc
 |cons t r iht ihr=>
  intro x cs h hc;simp only[Ty.noN,Af]at h;unfold Can at hc;obtain⟨c,l,rfl,h1,h2⟩:=hc;have h3:=iht h.1 h1;rw[Dd]at h3;simp[AS,h3,ihr h.2 h2]
 |nw e s t _=>intro x cs h hc;unfold Can at hc;exact hc.elim
 |err=>intro x cs _ hc;unfold Can at hc;subst hc;cases x<;>rfl
 |_=>intro x cs _ hc;unfold Can at hc;subst hc;rfl
theorem Can.noN1{N:Nat}{t:Ty}{x:D t}{c:CV}(h:t.noN N=true)(hc:Can t x [c]):Bm (BG N) c=true:=by
 rw[←Dd];exact Can.noN h hc
def F9(N:Nat):EK→Bool
 | .v t=>t.noN N
 | .opt k=>F9 N k
 | .rp ex r=>ex&&r.noN N
 | .ent _ k v=>k.noN N&&v.noN N
 | .stamp _ k=>k.noN N
 |_=>true
def okO(N:Nat):EK→Bool
 | .arr _ _ t=>t.noN N
 | .mob _ k v=>k.noN N&&v.noN N
 | .box _| .sit| .buf _=>true
 |_=>false
def okK(d N:Nat)(Γ:TC):Key→EK→Bool
 | .o id,k=>id !=d&&id !=N&&(okO N k||k==.gone)
 | .s _,k| .c _ _,k=>F9 N k&&(match k.refs with
  |some id=>id !=d&&id !=N&&(match Bo Γ (.o id)with
   |some ko=>okO N ko
   |none=>false)
  |none=>true)
def D0(d N:Nat)(Γ:TC):List Key:=(Γ.map (·.1)).filter fun p=>match Bo Γ p with
 |some k=> !okK d N Γ p k
 |none=>false
theorem RS.drop{p:Nat→Bool}{N:Nat}{k:EK}{x:DK k}{sv:SV}(h:RS k x sv)(hk:F9 N k=true)(hn:∀id,k.refs=some id→p id=false):RS k x (Bb p N sv):=by
 induction k
 case v t=>
  obtain⟨c,rfl,hc⟩:=h;refine⟨c, ?_,hc⟩;simp only[Bb];rw[if_pos (Can.noN1 hk hc)]
 case opt k ih=>
  unfold RS at h⊢
  cases x with
  |none=>simp only at h;subst h;rfl
  |some y=>exact ih h hk hn
 case rp ex r=>
  obtain⟨cs,rest,rfl,hc,hr⟩:=h;simp only[F9,Af]at hk;have:=hr hk.1;subst this;refine⟨cs,[], ?_,hc,fun _=>rfl⟩;simp only[Bb]
  have h2:Bm (BG N) (.rp (cs++ []))=true:=by
   rw[List.append_nil];exact Can.noN hk.2 hc
  rw[if_pos h2]
 case undef=>trivial
 case ptr id o=>have:=hn id rfl;unfold RS at h;subst h;simp[RS,Bb,SV.ref,this]
 case eptr id s o=>have:=hn id rfl;unfold RS at h;subst h;simp[RS,Bb,SV.ref,this]
 case aptr id n o=>have:=hn id rfl;obtain⟨h,hi⟩:=h;subst h;exact⟨by simp[Bb,SV.ref,this],hi⟩
 case own id=>have:=hn id rfl;unfold RS at h;subst h;simp[RS,Bb,SV.ref,this]
 case mp id=>have:=hn id rfl;unfold RS at h;subst h;simp[RS,Bb,SV.ref,this]
 case iter id=>have:=hn id rfl;unfold RS at h;subst h;simp[RS,Bb,SV.ref,this]
 case ent id k v=>
  have:=hn id rfl;simp only[F9,Af]at hk;obtain⟨ck,cv,rfl,h1,h2⟩:=h;refine⟨ck,cv, ?_,h1,h2⟩;simp[Bb,this,Can.noN1 hk.1 h1,Can.noN1 hk.2 h2]
 case stamp id k=>
  have:=hn id rfl;obtain⟨ck,rfl,h1⟩:=h;refine⟨ck, ?_,h1⟩;simp[Bb,this,Can.noN1 hk h1]
 all_goals exact h.elim
section
variable {Γ:TC} {ρ:HS Γ} {st:St}
theorem Nb{d N:Nat}{p:Key}{k:EK}{f:HS Γ→DK k}(hg:get Γ p=some ⟨k,f⟩)(hp:p∉D0 d N Γ):okK d N Γ p k=true:=by
 have hk:=AX hg
 cases hc:okK d N Γ p k with
 |true=>rfl
 |false=>
  exfalso;apply hp;unfold D0;rw[List.mem_filter];refine⟨DO hk, ?_⟩;simp only at hk;simp only[hk,hc,Bool.not_false]
theorem Rep.dropB(h:Rep Γ ρ st){d N id:Nat}{ko:EK}(h1:id≠d)(h2:id≠N)(hk:Bo Γ (.o id)=some ko)(ho:okO N ko=true):WB.dropB d N st.ob id=false:=by
 obtain⟨f,hf⟩:=J3 hk;have hob:=h.o id _ hf;simp only[WB.dropB,Bool.or_eq_false_iff,beq_eq_false_iff_ne];refine⟨⟨h1,h2⟩, ?_⟩;cases ko<;>simp only[okO,Ag]at ho
 case box n=>obtain⟨cs,e,_⟩:=hob;rw[e]
 case arr e size t=>obtain⟨es,e,hc⟩:=hob;rw[e];simp[E9 (T:=BG N) (fun y c hy=>Can.noN1 ho hy) hc]
 case mob mt k v=>
  obtain⟨z,ks,vs,e,_,h3,h4⟩:=hob;simp only[Af]at ho;rw[e];simp[E9 (T:=BG N) (fun y c hy=>Can.noN1 ho.1 hy) h3,E9 (T:=BG N) (fun y c hy=>Can.noN1 ho.2 hy) h4]
 case sit=>unfold RO at hob;rw[hob]
 case buf e=>unfold RO at hob;rw[hob]
def Gl(d N:Nat)(st:St):St:=
 {fr:=fun j=>Bb (WB.dropB d N st.ob) N (st.fr j),ob:=fun id=>if WB.dropB d N st.ob id then .none else Fx (WB.dropB d N st.ob) N (st.ob id)}
theorem Rep.drop(h:Rep Γ ρ st)(d N:Nat):Rep (goT [d,N] (shT (D0 d N Γ) Γ)) (goP [d,N] (shP (D0 d N Γ) ρ)) (Gl d N st):=by
 have A7:∀p q,(∀d',p≠ .o d')→get (goT [d,N] (shT (D0 d N Γ) Γ)) p=some q→q.1=.undef∨∃f,get Γ p=some ⟨q.1,f⟩∧q.2 (goP [d,N] (shP (D0 d N Γ) ρ))=f ρ∧F9 N q.1=true∧∀id,q.1.refs=some id→WB.dropB d N st.ob id=false:=by
  intro p q hp hq;rcases Fy (shP (D0 d N Γ) ρ) hq with⟨d',_,h1,_⟩|⟨_,f,hf,e⟩
  ·exact absurd h1 (hp d')
  ·rcases Fz ρ hf with⟨_,h2⟩|⟨h2,g,hg,e2⟩
   ·exact .inl h2
   ·have hok:=Nb hg h2;refine .inr ⟨g,hg,e.trans e2, ?_⟩
    cases p with
    |o id=>exact absurd rfl (hp id)
    |s i=>
     simp only[okK,Af]at hok;refine⟨hok.1,fun id hid=> ?_⟩;have h3:=hok.2;rw[hid]at h3;simp only[Af,bne_iff_ne]at h3
     cases hko:Bo Γ (.o id)with
     |none=>rw[hko]at h3;cases h3.2
     |some ko=>rw[hko]at h3;exact Rep.dropB h h3.1.1 h3.1.2 hko h3.2
    |c i j=>
     simp only[okK,Af]at hok;refine⟨hok.1,fun id hid=> ?_⟩;have h3:=hok.2;rw[hid]at h3;simp only[Af,bne_iff_ne]at h3
     cases hko:Bo Γ (.o id)with
     |none=>rw[hko]at h3;cases h3.2
     |some ko=>rw[hko]at h3;exact Rep.dropB h h3.1.1 h3.1.2 hko h3.2
 refine⟨fun i q hq=> ?_,fun id q hq=> ?_⟩
 ·rcases A7 _ q (by simp) hq with h1|⟨f,hf,e,hn,hr⟩
  ·obtain⟨k,fq⟩:=q;subst h1
   trivial
  ·rw[e];exact RS.drop (h.s i _ hf) hn hr
 ·rcases Fy (shP (D0 d N Γ) ρ) hq with⟨d',hd',h1,h2⟩|⟨hne,f,hf,e⟩
  ·obtain⟨k,fq⟩:=q;simp only at h2;subst h2;have hid:id=d':=by simpa using h1
   subst hid;show(if WB.dropB d N st.ob id then Ob.none else _)=Ob.none
   have:WB.dropB d N st.ob id=true:=by
    simp only[List.mem_cons,List.not_mem_nil,or_false]at hd';rcases hd' with rfl|rfl<;>simp[WB.dropB]
   rw[if_pos this]
  ·rcases Fz ρ hf with⟨_,h2⟩|⟨h2,g,hg,e2⟩
   ·obtain⟨k,fq⟩:=q;simp only at h2;subst h2
    trivial
   ·have hok:=Nb hg h2;have hob:=h.o id _ hg;have e3:=e.trans e2;rw[e3];simp only[okK,Af,bne_iff_ne,Aj,beq_iff_eq]at hok;obtain⟨⟨h3,h4⟩,h5⟩:=hok;obtain⟨k,fq⟩:=q;simp only at h5 hob⊢;show RO _ _ id k _ (if WB.dropB d N st.ob id then Ob.none else Fx (WB.dropB d N st.ob) N (st.ob id));rcases h5 with h5|h5
    ·have hdb:=Rep.dropB h h3 h4 (AX hg) h5;rw[hdb];simp only[Ag,if_false];cases k<;>simp only[okO,Ag]at h5
     case box n=>
      obtain⟨cs,e1,hl,hc⟩:=hob;rw[e1];refine⟨_,rfl,by simpa using hl,fun j q' hj hq'=> ?_⟩;rcases A7 _ q' (by simp) hq' with h6|⟨f',hf',e',hn',hr'⟩
      ·obtain⟨k',fq'⟩:=q';subst h6;have hlt:j<cs.length:=by omega
       exact⟨Bb (WB.dropB d N st.ob) N cs[j],by simp[hlt],trivial⟩
      ·obtain⟨sv,h7,h8⟩:=hc j _ hj hf';refine⟨_,by rw[List.getElem?_map,h7];rfl, ?_⟩;rw[e'];exact RS.drop h8 hn' hr'
     case arr e' size t=>obtain⟨es,e1,hc⟩:=hob;rw[e1];exact⟨es,rfl,hc⟩
     case mob mt kk v=>obtain⟨z,ks,vs,e1,hc⟩:=hob;rw[e1];exact⟨z,ks,vs,rfl,hc⟩
     case sit=>unfold RO at hob⊢;rw[hob];rfl
     case buf e'=>unfold RO at hob⊢;rw[hob];rfl
    ·subst h5;have h6:st.ob id=.none:=hob;rw[h6];split<;>rfl
theorem Rep.newBox{Γc:TC}{ρc:HS Γc}{N:Nat}{ko:EK}{y:DK ko}{o:Ob}(h:Rep Γ ρ st)(hx:Cy N Γ ρ Γc ρc)(ho:RO Γc ρc N ko y o):Rep ((.o N,ko)::Γc) (y,ρc) {st with ob:=upd st.ob N o}:=by
 have down:∀p q,p≠ .o N→get ((.o N,ko)::Γc) p=some q→∃f,get Γc p=some ⟨q.1,f⟩∧q.2 (y,ρc)=f ρc:=by
  intro p q h2 hq;obtain⟨f,hf,e⟩:=Bw (Ne.symm h2) hq;exact⟨f,hf,e _⟩
 refine⟨fun i q hq=> ?_,fun id q hq=> ?_⟩
 ·obtain⟨f,hf,e⟩:=down _ q (by simp) hq;rcases hx _ _ hf with⟨j,hj⟩|⟨g,hg,e2⟩
  ·cases hj
  ·have e3:=e.trans e2;rw[e3];exact h.s i _ hg
 ·by_cases hi:id=N
  ·subst hi;rw[BN]at hq;cases hq;simp only[upd,if_true];exact RO.congr ho fun j q' hq'=>down _ q' (by simp) hq'
  ·obtain⟨f,hf,e⟩:=down _ q (by simpa using hi) hq;rcases hx _ _ hf with⟨j,hj⟩|⟨g,hg,e2⟩
   ·cases hj
   ·have:=h.o id _ hg;simp only at e2;rw[e];simp only[upd,hi,if_false];rw[e2];refine RO.congr this fun j q' hq'=> ?_;obtain⟨f',hf',e'⟩:=down _ q' (by simp) hq';rcases hx _ _ hf' with⟨j',hj'⟩|⟨g',hg',e2'⟩
    ·cases hj';exact absurd rfl hi
    ·exact⟨g',hg',e'.trans e2'⟩
end
inductive Gh where
 |own (i id e size:Nat)
 |ownc (b j id e size:Nat)
 |frz (i:Nat)
 |frzc (b j:Nat)
 |frzb (i:Nat)
 |tell (i N:Nat)
structure GhD (Γ:TC) where
 Γ':TC
 up:HS Γ→HS Γ'
def Mv(o:Option TC)(Γ:TC):Gh→Bool
 | .frz i| .frzb i=>match Bo Γ (.s i)with
  |some k=>match k.refs with
   |some id=>HW o id
   |none=>false
  |none=>false
 | .frzc b j=>match Bo Γ (.c b j)with
  |some k=>match k.refs with
   |some id=>HW o id
   |none=>false
  |none=>false
 |_=>false
theorem HH{o:Option TC}{Γ:TC}{p:Key}{k:EK}{f:HS Γ→DK k}{id:Nat}(h:(match Bo Γ p with
  |some k=>match k.refs with
   |some id=>HW o id
   |none=>false
  |none=>false)=false) (hg:get Γ p=some ⟨k,f⟩) (hk:k.refs=some id):¬(DQ o).I id:=by
 have:=AX hg;simp only at this;rw[this]at h;simp only[hk]at h;exact Q9 h
def KL(o:Option TC)(Γ:TC)(i N:Nat):Option (GhD Γ):=
 match o with
 |none=>none
 |some Θ=>if(A4 Θ).contains N=true∨Nat.ble Aw N=false then none else
  match get Γ (.s i)with
  |some ⟨.ptr d 0,_⟩=>if(A4 Θ).contains d=true∨Nat.ble Aw d=true then none else
   match get Γ (.o d)with
   |some ⟨.box (n+1),_⟩=>match EI Γ d n 0 with
    |some p=>if p.1.noN N=true∧AG p.1=some (n+1)then match DU N 0 p.1 (goT [d,N] (shT (D0 d N Γ) Γ))with
     |some q=>some ⟨(.s i,.v (.nam N))::(.o N,.box (n+1))::q.1,fun ρ=>((),(),q.2 (goP [d,N] (shP (D0 d N Γ) ρ)) (p.2 ρ))⟩
     |none=>none
     else none
    |none=>none
   |_=>none
  |_=>none
def F0(X:TP)(Γ:TC):Gh→Option (GhD Γ)
 | .tell i N=>KL X.Θ Γ i N
 | .own i id e size=>match get (AU [id] Γ) (.s i),X.TT e with
  |some ⟨.v .nsl,_⟩,some t=>some ⟨(.s i,.own id)::(.o id,.arr e size t)::AU [id] Γ,fun ρ=>((),[],Be [id] ρ)⟩
  |_,_=>none
 | .ownc b j id e size=>match X.TT e with
  |some t=>match get ((.o id,.arr e size t)::AU [id] Γ) (.o b),get ((.o id,.arr e size t)::AU [id] Γ) (.c b j)with
   |some ⟨.box n,_⟩,some ⟨.v .nsl,_⟩=>if j<n∧b≠id then some ⟨(.c b j,.own id)::(.o id,.arr e size t)::AU [id] Γ,fun ρ=>((),[],Be [id] ρ)⟩else none
   |_,_=>none
  |none=>none
 | .frz i=>match get Γ (.s i)with
  |some ⟨.own id,_⟩=>match get Γ (.o id)with
   |some ⟨.arr _ _ t,xs⟩=>some ⟨(.s i,.v (.sl t))::AU [id] Γ,fun ρ=>(xs ρ,Be [id] ρ)⟩
   |_=>none
  |some ⟨.mp id,_⟩=>match get Γ (.o id)with
   |some ⟨.mob _ k v,xs⟩=>some ⟨(.s i,.v (.map k v))::AU [id] Γ,fun ρ=>(xs ρ,Be [id] ρ)⟩
   |_=>none
  |_=>none
 | .frzc b j=>match get Γ (.o b),get Γ (.c b j)with
  |some ⟨.box n,_⟩,some ⟨.own id,_⟩=>match get Γ (.o id),get (AU [id] Γ) (.o b)with
   |some ⟨.arr _ _ t,xs⟩,some ⟨.box n',_⟩=>if j<n∧j<n' then some ⟨(.c b j,.v (.sl t))::AU [id] Γ,fun ρ=>(xs ρ,Be [id] ρ)⟩else none
   |_,_=>none
  |_,_=>none
 | .frzb i=>match get Γ (.s i)with
  |some ⟨.ptr id 0,_⟩=>match get Γ (.o id)with
   |some ⟨.box (n+1),_⟩=>match EI Γ id n 0 with
    |some p=>some ⟨(.s i,.v (.pt p.1))::AU [id] Γ,fun ρ=>(p.2 ρ,Be [id] ρ)⟩
    |none=>none
   |_=>none
  |_=>none
def ghT(X:TP)(Γ:TC)(g:Gh):Option (GhD Γ):=if Mv X.Θ Γ g=true then none else F0 X Γ g
theorem IS:∀{cs:List SV} {l:List CV},Au closed cs=some l→cs=l.map .c
 | [],l,h=>by cases h;rfl
 |s::cs,l,h=>by
  simp only[Au]at h;obtain⟨c,h1,h2⟩:=Ab.1 h;obtain⟨l',h3,h4⟩:=Aa.1 h2;subst h4
  have:s=.c c:=by
   cases s<;>first|(cases h1;rfl)|cases h1
  rw[this,IS h3];rfl
theorem Sr{o:Option TC}{Γ:TC}{ρ:HS Γ}{st:St}{i N:Nat}{q:GhD Γ}(h:KL o Γ i N=some q)(hr:Rep Γ ρ st):∃st',Az (DQ o) st st'∧Rep q.Γ' (q.up ρ) st':=by
 unfold KL at h;split at h<;>(try cases h;done);rename_i Θ;split at h<;>(try cases h;done);rename_i hN;split at h<;>(try cases h;done);rename_i d f hg;split at h<;>(try cases h;done);rename_i hd;split at h<;>(try cases h;done);rename_i n fo ho;split at h<;>(try cases h;done);rename_i p hp;split at h<;>(try cases h;done);rename_i hnn;split at h<;>(try cases h;done);rename_i q' hq;cases h;simp only[not_or,Bool.not_eq_true,Bool.not_eq_false]at hN hd;have h1:st.fr i=.ptr d 0:=hr.s i _ hg;obtain⟨cs,h2,h3,h4⟩:=hr.o d _ ho;obtain⟨cvs,h5,h6,_⟩:=Jh h4 hp (by omega);rw[List.drop_zero,List.take_of_length_le (by omega)]at h5;have h7:cs=cvs.map .c:=IS h5;have hdl:d<Aw:=Nat.lt_of_not_le fun hh=>by have:=Nat.ble_eq_true_of_le hh;rw[hd.2]at this;cases this
 refine⟨_,Az.tell hdl (Ah hN.2) (fun hh=> ?_) (fun hh=> ?_) h1 h2, ?_⟩
 ·have hh':(A4 Θ).contains N=true:=hh;rw[hN.1]at hh';cases hh'
 ·have hh':(A4 Θ).contains d=true:=hh;rw[hd.1]at hh';cases hh'
 ·have r1:=Rep.drop hr d N;obtain⟨x1,x2⟩:=Iy (ρ:=goP [d,N] (shP (D0 d N Γ) ρ)) (x:=p.2 ρ) hq h6;have hlen:cvs.length=n+1:=Dr hnn.2 h6
  have r2:=Rep.newBox r1 x1 (ko:=.box (n+1)) (y:=()) (o:=.box (cvs.map .c)) ⟨_,rfl,by simp[hlen],fun j q' hj hq'=>by
   rcases x2 j q' hq' with⟨_,c,k2,k3⟩|⟨k1,_⟩
   ·exact⟨.c c,by rw[List.getElem?_map];simp only[Nat.sub_zero]at k2;rw[k2];rfl,k3⟩
   ·omega⟩
  have r3:=Rep.set r2 (d:=i) (k:=.v (.nam N)) (x:=()) (sv:=.c (.nam N)) ⟨_,rfl,by unfold Can;rfl⟩;have hnc:∀c∈cvs,Bm (BG N) c=true:=FB.1 (Can.noN hnn.1 h6)
  have hcs:cs.map (Bb (WB.dropB d N st.ob) N)=cvs.map .c:=by
   rw[h7,List.map_map];refine List.map_congr_left fun c hc=> ?_;simp only[Function.comp_apply,Bb];rw[if_pos (hnc c hc)]
  have hst:BR i d N cs st=St.set {fr:=(Gl d N st).fr,ob:=upd (Gl d N st).ob N (.box (cvs.map .c))} (some i) (.c (.nam N)):=by
   unfold BR;rw[hcs];simp only[St.set,St.mk.injEq];exact⟨by funext j;simp only[B6,Gl],by funext j;simp only[B6,Gl]⟩
  rw[hst];exact r3
theorem J4{X:TP}{Γ:TC}{ρ:HS Γ}{st:St}{g:Gh}{q:GhD Γ}(h:ghT X Γ g=some q)(hr:Rep Γ ρ st):∃st',Az (DQ X.Θ) st st'∧Rep q.Γ' (q.up ρ) st':=by
 unfold ghT at h;split at h<;>(try cases h;done);rename_i hlent;have hlent':Mv X.Θ Γ g=false:=by simpa using hlent
 clear hlent
 cases g with
 |tell i N=>exact Sr h hr
 |own i id e size=>
  simp only[F0]at h;split at h<;>(try cases h;done);rename_i f t hg ht;cases h;have hk:=hr.kill [id];obtain⟨c,e1,e2⟩:=hk.s i _ hg;unfold Can at e2;cases e2;refine⟨_,Az.trans (Az.kill st [id]) (Az.own (i:=i) (id:=id) (e:=e) (size:=size) e1 (by simp[WB.kill])),Rep.newObjS hk (k:=.own id) (ko:=.arr e size t) (x:=()) (y:= []) (v:=.osl id) ⟨[],rfl,rfl⟩ rfl⟩
 |ownc b j id e size=>
  simp only[F0]at h;split at h<;>(try cases h;done);rename_i t ht;split at h<;>(try cases h;done);rename_i n fb f hb hg;split at h<;>(try cases h;done);rename_i hh;cases h;have hk:=hr.kill [id];have hk1:=Rep.turnObj hk (id:=id) (k:=.arr e size t) (y:= []) (o:=.arr e size []) ⟨[],rfl,rfl⟩;obtain⟨cs,e1,e2,e3⟩:=hk1.o b _ hb;obtain⟨sv,e4,c,e5,e6⟩:=e3 j _ hh.1 hg;unfold Can at e6;cases e6;subst e5;have e1':(WB.kill [id] st).ob b=.box cs:=by simpa[upd,hh.2]using e1
  refine⟨_,Az.trans (Az.kill st [id]) (Az.ownc (b:=b) (j:=j) (id:=id) (e:=e) (size:=size) e1' e4 (by simp[WB.kill])),Gb hk1 hb e2 e3 hh.1 (k:=.own id) (x:=()) (sv:=.osl id) rfl⟩
 |frz i=>
  simp only[F0]at h;split at h<;>(try cases h;done)
  ·rename_i id f hg;split at h<;>(try cases h;done);rename_i e size t xs ho;cases h;have h1:st.fr i=.osl id:=hr.s i _ hg;obtain⟨es,h2,h3⟩:=hr.o id _ ho;exact⟨_,Az.frz (HH hlent' hg rfl) h1 h2,Rep.set (hr.kill [id]) (d:=i) (k:=.v (.sl t)) (x:=xs ρ) ⟨_,rfl,by unfold Can;exact⟨_,_,rfl,h3⟩⟩⟩
  ·rename_i id f hg;split at h<;>(try cases h;done);rename_i mt k v xs ho;cases h;have h1:st.fr i=.omap id:=hr.s i _ hg;obtain⟨z,ks,vs,h2,_,h3,h4⟩:=hr.o id _ ho;exact⟨_,Az.frzm (HH hlent' hg rfl) h1 h2,Rep.set (hr.kill [id]) (d:=i) (k:=.v (.map k v)) (x:=xs ρ) ⟨_,rfl,by unfold Can;exact⟨_,_,_,rfl,h3,h4⟩⟩⟩
 |frzc b j=>
  simp only[F0]at h;split at h<;>(try cases h;done);rename_i n fb id f hb hg;split at h<;>(try cases h;done);rename_i e size t xs n' fb' ho hb';split at h<;>(try cases h;done);rename_i hh;cases h;obtain⟨cs,e1,e2,e3⟩:=hr.o b _ hb;obtain⟨sv,e4,e5⟩:=e3 j _ hh.1 hg;have e5':sv=.osl id:=e5;subst e5';obtain⟨es,h2,h3⟩:=hr.o id _ ho;have hk:=hr.kill [id];obtain⟨cs',k1,k2,k3⟩:=hk.o b _ hb';have hne:b≠id:=fun e=>by rw[e,h2]at e1;cases e1
  have hcs:cs'=cs.map (Ax [id]):=by
   have:(WB.kill [id] st).ob b=.box (cs.map (Ax [id])):=by simp[WB.kill,hne,e1,B3]
   rw[this]at k1;cases k1;rfl
  subst hcs;exact⟨_,Az.frzc (HH hlent' hg rfl) e1 e4 h2,Gb hk hb' k2 k3 hh.2 (k:=.v (.sl t)) (x:=xs ρ) ⟨_,rfl,by unfold Can;exact⟨_,_,rfl,h3⟩⟩⟩
 |frzb i=>
  simp only[F0]at h;split at h<;>(try cases h;done);rename_i id f hg;split at h<;>(try cases h;done);rename_i n fo ho;split at h<;>(try cases h;done);rename_i p hp;cases h;have h1:st.fr i=.ptr id 0:=hr.s i _ hg;obtain⟨cs,h2,h3,h4⟩:=hr.o id _ ho;obtain⟨cvs,h5,h6,_⟩:=Jh h4 hp (by omega);rw[List.drop_zero,List.take_of_length_le (by omega)]at h5;have h7:st.ob id=.box (cvs.map .c):=by rw[h2,IS h5]
  exact⟨_,Az.frzb (HH hlent' hg rfl) h1 h7,Rep.set (hr.kill [id]) (d:=i) (k:=.v (.pt p.1)) (x:=p.2 ρ) ⟨_,rfl,by unfold Can;exact⟨_,rfl,h6⟩⟩⟩
def C4{S T:Type}(b:S→Option (S⊕T)):Nat→S→Option T
 |0,_=>none
 |n+1,s=>(b s).bind fun o=>match o with
  | .inl s'=>C4 b n s'
  | .inr t=>some t
open Classical in
noncomputable def iter{S T:Type}(b:S→Option (S⊕T))(s:S):Option T:=
 if h:∃t n,C4 b n s=some t then some (choose h)else none
theorem J8{S T:Type}{b:S→Option (S⊕T)}:∀{n m:Nat} {s:S} {t:T},n≤m→C4 b n s=some t→C4 b m s=some t
 |0,_,_,_,_,h=>by cases h
 |n+1,0,_,_,hnm,_=>by omega
 |n+1,m+1,s,t,hnm,h=>by
  simp only[C4]at h⊢;obtain⟨o,h1,h2⟩:=Ab.1 h;rw[h1,Option.bind_some]
  cases o with
  |inl s'=>exact J8 (by omega) h2
  |inr t'=>exact h2
theorem F3{S T:Type}{b:S→Option (S⊕T)}{s:S}{t:T}:iter b s=some t↔∃n,C4 b n s=some t:=by
 unfold iter;constructor
 ·intro h;split at h<;>(try cases h;done);rename_i hh;cases h;exact Classical.choose_spec hh
 ·rintro⟨n,h⟩
  have hh:∃t n,C4 b n s=some t:=⟨t,n,h⟩;rw[dif_pos hh];obtain⟨m,hm⟩:=Classical.choose_spec hh;have h1:=J8 (Nat.le_max_left n m) h;have h2:=J8 (Nat.le_max_right n m) hm;rw[h1]at h2;rw[Option.some.inj h2]
theorem B7{S T:Type}(b:S→Option (S⊕T))(s:S):iter b s=(b s).bind fun o=>match o with
  | .inl s'=>iter b s'
  | .inr t=>some t:=by
 cases hb:b s with
 |none=>
  rw[Option.bind_none]
  cases h:iter b s with
  |none=>rfl
  |some t=>
   obtain⟨n,hn⟩:=F3.1 h
   cases n with
   |zero=>cases hn
   |succ n=>simp[C4,hb]at hn
 |some o=>
  rw[Option.bind_some]
  cases o with
  |inr t=>exact F3.2 ⟨1,by simp[C4,hb]⟩
  |inl s'=>
   simp only;apply Option.ext;intro t;rw[F3,F3];constructor
   ·rintro⟨n,hn⟩
    cases n with
    |zero=>cases hn
    |succ n=>
     refine⟨n, ?_⟩;simpa[C4,hb]using hn
   ·rintro⟨n,hn⟩
    exact⟨n+1,by simpa[C4,hb]using hn⟩
abbrev XC:=List (Nat×TC)
@[reducible] def KE(A:Type):XC→Type
 | []=>Unit
 |e::xs=>(HS e.2→Option A)×KE A xs
structure DKn (A:Type) (xs:XC) (Γn:TC) (R:Type) where
 n:HS Γn→Option A
 e:KE A xs
 r:R→Option A
def CE(A:Type):(xs:XC)→Nat→Option (Σ Γ:TC,KE A xs→HS Γ→Option A)
 | [],_=>none
 |e::xs,i=>if e.1=i then some ⟨e.2,fun k=>k.1⟩else match CE A xs i with
  |some q=>some ⟨q.1,fun k=>q.2 k.2⟩
  |none=>none
def KB(xs:XC):List Nat→Option XC
 | []=>some []
 |i::is=>match xs.find? (fun e=>e.1==i),KB xs is with
  |some e,some ys=>some ((i,e.2)::ys)
  |_,_=>none
def GJ(A:Type)(xs:XC):(ys:XC)→Option (KE A xs→KE A ys)
 | []=>some fun _=>()
 |e::ys=>match CE A xs e.1,GJ A xs ys with
  |some q,some g=>if h:q.1=e.2 then some fun k=>(h▸q.2 k,g k)else none
  |_,_=>none
@[reducible] def D2(R:Type):XC→Bool→Type
 | [],true=>R
 | [],false=>Empty
 | [e],false=>HS e.2
 | [e],true=>HS e.2⊕R
 |e::xs,rt=>HS e.2⊕D2 R xs rt
def keX{R B:Type}:(xs:XC)→(rt:Bool)→(D2 R xs rt→B)→KE B xs
 | [],_,_=>()
 | [_],false,f=>(fun ρ=>some (f ρ),())
 | [_],true,f=>(fun ρ=>some (f (.inl ρ)),())
 |_::e::xs,rt,f=>(fun ρ=>some (f (.inl ρ)),keX (e::xs) rt (fun o=>f (.inr o)))
def rtX{R B:Type}:(xs:XC)→(rt:Bool)→(D2 R xs rt→B)→R→Option B
 | [],true,f=>fun r=>some (f r)
 | [],false,_=>fun _=>none
 | [_],false,_=>fun _=>none
 | [_],true,f=>fun r=>some (f (.inr r))
 |_::e::xs,rt,f=>rtX (e::xs) rt (fun o=>f (.inr o))
def elX{R A:Type}:(xs:XC)→(rt:Bool)→KE A xs→(R→Option A)→D2 R xs rt→Option A
 | [],true,_,kr=>fun o=>kr o
 | [],false,_,_=>fun o=>nomatch o
 | [_],false,k,_=>fun o=>k.1 o
 | [_],true,k,kr=>fun o=>match o with
  | .inl ρ=>k.1 ρ
  | .inr r=>kr r
 |_::e::xs,rt,k,kr=>fun o=>match o with
  | .inl ρ=>k.1 ρ
  | .inr o=>elX (e::xs) rt k.2 kr o
inductive GL where
 |g (g:Gh)
 |l (l:SL)
def Ds:List GL→List SL
 | []=> []
 | .g _::gs=>Ds gs
 | .l l::gs=>l::Ds gs
inductive AC where
 |skip
 |reg (draw:Bool) (D:List Nat) (ls:List SL)
 |rg (D:List Nat) (gs:List GL)
 |regE (e:Bool) (D:List Nat) (ls:List SL)
 |sq (a b:AC)
 |seq (Γ:TC) (a b:AC)
 |join (Γ:TC) (ex:List Nat) (rt:Bool) (a b:AC)
 |cond (c:SO) (x y:AC)
 |block (id:Nat) (b:AC)
 |loop (Γ:TC) (ex:List Nat) (rt:Bool) (b:AC)
 |exit (id:Nat)
 |ret
 |gh (g:Gh) (c:AC)
 |raw (c:BL)
def Bj:AC→BL
 | .skip=>.skip
 | .reg draw D ls=>.reg draw D ls
 | .rg D gs=>.reg false D (Ds gs)
 | .regE _ D ls=>.regE D ls
 | .sq a b| .seq _ a b| .join _ _ _ a b=>.seq (Bj a) (Bj b)
 | .cond c x y=>.cond c (Bj x) (Bj y)
 | .block id b=>.block id (Bj b)
 | .loop _ _ _ b=>.loop (Bj b)
 | .exit id=>.exit id
 | .ret=>.ret
 | .gh _ c=>Bj c
 | .raw c=>c
structure LsD (A:Type) (Γ:TC) where
 Γ':TC
 run:HS Γ→(HS Γ'→Option A)→Option A
def Fv(A:Type)(X:TP)(msk:List Nat):(ls:List SL)→(Γ:TC)→Option (LsD A Γ)
 | [],Γ=>some ⟨Γ,fun ρ K=>K ρ⟩
 |l::ls,Γ=>match opL X Γ msk l with
  |some o=>match Fv A X msk ls o.Γ' with
   |some q=>some ⟨q.Γ',fun ρ K=>o.d.app ρ fun b=>q.run (o.up ρ b) K⟩
   |none=>none
  |none=>none
def En(A:Type)(X:TP)(draw:Bool)(D:List Nat)(ls:List SL)(Γ:TC):Option (LsD A Γ):=
 match D with
 | []=>Fv A (cond draw X.noE X) [] ls Γ
 |d::ds=>match Fv A (cond draw X.noE X) (if draw then d::ds else []) ls (AU (d::ds) Γ)with
  |some q=>some ⟨q.Γ',fun ρ K=>q.run (Be (d::ds) ρ) K⟩
  |none=>none
def Em(A:Type)(X:TP):(gs:List GL)→(Γ:TC)→Option (LsD A Γ)
 | [],Γ=>some ⟨Γ,fun ρ K=>K ρ⟩
 | .l l::gs,Γ=>match opL X Γ [] l with
  |some o=>match Em A X gs o.Γ' with
   |some q=>some ⟨q.Γ',fun ρ K=>o.d.app ρ fun b=>q.run (o.up ρ b) K⟩
   |none=>none
  |none=>none
 | .g g::gs,Γ=>match ghT X Γ g with
  |some p=>match Em A X gs p.Γ' with
   |some q=>some ⟨q.Γ',fun ρ K=>q.run (p.up ρ) K⟩
   |none=>none
  |none=>none
def Gk(A:Type)(X:TP)(D:List Nat)(gs:List GL)(Γ:TC):Option (LsD A Γ):=
 match D with
 | []=>Em A X gs Γ
 |d::ds=>match Em A X gs (AU (d::ds) Γ)with
  |some q=>some ⟨q.Γ',fun ρ K=>q.run (Be (d::ds) ρ) K⟩
  |none=>none
def BE:Key→Bool
 | .s _=>true
 | .o N| .c N _=> !Nat.ble Aw N
def DS(e:Key×EK):Bool:=BE e.1&&match e.2.refs with
 |some id=> !Nat.ble Aw id
 |none=>true
def Da(e:Key×EK):Bool:= !BE e.1
def C7(f:Key×EK→Bool):TC→List Key→TC
 | [],_=> []
 |e::Γ,seen=>match seen.contains e.1 with
  |true=>C7 f Γ seen
  |false=>match f e with
   |true=>e::C7 f Γ (e.1::seen)
   |false=>C7 f Γ (e.1::seen)
structure Lc (A:Type) (Γ Θ:TC) where
 Γ':TC
 Θ':TC
 run:HS Γ→HS Θ→(HS Γ'→HS Θ'→Option A)→Option A
def JH(l:SL):Bool:=(!l.op.hard||l.op.stores)&&l.dst.all fun j=>Nat.blt j Aw
def efT(X:TP)(Γ Θ:TC)(l:SL):Option (OpD (Θ++Γ)):=match l.op.calls with
 |true=>match Γ.all fun e=>BE e.1 with
  |true=>EX X (Θ++Γ) l
  |false=>none
 |false=>none
def Fw(A:Type)(X:TP)(D:List Nat):(ls:List SL)→(Γ Θ:TC)→Option (Lc A Γ Θ)
 | [],Γ,Θ=>some ⟨Γ,Θ,fun ρ θ K=>K ρ θ⟩
 |l::ls,Γ,Θ=>match efT X Γ Θ l with
  |some o=>match BH o.Γ' (C7 DS o.Γ' []),BH o.Γ' (C7 Da o.Γ' [])with
   |some g,some f=>match Fw A X D ls (C7 DS o.Γ' []) (C7 Da o.Γ' [])with
    |some q=>some ⟨q.Γ',q.Θ',fun ρ θ K=>o.d.app (BA Θ θ ρ) fun b=>q.run (g (o.up (BA Θ θ ρ) b)) (f (o.up (BA Θ θ ρ) b)) K⟩
    |none=>none
   |_,_=>none
  |none=>match JH l with
   |true=>match EZ X Γ D l with
    |some o=>match Fw A X D ls o.Γ' Θ with
     |some q=>some ⟨q.Γ',q.Θ',fun ρ θ K=>o.d.app ρ fun b=>q.run (o.up ρ b) θ K⟩
     |none=>none
    |none=>none
   |false=>none
def Jq(A:Type)(X:TP)(D:List Nat)(ls:List SL)(Γ:TC):Option (LsD A Γ):=
 match BH (AU D Γ) (C7 DS (AU D Γ) []),BH (AU D Γ) (C7 Da (AU D Γ) [])with
 |some g,some f=>match Fw A X D ls (C7 DS (AU D Γ) []) (C7 Da (AU D Γ) [])with
  |some q=>match q.Γ'.all fun e=>BE e.1 with
   |true=>some ⟨q.Θ'++q.Γ',fun ρ K=>q.run (g (Be D ρ)) (f (Be D ρ)) fun ρ' θ'=>K (BA q.Θ' θ' ρ')⟩
   |false=>none
  |none=>none
 |_,_=>none
def Js(A:Type)(X:TP)(e:Bool)(D:List Nat)(ls:List SL)(Γ:TC):Option (LsD A Γ):=match e with
 |true=>Jq A X D ls Γ
 |false=>En A X true D ls Γ
def Eo(A:Type)(X:TP):AC→(Γ:TC)→Option (LsD A Γ)
 | .skip,Γ=>some ⟨Γ,fun ρ K=>K ρ⟩
 | .reg draw D ls,Γ=>En A X draw D ls Γ
 | .rg D gs,Γ=>Gk A X D gs Γ
 | .regE e D ls,Γ=>Js A X e D ls Γ
 | .sq a b,Γ=>match Eo A X a Γ with
  |some p=>match Eo A X b p.Γ' with
   |some q=>some ⟨q.Γ',fun ρ K=>p.run ρ fun ρ'=>q.run ρ' K⟩
   |none=>none
  |none=>none
 | .gh g c,Γ=>match ghT X Γ g with
  |some p=>match Eo A X c p.Γ' with
   |some q=>some ⟨q.Γ',fun ρ K=>q.run (p.up ρ) K⟩
   |none=>none
  |none=>none
 |_,_=>none
def FK(X:TP)(Γ:TC):Bc→Option (Σ t:Ty,Dyn (HS Γ) (D t))
 | .tmp t=>match rdC Γ [] (.t t)with
  |some q=>some q.2
  |none=>none
 | .cell a sz=>match rdK X.G Γ (.t a)with
  |some k=>match DR Γ [] sz (Do Γ [] k)with
   |some ⟨.v t,d⟩=>some ⟨t,d⟩
   |some ⟨.own id,.tot _⟩=>match get Γ (.o id)with
    |some ⟨.arr _ _ t,xs⟩=>some ⟨.sl t,.tot xs⟩
    |_=>none
   |_=>none
  |none=>none
def FJ(X:TP)(Γ:TC):List Bc→Option (Σ r:Ty,Dyn (HS Γ) (D r))
 | []=>some ⟨.nil,.tot fun _=>()⟩
 | [x]=>match FK X Γ x with
  |some q=>some ⟨.one q.1,q.2⟩
  |none=>none
 |x::y::xs=>match FK X Γ x,FJ X Γ (y::xs)with
  |some q,some p=>some ⟨.cons q.1 p.1,q.2.both p.2⟩
  |_,_=>none
def I3(X:TP)(Γ:TC):List Bc→Option (Σ t:Ty,Dyn (HS Γ) (D t))
 | [x]=>FK X Γ x
 |xs=>match FJ X Γ xs with
  |some q=>some ⟨.tup q.1,q.2⟩
  |none=>none
def Ks(Γ:TC):(rs:List Bc)→(Rt:Ty)→Option (HS Γ→D Rt)
 | [.tmp i],.nw e size t=>match get Γ (.s i)with
  |some ⟨.own id,_⟩=>match get Γ (.o id)with
   |some ⟨.arr e' size' t',xs⟩=>if h:t'=t then(if e'=e∧size'=size then some fun ρ=>(h▸xs ρ:List (D t))else none)else none
   |_=>none
  |some ⟨.v .nsl,_⟩=>some fun _=>([]:List (D t))
  |_=>none
 |_,_=>none
structure RdD (Γ:TC) (R:Type):Type 1 where
 B:Type
 d:Dyn (HS Γ) B
 up:HS Γ→B→R
def rdT(X:TP)(rs:List Bc)(Rt:Ty)(Γ:TC):Option (RdD Γ (D Rt)):=
 match Ks Γ rs Rt with
 |some g=>some ⟨Unit,.tot fun _=>(),fun ρ _=>g ρ⟩
 |none=>match I3 X Γ rs with
  |some q=>match AJ q.1 Rt with
   |some g=>some ⟨D q.1,q.2,fun _ v=>g v⟩
   |none=>none
  |none=>none
noncomputable def den(X:TP)(R:Type)(rd:(Γ:TC)→Option (RdD Γ R)):AC→(A:Type)→(xs:XC)→(Γn Γ:TC)→Option (HS Γ→DKn A xs Γn R→Option A)
 | .skip,A,xs,Γn,Γ=>match BH Γ Γn with
  |some f=>some fun ρ k=>k.n (f ρ)
  |none=>none
 | .reg draw D ls,A,xs,Γn,Γ=>match En A X draw D ls Γ with
  |some q=>match BH q.Γ' Γn with
   |some f=>some fun ρ k=>q.run ρ fun ρ'=>k.n (f ρ')
   |none=>none
  |none=>none
 | .rg D gs,A,xs,Γn,Γ=>match Gk A X D gs Γ with
  |some q=>match BH q.Γ' Γn with
   |some f=>some fun ρ k=>q.run ρ fun ρ'=>k.n (f ρ')
   |none=>none
  |none=>none
 | .regE e D ls,A,xs,Γn,Γ=>match Js A X e D ls Γ with
  |some q=>match BH q.Γ' Γn with
   |some f=>some fun ρ k=>q.run ρ fun ρ'=>k.n (f ρ')
   |none=>none
  |none=>none
 | .sq a b,A,xs,Γn,Γ=>match Eo A X a Γ with
  |some q=>match den X R rd b A xs Γn q.Γ' with
   |some db=>some fun ρ k=>q.run ρ fun ρ'=>db ρ' k
   |none=>none
  |none=>none
 | .seq Γm a b,A,xs,Γn,Γ=>match den X R rd a A xs Γm Γ,den X R rd b A xs Γn Γm with
  |some da,some db=>some fun ρ k=>da ρ ⟨fun ρm=>db ρm k,k.e,k.r⟩
  |_,_=>none
 | .join Γm ex rt a b,A,xs,Γn,Γ=>match KB xs ex with
  |some ys=>match GJ A xs ys,den X R rd a (D2 R ((0,Γm)::ys) rt) ys Γm Γ,den X R rd b A xs Γn Γm with
   |some g,some da,some db=>some fun ρ k=>(da ρ ⟨(keX ((0,Γm)::ys) rt (fun o=>o)).1,(keX ((0,Γm)::ys) rt (fun o=>o)).2,rtX ((0,Γm)::ys) rt (fun o=>o)⟩).bind (elX ((0,Γm)::ys) rt (fun ρm=>db ρm k,g k.e) k.r)
   |_,_,_=>none
  |none=>none
 | .cond c x y,A,xs,Γn,Γ=>match rdV Γ c,den X R rd x A xs Γn Γ,den X R rd y A xs Γn Γ with
  |some ⟨.bool,d⟩,some dx,some dy=>some fun ρ k=>d.app ρ fun b=>if b=true then dx ρ k else dy ρ k
  |_,_,_=>none
 | .block id b,A,xs,Γn,Γ=>match den X R rd b A ((id,Γn)::xs) Γn Γ with
  |some db=>some fun ρ k=>db ρ ⟨k.n,(k.n,k.e),k.r⟩
  |none=>none
 | .loop Γh ex rt b,A,xs,_,Γ=>match KB xs ex with
  |some ys=>match GJ A xs ys,BH Γ Γh,den X R rd b (HS Γh⊕D2 R ys rt) ys Γh Γh with
   |some g,some f,some db=>some fun ρ k=>(iter (fun ρ=>db ρ ⟨fun ρ'=>some (.inl ρ'),keX ys rt Sum.inr,rtX ys rt Sum.inr⟩) (f ρ)).bind (elX ys rt (g k.e) k.r)
   |_,_,_=>none
  |none=>none
 | .exit i,A,xs,_,Γ=>match CE A xs i with
  |some q=>match BH Γ q.1 with
   |some f=>some fun ρ k=>q.2 k.e (f ρ)
   |none=>none
  |none=>none
 | .ret,A,xs,Γn,Γ=>match rd Γ with
  |some q=>some fun ρ k=>q.d.app ρ fun v=>k.r (q.up ρ v)
  |none=>none
 | .raw _,_,_,_,_=>some fun _ _=>none
 | .gh g c,A,xs,Γn,Γ=>match ghT X Γ g with
  |some p=>match den X R rd c A xs Γn p.Γ' with
   |some dc=>some fun ρ k=>dc (p.up ρ) k
   |none=>none
  |none=>none
section
variable {X:TP} {E:Env}
theorem KQ{t:Ty}(hm:mlT t=true):∀{ys:List (D t)} {es:List CV},As (fun x c=>Can t x [c]) ys es→By es=true
 | [],es,h=>by unfold As at h;subst h;rfl
 |y::ys,es,h=>by
  obtain⟨c,es',rfl,h1,h2⟩:=h;have:=MS hm h1;simp only[By,Bool.and_true]at this;simp[By,this,KQ hm h2]
theorem Rb(hT:TOk X E){Γ:TC}{msk:List Nat}{ρ:HS Γ}{st:St}(hr:Rep Γ ρ st){rd:Nat→Ob}(hrd:∀id,msk.contains id=false→rd id=st.ob id){d:Nat}{op:SOp}{o:OpD Γ}(h:Kf X Γ msk d op=some o){b:o.B}(hb:o.d.val ρ=some b):
  ∃st',A9 E rd st (some d) op=some st'∧Rep o.Γ' (o.up ρ b) st':=by
 cases op<;>(try cases h;done)
 case call f args=>
  simp only[Kf]at h;split at h<;>(try cases h;done);rename_i a e size t fn hs;split at h<;>(try cases h;done);rename_i f0 hg;split at h<;>(try cases h;done);rename_i p hp;split at h<;>(try cases h;done);rename_i g hg';split at h<;>(try cases h;done);rename_i hc;cases h;try dsimp only at hb
  obtain⟨z,h1,h2⟩:=Dyn.comp_val hb;obtain⟨y,h3,h4⟩:=Dyn.map_val h1;subst h4;obtain⟨l,h5,h6,h7⟩:=FV hr hrd (G:=E.G) (fl:=p.1) (q:=p.2) hp h3;obtain⟨_,s3⟩:=hT.nw f a e size t fn hs;obtain⟨es,h8,h9⟩:=s3 _ l b (B1 _ _ hg' h6) h2;have hn:st.ob d=.none:=hr.o d _ hg
  have hm:((args.all fun x=>isC (so E.G st.fr x))||(Res.new (.arr e size es)).memless)=true:=by
   cases hp1:p.1 with
   |true=>rw[h7 hp1];rfl
   |false=>
    rw[hp1]at hc;simp only[Bool.false_or]at hc;simp[Res.memless,KQ hc h9]
  refine⟨_, ?_,Rep.newObjS hr (k:=.own d) (ko:=.arr e size t) (x:=()) (y:=b) (v:=.osl d) ⟨es,rfl,h9⟩ rfl⟩;simp only[A9,SOp.cls,hT.ef f (.inr (by rw[hs];rfl)),CQ,h5,Option.bind_some,List.append_nil,h8,hm,if_true,Dh,Bh,hn,Option.getD_some,I0]
theorem OQ(hF:Br X E){a:Ty}{Θ:TC}{r:Ty}{n:Nat}(hn:AG a=some n):∀{t:Ty} {F:D t→D a→HS Θ→Option (D r×HS Θ)} {x:D t} {y:D a} {θ θ':HS Θ} {z:D r} {c:CV} {l:List CV} {H:Nat→Ob},FZ X a Θ r t=some F→F x y θ=some (z,θ')→Can t x [c]→Can a y l→Rep Θ θ {fr:=fun _=>.undef,ob:=H}→
  r.val=true∧r.ok=true∧∃g caps e,c=.fn g caps∧E.ef g=some e∧e.T=A4 Θ∧e.fn (l++caps) H=some (enc r z,CX Θ θ'):=by
 have one:∀{g:Nat} {cc:Ty} {s:Bq} {h:D (AZ a cc).1→D s.a} {hΘ:s.Θ=Θ} {hr:s.r=r} {x:D cc} {y:D a} {θ θ':HS Θ} {z:D r} {caps l:List CV} {H:Nat→Ob},X.TE g=some s→AJ (AZ a cc).1 s.a=some h→Jf s.fn hΘ hr (h ((AZ a cc).2 y x)) θ=some (z,θ')→Can cc x caps→Can a y l→Rep Θ θ {fr:=fun _=>.undef,ob:=H}→
   r.val=true∧r.ok=true∧∃e,E.ef g=some e∧e.T=A4 Θ∧e.fn (l++caps) H=some (enc r z,CX Θ θ'):=by
  intro g cc s h hΘ hr x y θ θ' z caps l H hs hh hz hx hy hH;obtain⟨⟨s1,_⟩,s2,e,s3,s4,s5⟩:=hF g s hs;obtain⟨Θs,as,rs,fn⟩:=s;simp only at hΘ hr;subst hΘ;subst hr;exact⟨s1,s2,e,s3,s4,s5 _ _ θ H z θ' (B1 _ _ hh (Fk hn hy hx)) hH hz⟩
 intro t
 induction t with
 |clo g cc _=>
  intro F x y θ θ' z c l H h hz hx hy hH;simp only[FZ]at h;split at h<;>(try cases h;done);rename_i s hs;split at h<;>(try cases h;done);rename_i hh h1;split at h<;>(try cases h;done);rename_i hΘ;split at h<;>(try cases h;done);rename_i hr;cases h;unfold Can at hx;obtain⟨caps,e,hx⟩:=hx;cases e;obtain⟨g1,g2,e,g3,g4,g5⟩:=one hs h1 hz hx hy hH;exact⟨g1,g2,g,caps,e,rfl,g3,g4,g5⟩
 |falt g cc l' _ ihl=>
  intro F x y θ θ' z c l H h hz hx hy hH;simp only[FZ]at h;split at h<;>(try cases h;done);rename_i s FF hs hFF;split at h<;>(try cases h;done);rename_i hh h1;split at h<;>(try cases h;done);rename_i hΘ;split at h<;>(try cases h;done);rename_i hr;cases h
  cases x with
  |inl w=>
   unfold Can at hx;obtain⟨caps,e,hx⟩:=hx;cases e;obtain⟨g1,g2,e,g3,g4,g5⟩:=one hs h1 hz hx hy hH;exact⟨g1,g2,g,caps,e,rfl,g3,g4,g5⟩
  |inr w=>
   unfold Can at hx;exact ihl hFF hz hx.2 hy hH
 |_=>intro F x y θ θ' z c l H h;cases h
theorem Hu(hT:TOk X E)(hF:Br X E){Γ:TC}{ρ:HS Γ}{st:St}(hr:Rep Γ ρ st){op:SOp}{q:EfD Γ}(h:efK X Γ op=some q)(ho:okΘ q.Θ=true){y:D q.r}{θ':HS q.Θ}(hy:q.d.val ρ=some (y,θ'))(rd:Nat→Ob)(d:Option Nat):
  q.r.val=true∧q.r.ok=true∧A9 E rd st d op=some ((B5 (A4 q.Θ) (CX q.Θ θ') st).set d (.c (enc q.r y))):=by
 have part:∀{Θ:TC} {f:HS Γ→HS Θ},okΘ Θ=true→BH Γ Θ=some f→Rep Θ (f ρ) {fr:=fun _=>.undef,ob:=B9 (A4 Θ) st.ob}:=by
  intro Θ f ho hf;have h1:=CS hf hr;simp only[okΘ,Af]at ho;refine⟨fun i q hq=> ?_,fun id q hq=> ?_⟩
  ·have:=B2 ho.2 (AX hq);obtain⟨k,f'⟩:=q;cases k<;>cases this
  ·have hok:=B2 ho.2 (AX hq);have hid:(A4 Θ).contains id=true:=by simpa using Ev.2 (DO (AX hq))
   have r:=h1.o id _ hq;show RO Θ _ id q.1 _ (B9 (A4 Θ) st.ob id);unfold B9;rw[if_pos hid];obtain⟨k,f'⟩:=q;cases k<;>(try cases hok;done)
   case box n=>
    obtain⟨cs,e1,hl,hc⟩:=r;rw[e1];refine⟨_,rfl,by simpa using hl,fun j q' hj hq'=> ?_⟩;obtain⟨sv,g1,g2⟩:=hc j q' hj hq';refine⟨EO (A4 Θ) sv,by rw[List.getElem?_map,g1];rfl, ?_⟩;simp only[okE,Af,List.all_eq_true,List.mem_range]at hok;have hcj:=hok.2 j hj;rw[AX hq']at hcj;obtain⟨k',f''⟩:=q';cases k'<;>(try cases hcj;done)
    case v t=>obtain⟨c,rfl,hc'⟩:=g2;exact⟨c,rfl,hc'⟩
    case own K=>
     have e2:sv=.osl K:=g2;subst e2;simp only[okC,Af]at hcj;show EO (A4 Θ) (.osl K)=.osl K;simp only[EO,SV.ref];rw[if_pos hcj.1]
   case arr e size t=>obtain⟨es,e1,hc⟩:=r;rw[e1];exact⟨es,rfl,hc⟩
   case buf e=>
    have e1:st.ob id=.buf e (f' (f ρ)):=r;rw[e1];rfl
 cases op<;>(try cases h;done)
 case call f args=>
  simp only[efK]at h;split at h<;>(try cases h;done);rename_i s hs;split at h<;>(try cases h;done);rename_i p g hp hg;split at h<;>(try cases h;done);rename_i k hk;cases h;try dsimp only at hy ho y θ'⊢
  obtain⟨z,h1,h2⟩:=Dyn.comp_val hy;obtain⟨x,h3,h4⟩:=Dyn.map_val h1;subst h4;obtain⟨l,h5,h6⟩:=Ga (G:=E.G) hr hp h3;obtain⟨⟨s1,_⟩,s2,e,s3,s4,s5⟩:=hF f s hs;refine⟨s1,s2, ?_⟩;have h7:=s5 _ l (g ρ) _ y θ' (B1 _ _ hk h6) (part ho hg) h2;simp only[A9,SOp.cls,s3,CB,h5,Option.bind_some,List.append_nil,s4,h7]
 case callv f args=>
  simp only[efK]at h;split at h<;>(try cases h;done)
  ·rename_i g cc d' p hf hp;split at h<;>(try cases h;done);rename_i s hs;split at h<;>(try cases h;done);rename_i n k gθ hn hk hg;cases h;try dsimp only at hy ho y θ'⊢
   obtain⟨z,h1,h2⟩:=Dyn.comp_val hy;obtain⟨x,h3,h4⟩:=Dyn.map_val h1;obtain⟨h3,h3'⟩:=Dyn.both_val h3;subst h4;obtain⟨l,h5,h6⟩:=Ga (G:=E.G) hr hp h3;obtain⟨c,e1,e2⟩:=A6 (G:=E.G) hf hr h3';unfold Can at e2;obtain⟨caps,e3,e2⟩:=e2;cases e3;obtain⟨⟨s1,_⟩,s2,e,s3,s4,s5⟩:=hF g s hs;refine⟨s1,s2, ?_⟩;have h7:=s5 _ (l++caps) (gθ ρ) _ y θ' (B1 _ _ hk (Fk hn h6 e2)) (part ho hg) h2;simp only[A9,SOp.cls,e1,s3,CB,h5,Option.bind_some,s4,h7]
  ·rename_i g cc l' d' p hf hp;split at h<;>(try cases h;done);rename_i s hs;split at h<;>(try cases h;done);rename_i n gθ F hn hg hFF;cases h;try dsimp only at hy ho y θ'⊢
   obtain⟨z,h1,h2⟩:=Dyn.comp_val hy;obtain⟨x,h3,h4⟩:=Dyn.map_val h1;obtain⟨h3,h3'⟩:=Dyn.both_val h3;subst h4;obtain⟨l,h5,h6⟩:=Ga (G:=E.G) hr hp h3;obtain⟨c,e1,e2⟩:=A6 (G:=E.G) hf hr h3';obtain⟨s1,s2,g',caps,e,rfl,s3,s4,s5⟩:=OQ hF hn hFF h2 e2 h6 (part ho hg);refine⟨s1,s2, ?_⟩;simp only[A9,SOp.cls,e1,s3,CB,h5,Option.bind_some,s4,s5]
theorem IK{Γ Θ:TC}{ρ:HS Γ}{θ':HS Θ}{st:St}(ho:okΘ Θ=true)(hr:Rep Γ ρ st):Rep (Θ++AU (A4 Θ) Γ) (BA Θ θ' (Be (A4 Θ) ρ)) (B5 (A4 Θ) (CX Θ θ') st):=
 hr.turned ho (PJ ho θ' fun _=>.undef)
theorem P7{Γ:TC}{op:SOp}{q:EfD Γ}(h:efK X Γ op=some q):BH Γ q.Θ=some q.θ:=by
 cases op<;>(try cases h;done)
 case call f args=>
  simp only[efK]at h;split at h<;>(try cases h;done);split at h<;>(try cases h;done);rename_i p g hp hg;split at h<;>(try cases h;done);cases h;exact hg
 case callv f args=>
  simp only[efK]at h;split at h<;>(try cases h;done)
  all_goals
   split at h<;>(try cases h;done);split at h<;>(try cases h;done)
  ·rename_i hg;cases h;exact hg
  ·rename_i hg _;cases h;exact hg
theorem P6{Γ:TC}{op:SOp}{q:EfD Γ}(h:efK X Γ op=some q):∃f,X.TE f≠none:=by
 cases op<;>(try cases h;done)
 case call f args=>
  simp only[efK]at h;split at h<;>(try cases h;done);rename_i s hs;exact⟨f,by rw[hs];simp⟩
 case callv f args=>
  simp only[efK]at h;split at h<;>(try cases h;done)
  all_goals
   split at h<;>(try cases h;done);rename_i s hs;exact⟨_,by rw[hs];simp⟩
theorem Nf(hT:TOk X E)(hF:Br X E){Γ:TC}{ρ:HS Γ}{st:St}(hr:Rep Γ ρ st)(rd:Nat→Ob){l:SL}{o:OpD Γ}(h:EX X Γ l=some o){b:o.B}(hb:o.d.val ρ=some b):
  ∃st',Bd E rd l st=some st'∧Rep o.Γ' (o.up ρ b) st':=by
 unfold EX at h;split at h<;>(try cases h;done);rename_i e he;split at h<;>(try cases h;done);rename_i ho;obtain⟨dst,op,guard⟩:=l;simp only at he h;split at h
 ·rename_i d;cases h;obtain⟨y,θ'⟩:=b;obtain⟨v1,v2,v3⟩:=Hu hT hF hr he ho hb rd (some d);exact⟨_,by simp only[Bd];exact v3,Rep.set (IK ho hr) ⟨_,rfl,Can.enc y v1 v2⟩⟩
 ·cases h;obtain⟨y,θ'⟩:=b;obtain⟨v1,v2,v3⟩:=Hu hT hF hr he ho hb rd none;exact⟨_,by simp only[Bd];exact v3,IK ho hr⟩
 ·rename_i g want d;have hun:=hr.unturned ho (CS (P7 he) hr);split at h<;>(try cases h;done)
  ·rename_i f hg;cases h;obtain⟨c,e1,e2⟩:=hr.s g _ hg;unfold Can at e2;cases e2;by_cases hw:f ρ=want
   ·have:∃y,e.d.val ρ=some y∧b=some y:=by
     cases hd:e.d with
     |tot k=>rw[hd]at hb;simp only[gD,Dyn.val,hw,if_true,Ac]at hb;exact⟨_,rfl,hb.symm⟩
     |par k=>
      rw[hd]at hb;simp only[gD,Dyn.val,hw,if_true]at hb;obtain⟨y,h1,h2⟩:=Aa.1 hb;exact⟨y,h1,h2.symm⟩
    obtain⟨⟨y,θ'⟩,hy,rfl⟩:=this;obtain⟨v1,v2,v3⟩:=Hu hT hF hr he ho hy rd (some d);exact⟨_,by simp only[Bd,e1,hw,if_true];exact v3,Rep.set (k:=.opt (.v e.r)) (x:=some y) (IK ho hr) ⟨_,rfl,Can.enc y v1 v2⟩⟩
   ·have:b=none:=by
     cases hd:e.d with
     |tot k=>rw[hd]at hb;simp only[gD,Dyn.val,hw,if_false,Ac]at hb;exact hb.symm
     |par k=>rw[hd]at hb;simp only[gD,Dyn.val,hw,if_false,Ac]at hb;exact hb.symm
    subst this;exact⟨st.set (some d) Bf,by simp only[Bd,e1,hw,if_false],Rep.set hun (k:=.opt (.v e.r)) (x:=none) rfl⟩
  ·rename_i f hg;cases h;have hs:=hr.s g _ hg;unfold RS at hs;by_cases hw:f ρ=some want
   ·simp only[hw]at hs;obtain⟨c,e1,e2⟩:=hs;unfold Can at e2;cases e2
    have:∃y,e.d.val ρ=some y∧b=some y:=by
     cases hd:e.d with
     |tot k=>rw[hd]at hb;simp only[gO,Dyn.val,hw,if_true,Ac]at hb;exact⟨_,rfl,hb.symm⟩
     |par k=>
      rw[hd]at hb;simp only[gO,Dyn.val,hw,if_true]at hb;obtain⟨y,h1,h2⟩:=Aa.1 hb;exact⟨y,h1,h2.symm⟩
    obtain⟨⟨y,θ'⟩,hy,rfl⟩:=this;obtain⟨v1,v2,v3⟩:=Hu hT hF hr he ho hy rd (some d);exact⟨_,by simp only[Bd,e1,if_true];exact v3,Rep.set (k:=.opt (.v e.r)) (x:=some y) (IK ho hr) ⟨_,rfl,Can.enc y v1 v2⟩⟩
   ·have:b=none:=by
     cases hd:e.d with
     |tot k=>rw[hd]at hb;simp only[gO,Dyn.val,hw,if_false,Ac]at hb;exact hb.symm
     |par k=>rw[hd]at hb;simp only[gO,Dyn.val,hw,if_false,Ac]at hb;exact hb.symm
    subst this
    cases hf:f ρ with
    |none=>
     simp only[hf]at hs;exact⟨st.set (some d) Bf,by simp only[Bd,hs,Bf],Rep.set hun (k:=.opt (.v e.r)) (x:=none) rfl⟩
    |some b'=>
     simp only[hf]at hs;obtain⟨c,e1,e2⟩:=hs;unfold Can at e2;cases e2;have hne:b'≠want:=fun e=>hw (by rw[hf,e]);exact⟨st.set (some d) Bf,by simp only[Bd,e1,hne,if_false],Rep.set hun (k:=.opt (.v e.r)) (x:=none) rfl⟩
 ·cases h
theorem Ng(hT:TOk X E){Γ:TC}{msk:List Nat}{ρ:HS Γ}{st:St}(hr:Rep Γ ρ st){rd:Nat→Ob}{l:SL}(hD:∀id,(hid l.op msk).contains id=false→rd id=st.ob id){o:OpD Γ}(h:EZ X Γ msk l=some o){b:o.B}(hb:o.d.val ρ=some b):
  ∃st',Bd E rd l st=some st'∧Rep o.Γ' (o.up ρ b) st':=by
 obtain⟨dst,op,guard⟩:=l
 cases guard with
 |none=>
  simp only[EZ]at h;split at h
  ·rename_i hcls;split at h<;>(try cases h;done);rename_i d;split at h<;>(try cases h;done);rename_i f hg;obtain⟨v,ob,h1,h2⟩:=Re hr h hb;have hn:st.ob d=.none:=hr.o d _ hg;rw[←hT.G]at h1;exact⟨_,by simp[Bd,A9,hcls,h1,Bh,hn],h2⟩
  ·rename_i hcls;obtain⟨st',h1,h2⟩:=Rd hr h hb;rw[←hT.G]at h1;exact⟨st',by simp only[Bd,A9,hcls,Ef,h1],h2⟩
  ·obtain⟨st',h1,h2⟩:=Rc hT hr h hb rd;exact⟨st',h1,h2⟩
  ·split at h
   ·rename_i q hq;split at h
    ·rename_i d;cases h;obtain⟨sv,h1,h2⟩:=ID hT hr hD hq hb (some d);exact⟨_,by simp only[Bd,h1],Rep.set hr h2⟩
    ·cases h;obtain⟨sv,h1,h2⟩:=ID hT hr hD hq hb none;exact⟨st,by simp only[Bd,h1,St.set],hr⟩
   ·split at h<;>(try cases h;done);rename_i d;obtain⟨st',h1,h2⟩:=Rb hT hr hD h hb;exact⟨st',by simp only[Bd,h1],h2⟩
 |some g=>
  obtain⟨g,want⟩:=g;simp only[EZ]at h;split at h<;>(try cases h;done);rename_i q d hq;split at h<;>(try cases h;done)
  ·rename_i f hg;cases h;obtain⟨c,e1,e2⟩:=hr.s g _ hg;unfold Can at e2;cases e2;by_cases hw:f ρ=want
   ·have:∃y,q.2.val ρ=some y∧b=some y:=by
     cases hd:q.2 with
     |tot k=>rw[hd]at hb;simp only[gD,Dyn.val,hw,if_true,Ac]at hb;exact⟨_,rfl,hb.symm⟩
     |par k=>
      rw[hd]at hb;simp only[gD,Dyn.val,hw,if_true]at hb;obtain⟨y,h1,h2⟩:=Aa.1 hb;exact⟨y,h1,h2.symm⟩
    obtain⟨y,hy,rfl⟩:=this;obtain⟨sv,h1,h2⟩:=ID hT hr hD hq hy (some d);refine⟨_,by simp only[Bd,e1,hw,if_true];exact h1,Rep.set hr ?_⟩;exact h2
   ·have:b=none:=by
     cases hd:q.2 with
     |tot k=>rw[hd]at hb;simp only[gD,Dyn.val,hw,if_false,Ac]at hb;exact hb.symm
     |par k=>rw[hd]at hb;simp only[gD,Dyn.val,hw,if_false,Ac]at hb;exact hb.symm
    subst this;exact⟨st.set (some d) Bf,by simp only[Bd,e1,hw,if_false],Rep.set hr (k:=.opt q.1) (x:=none) rfl⟩
  ·rename_i f hg;cases h;have hs:=hr.s g _ hg;unfold RS at hs;by_cases hw:f ρ=some want
   ·simp only[hw]at hs;obtain⟨c,e1,e2⟩:=hs;unfold Can at e2;cases e2
    have:∃y,q.2.val ρ=some y∧b=some y:=by
     cases hd:q.2 with
     |tot k=>rw[hd]at hb;simp only[gO,Dyn.val,hw,if_true,Ac]at hb;exact⟨_,rfl,hb.symm⟩
     |par k=>
      rw[hd]at hb;simp only[gO,Dyn.val,hw,if_true]at hb;obtain⟨y,h1,h2⟩:=Aa.1 hb;exact⟨y,h1,h2.symm⟩
    obtain⟨y,hy,rfl⟩:=this;obtain⟨sv,h1,h2⟩:=ID hT hr hD hq hy (some d);refine⟨_,by simp only[Bd,e1,if_true];exact h1,Rep.set hr ?_⟩;exact h2
   ·have:b=none:=by
     cases hd:q.2 with
     |tot k=>rw[hd]at hb;simp only[gO,Dyn.val,hw,if_false,Ac]at hb;exact hb.symm
     |par k=>rw[hd]at hb;simp only[gO,Dyn.val,hw,if_false,Ac]at hb;exact hb.symm
    subst this
    cases hf:f ρ with
    |none=>
     simp only[hf]at hs;exact⟨st.set (some d) Bf,by simp only[Bd,hs,Bf],Rep.set hr (k:=.opt q.1) (x:=none) rfl⟩
    |some b'=>
     simp only[hf]at hs;obtain⟨c,e1,e2⟩:=hs;unfold Can at e2;cases e2;have hne:b'≠want:=fun e=>hw (by rw[hf,e]);exact⟨st.set (some d) Bf,by simp only[Bd,e1,hne,if_false],Rep.set hr (k:=.opt q.1) (x:=none) rfl⟩
theorem Nh(hT:TOk X E)(hF:Br X E){Γ:TC}{msk:List Nat}{ρ:HS Γ}{st:St}(hr:Rep Γ ρ st){D:Option (List Nat)}(hDn:D=none∨∀f,X.TE f=none){l:SL}(hD:∀id,(hid l.op msk).contains id=false→AA (D.map (hid l.op)) st.ob id=st.ob id){o:OpD Γ}(h:opL X Γ msk l=some o){b:o.B}(hb:o.d.val ρ=some b):
  ∃st',AB E D l st=some st'∧Rep o.Γ' (o.up ρ b) st':=by
 cases hef:EX X Γ l with
 |some oe=>
  have h':(match EX X Γ l with
   |some o=>some o
   |none=>EZ X Γ msk l)=some o:=h
  rw[hef]at h';cases h'
  have hD0:D=none:=by
   rcases hDn with h1|h1
   ·exact h1
   ·unfold EX at hef;split at hef<;>(try cases hef;done);rename_i e he;obtain⟨f,hf⟩:=P6 he;exact absurd (h1 f) hf
  subst hD0;exact Nf hT hF hr _ hef hb
 |none=>
  have h':EZ X Γ msk l=some o:=by
   unfold opL at h;rw[hef]at h;exact h
  exact Ng (hT.at D) hr hD h' hb
theorem Gj{X:TP}{E:Env}(hT:TOk X E)(hF:Br X E){A:Type}{msk:List Nat}{D:Option (List Nat)}(hDn:D=none∨∀f,X.TE f=none)(hD:∀(op:SOp) (ob:Nat→Ob) id,(hid op msk).contains id=false→AA (D.map (hid op)) ob id=ob id):∀{ls:List SL} {Γ:TC} {q:LsD A Γ} {ρ:HS Γ} {st:St} {K:HS q.Γ'→Option A} {r:A},
  Fv A X msk ls Γ=some q→Rep Γ ρ st→q.run ρ K=some r→∃st',CD E D ls st=some st'∧∃ρ',Rep q.Γ' ρ' st'∧K ρ'=some r
 | [],Γ,q,ρ,st,K,r,h,hr,hk=>by
  simp only[Fv,Ac]at h;subst h;exact⟨st,rfl,ρ,hr,hk⟩
 |l::ls,Γ,q,ρ,st,K,r,h,hr,hk=>by
  simp only[Fv]at h;split at h<;>(try cases h;done);rename_i o ho;split at h<;>(try cases h;done);rename_i p hp;cases h;have hk':o.d.app ρ (fun b=>p.run (o.up ρ b) K)=some r:=hk;obtain⟨b,h1,h2⟩:=Dyn.app_some hk';obtain⟨st1,h3,h4⟩:=Nh hT hF hr hDn (hD l.op st.ob) ho h1;obtain⟨st2,h5,h6⟩:=Gj hT hF hDn hD hp h4 h2;exact⟨st2,by simp[CD,h3,h5],h6⟩
theorem Jr(hT:TOk X E)(hF:Br X E){A:Type}{draw:Bool}{D:List Nat}{ls:List SL}{Γ:TC}{q:LsD A Γ}{ρ:HS Γ}{st:St}{K:HS q.Γ'→Option A}{r:A}(h:En A X draw D ls Γ=some q)(hr:Rep Γ ρ st)(hk:q.run ρ K=some r):
  ∃st',BT E draw D ls st=some st'∧∃ρ',Rep q.Γ' ρ' st'∧K ρ'=some r:=by
 cases draw with
 |true=>
  cases D with
  |nil=>
   simp only[En,cond_true]at h;obtain⟨st',h1,h2⟩:=Gj hT.noE (Br.noE X E) (D:=some []) (.inr fun _=>rfl) (fun op ob id _=>by simp[AA,hid]) h hr hk;exact⟨st',by simpa[BT]using h1,h2⟩
  |cons d ds=>
   simp only[En,cond_true,if_true]at h;split at h<;>(try cases h;done);rename_i p hp;cases h
   obtain⟨st',h1,h2⟩:=Gj hT.noE (Br.noE X E) (D:=some (d::ds)) (.inr fun _=>rfl) (fun op ob id hh=>by
    simp only[Option.map_some,AA,hh,Ag,if_false]) hp (hr.kill (d::ds)) hk
   exact⟨st',by simpa[BT]using h1,h2⟩
 |false=>
  cases D with
  |nil=>
   simp only[En,cond_false]at h;obtain⟨st',h1,h2⟩:=Gj hT hF (D:=none) (.inl rfl) (fun op ob id _=>rfl) h hr hk;exact⟨st',by simpa[BT]using h1,h2⟩
  |cons d ds=>
   simp only[En,cond_false,Ag,if_false]at h;split at h<;>(try cases h;done);rename_i p hp;cases h;obtain⟨st',h1,h2⟩:=Gj hT hF (D:=none) (.inl rfl) (fun op ob id hh=>rfl) hp (hr.kill (d::ds)) hk;exact⟨st',by simpa[BT]using h1,h2⟩
theorem Hq(hT:TOk X E)(hF:Br X E){A:Type}:∀{gs:List GL} {Γ:TC} {q:LsD A Γ} {ρ:HS Γ} {st:St} {K:HS q.Γ'→Option A} {r:A} {Q:St→Prop},
  Em A X gs Γ=some q→Rep Γ ρ st→q.run ρ K=some r→(∀st' ρ',Rep q.Γ' ρ' st'→K ρ'=some r→Q st')→DY (DQ X.Θ) E (Ds gs) Q st
 | [],Γ,q,ρ,st,K,r,Q,h,hr,hk,hQ=>by
  simp only[Em,Ac]at h;subst h;exact⟨st,Az.refl st,hQ _ _ hr hk⟩
 | .l l::gs,Γ,q,ρ,st,K,r,Q,h,hr,hk,hQ=>by
  simp only[Em]at h;split at h<;>(try cases h;done);rename_i o ho;split at h<;>(try cases h;done);rename_i p hp;cases h;have hk':o.d.app ρ (fun b=>p.run (o.up ρ b) K)=some r:=hk;obtain⟨b,h1,h2⟩:=Dyn.app_some hk';obtain⟨st1,h3,h4⟩:=Nh hT hF hr (D:=none) (.inl rfl) (fun _ _=>rfl) ho h1;exact⟨st,Az.refl st,st1,h3,Hq (gs:=gs) hT hF hp h4 h2 hQ⟩
 | .g g::gs,Γ,q,ρ,st,K,r,Q,h,hr,hk,hQ=>by
  simp only[Em]at h;split at h<;>(try cases h;done);rename_i p hp;split at h<;>(try cases h;done);rename_i p' hp';cases h;obtain⟨st',h1,h2⟩:=J4 hp hr;exact R7 h1 (Hq (gs:=gs) hT hF hp' h2 hk hQ)
theorem LV(hT:TOk X E)(hF:Br X E){A:Type}{D:List Nat}{gs:List GL}{Γ:TC}{q:LsD A Γ}{ρ:HS Γ}{st:St}{K:HS q.Γ'→Option A}{r:A}{Q:Ex→St→Prop}(h:Gk A X D gs Γ=some q)(hr:Rep Γ ρ st)(hk:q.run ρ K=some r)
  (hQ:∀st' ρ',Rep q.Γ' ρ' st'→K ρ'=some r→Q .normal st'):BY (DQ X.Θ) E (.reg false D (Ds gs)) Q st:=by
 cases D with
 |nil=>
  simp only[Gk]at h;exact⟨st,Az.refl st,Hq hT hF h hr hk hQ⟩
 |cons d ds=>
  simp only[Gk]at h;split at h<;>(try cases h;done);rename_i p hp;cases h;exact⟨st,Az.refl st,Hq hT hF hp (hr.kill (d::ds)) hk hQ⟩
theorem JX{st:St}{k:Nat}{b:Ob}(hk:k<Aw):merge {low st with ob:=upd (low st).ob k b} st={st with ob:=upd st.ob k b}∧low {st with ob:=upd st.ob k b}={low st with ob:=upd (low st).ob k b}:=by
 constructor
 ·simp only[merge,low,St.mk.injEq,true_and];funext i;simp only[B6,Bs];by_cases h1:i=k
  ·subst h1;rw[if_pos rfl,if_neg (by omega),if_pos rfl]
  ·rw[if_neg h1,if_neg h1];split<;>rfl
 ·simp only[low,St.mk.injEq,true_and];funext i;simp only[B6,Bs];by_cases h1:i=k
  ·subst h1;rw[if_pos rfl,if_pos rfl,if_neg (by omega)]
  ·rw[if_neg h1,if_neg h1]
theorem MQ(st:St):merge (low st) st=st:=by
 obtain⟨fr,ob⟩:=st;simp only[merge,low,St.mk.injEq,true_and];funext i;simp only[Bs];split<;>rfl
theorem MH{st:St}{id:Nat}{o:Ob}(h:(low st).ob id=o)(hn:o≠ .none):id<Aw∧st.ob id=o:=by
 have h':(if Aw≤id then Ob.none else st.ob id)=o:=h;by_cases hi:Aw≤id
 ·rw[if_pos hi]at h';exact absurd h'.symm hn
 ·rw[if_neg hi]at h';exact⟨by omega,h'⟩
theorem RY{d:Option Nat}{ρ:SO→SV}{st t:St}{n:Nat}{x y:SO}(h:AE d ρ (low st) (.store n x y)=some t):AE d ρ st (.store n x y)=some (merge t st)∧low (merge t st)=t:=by
 simp only[AE]at h⊢
 have hdr:deref st.ob (ρ x)=deref (low st).ob (ρ x)∨deref (low st).ob (ρ x)=.undef:=by
  generalize ρ x=q;cases q<;>try exact .inl rfl
  rename_i c;cases c<;>try exact .inl rfl
  rename_i N;simp only[deref];by_cases hN:Aw≤N
  ·right;rw[if_pos hN];have:(low st).ob N=.none:=by show(if Aw≤N then Ob.none else st.ob N)=_;rw[if_pos hN]
   rw[this]
  ·left;rw[if_neg hN,if_neg hN]
 rcases hdr with hdr|hdr
 ·rw[hdr];generalize deref (low st).ob (ρ x)=q at h⊢;cases q<;>(try cases h;done)
  ·rename_i cv;cases cv<;>(try cases h;done);rename_i cs
   cases cs with
   |nil=>cases h
   |cons c0 cs=>
    cases cs with
    |cons _ _=>cases c0<;>cases h
    |nil=>
     cases c0<;>(try cases h;done);cases hv:ρ y<;>simp only[hv]at h⊢ <;>(try cases h;done);rename_i c2;cases c2<;>(try cases h;done);simp only[Ad,Ac]at h⊢;obtain⟨hc,rfl⟩:=h;exact⟨⟨hc,(MQ st).symm⟩,by rw[MQ]⟩
  ·rename_i id o;simp only at h⊢;cases hob:(low st).ob id<;>rw[hob]at h<;>(try cases h;done);rename_i cs;obtain⟨hi,hob'⟩:=MH hob (by simp);rw[hob'];simp only at h⊢;split at h
   ·split at h<;>(try cases h;done);rename_i hc;cases h;obtain⟨k1,k2⟩:=JX (st:=st) (b:=.box (Eb cs o (List.map SV.c ‹_›))) hi;rw[k1];exact⟨by rw[if_pos hc],k2⟩
   ·split at h<;>(try cases h;done);rename_i hc;cases h;obtain⟨k1,k2⟩:=JX (st:=st) (b:=.box (cs.set o (ρ y))) hi;rw[k1];exact⟨by rw[if_pos hc],k2⟩
  ·rename_i id i size o;simp only at h⊢;split at h<;>(try cases h;done);rename_i e sz es v hob hv;obtain⟨hi,hob'⟩:=MH hob (by simp);rw[hob',hv];simp only;split at h<;>(try cases h;done);rename_i hc;rw[if_pos hc];obtain⟨el,h1,h2⟩:=Ab.1 h;rw[h1,Option.bind_some];split at h2<;>(try cases h2;done);rename_i hc2;cases h2;obtain⟨k1,k2⟩:=JX (st:=st) (b:=.arr e sz (es.set i (DV el o n v))) hi;rw[k1,if_pos hc2];exact⟨rfl,k2⟩
 ·rw[hdr]at h;cases h
theorem Rs{E:Env}{D:List Nat}{l:SL}{st t:St}(hl:JH l=true)(h:Bd E.pois (AA (some (hid l.op D)) (Bs st.ob)) l (low st)=some t):BS E D l st=some (merge t st)∧low (merge t st)=t:=by
 simp only[JH,Af,Aj,Bool.not_eq_true']at hl
 have hd:∀j,l.dst=some j→j<Aw:=fun j hj=>by
  have:=hl.2;rw[hj]at this;exact Nat.lt_of_succ_le (Ah this)
 unfold BS;rw[Jy]at h⊢;have hgd:gd l (low st).fr=gd l st.fr:=rfl;rw[hgd]at h
 cases hg:gd l st.fr with
 |none=>rw[hg]at h;cases h
 |some b=>
  rw[hg]at h
  cases b with
  |false=>
   simp only[Option.bind_some,Ag,if_false,Ac]at h⊢;have h':put (low st) l.dst (Bf,none)=some t:=by rw[←h];rfl
   obtain⟨k1,k2⟩:=Ko hd h';exact⟨Option.some.inj k1,k2⟩
  |true=>
   simp only[Option.bind_some,if_true]at h⊢
   cases hh:l.op.hard with
   |true=>
    have hst:l.op.stores=true:=by
     rcases hl.1 with h1|h1
     ·rw[hh]at h1;cases h1
     ·exact h1
    cases hop:l.op<;>rw[hop]at hst<;>(try cases hst;done);rw[hop]at h;exact RY (d:=l.dst) h
   |false=>
    have hnone:efL E l st.fr=none:=by
     cases hef:efL E l st.fr with
     |none=>rfl
     |some q=>
      exfalso;unfold efL at hef;split at hef<;>(try cases hef;done)
      ·rename_i f args ho;split at hef<;>(try cases hef;done);rename_i e he;have he':E.pois.ef f=some ⟨e.T,fun _ _=>none⟩:=by show(E.ef f).map _=_;rw[he];rfl
       rw[ho]at h;simp only[A9,SOp.cls,he',CB]at h
       cases hal:Au (fun x=>closed (so E.pois.G (low st).fr x)) args with
       |none=>rw[hal]at h;cases h
       |some v=>rw[hal]at h;cases h
      ·rename_i f args ho;split at hef<;>(try cases hef;done);rename_i g caps hfv;split at hef<;>(try cases hef;done);rename_i e he;have he':E.pois.ef g=some ⟨e.T,fun _ _=>none⟩:=by show(E.ef g).map _=_;rw[he];rfl
       have hfv':so E.pois.G (low st).fr f=.c (.fn g caps):=hfv;rw[ho]at h;simp only[A9,SOp.cls,hfv',he',CB]at h
       cases hal:Au (fun x=>closed (so E.pois.G (low st).fr x)) args with
       |none=>rw[hal]at h;cases h
       |some v=>rw[hal]at h;cases h
    have hnone':efL E.pois l (low st).fr=none:=by
     unfold efL at hnone⊢;cases ho:l.op<;>rw[ho]at hnone<;>try rfl
     ·rename_i f args;simp only at hnone⊢;split at hnone<;>(try cases hnone;done);rename_i he;have he':E.pois.ef f=none:=by show(E.ef f).map _=_;rw[he];rfl
      rw[he']
     ·rename_i f args;simp only at hnone⊢
      show(match so E.G st.fr f with
       | .c (.fn f caps)=>match E.pois.ef f with
        |some e=>some (e,args,caps)
        |none=>none
       |_=>none)=none
      split
      ·rename_i g caps hfv;rw[hfv]at hnone;simp only at hnone;split at hnone<;>(try cases hnone;done);rename_i he;have he':E.pois.ef g=none:=by show(E.ef g).map _=_;rw[he];rfl
       rw[he']
      ·rfl
    rw[Kh hnone',FQ hh,Ab]at h;obtain⟨p,h1,h2⟩:=h;obtain⟨k1,k2⟩:=Ko hd h2;refine⟨?_,k2⟩;rw[Kh hnone,FQ hh,Ab];exact⟨p,h1,k1⟩
theorem E4{f:Key×EK→Bool}:∀{Γ:TC} {seen:List Key},(C7 f Γ seen).all f=true
 | [],_=>rfl
 |e::Γ,seen=>by
  unfold C7
  cases seen.contains e.1 with
  |true=>exact E4
  |false=>
   simp only
   cases hf:f e with
   |true=>simp only[List.all_cons,hf,Bool.true_and];exact E4
   |false=>exact E4
theorem G4{N:Nat}(h:BE (.o N)=true):N<Aw:=by
 simp only[BE,Bool.not_eq_true']at h;exact Nat.lt_of_not_le fun hh=>by rw[Nat.ble_eq_true_of_le hh]at h;cases h
theorem QI{N j:Nat}(h:BE (.c N j)=true):N<Aw:=G4 h
theorem J6{N:Nat}(h:BE (.o N)=false):Aw≤N:=by
 simp only[BE,Bool.not_eq_false']at h;exact Ah h
section
variable {Γ:TC} {ρ:HS Γ} {st:St}
theorem Rep.low(h:Rep Γ ρ st)(hk:(Γ.all fun e=>BE e.1)=true):Rep Γ ρ (WB.low st):=by
 refine⟨h.s,fun id q hq=> ?_⟩;have hid:=G4 (B2 (pr:=fun e=>BE e.1) hk (AX hq));have e:(WB.low st).ob id=st.ob id:=by show(if Aw≤id then Ob.none else st.ob id)=_;rw[if_neg (by omega)]
 rw[e];exact h.o id q hq
theorem RS.clean{k:EK}{x:DK k}{sv:SV}(h:RS k x sv)(hn:∀id,k.refs=some id→id<Aw):RS k x (Cb sv):=by
 have key:∀(id:Nat) (s:SV),s.ref=some id→id<Aw→Cb s=s:=fun id s hs hid=>by
  unfold Cb;rw[hs];simp only;rw[if_neg (by omega)]
 have keyc:∀s:SV,s.ref=none→Cb s=s:=fun s hs=>by unfold Cb;rw[hs]
 induction k
 case v t=>obtain⟨c,rfl,hc⟩:=h;exact⟨c,rfl,hc⟩
 case opt k ih=>
  unfold RS at h⊢
  cases x with
  |none=>simp only at h;subst h;rfl
  |some y=>exact ih h hn
 case rp ex r=>obtain⟨cs,rest,rfl,hc⟩:=h;exact⟨cs,rest,rfl,hc⟩
 case undef=>trivial
 case ptr id o=>unfold RS at h;subst h;exact key id _ rfl (hn id rfl)
 case eptr id s o=>unfold RS at h;subst h;exact key id _ rfl (hn id rfl)
 case aptr id n o=>obtain⟨h,hi⟩:=h;subst h;exact⟨key id _ rfl (hn id rfl),hi⟩
 case own id=>unfold RS at h;subst h;exact key id _ rfl (hn id rfl)
 case mp id=>unfold RS at h;subst h;exact key id _ rfl (hn id rfl)
 case iter id=>unfold RS at h;subst h;exact key id _ rfl (hn id rfl)
 case ent id k v=>
  obtain⟨ck,cv,rfl,h1,h2⟩:=h;exact⟨ck,cv,key id _ rfl (hn id rfl),h1,h2⟩
 case stamp id k=>
  obtain⟨ck,rfl,h1⟩:=h;exact⟨ck,key id _ rfl (hn id rfl),h1⟩
 all_goals exact h
theorem Ia{p:Key}{k:EK}(h:DS (p,k)=true):BE p=true∧∀id,k.refs=some id→id<Aw:=by
 simp only[DS,Af]at h;refine⟨h.1,fun id hid=> ?_⟩;have h2:=h.2;rw[hid]at h2;exact G4 h2
theorem Rep.lowC(h:Rep Γ ρ st)(hk:Γ.all DS=true):Rep Γ ρ (WB.low (Cs st)):=by
 refine⟨fun i q hq=>RS.clean (h.s i q hq) (Ia (B2 hk (AX hq))).2,fun id q hq=> ?_⟩;have hid:=G4 (Ia (B2 hk (AX hq))).1
 have e:(WB.low (Cs st)).ob id=Ej (st.ob id):=by
  show(if Aw≤id then Ob.none else(if Aw≤id then st.ob id else Ej (st.ob id)))=_;rw[if_neg (by omega),if_neg (by omega)]
 rw[e];have hob:=h.o id q hq;obtain⟨k,f'⟩:=q;simp only at hob⊢;cases k<;>try exact hob
 ·obtain⟨cs,h7,h8,h9⟩:=hob;rw[h7];refine⟨cs.map Cb,rfl,by simp[h8],fun j q' hj hq'=> ?_⟩;obtain⟨sv,g4,g5⟩:=h9 j _ hj hq';exact⟨Cb sv,by simp[g4],RS.clean g5 (Ia (B2 hk (AX hq'))).2⟩
 all_goals first
  |(obtain⟨es,h7,h8⟩:=hob;rw[h7];exact⟨es,rfl,h8⟩)
  |(obtain⟨z,ks,vs,h7,h8⟩:=hob;rw[h7];exact⟨z,ks,vs,rfl,h8⟩)
  |(unfold RO at hob;rw[hob];rfl)
theorem Rep.highC(h:Rep Γ ρ st)(hk:Γ.all Da=true){st':St}(hob:∀i,Aw≤i→st'.ob i=st.ob i):Rep Γ ρ st':=by
 refine⟨fun i q hq=> ?_,fun id q hq=> ?_⟩
 ·have:=B2 hk (AX hq);cases this
 ·have hid:BE (.o id)=false:=by simpa[Da]using B2 hk (AX hq)
  rw[hob id (J6 hid)];exact h.o id q hq
theorem Rep.comb{Θ:TC}{θ:HS Θ}(hΘ:Rep Θ θ st)(h:Rep Γ ρ (WB.low st))(hk:(Γ.all fun e=>BE e.1)=true)(hk':Θ.all Da=true):Rep (Θ++Γ) (BA Θ θ ρ) st:=by
 refine⟨fun i q hq=> ?_,fun id q hq=> ?_⟩
 ·rcases CF hq with⟨_,f,hf,e⟩|⟨_,f,hf,e⟩
  ·have:=B2 hk' (AX hf);cases this
  ·rw[e];exact h.s i _ hf
 ·rcases CF hq with⟨h1,f,hf,e⟩|⟨h1,f,hf,e⟩
  ·rw[e];have hid:BE (.o id)=false:=by simpa[Da]using B2 hk' (AX hf)
   have r:=hΘ.o id _ hf;obtain⟨k,f'⟩:=q;cases k<;>try exact r
   obtain⟨cs,e1,hl,hc⟩:=r;refine⟨cs,e1,hl,fun j q' hj hq'=> ?_⟩;rcases CF hq' with⟨_,f2,hf2,e2⟩|⟨_,f2,hf2,e2⟩
   ·rw[e2];exact hc j _ hj hf2
   ·have:BE (.c id j)=true:=B2 (pr:=fun e=>BE e.1) hk (AX hf2);have:=QI this;have:=J6 hid;omega
  ·rw[e];have hid:=G4 (B2 (pr:=fun e=>BE e.1) hk (AX hf));have e0:(WB.low st).ob id=st.ob id:=by show(if Aw≤id then Ob.none else st.ob id)=_;rw[if_neg (by omega)]
   have r:=h.o id _ hf;rw[e0]at r;obtain⟨k,f'⟩:=q;cases k<;>try exact r
   obtain⟨cs,e1,hl,hc⟩:=r;refine⟨cs,e1,hl,fun j q' hj hq'=> ?_⟩;rcases CF hq' with⟨_,f2,hf2,e2⟩|⟨_,f2,hf2,e2⟩
   ·have hc':BE (.c id j)=false:=by simpa[Da]using B2 hk' (AX hf2)
    have:=J6 (N:=id) hc';omega
   ·rw[e2];exact hc j _ hj hf2
end
theorem P9{X:TP}{E:Env}(hT:TOk X E)(hF:Br X E){Γ Θ:TC}{ρ:HS Γ}{θ:HS Θ}{st:St}(hr:Rep Γ ρ (low st))(hΘ:Rep Θ θ st)(hh:Θ.all Da=true)(rd:Nat→Ob){l:SL}{o:OpD (Θ++Γ)}(h:efT X Γ Θ l=some o){b:o.B}(hb:o.d.val (BA Θ θ ρ)=some b):
  ∃st',Bd E rd l st=some st'∧Rep o.Γ' (o.up (BA Θ θ ρ) b) st':=by
 unfold efT at h;split at h<;>(try cases h;done);split at h<;>(try cases h;done);rename_i hk;exact Nf hT hF (Rep.comb hΘ hr hk hh) rd h hb
theorem Jp{X:TP}{E:Env}(hT:TOk X E)(hF:Br X E){A:Type}{D:List Nat}:∀{ls:List SL} {Γ Θ:TC} {q:Lc A Γ Θ} {ρ:HS Γ} {θ:HS Θ} {st:St} {K:HS q.Γ'→HS q.Θ'→Option A} {r:A},
  Fw A X D ls Γ Θ=some q→Rep Γ ρ (low st)→Rep Θ θ st→Θ.all Da=true→q.run ρ θ K=some r→∃st',Er E.named D ls st=some st'∧∃ρ' θ',Rep q.Γ' ρ' (low st')∧Rep q.Θ' θ' st'∧q.Θ'.all Da=true∧K ρ' θ'=some r
 | [],Γ,Θ,q,ρ,θ,st,K,r,h,hr,hΘ,hh,hk=>by
  simp only[Fw,Ac]at h;subst h;exact⟨st,rfl,ρ,θ,hr,hΘ,hh,hk⟩
 |l::ls,Γ,Θ,q,ρ,θ,st,K,r,h,hr,hΘ,hh,hk=>by
  simp only[Fw]at h;split at h
  ·rename_i o ho;split at h<;>(try cases h;done);rename_i g f hg hf;split at h<;>(try cases h;done);rename_i p hp;cases h;have hk':o.d.app (BA Θ θ ρ) (fun b=>p.run (g (o.up (BA Θ θ ρ) b)) (f (o.up (BA Θ θ ρ) b)) K)=some r:=hk;obtain⟨b,h1,h2⟩:=Dyn.app_some hk';obtain⟨st1,h3,h4⟩:=P9 hT.named hF.named hr hΘ hh (AA (some (hid l.op D)) (Bs st.ob)) ho h1
   have hlow:((C7 DS o.Γ' []).all fun e=>BE e.1)=true:=by
    have:=E4 (f:=DS) (Γ:=o.Γ') (seen:= []);rw[List.all_eq_true]at this⊢;intro e he;exact(Ia (p:=e.1) (k:=e.2) (this e he)).1
   obtain⟨st2,h5,h6⟩:=Jp hT hF hp (Rep.low (CS hg h4) hlow) (CS hf h4) E4 h2;exact⟨st2,by simp only[Er,BS,h3,Option.bind_some];exact h5,h6⟩
  ·split at h<;>(try cases h;done);rename_i hl;split at h<;>(try cases h;done);rename_i o ho;split at h<;>(try cases h;done);rename_i p hp;cases h;have hk':o.d.app ρ (fun b=>p.run (o.up ρ b) θ K)=some r:=hk;obtain⟨b,h1,h2⟩:=Dyn.app_some hk'
   obtain⟨t,h3,h4⟩:=Ng hT.named.pois hr (rd:=AA (some (hid l.op D)) (Bs st.ob)) (fun id hid'=>by
    show(if(hid l.op D).contains id then Ob.none else Bs st.ob id)=_
    rw[hid'];rfl) ho h1
   obtain⟨k1,k2⟩:=Rs hl h3;have hΘ':Rep Θ θ (merge t st):=hΘ.highC hh fun i hi=>by show(if Aw≤i then st.ob i else t.ob i)=_;rw[if_pos hi]
   rw[←k2]at h4;obtain⟨st2,h5,h6⟩:=Jp hT hF hp h4 hΘ' hh h2;exact⟨st2,by simp only[Er,k1,Option.bind_some];exact h5,h6⟩
theorem Pv{X:TP}{E:Env}(hT:TOk X E)(hF:Br X E){A:Type}{D:List Nat}{ls:List SL}{Γ:TC}{q:LsD A Γ}{ρ:HS Γ}{st:St}{K:HS q.Γ'→Option A}{r:A}(h:Jq A X D ls Γ=some q)(hr:Rep Γ ρ st)(hk:q.run ρ K=some r):
  ∃st',Gr E D ls st=some st'∧∃ρ',Rep q.Γ' ρ' st'∧K ρ'=some r:=by
 unfold Jq at h;split at h<;>(try cases h;done);rename_i g f hg hf;split at h<;>(try cases h;done);rename_i p hp;split at h<;>(try cases h;done);rename_i hall;cases h;have hr0:=hr.kill D;have h1:Rep _ (g (Be D ρ)) (low (Cs (WB.kill D st))):=Rep.lowC (CS hg hr0) E4;have h2:Rep _ (f (Be D ρ)) (Cs (WB.kill D st)):=Rep.highC (CS hf hr0) E4 fun i hi=>by show(if Aw≤i then _ else _)=_;rw[if_pos hi]
 obtain⟨st',h3,ρ',θ',h4,h5,h6,h7⟩:=Jp hT hF hp h1 h2 E4 hk;exact⟨st',h3,_,Rep.comb h5 h4 hall h6,h7⟩
theorem N1{le:Di}{E:Env}{D:List Nat}{ls:List SL}{Q:Ex→St→Prop}{st st':St}(h:BT E true D ls st=some st'∨Gr E D ls st=some st')(hq:Q .normal st'):BY le E (.regE D ls) Q st:=⟨st,Az.refl st,st',h,hq⟩
theorem LW{X:TP}{E:Env}(hT:TOk X E)(hF:Br X E){A:Type}{e:Bool}{D:List Nat}{ls:List SL}{Γ:TC}{q:LsD A Γ}{ρ:HS Γ}{st:St}{K:HS q.Γ'→Option A}{r:A}(h:Js A X e D ls Γ=some q)(hr:Rep Γ ρ st)(hk:q.run ρ K=some r):
  ∃st',(BT E true D ls st=some st'∨Gr E D ls st=some st')∧∃ρ',Rep q.Γ' ρ' st'∧K ρ'=some r:=by
 cases e with
 |true=>
  obtain⟨st',h1,h2⟩:=Pv hT hF h hr hk;exact⟨st',.inr h1,h2⟩
 |false=>
  obtain⟨st',h1,h2⟩:=Jr hT hF h hr hk;exact⟨st',.inl h1,h2⟩
theorem Pw(hT:TOk X E)(hF:Br X E){A:Type}{Q:Ex→St→Prop}:∀{c:AC} {Γ:TC} {q:LsD A Γ} {ρ:HS Γ} {st:St} {K:HS q.Γ'→Option A} {r:A},Eo A X c Γ=some q→Rep Γ ρ st→q.run ρ K=some r→
  (∀st' ρ',Rep q.Γ' ρ' st'→K ρ'=some r→Q .normal st')→BY (DQ X.Θ) E (Bj c) Q st:=by
 intro c
 induction c generalizing Q with
 |skip=>
  intro Γ q ρ st K r h hr hk hQ;simp only[Eo,Ac]at h;subst h;exact⟨st,Az.refl st,hQ _ _ hr hk⟩
 |reg draw D ls=>
  intro Γ q ρ st K r h hr hk hQ;obtain⟨st',h1,ρ',h2,h3⟩:=Jr hT hF (K:=K) h hr hk;exact N0 h1 (hQ _ _ h2 h3)
 |rg D gs=>
  intro Γ q ρ st K r h hr hk hQ;exact LV hT hF (K:=K) h hr hk hQ
 |regE e D ls=>
  intro Γ q ρ st K r h hr hk hQ;obtain⟨st',h1,ρ',h2,h3⟩:=LW hT hF (K:=K) h hr hk;exact N1 h1 (hQ _ _ h2 h3)
 |sq a b iha ihb=>
  intro Γ q ρ st K r h hr hk hQ;simp only[Eo]at h;split at h<;>(try cases h;done);rename_i p hp;split at h<;>(try cases h;done);rename_i p' hp';cases h;exact⟨st,Az.refl st,iha hp hr hk fun st' ρ' h1 h2=>ihb hp' h1 h2 hQ⟩
 |gh g c ih=>
  intro Γ q ρ st K r h hr hk hQ;simp only[Eo]at h;split at h<;>(try cases h;done);rename_i p hp;split at h<;>(try cases h;done);rename_i p' hp';cases h;obtain⟨st',h1,h2⟩:=J4 hp hr;exact N2 h1 (ih hp' h2 hk hQ)
 |_=>intro Γ q ρ st K r h;cases h
theorem Kr{Γ:TC}{ρ:HS Γ}{st:St}(hr:Rep Γ ρ st){x:Bc}{q:Σ t:Ty,Dyn (HS Γ) (D t)}{y:D q.1}(h:FK X Γ x=some q)(hy:q.2.val ρ=some y):∃c,Du st x=some c∧Can q.1 y [c]:=by
 cases x with
 |tmp t=>
  simp only[FK]at h;split at h<;>(try cases h;done);rename_i p hp;cases h;obtain⟨c,h1,h2,_⟩:=Iz (msk:= []) (rd:=st.ob) (G:=X.G) (fl:=p.1) (q:=p.2) hp hr (fun _ _=>rfl) hy;exact⟨c,h1,h2⟩
 |cell a sz=>
  simp only[FK]at h;split at h<;>(try cases h;done);rename_i k hk;split at h<;>(try cases h;done)
  ·rename_i t d hd;cases h;obtain⟨sv,h1,c,h2,h3⟩:=JK (msk:= []) (rd:=st.ob) (sv:=deref st.ob (so X.G st.fr (.t a))) hr (fun _ _=>rfl) hd hy (fun x hx=>Hr hr (fun _ _=>rfl) (fun x hx=>AL hk hr hx) hx (JJ hd));subst h2;refine⟨c, ?_,h3⟩;have h1':AR st.ob sz (deref st.ob (st.fr a))=some (.c c):=h1;simp[Du,h1',B0]
  ·rename_i id f hd;split at h<;>(try cases h;done);rename_i e size t xs ho;cases h;cases hy;obtain⟨sv,h1,h2⟩:=JK (msk:= []) (rd:=st.ob) (sv:=deref st.ob (so X.G st.fr (.t a))) (y:=f ρ) hr (fun _ _=>rfl) hd rfl (fun x hx=>Hr hr (fun _ _=>rfl) (fun x hx=>AL hk hr hx) hx (JJ hd));have h2':sv=.osl id:=h2;subst h2';obtain⟨es,h3,h4⟩:=hr.o id _ ho;refine⟨.sl none es, ?_,by unfold Can;exact⟨_,_,rfl,h4⟩⟩;have h1':AR st.ob sz (deref st.ob (st.fr a))=some (.osl id):=h1;simp[Du,h1',B0,h3]
theorem Kq{Γ:TC}{ρ:HS Γ}{st:St}(hr:Rep Γ ρ st):∀{xs:List Bc} {q:Σ t:Ty,Dyn (HS Γ) (D t)} {y:D q.1},FJ X Γ xs=some q→q.2.val ρ=some y→∃l,Au (Du st) xs=some l∧Can q.1 y l
 | [],q,y,h,hy=>by
  simp only[FJ,Ac]at h;subst h;exact⟨[],rfl,by unfold Can;rfl⟩
 | [x],q,y,h,hy=>by
  simp only[FJ]at h;split at h<;>(try cases h;done);rename_i p hp;cases h;obtain⟨c,h1,h2⟩:=Kr hr hp hy;exact⟨[c],by simp[Au,h1],by unfold Can;exact⟨c,rfl,h2⟩⟩
 |x::z::xs,q,y,h,hy=>by
  simp only[FJ]at h;split at h<;>(try cases h;done);rename_i p p' hp hp';cases h;obtain⟨g1,g2⟩:=Dyn.both_val hy;obtain⟨c,h1,h2⟩:=Kr hr hp g1;obtain⟨l,h3,h4⟩:=Kq hr hp' g2;refine⟨c::l, ?_,by unfold Can;exact⟨c,l,rfl,h2,h4⟩⟩;have e:Au (Du st) (x::z::xs)=(Du st x).bind fun b=>(Au (Du st) (z::xs)).map fun bs=>b::bs:=rfl;rw[e,h1,h3];rfl
theorem R5{Γ:TC}{ρ:HS Γ}{st:St}(hr:Rep Γ ρ st){xs:List Bc}{q:Σ t:Ty,Dyn (HS Γ) (D t)}{y:D q.1}(h:I3 X Γ xs=some q)(hy:q.2.val ρ=some y):∃c,CK st xs=some c∧Can q.1 y [c]:=by
 match xs,h with
 | [x],h=>
  obtain⟨c,h1,h2⟩:=Kr hr h hy;exact⟨c,by simp[CK,Au,h1,FE],h2⟩
 | [],h=>
  simp only[I3]at h;split at h<;>(try cases h;done);rename_i p hp;cases h;obtain⟨l,h1,h2⟩:=Kq hr hp hy;simp only[Au,Ac]at h1;subst h1;exact⟨.tup [],rfl,by unfold Can;exact⟨[],rfl,h2⟩⟩
 |x::z::xs,h=>
  simp only[I3]at h;split at h<;>(try cases h;done);rename_i p hp;cases h;obtain⟨l,h1,h2⟩:=Kq hr hp hy;have hlen:=Dl h1;refine⟨.tup l, ?_,by unfold Can;exact⟨l,rfl,h2⟩⟩;simp only[CK,h1,Option.map_some]
  match l,hlen with
  |c::d::l,_=>rfl
theorem M3{R A B:Type}{e:Nat×TC}{ys:XC}{rt:Bool}{f:D2 R (e::ys) rt→B}{ρ:HS e.2}{b:B}{ke:KE A (e::ys)}{kr:R→Option A}{r:A}(h:(keX (e::ys) rt f).1 ρ=some b)
  (hk:∀o,f o=b→elX (e::ys) rt ke kr o=some r):ke.1 ρ=some r:=by
 cases ys with
 |nil=>
  cases rt with
  |false=>exact hk ρ (Option.some.inj h)
  |true=>exact hk (.inl ρ) (Option.some.inj h)
 |cons e' ys=>exact hk (.inl ρ) (Option.some.inj h)
theorem J9{R A B:Type}:∀{ys:XC} {rt:Bool} {f:D2 R ys rt→B} {i:Nat} {Γi:TC} {s:KE B ys→HS Γi→Option B} {ρ:HS Γi} {b:B} {ke:KE A ys} {kr:R→Option A} {r:A},CE B ys i=some ⟨Γi,s⟩→s (keX ys rt f) ρ=some b→
  (∀o,f o=b→elX ys rt ke kr o=some r)→∃s',CE A ys i=some ⟨Γi,s'⟩∧s' ke ρ=some r
 | [],rt,f,i,Γi,s,ρ,b,ke,kr,r,h,_,_=>by cases h
 |e::ys,rt,f,i,Γi,s,ρ,b,ke,kr,r,h,hs,hk=>by
  simp only[CE]at h⊢;split at h
  ·rename_i hi;cases h;rw[if_pos hi];exact⟨_,rfl,M3 hs hk⟩
  ·rename_i hi;rw[if_neg hi];split at h<;>(try cases h;done);rename_i q hq;cases h
   cases ys with
   |nil=>cases hq
   |cons e' ys=>
    obtain⟨s',h1,h2⟩:=J9 (A:=A) (f:=fun o=>f (.inr o)) (ke:=ke.2) (kr:=kr) (r:=r) hq hs (fun o ho=>hk (.inr o) ho);rw[h1];exact⟨_,rfl,h2⟩
theorem Q2{R A B:Type}{e:Nat×TC}{ys:XC}{rt:Bool}{f:D2 R (e::ys) rt→B}{i:Nat}{Γi:TC}{s:KE B ys→HS Γi→Option B}{ρ:HS Γi}{b:B}{ke:KE A (e::ys)}{kr:R→Option A}{r:A}(h:CE B ys i=some ⟨Γi,s⟩)(hs:s (keX (e::ys) rt f).2 ρ=some b)
  (hk:∀o,f o=b→elX (e::ys) rt ke kr o=some r):∃s',CE A ys i=some ⟨Γi,s'⟩∧s' ke.2 ρ=some r:=by
 cases ys with
 |nil=>cases h
 |cons e' ys=>exact J9 (A:=A) (f:=fun o=>f (.inr o)) (ke:=ke.2) (kr:=kr) (r:=r) h hs (fun o ho=>hk (.inr o) ho)
theorem Kt{R A B:Type}:∀{ys:XC} {rt:Bool} {f:D2 R ys rt→B} {v:R} {b:B} {ke:KE A ys} {kr:R→Option A} {r:A},rtX ys rt f v=some b→(∀o,f o=b→elX ys rt ke kr o=some r)→kr v=some r
 | [],true,f,v,b,ke,kr,r,h,hk=>hk v (Option.some.inj h)
 | [],false,f,v,b,ke,kr,r,h,hk=>by cases h
 | [e],false,f,v,b,ke,kr,r,h,hk=>by cases h
 | [e],true,f,v,b,ke,kr,r,h,hk=>hk (.inr v) (Option.some.inj h)
 |e::e'::ys,rt,f,v,b,ke,kr,r,h,hk=>Kt (f:=fun o=>f (.inr o)) (ke:=ke.2) h (fun o ho=>hk (.inr o) ho)
theorem KA{A:Type}{xs:XC}:∀{ys:XC} {g:KE A xs→KE A ys} {i:Nat} {Γi:TC} {s:KE A ys→HS Γi→Option A} {ke:KE A xs} {ρ:HS Γi} {r:A},GJ A xs ys=some g→CE A ys i=some ⟨Γi,s⟩→s (g ke) ρ=some r→∃s',CE A xs i=some ⟨Γi,s'⟩∧s' ke ρ=some r
 | [],g,i,Γi,s,ke,ρ,r,_,h,_=>by cases h
 |e::ys,g,i,Γi,s,ke,ρ,r,hg,h,hs=>by
  simp only[GJ]at hg;split at hg<;>(try cases hg;done);rename_i q g' hq hg';split at hg<;>(try cases hg;done);rename_i he;cases hg;obtain⟨Γq,f⟩:=q;simp only at he;subst he;simp only[CE]at h;split at h
  ·rename_i hi;subst hi;cases h;exact⟨f,hq,hs⟩
  ·split at h<;>(try cases h;done);rename_i q' hq';cases h;exact KA hg' hq' hs
def DG(st:St)(rs:List Bc):(Rt:Ty)→D Rt→Prop
 | .nw e size t,ys=>∃es,PV rs (.arr e size es) .ret st∧As (fun x c=>Can t x [c]) ys es
 |Rt,v=>∃c,CK st rs=some c∧Can Rt v [c]
theorem DG.val{st:St}{rs:List Bc}{Rt:Ty}{v:D Rt}{c:CV}(h:CK st rs=some c)(hc:Can Rt v [c]):DG st rs Rt v:=by
 cases Rt<;>first|exact⟨c,h,hc⟩|(unfold Can at hc;exact hc.elim)
theorem DG.of{st:St}{rs:List Bc}{Rt:Ty}{v:D Rt}(hv:Rt.val=true)(h:DG st rs Rt v):∃c,CK st rs=some c∧Can Rt v [c]:=by
 cases Rt<;>first|exact h|cases hv
theorem R6{Γ:TC}{rs:List Bc}{Rt:Ty}{g:HS Γ→D Rt}{ρ:HS Γ}{st:St}(h:Ks Γ rs Rt=some g)(hr:Rep Γ ρ st):DG st rs Rt (g ρ):=by
 unfold Ks at h;split at h<;>(try cases h;done);rename_i i e size t;split at h<;>(try cases h;done)
 ·rename_i id f hg;split at h<;>(try cases h;done);rename_i e' size' t' xs ho;split at h<;>(try cases h;done);rename_i ht;split at h<;>(try cases h;done);rename_i he;subst ht;obtain⟨rfl,rfl⟩:=he;cases h;have h1:st.fr i=.osl id:=hr.s i _ hg;obtain⟨es,h2,h3⟩:=hr.o id _ ho;exact⟨es,⟨i,rfl,.inl ⟨id,.inl h1,h2,rfl⟩⟩,h3⟩
 ·rename_i f hg;cases h;obtain⟨c,e1,e2⟩:=hr.s i _ hg;unfold Can at e2;cases e2;exact⟨[],⟨i,rfl,.inr ⟨e1,_,_,rfl⟩⟩,rfl⟩
theorem R1{rs:List Bc}{Rt:Ty}{Γ:TC}{q:RdD Γ (D Rt)}{ρ:HS Γ}{st:St}(h:rdT X rs Rt Γ=some q)(hr:Rep Γ ρ st){v:q.B}(hv:q.d.val ρ=some v):DG st rs Rt (q.up ρ v):=by
 unfold rdT at h;split at h
 ·rename_i g hg;cases h;exact R6 hg hr
 ·split at h<;>(try cases h;done);rename_i q' hq;split at h<;>(try cases h;done);rename_i g hg;cases h;obtain⟨c,h3,h4⟩:=R5 hr hq hv;exact DG.val h3 (B1 _ _ hg h4)
def O9{A:Type}{xs:XC}{Γn:TC}{R:Type}(RP:St→R→Prop)(k:DKn A xs Γn R)(r:A):Ex→St→Prop
 | .normal,st=>∃ρ,Rep Γn ρ st∧k.n ρ=some r
 | .exit i,st=>∃Γi s ρ,CE A xs i=some ⟨Γi,s⟩∧Rep Γi ρ st∧s k.e ρ=some r
 | .ret,st=>∃v,RP st v∧k.r v=some r
theorem Px(hT:TOk X E)(hF:Br X E){R:Type}{rd:(Γ:TC)→Option (RdD Γ R)}{RP:St→R→Prop}(hrd:∀{Γ:TC} {q:RdD Γ R} {ρ:HS Γ} {st:St},rd Γ=some q→Rep Γ ρ st→∀{v:q.B},q.d.val ρ=some v→RP st (q.up ρ v)):∀(c:AC) {A:Type} {xs:XC} {Γn Γ:TC} {d:HS Γ→DKn A xs Γn R→Option A} {ρ:HS Γ} {k:DKn A xs Γn R} {st:St} {r:A},
  den X R rd c A xs Γn Γ=some d→Rep Γ ρ st→d ρ k=some r→BY (DQ X.Θ) E (Bj c) (O9 RP k r) st:=by
 intro c
 induction c with
 |skip=>
  intro A xs Γn Γ d ρ k st r h hr hd;simp only[den]at h;split at h<;>(try cases h;done);rename_i f hf;cases h;exact⟨st,Az.refl st,_,CS hf hr,hd⟩
 |reg draw D ls=>
  intro A xs Γn Γ d ρ k st r h hr hd;simp only[den]at h;split at h<;>(try cases h;done);rename_i q hq;split at h<;>(try cases h;done);rename_i f hf;cases h;obtain⟨st',h1,ρ',h2,h3⟩:=Jr hT hF hq hr hd;exact N0 h1 ⟨_,CS hf h2,h3⟩
 |rg D gs=>
  intro A xs Γn Γ d ρ k st r h hr hd;simp only[den]at h;split at h<;>(try cases h;done);rename_i q hq;split at h<;>(try cases h;done);rename_i f hf;cases h;exact LV hT hF hq hr hd fun st' ρ' h2 h3=>⟨_,CS hf h2,h3⟩
 |regE e D ls=>
  intro A xs Γn Γ d ρ k st r h hr hd;simp only[den]at h;split at h<;>(try cases h;done);rename_i q hq;split at h<;>(try cases h;done);rename_i f hf;cases h;obtain⟨st',h1,ρ',h2,h3⟩:=LW hT hF hq hr hd;exact N1 h1 ⟨_,CS hf h2,h3⟩
 |sq a b iha ihb=>
  intro A xs Γn Γ d ρ k st r h hr hd;simp only[den]at h;split at h<;>(try cases h;done);rename_i q hq;split at h<;>(try cases h;done);rename_i db hdb;cases h;exact⟨st,Az.refl st,Pw hT hF hq hr hd fun st' ρ' h1 h2=>ihb hdb h1 h2⟩
 |seq Γm a b iha ihb=>
  intro A xs Γn Γ d ρ k st r h hr hd;simp only[den]at h;split at h<;>(try cases h;done);rename_i da db hda hdb;cases h;refine⟨st,Az.refl st,Dz _ (fun e s hp=> ?_) (iha hda hr hd)⟩
  cases e with
  |normal=>
   obtain⟨ρ',h1,h2⟩:=hp;exact ihb hdb h1 h2
  |exit i=>exact hp
  |ret=>exact hp
 |join Γm ex rt a b iha ihb=>
  intro A xs Γn Γ d ρ k st r h hr hd;simp only[den]at h;split at h<;>(try cases h;done);rename_i ys hys;split at h<;>(try cases h;done);rename_i g da db hg hda hdb;cases h;obtain⟨o,h1,h2⟩:=Ab.1 hd;refine⟨st,Az.refl st,Dz _ (fun e s hp=> ?_) (iha hda hr h1)⟩;have hk:∀o',o'=o→elX ((0,Γm)::ys) rt (fun ρm=>db ρm k,g k.e) k.r o'=some r:=fun o' ho=>ho▸h2
  cases e with
  |normal=>
   obtain⟨ρ',h3,h4⟩:=hp;exact ihb hdb h3 (M3 (ke:=(fun ρm=>db ρm k,g k.e)) h4 hk)
  |exit i=>
   obtain⟨Γi,s',ρ',h3,h4,h5⟩:=hp;obtain⟨s2,h6,h7⟩:=Q2 (A:=A) (ke:=(fun ρm=>db ρm k,g k.e)) h3 h5 hk;obtain⟨s3,h8,h9⟩:=KA hg h6 h7;exact⟨Γi,s3,ρ',h8,h4,h9⟩
  |ret=>
   obtain⟨v,h3,h5⟩:=hp;exact⟨v,h3,Kt (ke:=(fun ρm=>db ρm k,g k.e)) h5 hk⟩
 |cond c x y ihx ihy=>
  intro A xs Γn Γ d ρ k st r h hr hd;simp only[den]at h;split at h<;>(try cases h;done);rename_i e dx dy he hdx hdy;cases h;obtain⟨b,h1,h2⟩:=Dyn.app_some hd;obtain⟨cv,e1,e2⟩:=A6 (G:=X.G) he hr h1;unfold Can at e2;cases e2;refine⟨st,Az.refl st,b,by rw[hT.G];exact e1,fun hb=> ?_,fun hb=> ?_⟩
  ·rw[if_pos hb]at h2;exact ihx hdx hr h2
  ·rw[if_neg (by simp[hb])]at h2;exact ihy hdy hr h2
 |block id b ih=>
  intro A xs Γn Γ d ρ k st r h hr hd;simp only[den]at h;split at h<;>(try cases h;done);rename_i db hdb;cases h;refine⟨st,Az.refl st,Dz _ (fun e s hp=> ?_) (ih hdb hr hd)⟩
  cases e with
  |normal=>exact hp
  |exit i=>
   obtain⟨Γi,s',ρ',h3,h4,h5⟩:=hp;simp only[CE]at h3;by_cases hi:i=id
   ·subst hi;simp only[if_true,Ac,Sigma.mk.injEq]at h3;obtain⟨rfl,h3⟩:=h3;cases eq_of_heq h3;simp only[if_true];exact⟨ρ',h4,h5⟩
   ·simp only[if_neg hi];rw[if_neg (fun e=>hi e.symm)]at h3;split at h3<;>(try cases h3;done);rename_i q hq;cases h3;exact⟨_,_,ρ',hq,h4,h5⟩
  |ret=>exact hp
 |loop Γh ex rt b ih=>
  intro A xs Γn Γ d ρ k st r h hr hd;simp only[den]at h;split at h<;>(try cases h;done);rename_i ys hys;split at h<;>(try cases h;done);rename_i g f db hg hf hdb;cases h;obtain⟨o,h1,h2⟩:=Ab.1 hd;obtain⟨n,hn⟩:=F3.1 h1;refine⟨st,Az.refl st,fun m s=>∃ρ,Rep Γh ρ s∧C4 (fun ρ=>db ρ ⟨fun ρ'=>some (.inl ρ'),keX ys rt Sum.inr,rtX ys rt Sum.inr⟩) m ρ=some o,⟨n,f ρ,CS hf hr,hn⟩,fun m s hR=> ?_⟩;obtain⟨ρ1,hr1,hi⟩:=hR
  cases m with
  |zero=>cases hi
  |succ m=>
   simp only[C4]at hi;obtain⟨w,h3,h4⟩:=Ab.1 hi;refine Dz _ (fun e s' hp=> ?_) (ih hdb hr1 h3)
   have hk:∀o',Sum.inr o'=w→elX ys rt (g k.e) k.r o'=some r:=fun o' ho=>by
    subst ho;simp only[Ac]at h4;rw[h4];exact h2
   cases e with
   |normal=>
    obtain⟨ρ',h5,h6⟩:=hp;cases h6;exact⟨m,by omega,ρ',h5,h4⟩
   |exit i=>
    obtain⟨Γi,s2,ρ',h5,h6,h7⟩:=hp;obtain⟨s3,h8,h9⟩:=J9 (A:=A) (ke:=g k.e) h5 h7 hk;obtain⟨s4,h10,h11⟩:=KA hg h8 h9;exact⟨Γi,s4,ρ',h10,h6,h11⟩
   |ret=>
    obtain⟨v,h5,h7⟩:=hp;exact⟨v,h5,Kt (ke:=g k.e) h7 hk⟩
 |exit i=>
  intro A xs Γn Γ d ρ k st r h hr hd;simp only[den]at h;split at h<;>(try cases h;done);rename_i q hq;split at h<;>(try cases h;done);rename_i f hf;cases h;exact⟨st,Az.refl st,q.1,q.2,_,hq,CS hf hr,hd⟩
 |ret=>
  intro A xs Γn Γ d ρ k st r h hr hd;simp only[den]at h;split at h<;>(try cases h;done);rename_i q hq;cases h;obtain⟨v,h1,h2⟩:=Dyn.app_some hd;exact⟨st,Az.refl st,_,hrd hq hr h1,h2⟩
 |raw c=>
  intro A xs Γn Γ d ρ k st r h hr hd;simp only[den,Ac]at h;subst h;cases hd
 |gh g c ih=>
  intro A xs Γn Γ d ρ k st r h hr hd;simp only[den]at h;split at h<;>(try cases h;done);rename_i p hp;split at h<;>(try cases h;done);rename_i dc hdc;cases h;obtain⟨st',h1,h2⟩:=J4 hp hr;exact N2 h1 (ih hdc h2 hd)
end
structure AF where
 n:Nat
 code:AC
 res:List Bc
@[reducible] def Ff:Ty→Nat→TC
 | .one t,i=> [(.s i,.v t)]
 | .cons t r,i=>(.s i,.v t)::Ff r (i+1)
 |_,_=> []
def GP:(a:Ty)→(i:Nat)→D a→HS (Ff a i)
 | .one _,_,x=>(x,())
 | .cons _ r,i,x=>(x.1,GP r (i+1) x.2)
 | .int _,_,_| .bool,_,_| .str,_,_| .err,_,_| .clo _ _,_,_| .falt _ _ _,_,_| .nfn,_,_| .nam _,_,_| .bptr _,_,_| .nilp,_,_| .pt _,_,_| .nw _ _ _,_,_| .nsl,_,_| .nmap,_,_| .agg _,_,_| .tup _,_,_| .sl _,_,_| .map _ _,_,_| .nil,_,_=>()
theorem KF:∀{a:Ty} {i:Nat} {x:D a} {l:List CV} {p:Key} {q:Σ k:EK,HS (Ff a i)→DK k},Can a x l→get (Ff a i) p=some q→∃j c,p=.s (i+j)∧l[j]? =some c∧RS q.1 (q.2 (GP a i x)) (.c c)
 | .one t,i,x,l,p,q,hc,hg=>by
  unfold Can at hc;obtain⟨c,rfl,hc⟩:=hc;by_cases hp:Key.s i=p
  ·subst hp;have hg':get ((Key.s i,EK.v t):: []) (Key.s i)=some q:=hg;rw[BN]at hg';cases hg';exact⟨0,c,rfl,rfl,c,rfl,hc⟩
  ·obtain⟨f,hf,_⟩:=Bw hp hg;cases hf
 | .cons t r,i,x,l,p,q,hc,hg=>by
  unfold Can at hc;obtain⟨c,l',rfl,h1,h2⟩:=hc;by_cases hp:Key.s i=p
  ·subst hp;have hg':get ((Key.s i,EK.v t)::Ff r (i+1)) (Key.s i)=some q:=hg;rw[BN]at hg';cases hg';exact⟨0,c,rfl,rfl,c,rfl,h1⟩
  ·obtain⟨f,hf,hx⟩:=Bw hp hg;obtain⟨j,c',h3,h4,h5⟩:=KF (i:=i+1) h2 hf;refine⟨j+1,c',by rw[h3];congr 1;omega,by simpa using h4, ?_⟩;have e:=hx (GP (.cons t r) i x);rw[e];exact h5
 | .int _,_,_,_,_,_,_,hg=>by cases hg
 | .bool,_,_,_,_,_,_,hg=>by cases hg
 | .str,_,_,_,_,_,_,hg=>by cases hg
 | .err,_,_,_,_,_,_,hg=>by cases hg
 | .clo _ _,_,_,_,_,_,_,hg=>by cases hg
 | .falt _ _ _,_,_,_,_,_,_,hg=>by cases hg
 | .nfn,_,_,_,_,_,_,hg=>by cases hg
 | .nam _,_,_,_,_,_,_,hg=>by cases hg
 | .bptr _,_,_,_,_,_,_,hg=>by cases hg
 | .nilp,_,_,_,_,_,_,hg=>by cases hg
 | .pt _,_,_,_,_,_,_,hg=>by cases hg
 | .nw _ _ _,_,_,_,_,_,_,hg=>by cases hg
 | .nsl,_,_,_,_,_,_,hg=>by cases hg
 | .nmap,_,_,_,_,_,_,hg=>by cases hg
 | .agg _,_,_,_,_,_,_,hg=>by cases hg
 | .tup _,_,_,_,_,_,_,hg=>by cases hg
 | .sl _,_,_,_,_,_,_,hg=>by cases hg
 | .map _ _,_,_,_,_,_,_,hg=>by cases hg
 | .nil,_,_,_,_,_,_,hg=>by cases hg
theorem Qy{a:Ty}{x:D a}{l:List CV}(hc:Can a x l):Rep (Ff a 0) (GP a 0 x) (ET l):=by
 refine⟨fun i q hq=> ?_,fun id q hq=> ?_⟩
 ·obtain⟨j,c,h1,h2,h3⟩:=KF hc hq;simp only[Nat.zero_add,Key.s.injEq]at h1;subst h1;simp only[ET,h2];exact h3
 ·obtain⟨j,c,h1,_⟩:=KF hc hq;cases h1
def kN:(rs:List Bc)→(Rt:Ty)→Option (D Rt)
 | [],.tup .nil=>some ()
 |_,_=>none
theorem Q1{rs:List Bc}{Rt:Ty}{y:D Rt}(h:kN rs Rt=some y)(st:St):∃c,CK st rs=some c∧Can Rt y [c]:=by
 unfold kN at h;split at h
 ·exact⟨.tup [],rfl,by unfold Can;exact⟨[],rfl,by unfold Can;rfl⟩⟩
 ·cases h
theorem AD.plain{w:World}{M:MM}{size:Nat}{t:Ty}:∀{ys:List (D t)} {es:List CV} {xs:List Value},As (fun x c=>Can t x [c]) ys es→AD w M size es xs→AD w M size (ys.map (enc t)) xs
 | [],es,xs,h,hr=>by unfold As at h;subst h;exact hr
 |y::ys,es,xs,h,hr=>by
  obtain⟨c,es',rfl,h1,h2⟩:=h;obtain⟨v,xs',e,g1,g2,g3⟩:=hr;exact⟨v,xs',e,g1,An.enc h1 g2,AD.plain h2 g3⟩
section
variable {P:Program} {E:Env} {w0:WL} {M0:MM} {n:Nat} {st:St} {a:Act} {w w':World} {z:Cz}
def R3(st:St):Bc→Option CV
 | .tmp t=>closed (st.fr t)
 | .cell a sz=>(AR st.ob sz (deref st.ob (st.fr a))).bind closed
def R4(st:St)(rs:List Bc):Option CV:=(Au (R3 st) rs).map FE
def J0(rs:List Bc)(t:Ty)(y:D t)(Θ:TC)(θ:HS Θ)(e:Ex)(st:St):Prop:=
 match e with
 | .exit _=>False
 |_=>∃c,R4 st rs=some c∧Can t y [c]∧Rep Θ θ st
theorem GV.to{G:Nat→List CV}{f:FuncId}{l:List CV}{r:CV}{H':Nat→Ob}(h:GV P G f [] l (fun _=>.none) r H')(hH:∀id,H' id=.none):CallsTo P G f l (.val r):=by
 intro w M vs hM hG hL;have hLies:FU P w M (z0 undef M.al) [] fun _=>.none:=⟨fun _=>trivial,fun _ _ h=>absurd rfl h,fun _ _ _ _ h=>absurd rfl h,fun _ _ _ h=>(by cases h),fun _ h=>absurd rfl h,rfl⟩;refine(h w M _ vs hM hG hL hLies).mono fun e w' ⟨v,z',he,⟨h1,h2,h3,h4,h5⟩,_,_,hal,hr⟩=> ?_;refine⟨v,he,⟨h1,h2,h3,h4,fun g hg=>h5 g hg fun⟨id,hh,_⟩=>hh rfl⟩, ?_⟩;have hk:AM w' (Ao M z' H') w' M:=⟨Nat.le_refl _,fun _ _ _=>rfl,fun _ _ hg=>.inl hg,hal.symm⟩;exact An.keep hk _ _ hr
end
section
variable {X:TP}
end
end WB
