/-
  OWN TEXTS, MERGED (wip/merge.py): CoreTi, CoreTj, CoreTjt, CoreTk, CoreTkt, CoreTl, CoreTm, CoreTn, CoreTne. No condition of their own.
-/
import Derived.Test.YtcakkedgkahhfaaGreatDoorK4
set_option linter.unusedVariables false
set_option linter.unusedSimpArgs false
open Go.IntKind (i64 u64 u8 u32)
namespace WB
open Go Go.RowKit
section
variable {X:TP} {E:Env} {Γ:TC} {msk:List Nat} {ρ:HS Γ} {st:St} {rd:Nat→Ob}
theorem Ke{x:SO}{fl:Bool}{q:Σ t:Ty,Dyn (HS Γ) (D t)}(h:rdC Γ msk x=some (fl,q))(hr:Rep Γ ρ st)(hrd:∀id,msk.contains id=false→rd id=st.ob id){a:D q.1}(ha:q.2.val ρ=some a){G:Nat→List CV}:
  ∃c,BU rd (so G st.fr x)=some c∧Can q.1 a [c]∧(fl=true→isC (so G st.fr x)=true)∧
   (so G st.fr x=.c c∨(∃id e size es,so G st.fr x=.osl id∧rd id=.arr e size es∧c=.sl none es)∨∃nl ks vs,c=.map nl ks vs):=by
 cases x with
 |t i=>
  simp only[rdC]at h;split at h
  ·rename_i t f hg;cases h;cases ha;obtain⟨c,e,hc⟩:=hr.s i _ hg;have e':so G st.fr (.t i)=.c c:=e;exact⟨c,by rw[e'];rfl,hc,fun _=>by rw[e'];rfl,.inl e'⟩
  ·rename_i t f hg;cases h;have:=hr.s i _ hg;have ha':f ρ=some a:=ha;unfold RS at this;simp only[ha']at this;unfold RS at this;obtain⟨c,e,hc⟩:=this;have e':so G st.fr (.t i)=.c c:=e;exact⟨c,by rw[e'];rfl,hc,fun _=>by rw[e'];rfl,.inl e'⟩
  ·rename_i id f hg;split at h<;>(try cases h;done);rename_i e' size t xs ho;cases h;cases ha;obtain⟨es,e,hes⟩:=DZ ho hr hrd;have e2:so G st.fr (.t i)=.osl id:=hr.s i _ hg;exact⟨.sl none es,by rw[e2];simp only[BU,e],by unfold Can;exact⟨_,_,rfl,hes⟩,(fun hh=>by cases hh),.inr (.inl ⟨id,_,_,es,e2,e,rfl⟩)⟩
  ·rename_i id f hg;split at h<;>(try cases h;done);rename_i mt k v xs ho;cases h;cases ha;obtain⟨z,ks,vs,e,_,hk,hv⟩:=DZ ho hr hrd;have e2:so G st.fr (.t i)=.omap id:=hr.s i _ hg;exact⟨.map none ks vs,by rw[e2];simp only[BU,e],by unfold Can;exact⟨_,_,_,rfl,hk,hv⟩,(fun hh=>by cases hh),.inr (.inr ⟨_,_,_,rfl⟩)⟩
  ·cases h
 |k c=>
  simp only[rdC]at h;split at h<;>(try cases h;done);rename_i p hp;cases h;cases ha;exact⟨c,rfl,H7 hp,fun _=>rfl,.inl rfl⟩
 |g i=>cases h
theorem Ho(hr:Rep Γ ρ st)(hrd:∀id,msk.contains id=false→rd id=st.ob id){G:Nat→List CV}:∀{xs:List SO} {fl:Bool} {q:Σ r:Ty,Dyn (HS Γ) (D r)} {a:D q.1},Ey Γ msk xs=some (fl,q)→q.2.val ρ=some a→
  ∃l,Aq (fun x=>BU rd (so G st.fr x)) xs=some l∧Can q.1 a l∧(fl=true→(xs.all fun x=>isC (so G st.fr x))=true)
 | [],fl,q,a,h,ha=>by
  simp only[Ey,Ac]at h;cases h;exact⟨[],rfl,by unfold Can;rfl,fun _=>rfl⟩
 | [x],fl,q,a,h,ha=>by
  simp only[Ey]at h;split at h<;>(try cases h;done);rename_i p hp;cases h;obtain⟨c,h1,h2,h3,_⟩:=Ke (G:=G) (fl:=p.1) (q:=p.2) hp hr hrd ha;exact⟨[c],by simp[Aq,h1],by unfold Can;exact⟨c,rfl,h2⟩,fun hh=>by simp[h3 hh]⟩
 |x::y::xs,fl,q,a,h,ha=>by
  simp only[Ey]at h;split at h<;>(try cases h;done);rename_i p p' hp hp';cases h;obtain⟨g1,g2⟩:=Dyn.both_val ha;obtain⟨c,h1,h2,h3,_⟩:=Ke (G:=G) (fl:=p.1) (q:=p.2) hp hr hrd g1;obtain⟨l,h4,h5,h6⟩:=Ho hr hrd (G:=G) (fl:=p'.1) (q:=p'.2) hp' g2;refine⟨c::l, ?_,by unfold Can;exact⟨c,l,rfl,h2,h5⟩,fun hh=> ?_⟩
  ·have e:Aq (fun x=>BU rd (so G st.fr x)) (x::y::xs)=(BU rd (so G st.fr x)).bind fun b=>(Aq (fun x=>BU rd (so G st.fr x)) (y::xs)).map fun bs=>b::bs:=rfl;rw[e,h1,h4];rfl
  ·simp only[Af]at hh;have:=h6 hh.2;rw[List.all_cons,h3 hh.1,this];rfl
theorem Lv{t:Ty}{x:D t}(hv:t.val=true)(ho:t.ok=true)(hm:mlT t=true):memless (enc t x)=true:=by
 have:=Pr hm (Can.enc x hv ho);simpa[BR]using this
theorem RB(hT:TOk X E){a Rt:Ty}{fl:Bool}{n:Nat}(hn:AY a=some n):∀{t:Ty} {F:D t→D a→Option (D Rt)} {x:D t} {y:D a} {z:D Rt} {c:CV} {l:List CV},Gq X a Rt fl t=some F→F x y=some z→Can t x [c]→Can a y l→
  ∃g caps s v,c=.fn g caps∧E.fn g (l++caps)=some (.val (enc (Sig.r s) v))∧Can Rt z [enc s.r v]∧(fl||memless (enc s.r v))=true∧E.ef g=none:=by
 have one:∀{g:Nat} {r:Ty} {s:Sig} {h:D (Bz a r).1→D s.a} {k:D s.r→D Rt} {c:D r} {y:D a} {z:D Rt} {caps l:List CV},X.T g=some s→Bb (Bz a r).1 s.a=some h→Bb s.r Rt=some k→(fl||mlT s.r)=true→(s.fn (h ((Bz a r).2 y c))).map k=some z→Can r c caps→Can a y l→
   ∃v,E.fn g (l++caps)=some (.val (enc s.r v))∧Can Rt z [enc s.r v]∧(fl||memless (enc s.r v))=true:=by
  intro g r s h k c y z caps l hs hh hk hf hz hc hy;obtain⟨v,h1,h2⟩:=Aa.1 hz;obtain⟨s1,s2,s3⟩:=hT.fn g s hs;refine⟨v,s3 _ _ v (BV _ _ hh (Gn hn hy hc)) h1,h2▸BV _ _ hk (Can.enc v s1 s2), ?_⟩
  cases fl with
  |true=>rfl
  |false=>
   simp only[Bool.false_or]at hf⊢;exact Lv s1 s2 hf
 intro t
 induction t with
 |clo g r _=>
  intro F x y z c l h hz hx hy;simp only[Gq]at h;split at h<;>(try cases h;done);rename_i s hs;split at h<;>(try cases h;done);rename_i hh kk h1 h2;split at h<;>(try cases h;done);rename_i hf;cases h;unfold Can at hx;obtain⟨caps,e,hx⟩:=hx;cases e;obtain⟨v,g1,g2,g3⟩:=one hs h1 h2 hf hz hx hy;exact⟨g,caps,s,v,rfl,g1,g2,g3,hT.ef g (.inl (by rw[hs];rfl))⟩
 |falt g r l' _ ihl=>
  intro F x y z c l h hz hx hy;simp only[Gq]at h;split at h<;>(try cases h;done);rename_i s hs;split at h<;>(try cases h;done);rename_i hh kk FF h1 h2 h3;split at h<;>(try cases h;done);rename_i hf;cases h
  cases x with
  |inl w=>
   unfold Can at hx;obtain⟨caps,e,hx⟩:=hx;cases e;obtain⟨v,g1,g2,g3⟩:=one hs h1 h2 hf hz hx hy;exact⟨g,caps,s,v,rfl,g1,g2,g3,hT.ef g (.inl (by rw[hs];rfl))⟩
  |inr w=>
   unfold Can at hx;exact ihl h3 hz hx.2 hy
 |nfn=>
  intro F x y z c l h hz;simp only[Gq,Ac]at h;subst h;cases hz
 |_=>intro F x y z c l h;cases h
theorem RC(hT:TOk X E)(hr:Rep Γ ρ st)(hrd:∀id,msk.contains id=false→rd id=st.ob id){op:SOp}{q:Σ k:EK,Dyn (HS Γ) (DK k)}{y:DK q.1}(hcls:op.cls=.call)(h:IO X Γ msk op=some q)(hy:q.2.val ρ=some y)(d:Option Nat):
  ∃v,AB E rd st d op=some (st.set d (.c v))∧RS q.1 y (.c v):=by
 cases op<;>(try cases h;done)
 case call f args=>
  simp only[IO]at h;split at h<;>(try cases h;done);rename_i s hs;split at h<;>(try cases h;done);rename_i p hp;split at h<;>(try cases h;done);rename_i g hg;split at h<;>(try cases h;done);rename_i hc;cases h;try dsimp only at hy
  obtain⟨z,h1,h2⟩:=Dyn.comp_val hy;obtain⟨a,h3,h4⟩:=Dyn.map_val h1;subst h4;obtain⟨l,h5,h6,h7⟩:=Ho hr hrd (G:=E.G) (fl:=p.1) (q:=p.2) hp h3;obtain⟨s1,s2,s3⟩:=hT.fn f s hs;have h8:=s3 _ l y (BV _ _ hg h6) h2;refine⟨enc s.r y, ?_,_,rfl,Can.enc y s1 s2⟩
  have hm:((args.all fun x=>isC (so E.G st.fr x))||(Res.val (enc s.r y)).memless)=true:=by
   cases hp1:p.1 with
   |true=>rw[h7 hp1];rfl
   |false=>
    rw[hp1]at hc;simp only[Bool.false_or]at hc;simp[Res.memless,Lv s1 s2 hc]
  simp only[AB,SOp.cls,hT.ef f (.inl (by rw[hs];rfl)),D1,h5,Option.bind_some,List.append_nil,h8,hm,if_true,DL]
 case callv f args=>
  simp only[IO]at h;split at h<;>(try cases h;done)
  case h_2=>
   rename_i g r lt e he;split at h<;>(try cases h;done);rename_i s hs;split at h<;>(try cases h;done);rename_i p hp;split at h<;>(try cases h;done);rename_i n F hn hF;cases h;try dsimp only at hy
   obtain⟨z,h1,h2⟩:=Dyn.comp_val hy;obtain⟨h3,h3'⟩:=Dyn.both_val h1;obtain⟨l,h5,h6,h7⟩:=Ho hr hrd (G:=E.G) (fl:=p.1) (q:=p.2) hp h3;obtain⟨c,e1,e2⟩:=A4 (G:=E.G) he hr h3';obtain⟨g',caps,s',v,e3,h8,h9,h10,h11⟩:=RB hT hn hF h2 e2 h6;subst e3;refine⟨enc s'.r v, ?_,_,rfl,h9⟩
   have hm:((args.all fun x=>isC (so E.G st.fr x))||(Res.val (enc s'.r v)).memless)=true:=by
    cases hp1:p.1 with
    |true=>rw[h7 hp1];rfl
    |false=>
     rw[hp1]at h10;simp only[Bool.false_or]at h10;simp[Res.memless,h10]
   simp only[AB,SOp.cls,e1,h11,D1,h5,Option.bind_some,h8,hm,if_true,DL]
  rename_i g r e he;split at h<;>(try cases h;done);rename_i s hs;split at h<;>(try cases h;done);rename_i p hp;split at h<;>(try cases h;done);rename_i n k hn hk;split at h<;>(try cases h;done);rename_i hc;cases h;try dsimp only at hy
  obtain⟨z,h1,h2⟩:=Dyn.comp_val hy;obtain⟨a,h3,h4⟩:=Dyn.map_val h1;obtain⟨h3,h3'⟩:=Dyn.both_val h3;subst h4;obtain⟨l,h5,h6,h7⟩:=Ho hr hrd (G:=E.G) (fl:=p.1) (q:=p.2) hp h3;obtain⟨c,e1,e2⟩:=A4 (G:=E.G) he hr h3';unfold Can at e2;obtain⟨caps,e3,e2⟩:=e2;cases e3;obtain⟨s1,s2,s3⟩:=hT.fn g s hs;have h8:=s3 _ (l++caps) y (BV _ _ hk (Gn hn h6 e2)) h2;refine⟨enc s.r y, ?_,_,rfl,Can.enc y s1 s2⟩
  have hm:((args.all fun x=>isC (so E.G st.fr x))||(Res.val (enc s.r y)).memless)=true:=by
   cases hp1:p.1 with
   |true=>rw[h7 hp1];rfl
   |false=>
    rw[hp1]at hc;simp only[Bool.false_or]at hc;simp[Res.memless,Lv s1 s2 hc]
  simp only[AB,SOp.cls,e1,hT.ef g (.inl (by rw[hs];rfl)),D1,h5,Option.bind_some,h8,hm,if_true,DL]
theorem Kp(hT:TOk X E)(hr:Rep Γ ρ st)(hrd:∀id,msk.contains id=false→rd id=st.ob id){op:SOp}{q:Σ k:EK,Dyn (HS Γ) (DK k)}{y:DK q.1}(h:Ko X Γ msk op=some q)(hy:q.2.val ρ=some y)(d:Option Nat):
  ∃sv,AB E rd st d op=some (st.set d sv)∧RS q.1 y sv:=by
 unfold Ko at h;split at h
 ·rename_i hcls;obtain⟨sv,h1,h2⟩:=Rf hr hrd h hy;rw[←hT.G]at h1;exact⟨sv,by simp only[AB,hcls,h1,Option.map_some],h2⟩
 ·rename_i hcls;obtain⟨sv,h1,h2⟩:=Rf hr hrd h hy;rw[←hT.G]at h1;exact⟨sv,by simp only[AB,hcls,h1,Option.map_some],h2⟩
 ·rename_i hcls;obtain⟨v,h1,h2⟩:=RC hT hr hrd hcls h hy d;exact⟨.c v,h1,h2⟩
 ·cases h
theorem Pc(hr:Rep Γ ρ st){G:Nat→List CV}{t:Ty}:∀{xs:List SO} {e:Dyn (HS Γ) (List (D t))} {ys:List (D t)},HW Γ t xs=some e→e.val ρ=some ys→∃l,Aq (fun x=>closed (so G st.fr x)) xs=some l∧Ap (fun x c=>Can t x [c]) ys l
 | [],e,ys,h,hy=>by
  simp only[HW,Ac]at h;subst h;cases hy;exact⟨[],rfl,rfl⟩
 |x::xs,e,ys,h,hy=>by
  simp only[HW]at h;split at h<;>(try cases h;done);rename_i q e' hq he';split at h<;>(try cases h;done);rename_i g hg;cases h;obtain⟨p,h1,h2⟩:=Dyn.map_val hy;obtain⟨h3,h4⟩:=Dyn.both_val h1;obtain⟨c,h5,h6⟩:=A4 (G:=G) hq hr h3;obtain⟨l,h7,h8⟩:=Pc hr (G:=G) he' h4;subst h2;refine⟨c::l, ?_,c,l,rfl,BV _ _ hg h6,h8⟩;have e:Aq (fun x=>closed (so G st.fr x)) (x::xs)=(closed (so G st.fr x)).bind fun b=>(Aq (fun x=>closed (so G st.fr x)) xs).map fun bs=>b::bs:=rfl;rw[e,h5,h7];rfl
theorem U5(hr:Rep Γ ρ st){d:Nat}{op:SOp}{o:OpD Γ}{b:o.B}(h:Fr X Γ d op=some o)(hb:o.d.val ρ=some b):∃v ob,BE (so X.G st.fr) d op=some (v,ob)∧Rep o.Γ' (o.up ρ b) {fr:=upd st.fr d v,ob:=upd st.ob d ob}:=by
 cases op<;>(try cases h;done)
 case alloc z=>
  simp only[Fr]at h;split at h<;>(try cases h;done);rename_i q hq;split at h<;>(try cases h;done);rename_i p hp;cases h;have hc:=H6 hq;obtain⟨h1,h2⟩:=Kd (ρ:=ρ) hp hc;refine⟨.ptr d 0,.box (z.map .c),rfl,Rep.newObj hr h1 ⟨z.map .c,rfl,by simp,fun j q' hj hq'=> ?_⟩ rfl⟩;rcases h2 j q' hq' with⟨_,c,h3,h4⟩|⟨h3,_⟩
  ·exact⟨.c c,by simpa using h3,h4⟩
  ·omega
 case box x=>
  simp only[Fr]at h;split at h<;>(try cases h;done)
  ·rename_i r e he;split at h<;>(try cases h;done);rename_i n p hn hp;cases h;try dsimp only at hb
   obtain⟨c,e1,e2⟩:=A4 (G:=X.G) he hr hb;unfold Can at e2;obtain⟨l,e3,e2⟩:=e2;cases e3;have hl:=DX hn e2;obtain⟨h1,h2⟩:=Kd (ρ:=ρ) hp e2;refine⟨.ptr d 0,.box (l.map .c),by simp only[BE,e1],Rep.newObj hr h1 ⟨l.map .c,rfl,by simp[hl],fun j q' hj hq'=> ?_⟩ rfl⟩;rcases h2 j q' hq' with⟨_,c,h3,h4⟩|⟨h3,_⟩
   ·exact⟨.c c,by have h3':l[j]? =some c:=by simpa using h3
                  simp[h3'],h4⟩
   ·omega
  ·rename_i t e hne he;split at h<;>(try cases h;done);rename_i h1;cases h;try dsimp only at hb
   obtain⟨c,e1,e2⟩:=A4 (G:=X.G) he hr hb
   have hn:BE (so X.G st.fr) d (.box x)=some (.ptr d 0,.box [.c c]):=by
    simp only[BE,e1];have:=Fq h1 e2;cases c<;>first|rfl|(simp[Cv]at this)
   refine⟨_,_,hn, ?_⟩
   have hx:CT d Γ ρ ((.c d 0,.v t)::Γ) (b,ρ):=fun p q hq=>by
    by_cases hp:Key.c d 0=p
    ·exact .inl ⟨0,hp.symm⟩
    ·obtain⟨f,hf,e⟩:=BP hp hq;exact .inr ⟨f,hf,e _⟩
   refine Rep.newObj hr hx ⟨[.c c],rfl,rfl,fun j q' hj hq'=> ?_⟩ rfl;have hj0:j=0:=by omega
   subst hj0;rw[Ct]at hq';cases hq';exact⟨.c c,rfl,c,rfl,e2⟩
 case mksl e size parts=>
  simp only[Fr]at h;split at h<;>(try cases h;done);rename_i t ht;split at h<;>(try cases h;done);rename_i l hl;split at h<;>(try cases h;done);rename_i hv;cases h;obtain⟨cs,h1,h2⟩:=Pc hr (G:=X.G) hl hb
  have hall:(cs.all fun v=>BB v==size)=true:=by
   rw[List.all_eq_true];intro c hc;obtain⟨i,hi⟩:=List.getElem?_of_mem hc;obtain⟨a,_,h7⟩:=h2.getB hi;simp[(Gr hv.1 hv.2 h7).2]
  refine⟨.osl d,.arr e size cs, ?_,Rep.newObj hr (CT.refl d) ⟨cs,rfl,h2⟩ rfl⟩;simp only[BE];rw[h1,Option.bind_some,if_pos hall]
 case mkmap mt kt z=>
  simp only[Fr]at h;split at h<;>(try cases h;done);rename_i k v hm;split at h<;>(try cases h;done);rename_i hh;cases h;have hk:=OT hh.2.1;subst hk;exact⟨.omap d,.map mt (ktT k) z [] [],rfl,Rep.newObj hr (CT.refl d) ⟨z,[],[],rfl,Nh hh.1,rfl,rfl⟩ rfl⟩
 case make e size bytes z x y=>
  simp only[Fr]at h;split at h<;>(try cases h;done);rename_i t k dx k' dy ht hx hy;split at h<;>(try cases h;done);rename_i hz;cases h;obtain⟨p,h1,h2⟩:=Dyn.comp_val hb;obtain⟨h3,h4⟩:=Dyn.both_val h1;obtain⟨c1,e1,g1⟩:=A4 (G:=X.G) hx hr h3;obtain⟨c2,e2,g2⟩:=A4 (G:=X.G) hy hr h4;unfold Can at g1 g2;cases g1;cases g2;simp only[Dyn.val]at h2;split at h2<;>(try cases h2;done);rename_i hc;cases h2;refine⟨.osl d,.arr e size (List.replicate p.1.toNat z), ?_,Rep.newObj hr (CT.refl d) ⟨_,rfl,Ap.replicate (R:=fun x c=>Can t x [c]) (Nh hz) _⟩ rfl⟩;simp only[BE,e1,e2];rw[if_pos hc]
 case siter x=>
  simp only[Fr]at h;split at h<;>(try cases h;done);rename_i e he;cases h;obtain⟨c,e1,e2⟩:=A4 (G:=X.G) he hr hb;unfold Can at e2;cases e2;exact⟨.iter d,.siter b 0,by simp only[BE,e1],Rep.newObj hr (CT.refl d) rfl rfl⟩
theorem Pv(hr:Rep Γ ρ st){G:Nat→List CV}{t:Ty}{x:SO}{l:Dyn (HS Γ) (List (D t))}{ys:List (D t)}(h:JH Γ t x=some l)(hy:l.val ρ=some ys):∃es,CN st (so G st.fr x)=some es∧Ap (fun x c=>Can t x [c]) ys es:=by
 unfold JH at h;split at h<;>(try cases h;done);rename_i fl u e he;split at h<;>(try cases h;done);rename_i g hg;cases h;obtain⟨y,h1,h2⟩:=Dyn.map_val hy;obtain⟨c,h3,h4,_,h5⟩:=Ke (msk:= []) (rd:=st.ob) (G:=G) he hr (fun _ _=>rfl) h1;have h6:=BV _ _ hg h4;unfold Can at h6;obtain⟨nl,es,e1,h6⟩:=h6;cases e1;refine⟨es, ?_,h2▸h6⟩;rcases h5 with h5|⟨id,e',size,es',h5,h7,h8⟩|⟨nl',ks,vs,h5⟩
 ·rw[h5];rfl
 ·cases h8;rw[h5];simp only[CN,h7]
 ·cases h5
theorem NM{t:Ty}{n:Nat}{xs:List (D t)}{es:List CV}(hv:t.val=true)(hl:AY (BS t)=some n)(ho:Fp (BS t)=true)(h:Ap (fun x c=>Can t x [c]) xs es):(es.all (fun v=>BB v==n)&&es.all fun v=>v.cells.all Cv)=true:=by
 rw[Af,List.all_eq_true,List.all_eq_true];refine⟨fun c hc=> ?_,fun c hc=> ?_⟩
 ·obtain⟨i,hi⟩:=List.getElem?_of_mem hc;obtain⟨a,_,h7⟩:=h.getB hi;simp[(Gr hv hl h7).2]
 ·obtain⟨i,hi⟩:=List.getElem?_of_mem hc;obtain⟨a,_,h7⟩:=h.getB hi;exact My ho (Fw hv h7)
theorem UN{t u:Ty}{o n:Nat}{g:D t→D u→D t}(h:GS t o n u=some g){x:D t}{y:D u}{c c':CV}(hv:t.val=true)(hx:Can t x [c])(hy:Can u y [c']):
  BB c'=n∧o+n≤BB c∧Can t (g x y) [EG c o n c']:=by
 have single:∀{f:D u→D t},n=1∧o=0∧Eb u=true→Bb u t=some f→(∀l,c≠ .agg l)→BB c'=n∧o+n≤BB c∧Can t (f y) [EG c o n c']:=by
  intro f ⟨h1,h2,h3⟩ hf hna;have ho:=Fq h3 hy;have h4:BB c'=1:=by cases c'<;>first|rfl|(simp[Cv]at ho)
  have h5:BB c=1:=by cases c<;>first|rfl|(exact absurd rfl (hna _))
  have h6:EG c o n c'=c':=by cases c<;>first|rfl|(exact absurd rfl (hna _))
  rw[h6];exact⟨by omega,by omega,BV _ _ hf hy⟩
 cases t
 case agg r=>
  simp only[GS]at h;split at h<;>(try cases h;done);rename_i m q hm hq;split at h<;>(try cases h;done);rename_i he;split at h<;>(try cases h;done);rename_i hn;cases h;obtain⟨r',f⟩:=q;simp only at he;subst he;unfold Can at hx;obtain⟨l,e,hx⟩:=hx;cases e;obtain⟨g1,g2⟩:=PQ hq hx (Fw hn.2 hy);obtain⟨n1,n2⟩:=Gr hn.2 hm hy;rw[n1]at g1 g2;rw[hn.1]at n2 g1 g2;refine⟨n2,g2, ?_⟩;unfold Can;exact⟨_,rfl,g1⟩
 case falt f0 r0 l0=>
  simp only[GS]at h;split at h<;>(try cases h;done);rename_i hh;split at h<;>(try cases h;done);rename_i f hf;have hg:=Option.some.inj h;rw[←hg];refine single hh hf fun l hl=> ?_;subst hl;obtain⟨c1,e,_,e2⟩:=Ju (t:=.falt f0 r0 l0) hv hx;cases e;exact(e2 _).1 rfl
 all_goals(try(cases hv;done))
 all_goals
  simp only[GS]at h;split at h<;>(try cases h;done);rename_i hh;split at h<;>(try cases h;done);rename_i f hf;have hg:=Option.some.inj h;rw[←hg];refine single hh hf fun l hl=> ?_;subst hl;unfold Can at hx
  first
   |(rcases hx with e|e|e<;>(cases e;done))
   |(cases hx;done)
   |(obtain⟨_,e,_⟩:=hx;cases e;done)
   |(obtain⟨_,_,e,_⟩:=hx;cases e;done)
   |(obtain⟨_,_,_,e,_⟩:=hx;cases e;done)
   |(cases x<;>cases hx;done)
theorem N4{α β:Type}{eq:α→α→Bool}{z:β}{x:α}{y:β}:∀{m:List (α×β)},(CW eq z x m).2=true→(Ei eq x y m).map (·.1)=m.map (·.1)
 | [],h=>by cases h
 |p::m,h=>by
  unfold CW at h;unfold Ei;split
  ·rfl
  ·rename_i hp;rw[if_neg hp]at h;simp[N4 h]
theorem Ap.fst{α β γ:Type}{R:α→γ→Prop}:∀{m m':List (α×β)} {ks:List γ},m.map (·.1)=m'.map (·.1)→Ap (fun x c=>R x.1 c) m ks→Ap (fun x c=>R x.1 c) m' ks
 | [],[],_,_,h=>h
 | [],_::_,_,e,_=>by cases e
 |_::_,[],_,e,_=>by cases e
 |p::m,p'::m',ks,e,h=>by
  simp only[List.map_cons,List.cons.injEq]at e;obtain⟨c,ks',rfl,h1,h2⟩:=h;exact⟨c,ks',rfl,(by show R p'.1 c;rw[←e.1];exact h1),Ap.fst e.2 h2⟩
theorem Hw{id nb off:Nat}{fo:HS Γ→DK (.box nb)}{cs:List SV}{k:EK}{x:DK k}{sv:SV}(hr:Rep Γ ρ st)(ho:get Γ (.o id)=some ⟨.box nb,fo⟩)(hl:cs.length=nb)(hcs:∀j q,j<nb→get Γ (.c id j)=some q→∃sv,cs[j]? =some sv∧RS q.1 (q.2 ρ) sv)
  (hoff:off<nb) (hs:RS k x sv):Rep ((.c id off,k)::Γ) (x,ρ) {st with ob:=upd st.ob id (.box (cs.set off sv))}:=by
 refine Rep.turnCells hr (Γc:=(.c id off,k)::Γ) (ρc:=(x,ρ)) (fun p q hq=> ?_) ho (cs:=cs.set off sv) (by simp[hl]) fun j q hj hq=> ?_
 ·by_cases hp:Key.c id off=p
  ·exact .inl ⟨off,hp.symm⟩
  ·obtain⟨f,hf,e⟩:=BP hp hq;exact .inr ⟨f,hf,e _⟩
 ·by_cases hjo:off=j
  ·subst hjo;rw[Ct]at hq;cases hq;exact⟨sv,by simp[List.getElem?_set];omega,hs⟩
  ·obtain⟨f,hf,e'⟩:=BP (by simpa using hjo) hq;obtain⟨sv',h6,h7⟩:=hcs j _ hj hf;exact⟨sv',by simp[hjo,h6],(e' _)▸h7⟩
theorem Rep.newObjS{d id:Nat}{k ko:EK}{x:DK k}{y:DK ko}{v:SV}{o:Ob}(h:Rep Γ ρ st)(ho:RO Γ ρ id ko y o)(hs:RS k x v):
  Rep ((.s d,k)::(.o id,ko)::Γ) (x,y,ρ) {fr:=upd st.fr d v,ob:=upd st.ob id o}:=by
 have h1:=Rep.turnObj h ho;have h2:=Rep.set h1 (d:=d) hs;exact h2
theorem OW{n:Nat}{i:Int}(e:(n:Int)=i)(h:i≤140737488355328):n≤140737488355328:=by omega
theorem OX{n:Nat}{i:Int}(e:(n:Int)=i)(h:i≤4611686018427387904):n≤4611686018427387904:=by omega
theorem Qz{id:Nat}{t:Ty}{o nb:Nat}{cs:List SV}(hcs:∀j q,j<nb→get Γ (.c id j)=some q→∃sv,cs[j]? =some sv∧RS q.1 (q.2 ρ) sv){i:Nat}{y:D t}{c:CV}(hc:Can t y [c]):∀{n j:Nat} {p:Σ Γ':TC,HS Γ→Nat→D t→HS Γ'},I0 Γ id t o n j=some p→o+j+n≤nb→
  CT id Γ ρ p.1 (p.2 ρ i y)∧∀j' q,get p.1 (.c id j')=some q→(o+j≤j'∧j'<o+j+n∧∃sv,(if j'=o+i then some (.c c)else cs[j']?)=some sv∧RS q.1 (q.2 (p.2 ρ i y)) sv)∨((j'<o+j∨o+j+n≤j')∧∃f,get Γ (.c id j')=some ⟨q.1,f⟩∧q.2 (p.2 ρ i y)=f ρ)
 |0,j,p,h,_=>by
  simp only[I0,Ac]at h;subst h;exact⟨CT.refl id,fun j' q hq=>.inr ⟨by omega,q.2,hq,rfl⟩⟩
 |n+1,j,p,h,hb=>by
  simp only[I0]at h;split at h<;>(try cases h;done);rename_i u f p' hf hp';split at h<;>(try cases h;done);rename_i hu;subst hu;cases h;obtain⟨g1,g2⟩:=Qz hcs hc hp' (by omega);refine⟨fun k q hq=> ?_,fun j' q hq=> ?_⟩
  ·by_cases hk:Key.c id (o+j)=k
   ·exact .inl ⟨_,hk.symm⟩
   ·obtain⟨f',hf',e⟩:=BP hk hq;rcases g1 _ _ hf' with hh|⟨f2,hf2,e2⟩
    ·exact .inl hh
    ·exact .inr ⟨f2,hf2,(e _).trans e2⟩
  ·by_cases hj:j'=o+j
   ·subst hj;rw[Ct]at hq;cases hq;refine .inl ⟨by omega,by omega, ?_⟩;by_cases hi:i=j
    ·subst hi;refine⟨.c c,by simp,c,rfl, ?_⟩;simpa using hc
    ·obtain⟨sv,h1,h2⟩:=hcs (o+j) _ (by omega) hf;refine⟨sv,by rw[if_neg (by omega)];exact h1, ?_⟩;simp only[hi,if_false];exact h2
   ·obtain⟨f',hf',e⟩:=BP (by simpa using Ne.symm hj) hq;rcases g2 j' _ hf' with⟨k1,k2,sv,k3,k4⟩|⟨k1,f2,k2,k3⟩
    ·exact .inl ⟨by omega,by omega,sv,k3,(e _)▸k4⟩
    ·exact .inr ⟨by omega,f2,k2,(e _).trans k3⟩
theorem U4(hr:Rep Γ ρ st){d:Option Nat}{op:SOp}{o:OpD Γ}{b:o.B}(h:FX X Γ d op=some o)(hb:o.d.val ρ=some b):∃st',AW d (so X.G st.fr) st op=some st'∧Rep o.Γ' (o.up ρ b) st':=by
 cases op<;>(try cases h;done)
 case store n a x=>
  simp only[FX]at h;split at h<;>(try cases h;done)
  ·rename_i id off fa ha;have ha':deref st.ob (so X.G st.fr a)=.ptr id off:=EH ha hr (fun _ _=>rfl) (a:=fa ρ) rfl rfl;split at h<;>(try cases h;done);rename_i nb fo ho;obtain⟨cs,e,hl,hcs⟩:=hr.o id _ ho;split at h<;>(try cases h;done)
   ·rename_i r ex hx;split at h<;>(try cases h;done);rename_i m p hm hp;split at h<;>(try cases h;done);rename_i hh;cases h;obtain⟨c,e1,e2⟩:=Bo hx hr hb;unfold Can at e2;obtain⟨l,e3,e2⟩:=e2;cases e3;have hlen:=DX hm e2;obtain⟨h1,h2⟩:=Kd (ρ:=ρ) hp e2;refine⟨_, ?_,Rep.turnCells hr h1 ho (cs:=EN cs off (l.map .c)) ?_ fun j q hj hq=> ?_⟩
    ·simp only[AW,ha',e,e1];rw[if_pos ⟨by omega,by omega,My hh.2.2 e2⟩]
    ·simp[EN];omega
    ·rcases h2 j q hq with⟨h3,c,h4,h5⟩|⟨h3,f,h4,h5⟩
     ·have hjl:=(Ae.1 h4).1;refine⟨.c c, ?_,h5⟩;simp only[EN];rw[List.append_assoc,List.getElem?_append_right (by simp;omega),List.getElem?_append_left (by simp;omega)];have:j-(cs.take off).length=j-off:=by simp;omega
      rw[this,List.getElem?_map,h4];rfl
     ·obtain⟨sv,h6,h7⟩:=hcs j _ hj h4;refine⟨sv, ?_,h5▸h7⟩;simp only[EN];rcases h3 with h3|h3
      ·rw[List.append_assoc,List.getElem?_append_left (by simp;omega),List.getElem?_take_of_lt h3,h6]
      ·rw[List.getElem?_append_right (by simp;omega),List.getElem?_drop];have:off+(l.map SV.c).length+(j-(cs.take off++l.map SV.c).length)=j:=by simp;omega
       rw[this,h6]
   ·rename_i t ex hna hx;split at h<;>(try cases h;done);rename_i hh;cases h;obtain⟨c,e1,e2⟩:=Bo hx hr hb;have ho1:=Fq hh.2.2 e2;refine⟨_, ?_,Hw hr ho hl hcs hh.2.1 (k:=.v t) (x:=b) (sv:=.c c) ⟨c,rfl,e2⟩⟩;simp only[AW,ha',e,e1]
    cases c<;>first
     |(simp[Cv]at ho1;done)
     |(exact if_pos ⟨hh.1,by omega,ho1⟩)
   ·rename_i i fx hx;split at h<;>(try cases h;done);rename_i hh;cases h;have e1:so X.G st.fr x=.osl i:=Bo hx hr (a:=fx ρ) rfl;refine⟨_, ?_,Hw hr ho hl hcs hh.2 (k:=.own i) (x:=()) (sv:=.osl i) rfl⟩;simp only[AW,ha',e,e1];exact if_pos ⟨hh.1,by omega,rfl⟩
   ·rename_i i fx hx;split at h<;>(try cases h;done);rename_i hh;cases h;have e1:so X.G st.fr x=.omap i:=Bo hx hr (a:=fx ρ) rfl;refine⟨_, ?_,Hw hr ho hl hcs hh.2 (k:=.mp i) (x:=()) (sv:=.omap i) rfl⟩;simp only[AW,ha',e,e1];exact if_pos ⟨hh.1,by omega,rfl⟩
  ·rename_i id len off di ha;split at h<;>(try cases h;done);rename_i nb fo ho;obtain⟨cs,e,hl,hcs⟩:=hr.o id _ ho;split at h<;>(try cases h;done);rename_i t ex hx;split at h<;>(try cases h;done);rename_i p hp;split at h<;>(try cases h;done);rename_i hh;obtain⟨hn,hbd,hone⟩:=hh;cases h;obtain⟨h3,h4⟩:=Dyn.both_val hb;obtain⟨ha',hi⟩:=EH (rd:=st.ob) ha hr (fun _ _=>rfl) h3 rfl
   have hlt:off+b.1<cs.length:=by
    have:b.1<len:=hi;rw[hl];exact Nat.lt_of_lt_of_le (Nat.add_lt_add_left this off) hbd
   obtain⟨c,e1,e2⟩:=A4 (G:=X.G) hx hr h4;have ho1:=Fq hone e2;obtain⟨h1,h2⟩:=Qz (i:=b.1) hcs e2 hp (by omega);refine⟨_, ?_,Rep.turnCells hr h1 ho (cs:=cs.set (off+b.1) (.c c)) (by simpa using hl) fun j q hj hq=> ?_⟩
   ·simp only[AW,ha',e,e1]
    cases c<;>first
     |(simp[Cv]at ho1;done)
     |(exact if_pos ⟨hn,hlt,ho1⟩)
   ·rcases h2 j q hq with⟨_,_,sv,h6,h7⟩|⟨h5,f,h6,h7⟩
    ·refine⟨sv, ?_,h7⟩;rw[←h6,List.getElem?_set];by_cases hji:j=off+b.1
     ·subst hji;rw[if_pos rfl,if_pos hlt,if_pos rfl]
     ·rw[if_neg (Ne.symm hji),if_neg hji]
    ·obtain⟨sv,h8,h9⟩:=hcs j _ hj h6;refine⟨sv, ?_,h7▸h9⟩;rw[List.getElem?_set_ne (by have:b.1<len:=hi;omega)];exact h8
  ·rename_i id size off di ha;split at h<;>(try cases h;done);rename_i e' sz t xs ho;split at h<;>(try cases h;done);rename_i u dx hx;split at h<;>(try cases h;done);rename_i g hg;split at h<;>(try cases h;done);rename_i hh;obtain⟨hsz,hn,hv,hlt,hone⟩:=hh;cases h;obtain⟨w,h1,h2⟩:=Dyn.comp_val hb;obtain⟨p,h3,h4⟩:=Dyn.map_val h1;obtain⟨h5,h6⟩:=Dyn.both_val h3;have h2':w=some b:=h2;rw[h2']at h4;obtain⟨el,h7,h8⟩:=Aa.1 h4.symm;have ha':deref st.ob (so X.G st.fr a)=.eptr id p.1 size off:=EH ha hr (fun _ _=>rfl) h5 rfl;obtain⟨c,e1,e2⟩:=A4 (G:=X.G) hx hr h6;obtain⟨es,e,hes⟩:=hr.o id _ ho;obtain⟨c0,h9,h10⟩:=hes.get h7;obtain⟨g1,g2,g3⟩:=UN hg hv h10 e2
   have hob:c.cells.all Cv=true:=by
    unfold GS at hg
    cases hu:u.val with
    |true=>exact My hone (Fw hu e2)
    |false=>
     exfalso;split at hg
     ·split at hg<;>(try cases hg;done);split at hg<;>(try cases hg;done);split at hg<;>(try cases hg;done);rename_i hh;rw[hu]at hh;cases hh.2
     ·split at hg<;>(try cases hg;done);rename_i hh;have:=hh.2.2;cases u<;>first|(cases hu;done)|(cases this;done)|(simp only[Ty.val]at hu;simp only[Eb]at this;rw[hu]at this;cases this;done)
   refine⟨_, ?_,Rep.turnObj hr (k:=.arr e' sz t) (y:=b) ⟨es.set p.1 (EG c0 off n c),rfl,h8▸hes.set p.1 g3⟩⟩;simp only[AW,ha',e,e1];rw[if_pos ⟨hsz,hn,g1,hob⟩,h9,Option.bind_some,if_pos g2]
  ·rename_i da ha;split at h<;>(try cases h;done);rename_i dx hx;split at h<;>(try cases h;done);rename_i hn;cases h;obtain⟨p,h1,h2⟩:=Dyn.comp_val hb;obtain⟨h3,h4⟩:=Dyn.both_val h1;obtain⟨c,e1,e2⟩:=EH (rd:=st.ob) ha hr (fun _ _=>rfl) h3 rfl;unfold Can at e2;obtain⟨l,e3,e2⟩:=e2;cases e3;unfold Can at e2;obtain⟨c',rfl,e2⟩:=e2;unfold Can at e2;cases e2;obtain⟨c2,g1,g2⟩:=A4 (G:=X.G) hx hr h4;unfold Can at g2;cases g2;simp only[Dyn.val,Ad]at h2;obtain⟨h5,_⟩:=h2;refine⟨st, ?_,hr⟩;simp only[AW,e1,g1];exact if_pos ⟨hn,h5⟩
 case append e size bytes x y=>
  simp only[FX]at h;split at h<;>(try cases h;done)
  ·rename_i id fx hx;split at h<;>(try cases h;done);rename_i e' size' t xs ho;split at h<;>(try cases h;done);rename_i l d' hl;split at h<;>(try cases h;done);rename_i hh;obtain⟨he,hs,hv,hlr,hone⟩:=hh;cases h;have hx':so X.G st.fr x=.osl id:=Bo hx hr (a:=fx ρ) rfl;obtain⟨w,h1,h2⟩:=Dyn.comp_val hb;obtain⟨ys,h3,h4⟩:=Dyn.map_val h1;have h2':w=some b:=h2;rw[h2']at h4;split at h4<;>(try cases h4;done);rename_i hc;cases h4;obtain⟨news,h5,h6⟩:=Pv hr (G:=X.G) hl h3;obtain⟨es,e0,hes⟩:=hr.o id _ ho;have hall:=NM hv hlr hone h6;have hl1:=hes.length;have hl2:=h6.length;refine⟨_, ?_,Rep.newObjS (hr.kill [id]) (k:=.own id) (ko:=.arr e size t) (x:=()) (y:=xs ρ++ys) (v:=.osl id) (o:=.arr e size (es++news)) ⟨_,rfl,hes.append h6⟩ rfl⟩;simp only[AW,h5,hall,if_true,hx',e0];rw[if_pos ⟨he,hs,by rw[hl1,hl2];exact OW (by rw[Int.natCast_mul,Int.natCast_add]) hc.1,by rw[hl1,hl2];exact OX (by rw[Int.natCast_add]) hc.2⟩];rfl
  ·rename_i fx hx;split at h<;>(try cases h;done);rename_i t ht;split at h<;>(try cases h;done);rename_i l d' hl;split at h<;>(try cases h;done);rename_i hh;obtain⟨hv,hlr,hone⟩:=hh;cases h;obtain⟨c,hx',hcx⟩:=Bo hx hr (a:=fx ρ) rfl;unfold Can at hcx;cases hcx;obtain⟨ys,h1,h2⟩:=Dyn.comp_val hb;simp only[Dyn.val]at h2;split at h2<;>(try cases h2;done);rename_i hc;cases h2;obtain⟨news,h5,h6⟩:=Pv hr (G:=X.G) hl h1;have hall:=NM hv hlr hone h6;have hl2:=h6.length;refine⟨_, ?_,Rep.newObjS (hr.kill [d']) (k:=.own d') (ko:=.arr e size t) (x:=()) (y:=b) (v:=.osl d') (o:=.arr e size news) ⟨_,rfl,h6⟩ rfl⟩;simp only[AW,h5,hall,if_true,hx'];rw[if_pos ⟨by rw[hl2];exact OW (by rw[Int.natCast_mul]) hc.1,by rw[hl2];exact OX rfl hc.2⟩]
 case mapent mt x k=>
  simp only[FX]at h;split at h<;>(try cases h;done);rename_i id fx q d' hx hk;split at h<;>(try cases h;done);rename_i mt' kt vt m ho;split at h<;>(try cases h;done);rename_i g hg;split at h<;>(try cases h;done);rename_i hh;obtain⟨hm,hp⟩:=hh;cases h;have hx':so X.G st.fr x=.omap id:=Bo hx hr (a:=fx ρ) rfl;dsimp only at hb;obtain⟨y,h1,h2⟩:=Dyn.map_val hb;obtain⟨ck,e1,e2⟩:=A4 (G:=X.G) hk hr h1;have e3:=BV _ _ hg e2;obtain⟨z,ks,vs,e0,hz,hks,hvs⟩:=hr.o id _ ho;obtain⟨cv,l1,l2⟩:=JA hp e3 hz hks hvs;obtain⟨i1,i2⟩:=Js hp e3 l2 hks hvs;subst h2;refine⟨_, ?_,Rep.newObjS hr (k:=.ent id kt vt) (ko:=.mob mt kt vt) (x:=_) (y:=_) (v:=.ent id ck cv) (o:=.map mt (ktT kt) z (Bq (ktT kt) ks ck) (Br (ktT kt) ks vs ck cv)) ⟨z,_,_,rfl,hz,i1,i2⟩ ⟨ck,cv,rfl,e3,l2⟩⟩;simp only[AW,hx',e1,e0];rw[if_pos ⟨hm,(FN hp e3 e3).2,by rw[hks.length,hvs.length]⟩];simp only[l1,St.set,hm]
 case entst x s v=>
  simp only[FX]at h;split at h<;>(try cases h;done);rename_i id fx id' kt fs q hx hs hv;split at h<;>(try cases h;done);rename_i mt kt' vt m ho;split at h<;>(try cases h;done);rename_i g hg;split at h<;>(try cases h;done);rename_i hk;subst hk;split at h<;>(try cases h;done);rename_i hh;obtain⟨hid,hp⟩:=hh;subst hid;cases h;have hx':so X.G st.fr x=.omap id:=Bo hx hr (a:=fx ρ) rfl;obtain⟨ck,hs',hck⟩:=Bo hs hr (a:=fs ρ) rfl;obtain⟨w,h1,h2⟩:=Dyn.comp_val hb;obtain⟨y,h3,h4⟩:=Dyn.map_val h1;have h2':w=some b:=h2;rw[h2']at h4;split at h4<;>(try cases h4;done);rename_i hkey;cases h4;obtain⟨cv,e1,e2⟩:=A4 (G:=X.G) hv hr h3;have e3:=BV _ _ hg e2;obtain⟨z,ks,vs,e0,hz,hks,hvs⟩:=hr.o id _ ho;obtain⟨i1,i2⟩:=Js hp hck e3 hks hvs;refine⟨_, ?_,Rep.turnObj hr (k:=.mob mt kt vt) (y:=Ei (eqZ kt) (fs ρ) (g y) (m ρ)) ⟨z,ks,Br (ktT kt) ks vs ck cv,rfl,hz,Ap.fst (R:=fun k c=>Can kt k [c]) (N4 hkey).symm hks,i2⟩⟩;simp only[AW,hx',hs',e1,e0,if_true]
 case mapupd mt x k v=>
  simp only[FX]at h;split at h<;>(try cases h;done);rename_i id fx q p hx hk hv;split at h<;>(try cases h;done);rename_i mt' kt vt m ho;split at h<;>(try cases h;done);rename_i g f hg hf;split at h<;>(try cases h;done);rename_i hh;obtain⟨hm,hp⟩:=hh;cases h;have hx':so X.G st.fr x=.omap id:=Bo hx hr (a:=fx ρ) rfl;dsimp only at hb;obtain⟨y,h1,h2⟩:=Dyn.map_val hb;obtain⟨h3,h4⟩:=Dyn.both_val h1;obtain⟨ck,e1,e2⟩:=A4 (G:=X.G) hk hr h3;obtain⟨cv,e1',e2'⟩:=A4 (G:=X.G) hv hr h4;have e3:=BV _ _ hg e2;have e3':=BV _ _ hf e2';obtain⟨z,ks,vs,e0,hz,hks,hvs⟩:=hr.o id _ ho;obtain⟨i1,i2⟩:=Js hp e3 e3' hks hvs;refine⟨_, ?_,Rep.turnObj hr (k:=.mob mt kt vt) (y:=b) ⟨z,Bq (ktT kt) ks ck,Br (ktT kt) ks vs ck cv,rfl,hz,h2▸i1,h2▸i2⟩⟩;simp only[AW,hx',e1,e1',e0];rw[if_pos ⟨hm,(FN hp e3 e3).2⟩,hm]
theorem U3(hT:TOk X E)(hr:Rep Γ ρ st){d:Option Nat}{op:SOp}{o:OpD Γ}{b:o.B}(h:M1 X Γ d op=some o)(hb:o.d.val ρ=some b)(rd:Nat→Ob):∃st',AB E rd st d op=some st'∧Rep o.Γ' (o.up ρ b) st':=by
 unfold M1 at h;split at h<;>(try cases h;done);rename_i f x y;split at h<;>(try cases h;done);rename_i hcp;split at h<;>(try cases h;done);rename_i id fx ut q d hx hy;split at h<;>(try cases h;done);rename_i mt vt m ho;split at h<;>(try cases h;done);rename_i g hg;cases h;have hx':so X.G st.fr x=.omap id:=Bo hx hr (a:=fx ρ) rfl;obtain⟨w,h1,h2⟩:=Dyn.comp_val hb;obtain⟨yv,h3,h4⟩:=Dyn.map_val h1;have h2':w=some b:=h2;rw[h2']at h4;have h5:Ml (m ρ) (g yv)=some b:=h4.symm;unfold Ml at h5;split at h5<;>(try cases h5;done);rename_i hcond;obtain⟨c1,c2,c3⟩:=hcond;simp only[Ac]at h5;obtain⟨cv,e1,e2⟩:=A4 (G:=X.G) hy hr h3;have e3:=BV _ _ hg e2;obtain⟨z,ks,vs,e0,hz,hks,hvs⟩:=hr.o id _ ho;have hm:m ρ= []:=List.isEmpty_iff.1 c1;replace hks:Ap (fun(x:List UInt8×D vt) c=>Can .str x.1 [c]) (m ρ) ks:=hks;replace hvs:Ap (fun(x:List UInt8×D vt) c=>Can vt x.2 [c]) (m ρ) vs:=hvs;rw[hm]at hks hvs;unfold Ap at hks hvs;subst hks;subst hvs;unfold Can at e3;obtain⟨nl,ks,us,e4,k1,k2⟩:=e3;cases e4
 have key:∀(l:List (List UInt8×D vt)) (ks:List CV),Ap (fun x c=>Can .str x.1 [c]) l ks→(l.all fun p=>decide (p.1.length≤9223372036854775807))=true→ks.all Gf=true:=by
  intro l
  induction l with
  |nil=>intro ks h _;unfold Ap at h;subst h;rfl
  |cons p l ih=>
   intro ks h hl;obtain⟨c,ks',rfl,q1,q2⟩:=h;simp only[List.all_cons,Af]at hl⊢;unfold Can at q1;cases q1;exact⟨hl.1,ih ks' q2 hl.2⟩
 have kl:ks.length≤9223372036854775807:=by rw[k1.length];exact c3
 subst h5;refine⟨_, ?_,Rep.set (Rep.turnObj hr (k:=.mob mt .str vt) (y:=g yv) ⟨z,ks,us,rfl,hz,k1,k2⟩) (k:=.v (.tup .nil)) (x:=()) ⟨.tup [],rfl,by unfold Can;exact⟨[],rfl,by unfold Can;rfl⟩⟩⟩;have hcp':E.cp f=true:=by rw[hT.cp];exact hcp
 have e0':st.ob id=.map mt .str z [] []:=e0;show Gz E (so E.G st.fr) st (some d) f x y=_;unfold Gz;rw[if_pos hcp',hT.G,hx',e1];dsimp only;rw[e0'];dsimp only;rw[if_pos ⟨key _ _ k1 c2,kl⟩];rfl
end
def Aw(le:DM)(st st':St):Prop:=∀{P:Program} {G:Nat→List CV} {w0:WL} {M0:MM} {n:Nat} {a:Act} {w:World} {z:Cz},w0.le=le→SR P G w0 M0 n st a w z→∃z',SR P G w0 M0 n st' a w z'
variable {le:DM}
theorem Aw.refl(st:St):Aw le st st:=fun _ h=>⟨_,h⟩
theorem Aw.trans{s t u:St}(h:Aw le s t)(k:Aw le t u):Aw le s u:=fun he hs=>by
 obtain⟨z',h1⟩:=h he hs;exact k he h1
theorem Aw.kill(st:St)(ids:List Nat):Aw le st (WB.kill ids st):=fun _ h=>⟨_,h.killed ids⟩
section
variable {P:Program} {G:Nat→List CV} {w0:WL} {M0:MM} {n:Nat} {st:St} {a:Act} {w:World} {z:Cz}
theorem SR.reslot(h:SR P G w0 M0 n st a w z){i:Nat}{sv:SV}(hs:Ar w (Am M0 z st.ob) z st.ob sv (a.tmps.getD i undef)):SR P G w0 M0 n {st with fr:=upd st.fr i sv} a w z:=by
 refine⟨h.size,h.defers,h.below,h.outer,h.nam,h.glob,fun j=> ?_,h.ob,h.lo,h.apart⟩;show Ar w _ z st.ob (upd st.fr i sv j) _;by_cases hj:j=i
 ·subst hj;rw[Bl];exact hs
 ·rw[Ay _ _ hj];exact h.fr j
theorem SR.reob(h:SR P G w0 M0 n st a w z){b:Nat}{o:Ob}(hl:st.ob b≠ .none)(hl':o≠ .none)(hbox:∀cs',o=.box cs'→∃cs,st.ob b=.box cs)(ho:Ba P w (Am M0 z st.ob) 0 z st.ob b (z.σ b) o):SR P G w0 M0 n {st with ob:=upd st.ob b o} a w z:=by
 have live:∀id,upd st.ob b o id≠ .none↔st.ob id≠ .none:=by
  intro id;by_cases hid:id=b
  ·subst hid;simp[Bl,hl,hl']
  ·rw[Ay _ _ hid]
 have hm:∀g,Am M0 z (upd st.ob b o) g→Am M0 z st.ob g:=fun g hg=>Or.imp id (fun⟨id,h1,h2⟩=>⟨id,(live id).1 h1,h2⟩) hg;have hk:Bp w (Am M0 z st.ob) w (Am M0 z (upd st.ob b o)):=⟨Nat.le_refl _,fun _ _ _=>rfl,fun g _ hg=>hm g hg,rfl⟩;have hz:∀s,Eg st.ob z (upd st.ob b o) z s:=fun s=>⟨fun id _ hh=>(live id).2 hh,fun _ _ _=>rfl,fun _ _ _ _ _ hh=>hh⟩
 have hn:F5 w0 M0 n z (upd st.ob b o):=h.nam.of rfl fun N cs' hN hc=>by
  by_cases hNb:N=b
  ·subst hNb;rw[Bl]at hc;obtain⟨cs,e⟩:=hbox cs' hc;exact⟨cs,e,rfl⟩
  ·rw[Ay _ _ hNb]at hc;exact⟨cs',hc,rfl⟩
 refine⟨h.size,h.defers,h.below,h.outer,hn,h.glob,fun i=>Ar.keep hk (hz _) (h.fr i),fun id=> ?_,fun id g h1 h2=>h.lo id g ((live id).1 h1) h2,fun i j g hij h1 h2=>h.apart i j g hij ((live i).1 h1) ((live j).1 h2)⟩;show Ba P w _ _ z (upd st.ob b o) id (z.σ id) (upd st.ob b o id);by_cases hid:id=b
 ·subst hid;rw[Bl];exact Ba.keep hk (fun _ _=>rfl) (fun _ _ _ _=>hz _) (fun _ _ hh=>hh) ho
 ·rw[Ay _ _ hid];exact Ba.keep hk (fun _ _=>rfl) (fun _ _ _ _=>hz _) (fun _ _ hh=>hh) (h.ob id)
theorem SR.newNil(h:SR P G w0 M0 n st a w z){id e size:Nat}(hn:st.ob id=.none):SR P G w0 M0 n {st with ob:=upd st.ob id (.arr e size [])} a w (z.new id (.slice none 0 0)):=by
 have hk:=Jz (M0:=M0) (z:=z) (d:=id) (v:=.slice none 0 0) (o:=.arr e size []) (w:=w) (w':=w) hn (Below.refl _ _) (fun g hg=>by cases hg)
 have hnm:F5 w0 M0 n (z.new id (.slice none 0 0)) (upd st.ob id (.arr e size [])):=h.nam.of rfl fun N cs' hN hc=>by
  by_cases hNb:N=id
  ·subst hNb;rw[Bl]at hc;cases hc
  ·rw[Ay _ _ hNb]at hc;exact⟨cs',hc,by simp[Cz.new,upd,hNb]⟩
 refine⟨h.size,h.defers,h.below,h.outer,hnm,h.glob,fun i=>Ar.keep hk (HO hn _) (h.fr i),fun i=> ?_,fun i g h1 h2=> ?_,fun i j g hij h1 h2 h3 h4=> ?_⟩
 ·show Ba P w _ _ _ (upd st.ob id _) i _ (upd st.ob id _ i);by_cases hi:i=id
  ·subst hi;rw[Bl];have:(z.new i (.slice none 0 0)).σ i=.slice none 0 0:=by simp[Cz.new,upd]
   rw[this];exact⟨[],⟨by simp,.inl ⟨rfl,rfl⟩⟩,rfl⟩
  ·rw[Ay _ _ hi];have e1:(z.new id (.slice none 0 0)).σ i=z.σ i:=by simp[Cz.new,upd,hi]
   rw[e1];by_cases hl:st.ob i=.none
   ·rw[hl];trivial
   ·exact Ba.keep hk (fun g hg=>rfl) (fun _ _ _ _=>HO hn _) (fun k b hh=>by simpa[Cz.new,hi]using hh) (h.ob i)
 ·by_cases hi:i=id
  ·subst hi;simp only[Cz.new,Bl]at h2;cases h2
  ·simp only[Ay _ _ hi]at h1;simp only[Cz.new,Ay _ _ hi]at h2;exact h.lo i g h1 h2
 ·by_cases hi:i=id
  ·subst hi;simp only[Cz.new,Bl]at h3;cases h3
  ·by_cases hj:j=id
   ·subst hj;simp only[Cz.new,Bl]at h4;cases h4
   ·simp only[Ay _ _ hi]at h1;simp only[Ay _ _ hj]at h2;simp only[Cz.new,Ay _ _ hi]at h3;simp only[Cz.new,Ay _ _ hj]at h4;exact h.apart i j g hij h1 h2 h3 h4
theorem OA(h:SR P G w0 M0 n st a w z){id et sz:Nat}(hI:¬w0.le.I id){es:List CV}(hob:st.ob id=.arr et sz es){v:Value}(hv:Ar w (Am M0 z st.ob) z st.ob (.osl id) v):RelC w (Am M0 z (kill [id] st).ob) (.sl none es) v:=by
 have hless:∀g,Am M0 z (kill [id] st).ob g→Am M0 z st.ob g:=fun g hg=>Or.imp _root_.id Ii hg;have hk:Bp w (Am M0 z st.ob) w (Am M0 z (kill [id] st).ob):=⟨Nat.le_refl _,fun _ _ _=>rfl,fun g _ hg=>hless g hg,rfl⟩;obtain⟨hlive,e⟩:=hv
 have hout:∀g,blk (z.σ id)=some g→¬Am M0 z (kill [id] st).ob g:=fun g hb hm=>by
  rcases hm with hm|⟨id',hl',hb'⟩
  ·exact h.out hlive hb hI hm
  ·have hl2:=E8.1 hl';have hne:id≠id':=fun e=>hl2.1 (by simp[e]);exact h.apart id id' g hne hlive hl2.2 hb hb'
 have ho:=h.ob id;rw[hob]at ho;obtain⟨xs,hown,hf⟩:=ho;unfold RelC;rcases hown.2 with⟨e1,e2⟩|⟨g,cap,cur,e1,e2,e3,e4,e5,e6,e7⟩
 ·refine⟨none,0,0,by rw[e,e1],e2.symm,Nat.le_refl _,(fun hh=>by cases hh),(fun hh=>by cases hh),fun _=>rfl,fun hne=> ?_⟩;exact absurd (List.eq_nil_of_length_eq_zero e2) hne
 ·refine⟨some ⟨g,0,none⟩,es.length,cap,by rw[e,e1],rfl,e4,(fun hh=>by cases hh),(fun hh=>by cases hh),(fun hh=>by cases hh),fun _=>⟨⟨g,0,none⟩,sz,rfl,C3 e3,hout g (by rw[e1];rfl), ?_⟩⟩;refine F7 fun k el hel=> ?_;obtain⟨u,g1,g2,g3⟩:=Gk hf hel;refine⟨u,RelC.keep hk _ _ g1,g2,fun j u' hu=> ?_⟩;rw[Dz,cell_of_row w g _ cur et (0,0) e3];have h8:=g3 j u' hu;rw[←e7,List.getElem?_take]at h8;split at h8
  ·simpa using h8
  ·cases h8
theorem N2{ob:Nat→Ob}{M:MM}:∀{cvs:List CV} {vs:List Value},Av w M z ob (cvs.map .c) vs→RelL w M cvs vs
 | [],vs,h=>h
 |c::cvs,vs,h=>by
  obtain⟨v,vs',rfl,h1,h2⟩:=h;exact RelL.cons h1 (N2 h2)
theorem Tv(h:SR P G w0 M0 n st a w z){id:Nat}(hI:¬w0.le.I id){cvs:List CV}(hob:st.ob id=.box (cvs.map .c)){v:Value}(hv:Ar w (Am M0 z st.ob) z st.ob (.ptr id 0) v):RelC w (Am M0 z (kill [id] st).ob) (.wp cvs) v:=by
 have hless:∀g,Am M0 z (kill [id] st).ob g→Am M0 z st.ob g:=fun g hg=>Or.imp _root_.id Ii hg;have hk:Bp w (Am M0 z st.ob) w (Am M0 z (kill [id] st).ob):=⟨Nat.le_refl _,fun _ _ _=>rfl,fun g _ hg=>hless g hg,rfl⟩;obtain⟨hlive,g0,e0,e⟩:=hv
 have hout:∀g,blk (z.σ id)=some g→¬Am M0 z (kill [id] st).ob g:=fun g hb hm=>by
  rcases hm with hm|⟨id',hl',hb'⟩
  ·exact h.out hlive hb hI hm
  ·have hl2:=E8.1 hl';have hne:id≠id':=fun e=>hl2.1 (by simp[e]);exact h.apart id id' g hne hlive hl2.2 hb hb'
 have ho:=h.ob id;rw[hob]at ho;obtain⟨g,ty,vs,e1,e2,e3⟩:=ho;rw[e0]at e1;cases e1;unfold RelC;exact⟨g0,ty,vs,e,e2,hout g0 (by rw[e0];rfl),RelL.keep hk _ _ (N2 e3)⟩
theorem Tw(h:SR P G w0 M0 n st a w z){id:Nat}(hI:¬w0.le.I id){mt:TypeId}{kt:KT}{zc:CV}{ks vs:List CV}(hob:st.ob id=.map mt kt zc ks vs){v:Value}(hv:Ar w (Am M0 z st.ob) z st.ob (.omap id) v):RelC w (Am M0 z (kill [id] st).ob) (.map none ks vs) v:=by
 have hless:∀g,Am M0 z (kill [id] st).ob g→Am M0 z st.ob g:=fun g hg=>Or.imp _root_.id Ii hg;have hk:Bp w (Am M0 z st.ob) w (Am M0 z (kill [id] st).ob):=⟨Nat.le_refl _,fun _ _ _=>rfl,fun g _ hg=>hless g hg,rfl⟩;obtain⟨hlive,e⟩:=hv
 have hout:∀g,blk (z.σ id)=some g→¬Am M0 z (kill [id] st).ob g:=fun g hb hm=>by
  rcases hm with hm|⟨id',hl',hb'⟩
  ·exact h.out hlive hb hI hm
  ·have hl2:=E8.1 hl';have hne:id≠id':=fun e=>hl2.1 (by simp[e]);exact h.apart id id' g hne hlive hl2.2 hb hb'
 obtain⟨hmt,ks',vs',r,ens,clk,hmp,e1,hh,h1,h2,h3,h4,h5,h6,_⟩:=GH h hob;obtain⟨ens',hp,h1',h2'⟩:=Qb hmp h1 h2;unfold RelC;refine⟨some r,by rw[e,e1],(fun hh=>by cases hh),(fun hh=>by cases hh),(fun hh=>by cases hh),fun b hb=> ?_⟩;cases hb;exact⟨hout r (by rw[e1];rfl),ens,ens',clk,hh,⟨Ms h3 h1 h4,h5,h6⟩,hp,RelL.keep hk _ _ h1',RelL.keep hk _ _ h2'⟩
end
theorem Px{w:World}{M:MM}{v:Value}(h:RelC w M (.sl (some true) []) v):v=.slice none 0 0:=by
 unfold RelC at h;obtain⟨a,m,c,rfl,h1,_,h2,_,h3,_⟩:=h;have:=h2 rfl;subst this;have hm:m=0:=by simpa using h1
 subst hm;rw[h3 rfl]
theorem Aw.own{st:St}{i id e size:Nat}(hi:st.fr i=.c (.sl (some true) []))(hn:st.ob id=.none):Aw le st {fr:=upd st.fr i (.osl id),ob:=upd st.ob id (.arr e size [])}:=fun{P G w0 M0 n a w z} he h=>by
 have h1:=h.newNil (e:=e) (size:=size) hn;refine⟨_,h1.reslot (i:=i) (sv:=.osl id) ⟨by simp[upd], ?_⟩⟩;have hr:=h.fr i;rw[hi]at hr;rw[Px hr];simp[Cz.new,upd]
theorem Av.set{P:Program}{w:World}{M:MM}{z:Cz}{ob:Nat→Ob}:∀{cs:List SV} {vs:List Value} (j:Nat) {s:SV},Av w M z ob cs vs→(∀v,vs[j]? =some v→Ar w M z ob s v)→Av w M z ob (cs.set j s) vs
 | [],_,_,_,h,_=>by simpa using h
 |c::cs,vs,0,s,h,k=>by
  obtain⟨v,vs',rfl,_,h2⟩:=h;exact⟨v,vs',rfl,k v rfl,h2⟩
 |c::cs,vs,j+1,s,h,k=>by
  obtain⟨v,vs',rfl,h1,h2⟩:=h;exact⟨v,vs',rfl,h1,Av.set (P:=P) j h2 (fun u hu=>k u (by simpa using hu))⟩
theorem Aw.ownc{st:St}{b j id e size:Nat}{cs:List SV}(hb:st.ob b=.box cs)(hj:cs[j]? =some (.c (.sl (some true) [])))(hn:st.ob id=.none):Aw le st {fr:=st.fr,ob:=upd (upd st.ob id (.arr e size [])) b (.box (cs.set j (.osl id)))}:=fun{P G w0 M0 n a w z} he h=>by
 have hne:b≠id:=fun e=>by rw[e,hn]at hb;cases hb
 have h1:=h.newNil (e:=e) (size:=size) hn;have ho:=h1.ob b;simp only[Ay _ _ hne,hb]at ho;have ho0:=h.ob b;rw[hb]at ho0;obtain⟨g,ty,vs,e1,e2,e3⟩:=ho;obtain⟨g',ty',vs',e1',e2',e3'⟩:=ho0;have hσ:(z.new id (.slice none 0 0)).σ b=z.σ b:=by simp[Cz.new,upd,hne]
 rw[hσ,e1']at e1;cases e1;rw[e2']at e2;cases e2;refine⟨_,h1.reob (b:=b) (o:=.box (cs.set j (.osl id))) ?_ (by simp) (fun _ _=>⟨cs,by simp only[Ay _ _ hne,hb]⟩) ⟨g,ty,vs,by rw[hσ,e1'],e2',Av.set (P:=P) j e3 fun v hv=>⟨by simp[upd], ?_⟩⟩⟩
 ·simp only[Ay _ _ hne,hb];simp
 ·obtain⟨v',h3,h4⟩:=Av.get e3' hj;rw[hv]at h3;cases h3;rw[Px h4];simp[Cz.new,upd]
theorem Aw.frz{st:St}{i id e size:Nat}{es:List CV}(hI:¬le.I id)(hi:st.fr i=.osl id)(ho:st.ob id=.arr e size es):Aw le st {fr:=upd (WB.kill [id] st).fr i (.c (.sl none es)),ob:=(WB.kill [id] st).ob}:=fun{P G w0 M0 n a w z} he h=>by
 have hr:=h.fr i;rw[hi]at hr;exact⟨z,(h.killed [id]).reslot (OA h (he▸hI) ho hr)⟩
theorem Aw.frzb{st:St}{i id:Nat}{cvs:List CV}(hI:¬le.I id)(hi:st.fr i=.ptr id 0)(ho:st.ob id=.box (cvs.map .c)):Aw le st {fr:=upd (WB.kill [id] st).fr i (.c (.wp cvs)),ob:=(WB.kill [id] st).ob}:=fun{P G w0 M0 n a w z} he h=>by
 have hr:=h.fr i;rw[hi]at hr;exact⟨z,(h.killed [id]).reslot (Tv h (he▸hI) ho hr)⟩
theorem Aw.frzm{st:St}{i id:Nat}{mt:TypeId}{kt:KT}{zc:CV}{ks vs:List CV}(hI:¬le.I id)(hi:st.fr i=.omap id)(ho:st.ob id=.map mt kt zc ks vs):Aw le st {fr:=upd (WB.kill [id] st).fr i (.c (.map none ks vs)),ob:=(WB.kill [id] st).ob}:=fun{P G w0 M0 n a w z} he h=>by
 have hr:=h.fr i;rw[hi]at hr;exact⟨z,(h.killed [id]).reslot (Tw h (he▸hI) ho hr)⟩
theorem Aw.frzc{st:St}{b j id e size:Nat}{cs:List SV}{es:List CV}(hI:¬le.I id)(hb:st.ob b=.box cs)(hj:cs[j]? =some (.osl id))(ho:st.ob id=.arr e size es):Aw le st {fr:=(WB.kill [id] st).fr,ob:=upd (WB.kill [id] st).ob b (.box ((cs.map (Au [id])).set j (.c (.sl none es))))}:=fun{P G w0 M0 n a w z} he h=>by
 have hne:b≠id:=fun e=>by rw[e,ho]at hb;cases hb
 have h1:=h.killed [id];have hkb:(WB.kill [id] st).ob b=.box (cs.map (Au [id])):=by simp[WB.kill,hne,hb,BX]
 have o1:=h1.ob b;rw[hkb]at o1;have o0:=h.ob b;rw[hb]at o0;obtain⟨g,ty,vs,e1,e2,e3⟩:=o1;obtain⟨g',ty',vs',e1',e2',e3'⟩:=o0;rw[e1']at e1;cases e1;rw[e2']at e2;cases e2;refine⟨z,h1.reob (b:=b) (by rw[hkb];simp) (by simp) (fun _ _=>⟨_,hkb⟩) ⟨g,ty,vs,e1',e2',Av.set (P:=P) j e3 fun v hv=> ?_⟩⟩;obtain⟨v',h3,h4⟩:=Av.get e3' hj;rw[hv]at h3;cases h3;exact OA h (he▸hI) ho h4
def Ck(N:Nat):Nat→Bool:=fun N'=>N' !=N
def dropB(d N:Nat)(ob:Nat→Ob)(id:Nat):Bool:=id==d||id==N||(match ob id with
 | .arr _ _ es=> !noNamL (Ck N) es
 | .map _ _ _ ks vs=> !(noNamL (Ck N) ks&&noNamL (Ck N) vs)
 |_=>false)
def B1(p:Nat→Bool)(N:Nat):SV→SV
 | .c v=>if BF (Ck N) v=true then .c v else .undef
 | .stamp id k=>if p id|| !BF (Ck N) k then .undef else .stamp id k
 | .ent id k v=>if p id|| !BF (Ck N) k|| !BF (Ck N) v then .undef else .ent id k v
 |s=>match s.ref with
  |some id=>if p id then .undef else s
  |none=>s
def G5(p:Nat→Bool)(N:Nat):Ob→Ob
 | .box cs=>.box (cs.map (B1 p N))
 |o=>o
def Cx(i d N:Nat)(cs:List SV)(st:St):St:=
 {fr:=fun j=>if j=i then .c (.nam N)else B1 (dropB d N st.ob) N (st.fr j)
  ob:=fun id=>if id=N then .box (cs.map (B1 (dropB d N st.ob) N))else if dropB d N st.ob id then .none else G5 (dropB d N st.ob) N (st.ob id)}
section
variable {P:Program} {G:Nat→List CV} {w0:WL} {M0:MM} {n:Nat} {st:St} {a:Act} {w:World} {z:Cz}
theorem S6{d N:Nat}{ob:Nat→Ob}{id:Nat}(h:dropB d N ob id=false):id≠d∧id≠N:=by
 simp only[dropB,Bool.or_eq_false_iff,beq_eq_false_iff_ne]at h;exact h.1
theorem SR.tell(h:SR P G w0 M0 n st a w z){i d N:Nat}{cs:List SV}(hd:d<As)(hN:As≤N)(hT:¬w0.le.T N)(hI:¬w0.le.I d)(hi:st.fr i=.ptr d 0)(hob:st.ob d=.box cs):
  ∃z',SR P G w0 M0 n (Cx i d N cs st) a w z':=by
 have ho:=h.ob d;rw[hob]at ho;obtain⟨g,ty,vs,e1,e2,e3⟩:=ho;have hlive:st.ob d≠ .none:=by rw[hob];simp
 have hblk:blk (z.σ d)=some g:=by rw[e1];rfl
 have hdN:d≠N:=by omega
 generalize hp:dropB d N st.ob=p;have pd:∀id,p id=false→id≠d∧id≠N:=fun id h1=>S6 (hp▸h1);let z':Cz:={σ:=upd z.σ N (z.σ d),β:=fun id=>if id=N then fun _ _=>False else z.β id,al:=upd z.al N g};have σN:z'.σ N=z.σ d:=Bl _ _ _;have σne:∀id,id≠N→z'.σ id=z.σ id:=fun id hid=>Ay _ _ hid;have βne:∀id,id≠N→z'.β id=z.β id:=fun id hid=>by show(if id=N then _ else _)=_;rw[if_neg hid]
 have obN:(Cx i d N cs st).ob N=.box (cs.map (B1 p N)):=by simp[Cx,hp]
 have obne:∀id,id≠N→(Cx i d N cs st).ob id=if p id then .none else G5 p N (st.ob id):=fun id hid=>by simp[Cx,hp,hid]
 have dropLive:∀o,G5 p N o≠ .none↔o≠ .none:=fun o=>by cases o<;>simp[G5]
 have liveT:∀id,id≠N→(Cx i d N cs st).ob id≠ .none→p id=false∧st.ob id≠ .none:=fun id hid hl=>by
  rw[obne id hid]at hl
  cases hpi:p id with
  |true=>rw[hpi]at hl;exact absurd rfl hl
  |false=>
   rw[hpi]at hl;exact⟨rfl,(dropLive _).1 (by simpa using hl)⟩
 have liveO:∀id,p id=false→st.ob id≠ .none→(Cx i d N cs st).ob id≠ .none:=fun id hpi hl=>by
  rw[obne id (pd id hpi).2,hpi];simpa using(dropLive _).2 hl
 have hless:∀g',Am M0 z' (Cx i d N cs st).ob g'→Am M0 z st.ob g':=fun g' hg=>by
  rcases hg with hg|⟨id,h1,h2⟩
  ·exact .inl hg
  ·by_cases hid:id=N
   ·subst hid;rw[σN]at h2;exact .inr ⟨d,hlive,h2⟩
   ·rw[σne id hid]at h2;exact .inr ⟨id,(liveT id hid h1).2,h2⟩
 have hk:F6 (Ck N) w (Am M0 z st.ob) w (Am M0 z' (Cx i d N cs st).ob):=⟨Nat.le_refl _,fun _ _ _=>rfl,fun g' _ hg=>hless g' hg,fun N' hN'=>by
  have:N'≠N:=by simpa[Ck]using hN'
  exact Ay _ _ this⟩
 have hs:∀{s:SV} {v:Value},Ar w (Am M0 z st.ob) z st.ob s v→Ar w (Am M0 z' (Cx i d N cs st).ob) z' (Cx i d N cs st).ob (B1 p N s) v:=by
  intro s v hv;have hat:∀id,p id=false→st.ob id≠ .none→(Cx i d N cs st).ob id≠ .none∧z'.σ id=z.σ id∧z'.β id=z.β id:=fun id hpi hl=>⟨liveO id hpi hl,σne id (pd id hpi).2,βne id (pd id hpi).2⟩
  cases s with
  |c cv=>
   simp only[B1];split
   ·rename_i hn;exact RelC.named hk cv v hn hv
   ·trivial
  |undef=>trivial
  |stamp id k=>
   simp only[B1];split
   ·trivial
   ·rename_i hc;simp only[Aj,not_or,Bool.not_eq_true,Bool.not_eq_true']at hc;obtain⟨hl,b,h1,h2⟩:=hv;obtain⟨q1,_,q3⟩:=hat id hc.1 hl;exact⟨q1,b,by rw[q3];exact h1,h2⟩
  |ent id k u=>
   simp only[B1];split
   ·trivial
   ·rename_i hc;simp only[Aj,not_or,Bool.not_eq_true,Bool.not_eq_true']at hc;obtain⟨hl,b,uv,h1,h2,h3⟩:=hv;obtain⟨q1,_,q3⟩:=hat id hc.1.1 hl;exact⟨q1,b,uv,by rw[q3];exact h1,h2,RelC.named hk u uv (by simpa using hc.2) h3⟩
  |ptr id o=>
   simp only[B1,SV.ref];split
   ·trivial
   ·rename_i hc;obtain⟨hl,gg,h1,h2⟩:=hv;obtain⟨q1,q2,_⟩:=hat id (by simpa using hc) hl;exact⟨q1,gg,q2.trans h1,h2⟩
  |eptr id k sz o=>
   simp only[B1,SV.ref];split
   ·trivial
   ·rename_i hc;obtain⟨hl,gg,nn,c,h1,h2⟩:=hv;obtain⟨q1,q2,_⟩:=hat id (by simpa using hc) hl;exact⟨q1,gg,nn,c,q2.trans h1,h2⟩
  |osl id=>
   simp only[B1,SV.ref];split
   ·trivial
   ·rename_i hc;obtain⟨q1,q2,_⟩:=hat id (by simpa using hc) hv.1;exact⟨q1,hv.2.trans q2.symm⟩
  |omap id=>
   simp only[B1,SV.ref];split
   ·trivial
   ·rename_i hc;obtain⟨q1,q2,_⟩:=hat id (by simpa using hc) hv.1;exact⟨q1,hv.2.trans q2.symm⟩
  |iter id=>
   simp only[B1,SV.ref];split
   ·trivial
   ·rename_i hc;obtain⟨q1,q2,_⟩:=hat id (by simpa using hc) hv.1;exact⟨q1,hv.2.trans q2.symm⟩
 have hss:∀(l:List SV) vs,Av w (Am M0 z st.ob) z st.ob l vs→Av w (Am M0 z' (Cx i d N cs st).ob) z' (Cx i d N cs st).ob (l.map (B1 p N)) vs:=by
  intro l
  induction l with
  |nil=>intro vs hh;exact hh
  |cons c l ih=>
   intro vs hh;obtain⟨v,vs',e,h1,h2⟩:=hh;exact⟨v,vs',e,hs h1,ih vs' h2⟩
 refine⟨z',h.size,h.defers,h.below,h.outer,⟨h.nam.lent,fun N' cs' hN' hc=> ?_,fun N' hN'=> ?_,h.nam.low⟩,h.glob,fun j=> ?_,fun id=> ?_,fun id g' h1 h2=> ?_,fun k j g' hij h1 h2 h3 h4=> ?_⟩
 ·by_cases hid:N'=N
  ·subst hid;rw[σN,e1];show _=Value.pointer (some ⟨upd z.al N' g N',0,none⟩);rw[Bl]
  ·rw[obne N' hid]at hc;rw[σne N' hid];show _=Value.pointer (some ⟨upd z.al N g N',0,none⟩);rw[Ay _ _ hid];split at hc
   ·cases hc
   ·cases ho':st.ob N'<;>rw[ho']at hc<;>cases hc;exact h.nam.told N' _ hN' ho'
 ·show upd z.al N g N'=_;have hne:N'≠N:=fun e=>hT (by rw[←e];exact hN');rw[Ay _ _ hne];exact h.nam.names N' hN'
 ·show Ar w _ z' _ (if j=i then .c (.nam N)else B1 (dropB d N st.ob) N (st.fr j)) _;rw[hp];by_cases hji:j=i
  ·subst hji;rw[if_pos rfl];have hr:=h.fr j;rw[hi]at hr;obtain⟨_,g2,q1,q2⟩:=hr;rw[e1]at q1;cases q1;show RelC w (Am M0 z' (Cx j d N cs st).ob) (.nam N) _;unfold RelC;rw[q2];show _=Value.pointer (some ⟨upd z.al N g N,0,none⟩);rw[Bl]
  ·rw[if_neg hji];exact hs (h.fr j)
 ·by_cases hid:id=N
  ·subst hid;rw[obN,σN];exact⟨g,ty,vs,e1,e2,hss cs vs e3⟩
  ·rw[obne id hid,σne id hid]
   cases hpi:p id with
   |true=>simp only[if_true];trivial
   |false=>
    simp only[Ag,if_false];have hoi:=h.ob id;have hdp:dropB d N st.ob id=false:=by rw[hp];exact hpi
    simp only[dropB,Bool.or_eq_false_iff]at hdp;have hm:=hdp.2
    cases hob2:st.ob id with
    |none=>trivial
    |box l=>
     rw[hob2]at hoi;obtain⟨g3,ty3,vs3,q1,q2,q3⟩:=hoi;exact⟨g3,ty3,vs3,q1,q2,hss l vs3 q3⟩
    |arr e size es=>
     rw[hob2]at hoi hm;obtain⟨xs,q1,q2⟩:=hoi;exact⟨xs,q1,AU.named hk (by simpa using hm) q2⟩
    |map mt kt zc ks vs=>
     rw[hob2]at hoi hm;simp only[Bool.not_eq_false',Af]at hm;obtain⟨hmt,ks',vs',r,ens,clk,hmp,e,g1,g2,g3,g4,g5,g6,g7,g8⟩:=hoi;refine⟨hmt,ks',vs',r,ens,clk,hmp,e,g1,RelL.named hk _ _ (GN.2 fun c hc=>GN.1 hm.1 c (hmp.ks.mem_iff.1 hc)) g2,RelL.named hk _ _ (GN.2 fun c hc=>GN.1 hm.2 c (hmp.vs.mem_iff.1 hc)) g3,g4,g5,g6,g7,fun k b hb=>g8 k b ?_⟩;rw[βne id hid]at hb;exact hb
    |siter s pos=>rw[hob2]at hoi;exact hoi
    |buf e s=>rw[hob2]at hoi;exact hoi
 ·by_cases hid:id=N
  ·subst hid;rw[σN]at h2;have:=h.lo d g' hlive h2;refine⟨this.1.elim .inl fun hL=>absurd (h.nam.lent _ _ hL).2 hI,this.2⟩
  ·rw[σne id hid]at h2;exact h.lo id g' (liveT id hid h1).2 h2
 ·by_cases hk1:k=N
  ·subst hk1;have hj:j≠k:=fun e=>hij e.symm;rw[σN]at h3;rw[σne j hj]at h4;have hl:=liveT j hj h2;exact h.apart d j g' (fun e=>(pd j hl.1).1 e.symm) hlive hl.2 h3 h4
  ·by_cases hj:j=N
   ·subst hj;rw[σN]at h4;rw[σne k hk1]at h3;have hl:=liveT k hk1 h1;exact h.apart k d g' (pd k hl.1).1 hl.2 hlive h3 h4
   ·rw[σne k hk1]at h3;rw[σne j hj]at h4;exact h.apart k j g' hij (liveT k hk1 h1).2 (liveT j hj h2).2 h3 h4
end
theorem Aw.tell{le:DM}{st:St}{i d N:Nat}{cs:List SV}(hd:d<As)(hN:As≤N)(hT:¬le.T N)(hI:¬le.I d)(hi:st.fr i=.ptr d 0)(hob:st.ob d=.box cs):Aw le st (Cx i d N cs st):=fun{P G w0 M0 n a w z} he h=>by
 subst he;exact h.tell hd hN hT hI hi hob
variable {le:DM}
def EJ(le:DM)(E:Env):List SL→(St→Prop)→St→Prop
 | [],Q,st=>∃s,Aw le st s∧Q s
 |l::ls,Q,st=>∃s,Aw le st s∧∃s',AS E none l s=some s'∧EJ le E ls Q s'
theorem Qe{E:Env}:∀{ls:List SL} {Q:St→Prop} {st st':St},Dn E none ls st=some st'→Q st'→EJ le E ls Q st
 | [],Q,st,st',h,hq=>by cases h;exact⟨_,Aw.refl _,hq⟩
 |l::ls,Q,st,st',h,hq=>by
  simp only[Dn]at h;obtain⟨s,h1,h2⟩:=Ab.1 h;exact⟨st,Aw.refl st,s,h1,Qe h2 hq⟩
theorem Qd{E:Env}:∀{ls:List SL} {Q Q':St→Prop} {st:St},(∀s,Q s→Q' s)→EJ le E ls Q st→EJ le E ls Q' st
 | [],_,_,_,h,⟨s,h1,h2⟩=>⟨s,h1,h s h2⟩
 |_::_,_,_,_,h,⟨s,h1,s',h2,h3⟩=>⟨s,h1,s',h2,Qd h h3⟩
theorem Vb{E:Env}{ls:List SL}{Q:St→Prop}{st s:St}(h:Aw le st s)(hr:EJ le E ls Q s):EJ le E ls Q st:=by
 cases ls with
 |nil=>obtain⟨s',h1,h2⟩:=hr;exact⟨s',h.trans h1,h2⟩
 |cons l ls=>obtain⟨s',h1,h2⟩:=hr;exact⟨s',h.trans h1,h2⟩
def C6(le:DM)(E:Env):Cr→(Ex→St→Prop)→St→Prop
 | .skip,Q,st=>∃s,Aw le st s∧Q .normal s
 | .reg true D ls,Q,st=>∃s,Aw le st s∧∃st',C2 E true D ls s=some st'∧Q .normal st'
 | .reg false D ls,Q,st=>∃s,Aw le st s∧EJ le E ls (Q .normal) (if D.isEmpty then s else kill D s)
 | .regE D ls,Q,st=>∃s,Aw le st s∧∃st',(C2 E true D ls s=some st'∨HJ E D ls s=some st')∧Q .normal st'
 | .seq a b,Q,st=>∃s,Aw le st s∧C6 le E a (fun e s'=>match e with| .normal=>C6 le E b Q s'|e=>Q e s') s
 | .cond c x y,Q,st=>∃s,Aw le st s∧∃b,so E.G s.fr c=.c (.bool b)∧(b=true→C6 le E x Q s)∧(b=false→C6 le E y Q s)
 | .block id c,Q,st=>∃s,Aw le st s∧C6 le E c (fun e s'=>match e with| .exit i=>if i=id then Q .normal s' else Q (.exit i) s'|e=>Q e s') s
 | .loop c,Q,st=>∃s,Aw le st s∧∃(R:Nat→St→Prop),(∃m,R m s)∧∀m s,R m s→C6 le E c (fun e s'=>match e with| .normal=>∃k,k<m∧R k s'|e=>Q e s') s
 | .exit id,Q,st=>∃s,Aw le st s∧Q (.exit id) s
 | .ret,Q,st=>∃s,Aw le st s∧Q .ret s
 | .bad,_,_=>False
theorem PY{E:Env}{c:Cr}{Q:Ex→St→Prop}{st s:St}(h:Aw le st s)(hp:C6 le E c Q s):C6 le E c Q st:=by
 cases c
 case reg draw D ls=>
  cases draw<;>(obtain⟨s',h1,h2⟩:=hp;exact⟨s',h.trans h1,h2⟩)
 all_goals first|(exact hp.elim)|(obtain⟨s',h1,h2⟩:=hp;exact⟨s',h.trans h1,h2⟩)
theorem PW{E:Env}{draw:Bool}{D:List Nat}{ls:List SL}{Q:Ex→St→Prop}{st st':St}(h:C2 E draw D ls st=some st')(hq:Q .normal st'):C6 le E (.reg draw D ls) Q st:=by
 cases draw with
 |true=>exact⟨st,Aw.refl st,st',h,hq⟩
 |false=>exact⟨st,Aw.refl st,Qe (by simpa[C2]using h) hq⟩
theorem Ee{E:Env}:∀(c:Cr) {Q Q':Ex→St→Prop} {st:St},(∀e s,Q e s→Q' e s)→C6 le E c Q st→C6 le E c Q' st
 | .skip,Q,Q',st,h,⟨s,hs,hp⟩=>⟨s,hs,h _ _ hp⟩
 | .reg true _ _,Q,Q',st,h,⟨s,hs,s',h1,h2⟩=>⟨s,hs,s',h1,h _ _ h2⟩
 | .reg false _ _,Q,Q',st,h,⟨s,hs,h1⟩=>⟨s,hs,Qd (h .normal) h1⟩
 | .regE _ _,Q,Q',st,h,⟨s,hs,s',h1,h2⟩=>⟨s,hs,s',h1,h _ _ h2⟩
 | .seq a b,Q,Q',st,h,⟨s,hs,hp⟩=>by
  refine⟨s,hs,Ee a (fun e s hs=> ?_) hp⟩
  cases e with
  |normal=>exact Ee b h hs
  |exit i=>exact h _ _ hs
  |ret=>exact h _ _ hs
 | .cond c x y,Q,Q',st,h,⟨s,hs,b,h1,h2,h3⟩=>⟨s,hs,b,h1,fun hb=>Ee x h (h2 hb),fun hb=>Ee y h (h3 hb)⟩
 | .block id c,Q,Q',st,h,⟨s,hs,hp⟩=>by
  refine⟨s,hs,Ee c (fun e s hs=> ?_) hp⟩
  cases e with
  |normal=>exact h _ _ hs
  |exit i=>
   simp only at hs⊢;split<;>rename_i hi
   ·rw[if_pos hi]at hs;exact h _ _ hs
   ·rw[if_neg hi]at hs;exact h _ _ hs
  |ret=>exact h _ _ hs
 | .loop c,Q,Q',st,h,⟨s,hs,R,h1,h2⟩=>by
  refine⟨s,hs,R,h1,fun m s hs=>Ee c (fun e s' hs'=> ?_) (h2 m s hs)⟩
  cases e with
  |normal=>exact hs'
  |exit i=>exact h _ _ hs'
  |ret=>exact h _ _ hs'
 | .exit i,Q,Q',st,h,⟨s,hs,hp⟩=>⟨s,hs,h _ _ hp⟩
 | .ret,Q,Q',st,h,⟨s,hs,hp⟩=>⟨s,hs,h _ _ hp⟩
 | .bad,Q,Q',st,h,hp=>hp.elim
section
variable {P:Program} {E:Env} {w0:WL} {M0:MM} {n:Nat}
theorem Qf(hE:EOk P E)(hle:w0.le=le){ops:Array Oper}{all:List SL}(hc:Aq (DR P n ops) ops.toList=some all){Q:St→Prop}{K:Exit→Act→World→Prop}(hK:∀s a w z,Q s→SR P E.G w0 M0 n s a w z→K .normal a w):∀{ls pre:List SL} {st:St} {a:Act} {w:World} {z:Cz},all=pre++ls→SR P E.G w0 M0 n st a w z→EJ le E ls Q st→wpOps P ops K (List.range' pre.length ls.length) a w
 | [],pre,st,a,w,z,he,h,hr=>by
  obtain⟨s,h1,h2⟩:=hr;obtain⟨z',h'⟩:=h1 hle h;exact hK _ _ _ _ h2 h'
 |l::ls,pre,st,a,w,z,he,h,hr=>by
  obtain⟨s,h1,s',h2,h3⟩:=hr;obtain⟨z',h'⟩:=h1 hle h;have hlen:=DO hc;have hl:all[pre.length]? =some l:=by rw[he];simp
  have hi:pre.length<ops.toList.length:=by rw[←hlen];exact(Ae.1 hl).1
  have ho:ops.toList[pre.length]? =some (ops.toList[pre.length]):=Ai hi;obtain⟨l',g1,g2⟩:=IJ hc ho;rw[hl]at g1;simp only[Ac]at g1;subst g1;have ho':ops[pre.length]? =some (ops.toList[pre.length]):=by rw[←Array.getElem?_toList];exact ho
  rw[List.length_cons,List.range'_succ];refine O1 hE h' ho' g2 h2 fun a' w' z'' hS=> ?_;have:=Qf hE hle hc hK (ls:=ls) (pre:=pre++ [l]) (by rw[he];simp) hS h3;simpa using this
theorem Fb(hE:EOk P E)(hle:w0.le=le):∀(c:Code) {sc:Cr} {Q:Ex→St→Prop} {st:St} {a:Act} {w:World} {z:Cz},Bt P n c=some sc→SR P E.G w0 M0 n st a w z→C6 le E sc Q st→c.wp P (IH P E w0 M0 n Q) a w
 | .skip,sc,Q,st,a,w,z,hc,h,hp=>by
  simp only[Bt,Ac]at hc;subst hc;obtain⟨s,hs,hp⟩:=hp;obtain⟨z',h'⟩:=hs hle h;exact wp_skip ⟨.normal,s,z',rfl,hp,h'⟩
 | .region id ops draw,sc,Q,st,a,w,z,hc,h,hp=>by
  have hc':=hc;simp only[Bt]at hc'
  have:sc=.bad∨(∃dr D l,sc=.reg dr D l)∨∃D l,sc=.regE D l:=by
   split at hc'
   ·split at hc'
    ·split at hc'
     ·cases hc';exact .inr (.inr ⟨_,_,rfl⟩)
     ·split at hc'
      ·cases hc';exact .inr (.inl ⟨_,_,_,rfl⟩)
      ·split at hc'
       ·cases hc';exact .inr (.inl ⟨_,_,_,rfl⟩)
       ·cases hc';exact .inl rfl
    ·cases hc';exact .inr (.inl ⟨_,_,_,rfl⟩)
   ·cases hc';exact .inl rfl
  rcases this with rfl|⟨dr,D,l,rfl⟩|⟨D,l,rfl⟩
  ·exact hp.elim
  case inr.inr=>
   obtain⟨s,hs,hp⟩:=hp;obtain⟨z',h'⟩:=hs hle h;exact MA hE hc h' hp
  cases dr with
  |true=>
   obtain⟨s,hs,hp⟩:=hp;obtain⟨z',h'⟩:=hs hle h;exact MA hE hc h' hp
  |false=>
   obtain⟨s,hs,hp⟩:=hp;obtain⟨z',h'⟩:=hs hle h;simp only[Bt]at hc;split at hc
   case h_2=>cases hc
   rename_i ls hls;split at hc
   ·split at hc
    ·cases hc
    ·split at hc
     ·cases hc
     ·split at hc<;>cases hc
   ·cases hc
    have start:∃z'',SR P E.G w0 M0 n (if(GM P ops.toList l).isEmpty then s else kill (GM P ops.toList l) s) a w z'':=by
     split
     ·exact⟨z',h'⟩
     ·exact⟨z',h'.killed _⟩
    obtain⟨z'',h''⟩:=start;have hdr:draw=false:=by simpa using ‹¬draw=true›
    subst hdr;refine wp_region ?_;have hlen:=DO hls;rw[List.range_eq_range',←Array.length_toList,←hlen];exact Qf hE hle hls (fun s' a' w' z3 hq hS=>⟨.normal,s',z3,rfl,hq,hS⟩) (pre:= []) rfl h'' hp
 | .seq x y,sc,Q,st,a,w,z,hc,h,hp=>by
  simp only[Bt,Ab,Aa]at hc;obtain⟨sx,hx,sy,hy,rfl⟩:=hc;obtain⟨s,hs,hp⟩:=hp;obtain⟨z',h'⟩:=hs hle h;refine wp_seq (wp_mono (Fb hE hle x hx h' hp) fun e a' w' hpost=> ?_);obtain⟨e',st',z',he,hq,hS⟩:=hpost;subst he
  cases e' with
  |normal=>exact Fb hE hle y hy hS hq
  |exit i=>exact⟨.exit i,st',z',rfl,hq,hS⟩
  |ret=>exact⟨.ret,st',z',rfl,hq,hS⟩
 | .cond c x y,sc,Q,st,a,w,z,hc,h,hp=>by
  simp only[Bt,Ab,Aa]at hc;obtain⟨so',hso,sx,hx,sy,hy,rfl⟩:=hc;obtain⟨s,hs,b,h1,h2,h3⟩:=hp;obtain⟨z',h'⟩:=hs hle h;have hr:=h'.ctx.c hso h1;have hb:=CO hr;exact wp_cond_split hb (fun hh=>Fb hE hle x hx h' (h2 hh)) (fun hh=>Fb hE hle y hy h' (h3 hh))
 | .block id c,sc,Q,st,a,w,z,hc,h,hp=>by
  simp only[Bt,Aa]at hc;obtain⟨sx,hx,rfl⟩:=hc;obtain⟨s,hs,hp⟩:=hp;obtain⟨z',h'⟩:=hs hle h;refine wp_block (wp_mono (Fb hE hle c hx h' hp) fun e a' w' hpost=> ?_);obtain⟨e',st',z',he,hq,hS⟩:=hpost;subst he
  cases e' with
  |normal=>exact⟨.normal,st',z',rfl,hq,hS⟩
  |exit i=>
   simp only at hq;show(if i=id then _ else _);split at hq
   ·rename_i hi;rw[if_pos hi];exact⟨.normal,st',z',rfl,hq,hS⟩
   ·rename_i hi;rw[if_neg hi];exact⟨.exit i,st',z',rfl,hq,hS⟩
  |ret=>exact⟨.ret,st',z',rfl,hq,hS⟩
 | .loop c,sc,Q,st,a,w,z,hc,h,hp=>by
  simp only[Bt,Aa]at hc;obtain⟨sx,hx,rfl⟩:=hc;obtain⟨s0,hs0,R,⟨m,hm⟩,hr⟩:=hp;obtain⟨z0',h'⟩:=hs0 hle h;refine wp_loop_ghost (fun k a w=>∃s z,R k s∧SR P E.G w0 M0 n s a w z) m ⟨s0,z0',hm,h'⟩ fun k a' w' hI=> ?_;obtain⟨s,z',hR,hS⟩:=hI;refine wp_mono (Fb hE hle c hx hS (hr k s hR)) fun e a'' w'' hpost=> ?_;obtain⟨e',st',z'',he,hq,hS'⟩:=hpost;subst he
  cases e' with
  |normal=>
   obtain⟨k',hk',hR'⟩:=hq;exact⟨k',hk',st',z'',hR',hS'⟩
  |exit i=>exact⟨.exit i,st',z'',rfl,hq,hS'⟩
  |ret=>exact⟨.ret,st',z'',rfl,hq,hS'⟩
 | .exit i,sc,Q,st,a,w,z,hc,h,hp=>by
  simp only[Bt,Ac]at hc;subst hc;obtain⟨s,hs,hp⟩:=hp;obtain⟨z',h'⟩:=hs hle h;exact wp_exit ⟨.exit i,s,z',rfl,hp,h'⟩
 | .label l,sc,Q,st,a,w,z,hc,h,hp=>by
  simp only[Bt,Ac]at hc;subst hc;obtain⟨s,hs,hp⟩:=hp;obtain⟨z',h'⟩:=hs hle h;exact wp_label ⟨.normal,s,z',rfl,hp,h'⟩
 | .scope c,sc,Q,st,a,w,z,hc,h,hp=>by
  simp only[Bt]at hc;refine wp_scope_straight (wp_mono (Fb hE hle c hc h hp) fun e a' w' hpost=> ?_);obtain⟨e',st',z',he,hq,hS⟩:=hpost;subst he;cases e'<;>exact⟨_,st',z',rfl,hq,hS⟩
 | .ret,sc,Q,st,a,w,z,hc,h,hp=>by
  simp only[Bt,Ac]at hc;subst hc;obtain⟨s,hs,hp⟩:=hp;obtain⟨z',h'⟩:=hs hle h;exact wp_ret ⟨.ret,s,z',rfl,hp,h'⟩
 | .goto _,sc,Q,st,a,w,z,hc,h,hp=>by cases hc;exact hp.elim
 | .rangeFunc _ _ _ _,sc,Q,st,a,w,z,hc,h,hp=>by cases hc;exact hp.elim
 | .refuse _,sc,Q,st,a,w,z,hc,h,hp=>by cases hc;exact hp.elim
def Tb(rs:List B5)(t:Ty)(y:D t)(e:Ex)(st:St):Prop:=
 match e with
 | .exit _=>False
 |_=>∃c,Du st rs=some c∧Can t y [c]
theorem Tg(hE:EOk P E){f:FuncId}{m:IG}(hc:Ek P f=some m){l:List CV}{t:Ty}{y:D t}(hl:l.length≤m.n)(h:C6 .no E m.code (Tb m.res t y) (FQ l)):Bm P f=true∧CallsTo P E.G f l (.val (enc t y)):=by
 unfold Ek at hc;split at hc<;>(try cases hc;done);rename_i hb;refine⟨hb, ?_⟩;simp only[Ab,Aa,Ad]at hc;obtain⟨fn,hf,b,hbody,hn,c,hcode,rs,hrs,rfl⟩:=hc;intro w M vs hM hG hL;refine calls_of_wp hf hbody (wp_mono (Fb hE rfl b hcode (OK hM hG hl hL (Ah hn)) h) fun e a' w' hpost=> ?_);obtain⟨e',st',z',he,hq,hS⟩:=hpost;subst he
 have fin_:(∃c,Du st' rs=some c∧Can t y [c])→a'.defers= []∧∃v,(results fn a'.tmps).run P w'=.ok v w'∧∃u,Ending.returned v=.returned u∧Below w.heap.size w w'∧Dh P w' M w.heap.size u (.val (enc t y)):=fun⟨c,hr,hcan⟩=>by
  obtain⟨v,h1,h2⟩:=Qc hS hrs hr;exact⟨hS.defers,v,h1,v,rfl,Mc.1 hS.below,RelC.enc hcan (Pd hS h2)⟩
 cases e' with
 |normal=>exact fin_ hq
 |exit i=>exact hq.elim
 |ret=>exact fin_ hq
end
def Ty.noN(N:Nat):Ty→Bool
 | .nam M| .bptr M=>M !=N
 | .agg r| .tup r| .pt r| .clo _ r| .sl r| .one r=>r.noN N
 | .falt _ r l=>r.noN N&&l.noN N
 | .map k v=>k.noN N&&v.noN N
 | .cons t r=>t.noN N&&r.noN N
 | .nw _ _ t=>t.noN N
 |_=>true
theorem DG{T:Nat→Bool}{c:CV}:noNamL T [c]=BF T c:=by simp[noNamL]
theorem F4{T:Nat→Bool}{α:Type}{R:α→CV→Prop}:∀{xs:List α} {es:List CV},(∀x c,R x c→BF T c=true)→Ap R xs es→noNamL T es=true
 | [],es,_,h=>by unfold Ap at h;subst h;rfl
 |x::xs,es,f,h=>by
  obtain⟨c,es',rfl,h1,h2⟩:=h;simp[noNamL,f x c h1,F4 f h2]
theorem Can.noN{N:Nat}:∀{t:Ty} {x:D t} {cs:List CV},t.noN N=true→Can t x cs→noNamL (Ck N) cs=true:=by
 intro t
 induction t with
 |nam M=>intro x cs h hc;unfold Can at hc;subst hc;simpa[noNamL,BF,Ck,Ty.noN]using h
 |bptr M=>
  intro x cs h hc;unfold Can at hc;rcases hc with rfl|rfl|rfl
  ·simpa[noNamL,BF,Ck,Ty.noN]using h
  ·simpa[noNamL,BF,Ck,Ty.noN]using h
  ·rfl
 |agg r ih=>intro x cs h hc;unfold Can at hc;obtain⟨l,rfl,hc⟩:=hc;rw[DG];exact ih h hc
 |tup r ih=>intro x cs h hc;unfold Can at hc;obtain⟨l,rfl,hc⟩:=hc;rw[DG];exact ih h hc
 |pt r ih=>intro x cs h hc;unfold Can at hc;obtain⟨l,rfl,hc⟩:=hc;rw[DG];exact ih h hc
 |clo f r ih=>intro x cs h hc;unfold Can at hc;obtain⟨l,rfl,hc⟩:=hc;rw[DG];exact ih h hc
 |falt f r l ih ihl=>
  intro x cs h hc;simp only[Ty.noN,Af]at h
  cases x with
  |inl y=>unfold Can at hc;obtain⟨cap,rfl,hc⟩:=hc;rw[DG];exact ih h.1 hc
  |inr y=>unfold Can at hc;exact ihl h.2 hc.2
 |sl e ih=>
  intro x cs h hc;unfold Can at hc;obtain⟨nl,es,rfl,hc⟩:=hc;rw[DG];exact F4 (fun y c hy=>by rw[←DG];exact ih h hy) hc
 |map k v ihk ihv=>
  intro x cs h hc;simp only[Ty.noN,Af]at h;unfold Can at hc;obtain⟨nl,ks,vs,rfl,h1,h2⟩:=hc;rw[DG];simp only[BF,Af];exact⟨F4 (fun y c hy=>by rw[←DG];exact ihk h.1 hy) h1,F4 (fun y c hy=>by rw[←DG];exact ihv h.2 hy) h2⟩
 |one t ih=>intro x cs h hc;unfold Can at hc;obtain⟨c,rfl,hc⟩:=hc;exact ih h hc
 |cons t r iht ihr=>
  intro x cs h hc;simp only[Ty.noN,Af]at h;unfold Can at hc;obtain⟨c,l,rfl,h1,h2⟩:=hc;have h3:=iht h.1 h1;rw[DG]at h3;simp[noNamL,h3,ihr h.2 h2]
 |nw e s t _=>intro x cs h hc;unfold Can at hc;exact hc.elim
 |err=>intro x cs _ hc;unfold Can at hc;subst hc;cases x<;>rfl
 |_=>intro x cs _ hc;unfold Can at hc;subst hc;rfl
theorem Can.noN1{N:Nat}{t:Ty}{x:D t}{c:CV}(h:t.noN N=true)(hc:Can t x [c]):BF (Ck N) c=true:=by
 rw[←DG];exact Can.noN h hc
def GK(N:Nat):EK→Bool
 | .v t=>t.noN N
 | .opt k=>GK N k
 | .rp ex r=>ex&&r.noN N
 | .ent _ k v=>k.noN N&&v.noN N
 | .stamp _ k=>k.noN N
 |_=>true
def okO(N:Nat):EK→Bool
 | .arr _ _ t=>t.noN N
 | .mob _ k v=>k.noN N&&v.noN N
 | .box _| .sit| .buf _=>true
 |_=>false
def okK(d N:Nat)(Γ:TC):Key→EK→Bool
 | .o id,k=>id !=d&&id !=N&&(okO N k||k==.gone)
 | .s _,k| .c _ _,k=>GK N k&&(match k.refs with
  |some id=>id !=d&&id !=N&&(match BH Γ (.o id)with
   |some ko=>okO N ko
   |none=>false)
  |none=>true)
def Ef(d N:Nat)(Γ:TC):List Key:=(Γ.map (·.1)).filter fun p=>match BH Γ p with
 |some k=> !okK d N Γ p k
 |none=>false
theorem RS.drop{p:Nat→Bool}{N:Nat}{k:EK}{x:DK k}{sv:SV}(h:RS k x sv)(hk:GK N k=true)(hn:∀id,k.refs=some id→p id=false):RS k x (B1 p N sv):=by
 induction k
 case v t=>
  obtain⟨c,rfl,hc⟩:=h;refine⟨c, ?_,hc⟩;simp only[B1];rw[if_pos (Can.noN1 hk hc)]
 case opt k ih=>
  unfold RS at h⊢
  cases x with
  |none=>simp only at h;subst h;rfl
  |some y=>exact ih h hk hn
 case rp ex r=>
  obtain⟨cs,rest,rfl,hc,hr⟩:=h;simp only[GK,Af]at hk;have:=hr hk.1;subst this;refine⟨cs,[], ?_,hc,fun _=>rfl⟩;simp only[B1]
  have h2:BF (Ck N) (.rp (cs++ []))=true:=by
   rw[List.append_nil];exact Can.noN hk.2 hc
  rw[if_pos h2]
 case undef=>trivial
 case ptr id o=>have:=hn id rfl;unfold RS at h;subst h;simp[RS,B1,SV.ref,this]
 case eptr id s o=>have:=hn id rfl;unfold RS at h;subst h;simp[RS,B1,SV.ref,this]
 case aptr id n o=>have:=hn id rfl;obtain⟨h,hi⟩:=h;subst h;exact⟨by simp[B1,SV.ref,this],hi⟩
 case own id=>have:=hn id rfl;unfold RS at h;subst h;simp[RS,B1,SV.ref,this]
 case mp id=>have:=hn id rfl;unfold RS at h;subst h;simp[RS,B1,SV.ref,this]
 case iter id=>have:=hn id rfl;unfold RS at h;subst h;simp[RS,B1,SV.ref,this]
 case ent id k v=>
  have:=hn id rfl;simp only[GK,Af]at hk;obtain⟨ck,cv,rfl,h1,h2⟩:=h;refine⟨ck,cv, ?_,h1,h2⟩;simp[B1,this,Can.noN1 hk.1 h1,Can.noN1 hk.2 h2]
 case stamp id k=>
  have:=hn id rfl;obtain⟨ck,rfl,h1⟩:=h;refine⟨ck, ?_,h1⟩;simp[B1,this,Can.noN1 hk h1]
 all_goals exact h.elim
section
variable {Γ:TC} {ρ:HS Γ} {st:St}
theorem Pz{d N:Nat}{p:Key}{k:EK}{f:HS Γ→DK k}(hg:get Γ p=some ⟨k,f⟩)(hp:p∉Ef d N Γ):okK d N Γ p k=true:=by
 have hk:=Bx hg
 cases hc:okK d N Γ p k with
 |true=>rfl
 |false=>
  exfalso;apply hp;unfold Ef;rw[List.mem_filter];refine⟨E7 hk, ?_⟩;simp only at hk;simp only[hk,hc,Bool.not_false]
theorem Rep.dropB(h:Rep Γ ρ st){d N id:Nat}{ko:EK}(h1:id≠d)(h2:id≠N)(hk:BH Γ (.o id)=some ko)(ho:okO N ko=true):WB.dropB d N st.ob id=false:=by
 obtain⟨f,hf⟩:=LD hk;have hob:=h.o id _ hf;simp only[WB.dropB,Bool.or_eq_false_iff,beq_eq_false_iff_ne];refine⟨⟨h1,h2⟩, ?_⟩;cases ko<;>simp only[okO,Ag]at ho
 case box n=>obtain⟨cs,e,_⟩:=hob;rw[e]
 case arr e size t=>obtain⟨es,e,hc⟩:=hob;rw[e];simp[F4 (T:=Ck N) (fun y c hy=>Can.noN1 ho hy) hc]
 case mob mt k v=>
  obtain⟨z,ks,vs,e,_,h3,h4⟩:=hob;simp only[Af]at ho;rw[e];simp[F4 (T:=Ck N) (fun y c hy=>Can.noN1 ho.1 hy) h3,F4 (T:=Ck N) (fun y c hy=>Can.noN1 ho.2 hy) h4]
 case sit=>unfold RO at hob;rw[hob]
 case buf e=>unfold RO at hob;rw[hob]
def HE(d N:Nat)(st:St):St:=
 {fr:=fun j=>B1 (WB.dropB d N st.ob) N (st.fr j),ob:=fun id=>if WB.dropB d N st.ob id then .none else G5 (WB.dropB d N st.ob) N (st.ob id)}
theorem Rep.drop(h:Rep Γ ρ st)(d N:Nat):Rep (goT [d,N] (shT (Ef d N Γ) Γ)) (goP [d,N] (shP (Ef d N Γ) ρ)) (HE d N st):=by
 have A6:∀p q,(∀d',p≠ .o d')→get (goT [d,N] (shT (Ef d N Γ) Γ)) p=some q→q.1=.undef∨∃f,get Γ p=some ⟨q.1,f⟩∧q.2 (goP [d,N] (shP (Ef d N Γ) ρ))=f ρ∧GK N q.1=true∧∀id,q.1.refs=some id→WB.dropB d N st.ob id=false:=by
  intro p q hp hq;rcases G6 (shP (Ef d N Γ) ρ) hq with⟨d',_,h1,_⟩|⟨_,f,hf,e⟩
  ·exact absurd h1 (hp d')
  ·rcases G7 ρ hf with⟨_,h2⟩|⟨h2,g,hg,e2⟩
   ·exact .inl h2
   ·have hok:=Pz hg h2;refine .inr ⟨g,hg,e.trans e2, ?_⟩
    cases p with
    |o id=>exact absurd rfl (hp id)
    |s i=>
     simp only[okK,Af]at hok;refine⟨hok.1,fun id hid=> ?_⟩;have h3:=hok.2;rw[hid]at h3;simp only[Af,bne_iff_ne]at h3
     cases hko:BH Γ (.o id)with
     |none=>rw[hko]at h3;cases h3.2
     |some ko=>rw[hko]at h3;exact Rep.dropB h h3.1.1 h3.1.2 hko h3.2
    |c i j=>
     simp only[okK,Af]at hok;refine⟨hok.1,fun id hid=> ?_⟩;have h3:=hok.2;rw[hid]at h3;simp only[Af,bne_iff_ne]at h3
     cases hko:BH Γ (.o id)with
     |none=>rw[hko]at h3;cases h3.2
     |some ko=>rw[hko]at h3;exact Rep.dropB h h3.1.1 h3.1.2 hko h3.2
 refine⟨fun i q hq=> ?_,fun id q hq=> ?_⟩
 ·rcases A6 _ q (by simp) hq with h1|⟨f,hf,e,hn,hr⟩
  ·obtain⟨k,fq⟩:=q;subst h1
   trivial
  ·rw[e];exact RS.drop (h.s i _ hf) hn hr
 ·rcases G6 (shP (Ef d N Γ) ρ) hq with⟨d',hd',h1,h2⟩|⟨hne,f,hf,e⟩
  ·obtain⟨k,fq⟩:=q;simp only at h2;subst h2;have hid:id=d':=by simpa using h1
   subst hid;show(if WB.dropB d N st.ob id then Ob.none else _)=Ob.none
   have:WB.dropB d N st.ob id=true:=by
    simp only[List.mem_cons,List.not_mem_nil,or_false]at hd';rcases hd' with rfl|rfl<;>simp[WB.dropB]
   rw[if_pos this]
  ·rcases G7 ρ hf with⟨_,h2⟩|⟨h2,g,hg,e2⟩
   ·obtain⟨k,fq⟩:=q;simp only at h2;subst h2
    trivial
   ·have hok:=Pz hg h2;have hob:=h.o id _ hg;have e3:=e.trans e2;rw[e3];simp only[okK,Af,bne_iff_ne,Aj,beq_iff_eq]at hok;obtain⟨⟨h3,h4⟩,h5⟩:=hok;obtain⟨k,fq⟩:=q;simp only at h5 hob⊢;show RO _ _ id k _ (if WB.dropB d N st.ob id then Ob.none else G5 (WB.dropB d N st.ob) N (st.ob id));rcases h5 with h5|h5
    ·have hdb:=Rep.dropB h h3 h4 (Bx hg) h5;rw[hdb];simp only[Ag,if_false];cases k<;>simp only[okO,Ag]at h5
     case box n=>
      obtain⟨cs,e1,hl,hc⟩:=hob;rw[e1];refine⟨_,rfl,by simpa using hl,fun j q' hj hq'=> ?_⟩;rcases A6 _ q' (by simp) hq' with h6|⟨f',hf',e',hn',hr'⟩
      ·obtain⟨k',fq'⟩:=q';subst h6;have hlt:j<cs.length:=by omega
       exact⟨B1 (WB.dropB d N st.ob) N cs[j],by simp[hlt],trivial⟩
      ·obtain⟨sv,h7,h8⟩:=hc j _ hj hf';refine⟨_,by rw[List.getElem?_map,h7];rfl, ?_⟩;rw[e'];exact RS.drop h8 hn' hr'
     case arr e' size t=>obtain⟨es,e1,hc⟩:=hob;rw[e1];exact⟨es,rfl,hc⟩
     case mob mt kk v=>obtain⟨z,ks,vs,e1,hc⟩:=hob;rw[e1];exact⟨z,ks,vs,rfl,hc⟩
     case sit=>unfold RO at hob⊢;rw[hob];rfl
     case buf e'=>unfold RO at hob⊢;rw[hob];rfl
    ·subst h5;have h6:st.ob id=.none:=hob;rw[h6];split<;>rfl
theorem Rep.newBox{Γc:TC}{ρc:HS Γc}{N:Nat}{ko:EK}{y:DK ko}{o:Ob}(h:Rep Γ ρ st)(hx:CT N Γ ρ Γc ρc)(ho:RO Γc ρc N ko y o):Rep ((.o N,ko)::Γc) (y,ρc) {st with ob:=upd st.ob N o}:=by
 have down:∀p q,p≠ .o N→get ((.o N,ko)::Γc) p=some q→∃f,get Γc p=some ⟨q.1,f⟩∧q.2 (y,ρc)=f ρc:=by
  intro p q h2 hq;obtain⟨f,hf,e⟩:=BP (Ne.symm h2) hq;exact⟨f,hf,e _⟩
 refine⟨fun i q hq=> ?_,fun id q hq=> ?_⟩
 ·obtain⟨f,hf,e⟩:=down _ q (by simp) hq;rcases hx _ _ hf with⟨j,hj⟩|⟨g,hg,e2⟩
  ·cases hj
  ·have e3:=e.trans e2;rw[e3];exact h.s i _ hg
 ·by_cases hi:id=N
  ·subst hi;rw[Ct]at hq;cases hq;simp only[upd,if_true];exact RO.congr ho fun j q' hq'=>down _ q' (by simp) hq'
  ·obtain⟨f,hf,e⟩:=down _ q (by simpa using hi) hq;rcases hx _ _ hf with⟨j,hj⟩|⟨g,hg,e2⟩
   ·cases hj
   ·have:=h.o id _ hg;simp only at e2;rw[e];simp only[upd,hi,if_false];rw[e2];refine RO.congr this fun j q' hq'=> ?_;obtain⟨f',hf',e'⟩:=down _ q' (by simp) hq';rcases hx _ _ hf' with⟨j',hj'⟩|⟨g',hg',e2'⟩
    ·cases hj';exact absurd rfl hi
    ·exact⟨g',hg',e'.trans e2'⟩
end
inductive Gh where
 |own (i id e size:Nat)
 |ownc (b j id e size:Nat)
 |frz (i:Nat)
 |frzc (b j:Nat)
 |frzb (i:Nat)
 |tell (i N:Nat)
structure GhD (Γ:TC) where
 Γ':TC
 up:HS Γ→HS Γ'
def OC(o:Option TC)(Γ:TC):Gh→Bool
 | .frz i| .frzb i=>match BH Γ (.s i)with
  |some k=>match k.refs with
   |some id=>J7 o id
   |none=>false
  |none=>false
 | .frzc b j=>match BH Γ (.c b j)with
  |some k=>match k.refs with
   |some id=>J7 o id
   |none=>false
  |none=>false
 |_=>false
theorem Jr{o:Option TC}{Γ:TC}{p:Key}{k:EK}{f:HS Γ→DK k}{id:Nat}(h:(match BH Γ p with
  |some k=>match k.refs with
   |some id=>J7 o id
   |none=>false
  |none=>false)=false) (hg:get Γ p=some ⟨k,f⟩) (hk:k.refs=some id):¬(E9 o).I id:=by
 have:=Bx hg;simp only at this;rw[this]at h;simp only[hk]at h;exact TV h
def MX(o:Option TC)(Γ:TC)(i N:Nat):Option (GhD Γ):=
 match o with
 |none=>none
 |some Θ=>if(A2 Θ).contains N=true∨Nat.ble As N=false then none else
  match get Γ (.s i)with
  |some ⟨.ptr d 0,_⟩=>if(A2 Θ).contains d=true∨Nat.ble As d=true then none else
   match get Γ (.o d)with
   |some ⟨.box (n+1),_⟩=>match FE Γ d n 0 with
    |some p=>if p.1.noN N=true∧AY p.1=some (n+1)then match EF N 0 p.1 (goT [d,N] (shT (Ef d N Γ) Γ))with
     |some q=>some ⟨(.s i,.v (.nam N))::(.o N,.box (n+1))::q.1,fun ρ=>((),(),q.2 (goP [d,N] (shP (Ef d N Γ) ρ)) (p.2 ρ))⟩
     |none=>none
     else none
    |none=>none
   |_=>none
  |_=>none
def G8(X:TP)(Γ:TC):Gh→Option (GhD Γ)
 | .tell i N=>MX X.Θ Γ i N
 | .own i id e size=>match get (Bu [id] Γ) (.s i),X.TT e with
  |some ⟨.v .nsl,_⟩,some t=>some ⟨(.s i,.own id)::(.o id,.arr e size t)::Bu [id] Γ,fun ρ=>((),[],B7 [id] ρ)⟩
  |_,_=>none
 | .ownc b j id e size=>match X.TT e with
  |some t=>match get ((.o id,.arr e size t)::Bu [id] Γ) (.o b),get ((.o id,.arr e size t)::Bu [id] Γ) (.c b j)with
   |some ⟨.box n,_⟩,some ⟨.v .nsl,_⟩=>if j<n∧b≠id then some ⟨(.c b j,.own id)::(.o id,.arr e size t)::Bu [id] Γ,fun ρ=>((),[],B7 [id] ρ)⟩else none
   |_,_=>none
  |none=>none
 | .frz i=>match get Γ (.s i)with
  |some ⟨.own id,_⟩=>match get Γ (.o id)with
   |some ⟨.arr _ _ t,xs⟩=>some ⟨(.s i,.v (.sl t))::Bu [id] Γ,fun ρ=>(xs ρ,B7 [id] ρ)⟩
   |_=>none
  |some ⟨.mp id,_⟩=>match get Γ (.o id)with
   |some ⟨.mob _ k v,xs⟩=>some ⟨(.s i,.v (.map k v))::Bu [id] Γ,fun ρ=>(xs ρ,B7 [id] ρ)⟩
   |_=>none
  |_=>none
 | .frzc b j=>match get Γ (.o b),get Γ (.c b j)with
  |some ⟨.box n,_⟩,some ⟨.own id,_⟩=>match get Γ (.o id),get (Bu [id] Γ) (.o b)with
   |some ⟨.arr _ _ t,xs⟩,some ⟨.box n',_⟩=>if j<n∧j<n' then some ⟨(.c b j,.v (.sl t))::Bu [id] Γ,fun ρ=>(xs ρ,B7 [id] ρ)⟩else none
   |_,_=>none
  |_,_=>none
 | .frzb i=>match get Γ (.s i)with
  |some ⟨.ptr id 0,_⟩=>match get Γ (.o id)with
   |some ⟨.box (n+1),_⟩=>match FE Γ id n 0 with
    |some p=>some ⟨(.s i,.v (.pt p.1))::Bu [id] Γ,fun ρ=>(p.2 ρ,B7 [id] ρ)⟩
    |none=>none
   |_=>none
  |_=>none
def ghT(X:TP)(Γ:TC)(g:Gh):Option (GhD Γ):=if OC X.Θ Γ g=true then none else G8 X Γ g
theorem KL:∀{cs:List SV} {l:List CV},Aq closed cs=some l→cs=l.map .c
 | [],l,h=>by cases h;rfl
 |s::cs,l,h=>by
  simp only[Aq]at h;obtain⟨c,h1,h2⟩:=Ab.1 h;obtain⟨l',h3,h4⟩:=Aa.1 h2;subst h4
  have:s=.c c:=by
   cases s<;>first|(cases h1;rfl)|cases h1
  rw[this,KL h3];rfl
theorem VO{o:Option TC}{Γ:TC}{ρ:HS Γ}{st:St}{i N:Nat}{q:GhD Γ}(h:MX o Γ i N=some q)(hr:Rep Γ ρ st):∃st',Aw (E9 o) st st'∧Rep q.Γ' (q.up ρ) st':=by
 unfold MX at h;split at h<;>(try cases h;done);rename_i Θ;split at h<;>(try cases h;done);rename_i hN;split at h<;>(try cases h;done);rename_i d f hg;split at h<;>(try cases h;done);rename_i hd;split at h<;>(try cases h;done);rename_i n fo ho;split at h<;>(try cases h;done);rename_i p hp;split at h<;>(try cases h;done);rename_i hnn;split at h<;>(try cases h;done);rename_i q' hq;cases h;simp only[not_or,Bool.not_eq_true,Bool.not_eq_false]at hN hd;have h1:st.fr i=.ptr d 0:=hr.s i _ hg;obtain⟨cs,h2,h3,h4⟩:=hr.o d _ ho;obtain⟨cvs,h5,h6,_⟩:=Ld h4 hp (by omega);rw[List.drop_zero,List.take_of_length_le (by omega)]at h5;have h7:cs=cvs.map .c:=KL h5;have hdl:d<As:=Nat.lt_of_not_le fun hh=>by have:=Nat.ble_eq_true_of_le hh;rw[hd.2]at this;cases this
 refine⟨_,Aw.tell hdl (Ah hN.2) (fun hh=> ?_) (fun hh=> ?_) h1 h2, ?_⟩
 ·have hh':(A2 Θ).contains N=true:=hh;rw[hN.1]at hh';cases hh'
 ·have hh':(A2 Θ).contains d=true:=hh;rw[hd.1]at hh';cases hh'
 ·have r1:=Rep.drop hr d N;obtain⟨x1,x2⟩:=Kd (ρ:=goP [d,N] (shP (Ef d N Γ) ρ)) (x:=p.2 ρ) hq h6;have hlen:cvs.length=n+1:=DX hnn.2 h6
  have r2:=Rep.newBox r1 x1 (ko:=.box (n+1)) (y:=()) (o:=.box (cvs.map .c)) ⟨_,rfl,by simp[hlen],fun j q' hj hq'=>by
   rcases x2 j q' hq' with⟨_,c,k2,k3⟩|⟨k1,_⟩
   ·exact⟨.c c,by rw[List.getElem?_map];simp only[Nat.sub_zero]at k2;rw[k2];rfl,k3⟩
   ·omega⟩
  have r3:=Rep.set r2 (d:=i) (k:=.v (.nam N)) (x:=()) (sv:=.c (.nam N)) ⟨_,rfl,by unfold Can;rfl⟩;have hnc:∀c∈cvs,BF (Ck N) c=true:=GN.1 (Can.noN hnn.1 h6)
  have hcs:cs.map (B1 (WB.dropB d N st.ob) N)=cvs.map .c:=by
   rw[h7,List.map_map];refine List.map_congr_left fun c hc=> ?_;simp only[Function.comp_apply,B1];rw[if_pos (hnc c hc)]
  have hst:Cx i d N cs st=St.set {fr:=(HE d N st).fr,ob:=upd (HE d N st).ob N (.box (cvs.map .c))} (some i) (.c (.nam N)):=by
   unfold Cx;rw[hcs];simp only[St.set,St.mk.injEq];exact⟨by funext j;simp only[BZ,HE],by funext j;simp only[BZ,HE]⟩
  rw[hst];exact r3
theorem LG{X:TP}{Γ:TC}{ρ:HS Γ}{st:St}{g:Gh}{q:GhD Γ}(h:ghT X Γ g=some q)(hr:Rep Γ ρ st):∃st',Aw (E9 X.Θ) st st'∧Rep q.Γ' (q.up ρ) st':=by
 unfold ghT at h;split at h<;>(try cases h;done);rename_i hlent;have hlent':OC X.Θ Γ g=false:=by simpa using hlent
 clear hlent
 cases g with
 |tell i N=>exact VO h hr
 |own i id e size=>
  simp only[G8]at h;split at h<;>(try cases h;done);rename_i f t hg ht;cases h;have hk:=hr.kill [id];obtain⟨c,e1,e2⟩:=hk.s i _ hg;unfold Can at e2;cases e2;refine⟨_,Aw.trans (Aw.kill st [id]) (Aw.own (i:=i) (id:=id) (e:=e) (size:=size) e1 (by simp[WB.kill])),Rep.newObjS hk (k:=.own id) (ko:=.arr e size t) (x:=()) (y:= []) (v:=.osl id) ⟨[],rfl,rfl⟩ rfl⟩
 |ownc b j id e size=>
  simp only[G8]at h;split at h<;>(try cases h;done);rename_i t ht;split at h<;>(try cases h;done);rename_i n fb f hb hg;split at h<;>(try cases h;done);rename_i hh;cases h;have hk:=hr.kill [id];have hk1:=Rep.turnObj hk (id:=id) (k:=.arr e size t) (y:= []) (o:=.arr e size []) ⟨[],rfl,rfl⟩;obtain⟨cs,e1,e2,e3⟩:=hk1.o b _ hb;obtain⟨sv,e4,c,e5,e6⟩:=e3 j _ hh.1 hg;unfold Can at e6;cases e6;subst e5;have e1':(WB.kill [id] st).ob b=.box cs:=by simpa[upd,hh.2]using e1
  refine⟨_,Aw.trans (Aw.kill st [id]) (Aw.ownc (b:=b) (j:=j) (id:=id) (e:=e) (size:=size) e1' e4 (by simp[WB.kill])),Hw hk1 hb e2 e3 hh.1 (k:=.own id) (x:=()) (sv:=.osl id) rfl⟩
 |frz i=>
  simp only[G8]at h;split at h<;>(try cases h;done)
  ·rename_i id f hg;split at h<;>(try cases h;done);rename_i e size t xs ho;cases h;have h1:st.fr i=.osl id:=hr.s i _ hg;obtain⟨es,h2,h3⟩:=hr.o id _ ho;exact⟨_,Aw.frz (Jr hlent' hg rfl) h1 h2,Rep.set (hr.kill [id]) (d:=i) (k:=.v (.sl t)) (x:=xs ρ) ⟨_,rfl,by unfold Can;exact⟨_,_,rfl,h3⟩⟩⟩
  ·rename_i id f hg;split at h<;>(try cases h;done);rename_i mt k v xs ho;cases h;have h1:st.fr i=.omap id:=hr.s i _ hg;obtain⟨z,ks,vs,h2,_,h3,h4⟩:=hr.o id _ ho;exact⟨_,Aw.frzm (Jr hlent' hg rfl) h1 h2,Rep.set (hr.kill [id]) (d:=i) (k:=.v (.map k v)) (x:=xs ρ) ⟨_,rfl,by unfold Can;exact⟨_,_,_,rfl,h3,h4⟩⟩⟩
 |frzc b j=>
  simp only[G8]at h;split at h<;>(try cases h;done);rename_i n fb id f hb hg;split at h<;>(try cases h;done);rename_i e size t xs n' fb' ho hb';split at h<;>(try cases h;done);rename_i hh;cases h;obtain⟨cs,e1,e2,e3⟩:=hr.o b _ hb;obtain⟨sv,e4,e5⟩:=e3 j _ hh.1 hg;have e5':sv=.osl id:=e5;subst e5';obtain⟨es,h2,h3⟩:=hr.o id _ ho;have hk:=hr.kill [id];obtain⟨cs',k1,k2,k3⟩:=hk.o b _ hb';have hne:b≠id:=fun e=>by rw[e,h2]at e1;cases e1
  have hcs:cs'=cs.map (Au [id]):=by
   have:(WB.kill [id] st).ob b=.box (cs.map (Au [id])):=by simp[WB.kill,hne,e1,BX]
   rw[this]at k1;cases k1;rfl
  subst hcs;exact⟨_,Aw.frzc (Jr hlent' hg rfl) e1 e4 h2,Hw hk hb' k2 k3 hh.2 (k:=.v (.sl t)) (x:=xs ρ) ⟨_,rfl,by unfold Can;exact⟨_,_,rfl,h3⟩⟩⟩
 |frzb i=>
  simp only[G8]at h;split at h<;>(try cases h;done);rename_i id f hg;split at h<;>(try cases h;done);rename_i n fo ho;split at h<;>(try cases h;done);rename_i p hp;cases h;have h1:st.fr i=.ptr id 0:=hr.s i _ hg;obtain⟨cs,h2,h3,h4⟩:=hr.o id _ ho;obtain⟨cvs,h5,h6,_⟩:=Ld h4 hp (by omega);rw[List.drop_zero,List.take_of_length_le (by omega)]at h5;have h7:st.ob id=.box (cvs.map .c):=by rw[h2,KL h5]
  exact⟨_,Aw.frzb (Jr hlent' hg rfl) h1 h7,Rep.set (hr.kill [id]) (d:=i) (k:=.v (.pt p.1)) (x:=p.2 ρ) ⟨_,rfl,by unfold Can;exact⟨_,rfl,h6⟩⟩⟩
def Da{S T:Type}(b:S→Option (S⊕T)):Nat→S→Option T
 |0,_=>none
 |n+1,s=>(b s).bind fun o=>match o with
  | .inl s'=>Da b n s'
  | .inr t=>some t
open Classical in
noncomputable def iter{S T:Type}(b:S→Option (S⊕T))(s:S):Option T:=
 if h:∃t n,Da b n s=some t then some (choose h)else none
theorem LM{S T:Type}{b:S→Option (S⊕T)}:∀{n m:Nat} {s:S} {t:T},n≤m→Da b n s=some t→Da b m s=some t
 |0,_,_,_,_,h=>by cases h
 |n+1,0,_,_,hnm,_=>by omega
 |n+1,m+1,s,t,hnm,h=>by
  simp only[Da]at h⊢;obtain⟨o,h1,h2⟩:=Ab.1 h;rw[h1,Option.bind_some]
  cases o with
  |inl s'=>exact LM (by omega) h2
  |inr t'=>exact h2
theorem GB{S T:Type}{b:S→Option (S⊕T)}{s:S}{t:T}:iter b s=some t↔∃n,Da b n s=some t:=by
 unfold iter;constructor
 ·intro h;split at h<;>(try cases h;done);rename_i hh;cases h;exact Classical.choose_spec hh
 ·rintro⟨n,h⟩
  have hh:∃t n,Da b n s=some t:=⟨t,n,h⟩;rw[dif_pos hh];obtain⟨m,hm⟩:=Classical.choose_spec hh;have h1:=LM (Nat.le_max_left n m) h;have h2:=LM (Nat.le_max_right n m) hm;rw[h1]at h2;rw[Option.some.inj h2]
theorem AR{S T:Type}(b:S→Option (S⊕T))(s:S):iter b s=(b s).bind fun o=>match o with
  | .inl s'=>iter b s'
  | .inr t=>some t:=by
 cases hb:b s with
 |none=>
  rw[Option.bind_none]
  cases h:iter b s with
  |none=>rfl
  |some t=>
   obtain⟨n,hn⟩:=GB.1 h
   cases n with
   |zero=>cases hn
   |succ n=>simp[Da,hb]at hn
 |some o=>
  rw[Option.bind_some]
  cases o with
  |inr t=>exact GB.2 ⟨1,by simp[Da,hb]⟩
  |inl s'=>
   simp only;apply Option.ext;intro t;rw[GB,GB];constructor
   ·rintro⟨n,hn⟩
    cases n with
    |zero=>cases hn
    |succ n=>
     refine⟨n, ?_⟩;simpa[Da,hb]using hn
   ·rintro⟨n,hn⟩
    exact⟨n+1,by simpa[Da,hb]using hn⟩
abbrev XC:=List (Nat×TC)
@[reducible] def KE(A:Type):XC→Type
 | []=>Unit
 |e::xs=>(HS e.2→Option A)×KE A xs
structure DKn (A:Type) (xs:XC) (Γn:TC) (R:Type) where
 n:HS Γn→Option A
 e:KE A xs
 r:R→Option A
def Do(A:Type):(xs:XC)→Nat→Option (Σ Γ:TC,KE A xs→HS Γ→Option A)
 | [],_=>none
 |e::xs,i=>if e.1=i then some ⟨e.2,fun k=>k.1⟩else match Do A xs i with
  |some q=>some ⟨q.1,fun k=>q.2 k.2⟩
  |none=>none
def MN(xs:XC):List Nat→Option XC
 | []=>some []
 |i::is=>match xs.find? (fun e=>e.1==i),MN xs is with
  |some e,some ys=>some ((i,e.2)::ys)
  |_,_=>none
def Iy(A:Type)(xs:XC):(ys:XC)→Option (KE A xs→KE A ys)
 | []=>some fun _=>()
 |e::ys=>match Do A xs e.1,Iy A xs ys with
  |some q,some g=>if h:q.1=e.2 then some fun k=>(h▸q.2 k,g k)else none
  |_,_=>none
@[reducible] def Eh(R:Type):XC→Bool→Type
 | [],true=>R
 | [],false=>Empty
 | [e],false=>HS e.2
 | [e],true=>HS e.2⊕R
 |e::xs,rt=>HS e.2⊕Eh R xs rt
def keX{R B:Type}:(xs:XC)→(rt:Bool)→(Eh R xs rt→B)→KE B xs
 | [],_,_=>()
 | [_],false,f=>(fun ρ=>some (f ρ),())
 | [_],true,f=>(fun ρ=>some (f (.inl ρ)),())
 |_::e::xs,rt,f=>(fun ρ=>some (f (.inl ρ)),keX (e::xs) rt (fun o=>f (.inr o)))
def rtX{R B:Type}:(xs:XC)→(rt:Bool)→(Eh R xs rt→B)→R→Option B
 | [],true,f=>fun r=>some (f r)
 | [],false,_=>fun _=>none
 | [_],false,_=>fun _=>none
 | [_],true,f=>fun r=>some (f (.inr r))
 |_::e::xs,rt,f=>rtX (e::xs) rt (fun o=>f (.inr o))
def elX{R A:Type}:(xs:XC)→(rt:Bool)→KE A xs→(R→Option A)→Eh R xs rt→Option A
 | [],true,_,kr=>fun o=>kr o
 | [],false,_,_=>fun o=>nomatch o
 | [_],false,k,_=>fun o=>k.1 o
 | [_],true,k,kr=>fun o=>match o with
  | .inl ρ=>k.1 ρ
  | .inr r=>kr r
 |_::e::xs,rt,k,kr=>fun o=>match o with
  | .inl ρ=>k.1 ρ
  | .inr o=>elX (e::xs) rt k.2 kr o
inductive GL where
 |g (g:Gh)
 |l (l:SL)
def DY:List GL→List SL
 | []=> []
 | .g _::gs=>DY gs
 | .l l::gs=>l::DY gs
inductive AC where
 |skip
 |reg (draw:Bool) (D:List Nat) (ls:List SL)
 |rg (D:List Nat) (gs:List GL)
 |regE (e:Bool) (D:List Nat) (ls:List SL)
 |sq (a b:AC)
 |seq (Γ:TC) (a b:AC)
 |join (Γ:TC) (ex:List Nat) (rt:Bool) (a b:AC)
 |cond (c:SO) (x y:AC)
 |block (id:Nat) (b:AC)
 |loop (Γ:TC) (ex:List Nat) (rt:Bool) (b:AC)
 |exit (id:Nat)
 |ret
 |gh (g:Gh) (c:AC)
 |raw (c:Cr)
def BC:AC→Cr
 | .skip=>.skip
 | .reg draw D ls=>.reg draw D ls
 | .rg D gs=>.reg false D (DY gs)
 | .regE _ D ls=>.regE D ls
 | .sq a b| .seq _ a b| .join _ _ _ a b=>.seq (BC a) (BC b)
 | .cond c x y=>.cond c (BC x) (BC y)
 | .block id b=>.block id (BC b)
 | .loop _ _ _ b=>.loop (BC b)
 | .exit id=>.exit id
 | .ret=>.ret
 | .gh _ c=>BC c
 | .raw c=>c
structure LsD (A:Type) (Γ:TC) where
 Γ':TC
 run:HS Γ→(HS Γ'→Option A)→Option A
def G0(A:Type)(X:TP)(msk:List Nat):(ls:List SL)→(Γ:TC)→Option (LsD A Γ)
 | [],Γ=>some ⟨Γ,fun ρ K=>K ρ⟩
 |l::ls,Γ=>match opL X Γ msk l with
  |some o=>match G0 A X msk ls o.Γ' with
   |some q=>some ⟨q.Γ',fun ρ K=>o.d.app ρ fun b=>q.run (o.up ρ b) K⟩
   |none=>none
  |none=>none
def Fe(A:Type)(X:TP)(draw:Bool)(D:List Nat)(ls:List SL)(Γ:TC):Option (LsD A Γ):=
 match D with
 | []=>G0 A (cond draw X.noE X) [] ls Γ
 |d::ds=>match G0 A (cond draw X.noE X) (if draw then d::ds else []) ls (Bu (d::ds) Γ)with
  |some q=>some ⟨q.Γ',fun ρ K=>q.run (B7 (d::ds) ρ) K⟩
  |none=>none
def Fd(A:Type)(X:TP):(gs:List GL)→(Γ:TC)→Option (LsD A Γ)
 | [],Γ=>some ⟨Γ,fun ρ K=>K ρ⟩
 | .l l::gs,Γ=>match opL X Γ [] l with
  |some o=>match Fd A X gs o.Γ' with
   |some q=>some ⟨q.Γ',fun ρ K=>o.d.app ρ fun b=>q.run (o.up ρ b) K⟩
   |none=>none
  |none=>none
 | .g g::gs,Γ=>match ghT X Γ g with
  |some p=>match Fd A X gs p.Γ' with
   |some q=>some ⟨q.Γ',fun ρ K=>q.run (p.up ρ) K⟩
   |none=>none
  |none=>none
def HD(A:Type)(X:TP)(D:List Nat)(gs:List GL)(Γ:TC):Option (LsD A Γ):=
 match D with
 | []=>Fd A X gs Γ
 |d::ds=>match Fd A X gs (Bu (d::ds) Γ)with
  |some q=>some ⟨q.Γ',fun ρ K=>q.run (B7 (d::ds) ρ) K⟩
  |none=>none
def Ch:Key→Bool
 | .s _=>true
 | .o N| .c N _=> !Nat.ble As N
def EB(e:Key×EK):Bool:=Ch e.1&&match e.2.refs with
 |some id=> !Nat.ble As id
 |none=>true
def DB(e:Key×EK):Bool:= !Ch e.1
def Df(f:Key×EK→Bool):TC→List Key→TC
 | [],_=> []
 |e::Γ,seen=>match seen.contains e.1 with
  |true=>Df f Γ seen
  |false=>match f e with
   |true=>e::Df f Γ (e.1::seen)
   |false=>Df f Γ (e.1::seen)
structure Nu (A:Type) (Γ Θ:TC) where
 Γ':TC
 Θ':TC
 run:HS Γ→HS Θ→(HS Γ'→HS Θ'→Option A)→Option A
def LY(l:SL):Bool:=(!l.op.hard||l.op.stores)&&l.dst.all fun j=>Nat.blt j As
def efT(X:TP)(Γ Θ:TC)(l:SL):Option (OpD (Θ++Γ)):=match l.op.calls with
 |true=>match Γ.all fun e=>Ch e.1 with
  |true=>FW X (Θ++Γ) l
  |false=>none
 |false=>none
def G1(A:Type)(X:TP)(D:List Nat):(ls:List SL)→(Γ Θ:TC)→Option (Nu A Γ Θ)
 | [],Γ,Θ=>some ⟨Γ,Θ,fun ρ θ K=>K ρ θ⟩
 |l::ls,Γ,Θ=>match efT X Γ Θ l with
  |some o=>match Cm o.Γ' (Df EB o.Γ' []),Cm o.Γ' (Df DB o.Γ' [])with
   |some g,some f=>match G1 A X D ls (Df EB o.Γ' []) (Df DB o.Γ' [])with
    |some q=>some ⟨q.Γ',q.Θ',fun ρ θ K=>o.d.app (Ce Θ θ ρ) fun b=>q.run (g (o.up (Ce Θ θ ρ) b)) (f (o.up (Ce Θ θ ρ) b)) K⟩
    |none=>none
   |_,_=>none
  |none=>match LY l with
   |true=>match FY X Γ D l with
    |some o=>match G1 A X D ls o.Γ' Θ with
     |some q=>some ⟨q.Γ',q.Θ',fun ρ θ K=>o.d.app ρ fun b=>q.run (o.up ρ b) θ K⟩
     |none=>none
    |none=>none
   |false=>none
def Lp(A:Type)(X:TP)(D:List Nat)(ls:List SL)(Γ:TC):Option (LsD A Γ):=
 match Cm (Bu D Γ) (Df EB (Bu D Γ) []),Cm (Bu D Γ) (Df DB (Bu D Γ) [])with
 |some g,some f=>match G1 A X D ls (Df EB (Bu D Γ) []) (Df DB (Bu D Γ) [])with
  |some q=>match q.Γ'.all fun e=>Ch e.1 with
   |true=>some ⟨q.Θ'++q.Γ',fun ρ K=>q.run (g (B7 D ρ)) (f (B7 D ρ)) fun ρ' θ'=>K (Ce q.Θ' θ' ρ')⟩
   |false=>none
  |none=>none
 |_,_=>none
def Lr(A:Type)(X:TP)(e:Bool)(D:List Nat)(ls:List SL)(Γ:TC):Option (LsD A Γ):=match e with
 |true=>Lp A X D ls Γ
 |false=>Fe A X true D ls Γ
def Ff(A:Type)(X:TP):AC→(Γ:TC)→Option (LsD A Γ)
 | .skip,Γ=>some ⟨Γ,fun ρ K=>K ρ⟩
 | .reg draw D ls,Γ=>Fe A X draw D ls Γ
 | .rg D gs,Γ=>HD A X D gs Γ
 | .regE e D ls,Γ=>Lr A X e D ls Γ
 | .sq a b,Γ=>match Ff A X a Γ with
  |some p=>match Ff A X b p.Γ' with
   |some q=>some ⟨q.Γ',fun ρ K=>p.run ρ fun ρ'=>q.run ρ' K⟩
   |none=>none
  |none=>none
 | .gh g c,Γ=>match ghT X Γ g with
  |some p=>match Ff A X c p.Γ' with
   |some q=>some ⟨q.Γ',fun ρ K=>q.run (p.up ρ) K⟩
   |none=>none
  |none=>none
 |_,_=>none
def GV(X:TP)(Γ:TC):B5→Option (Σ t:Ty,Dyn (HS Γ) (D t))
 | .tmp t=>match rdC Γ [] (.t t)with
  |some q=>some q.2
  |none=>none
 | .cell a sz=>match rdK X.G Γ (.t a)with
  |some k=>match EA Γ [] sz (DS Γ [] k)with
   |some ⟨.v t,d⟩=>some ⟨t,d⟩
   |some ⟨.own id,.tot _⟩=>match get Γ (.o id)with
    |some ⟨.arr _ _ t,xs⟩=>some ⟨.sl t,.tot xs⟩
    |_=>none
   |_=>none
  |none=>none
def GU(X:TP)(Γ:TC):List B5→Option (Σ r:Ty,Dyn (HS Γ) (D r))
 | []=>some ⟨.nil,.tot fun _=>()⟩
 | [x]=>match GV X Γ x with
  |some q=>some ⟨.one q.1,q.2⟩
  |none=>none
 |x::y::xs=>match GV X Γ x,GU X Γ (y::xs)with
  |some q,some p=>some ⟨.cons q.1 p.1,q.2.both p.2⟩
  |_,_=>none
def Ki(X:TP)(Γ:TC):List B5→Option (Σ t:Ty,Dyn (HS Γ) (D t))
 | [x]=>GV X Γ x
 |xs=>match GU X Γ xs with
  |some q=>some ⟨.tup q.1,q.2⟩
  |none=>none
def MD(Γ:TC):(rs:List B5)→(Rt:Ty)→Option (HS Γ→D Rt)
 | [.tmp i],.nw e size t=>match get Γ (.s i)with
  |some ⟨.own id,_⟩=>match get Γ (.o id)with
   |some ⟨.arr e' size' t',xs⟩=>if h:t'=t then(if e'=e∧size'=size then some fun ρ=>(h▸xs ρ:List (D t))else none)else none
   |_=>none
  |some ⟨.v .nsl,_⟩=>some fun _=>([]:List (D t))
  |_=>none
 |_,_=>none
structure RdD (Γ:TC) (R:Type):Type 1 where
 B:Type
 d:Dyn (HS Γ) B
 up:HS Γ→B→R
def rdT(X:TP)(rs:List B5)(Rt:Ty)(Γ:TC):Option (RdD Γ (D Rt)):=
 match MD Γ rs Rt with
 |some g=>some ⟨Unit,.tot fun _=>(),fun ρ _=>g ρ⟩
 |none=>match Ki X Γ rs with
  |some q=>match Bb q.1 Rt with
   |some g=>some ⟨D q.1,q.2,fun _ v=>g v⟩
   |none=>none
  |none=>none
noncomputable def den(X:TP)(R:Type)(rd:(Γ:TC)→Option (RdD Γ R)):AC→(A:Type)→(xs:XC)→(Γn Γ:TC)→Option (HS Γ→DKn A xs Γn R→Option A)
 | .skip,A,xs,Γn,Γ=>match Cm Γ Γn with
  |some f=>some fun ρ k=>k.n (f ρ)
  |none=>none
 | .reg draw D ls,A,xs,Γn,Γ=>match Fe A X draw D ls Γ with
  |some q=>match Cm q.Γ' Γn with
   |some f=>some fun ρ k=>q.run ρ fun ρ'=>k.n (f ρ')
   |none=>none
  |none=>none
 | .rg D gs,A,xs,Γn,Γ=>match HD A X D gs Γ with
  |some q=>match Cm q.Γ' Γn with
   |some f=>some fun ρ k=>q.run ρ fun ρ'=>k.n (f ρ')
   |none=>none
  |none=>none
 | .regE e D ls,A,xs,Γn,Γ=>match Lr A X e D ls Γ with
  |some q=>match Cm q.Γ' Γn with
   |some f=>some fun ρ k=>q.run ρ fun ρ'=>k.n (f ρ')
   |none=>none
  |none=>none
 | .sq a b,A,xs,Γn,Γ=>match Ff A X a Γ with
  |some q=>match den X R rd b A xs Γn q.Γ' with
   |some db=>some fun ρ k=>q.run ρ fun ρ'=>db ρ' k
   |none=>none
  |none=>none
 | .seq Γm a b,A,xs,Γn,Γ=>match den X R rd a A xs Γm Γ,den X R rd b A xs Γn Γm with
  |some da,some db=>some fun ρ k=>da ρ ⟨fun ρm=>db ρm k,k.e,k.r⟩
  |_,_=>none
 | .join Γm ex rt a b,A,xs,Γn,Γ=>match MN xs ex with
  |some ys=>match Iy A xs ys,den X R rd a (Eh R ((0,Γm)::ys) rt) ys Γm Γ,den X R rd b A xs Γn Γm with
   |some g,some da,some db=>some fun ρ k=>(da ρ ⟨(keX ((0,Γm)::ys) rt (fun o=>o)).1,(keX ((0,Γm)::ys) rt (fun o=>o)).2,rtX ((0,Γm)::ys) rt (fun o=>o)⟩).bind (elX ((0,Γm)::ys) rt (fun ρm=>db ρm k,g k.e) k.r)
   |_,_,_=>none
  |none=>none
 | .cond c x y,A,xs,Γn,Γ=>match rdV Γ c,den X R rd x A xs Γn Γ,den X R rd y A xs Γn Γ with
  |some ⟨.bool,d⟩,some dx,some dy=>some fun ρ k=>d.app ρ fun b=>if b=true then dx ρ k else dy ρ k
  |_,_,_=>none
 | .block id b,A,xs,Γn,Γ=>match den X R rd b A ((id,Γn)::xs) Γn Γ with
  |some db=>some fun ρ k=>db ρ ⟨k.n,(k.n,k.e),k.r⟩
  |none=>none
 | .loop Γh ex rt b,A,xs,_,Γ=>match MN xs ex with
  |some ys=>match Iy A xs ys,Cm Γ Γh,den X R rd b (HS Γh⊕Eh R ys rt) ys Γh Γh with
   |some g,some f,some db=>some fun ρ k=>(iter (fun ρ=>db ρ ⟨fun ρ'=>some (.inl ρ'),keX ys rt Sum.inr,rtX ys rt Sum.inr⟩) (f ρ)).bind (elX ys rt (g k.e) k.r)
   |_,_,_=>none
  |none=>none
 | .exit i,A,xs,_,Γ=>match Do A xs i with
  |some q=>match Cm Γ q.1 with
   |some f=>some fun ρ k=>q.2 k.e (f ρ)
   |none=>none
  |none=>none
 | .ret,A,xs,Γn,Γ=>match rd Γ with
  |some q=>some fun ρ k=>q.d.app ρ fun v=>k.r (q.up ρ v)
  |none=>none
 | .raw _,_,_,_,_=>some fun _ _=>none
 | .gh g c,A,xs,Γn,Γ=>match ghT X Γ g with
  |some p=>match den X R rd c A xs Γn p.Γ' with
   |some dc=>some fun ρ k=>dc (p.up ρ) k
   |none=>none
  |none=>none
section
variable {X:TP} {E:Env}
theorem Ni{t:Ty}(hm:mlT t=true):∀{ys:List (D t)} {es:List CV},Ap (fun x c=>Can t x [c]) ys es→BR es=true
 | [],es,h=>by unfold Ap at h;subst h;rfl
 |y::ys,es,h=>by
  obtain⟨c,es',rfl,h1,h2⟩:=h;have:=Pr hm h1;simp only[BR,Bool.and_true]at this;simp[BR,this,Ni hm h2]
theorem U2(hT:TOk X E){Γ:TC}{msk:List Nat}{ρ:HS Γ}{st:St}(hr:Rep Γ ρ st){rd:Nat→Ob}(hrd:∀id,msk.contains id=false→rd id=st.ob id){d:Nat}{op:SOp}{o:OpD Γ}(h:Mz X Γ msk d op=some o){b:o.B}(hb:o.d.val ρ=some b):
  ∃st',AB E rd st (some d) op=some st'∧Rep o.Γ' (o.up ρ b) st':=by
 cases op<;>(try cases h;done)
 case call f args=>
  simp only[Mz]at h;split at h<;>(try cases h;done);rename_i a e size t fn hs;split at h<;>(try cases h;done);rename_i f0 hg;split at h<;>(try cases h;done);rename_i p hp;split at h<;>(try cases h;done);rename_i g hg';split at h<;>(try cases h;done);rename_i hc;cases h;try dsimp only at hb
  obtain⟨z,h1,h2⟩:=Dyn.comp_val hb;obtain⟨y,h3,h4⟩:=Dyn.map_val h1;subst h4;obtain⟨l,h5,h6,h7⟩:=Ho hr hrd (G:=E.G) (fl:=p.1) (q:=p.2) hp h3;obtain⟨_,s3⟩:=hT.nw f a e size t fn hs;obtain⟨es,h8,h9⟩:=s3 _ l b (BV _ _ hg' h6) h2;have hn:st.ob d=.none:=hr.o d _ hg
  have hm:((args.all fun x=>isC (so E.G st.fr x))||(Res.new (.arr e size es)).memless)=true:=by
   cases hp1:p.1 with
   |true=>rw[h7 hp1];rfl
   |false=>
    rw[hp1]at hc;simp only[Bool.false_or]at hc;simp[Res.memless,Ni hc h9]
  refine⟨_, ?_,Rep.newObjS hr (k:=.own d) (ko:=.arr e size t) (x:=()) (y:=b) (v:=.osl d) ⟨es,rfl,h9⟩ rfl⟩;simp only[AB,SOp.cls,hT.ef f (.inr (by rw[hs];rfl)),D1,h5,Option.bind_some,List.append_nil,h8,hm,if_true,DL,BA,hn,Option.getD_some,Kf]
theorem RA(hF:BK X E){a:Ty}{Θ:TC}{r:Ty}{n:Nat}(hn:AY a=some n):∀{t:Ty} {F:D t→D a→HS Θ→Option (D r×HS Θ)} {x:D t} {y:D a} {θ θ':HS Θ} {z:D r} {c:CV} {l:List CV} {H:Nat→Ob},Hu X a Θ r t=some F→F x y θ=some (z,θ')→Can t x [c]→Can a y l→Rep Θ θ {fr:=fun _=>.undef,ob:=H}→
  r.val=true∧r.ok=true∧∃g caps e,c=.fn g caps∧E.ef g=some e∧e.T=A2 Θ∧e.fn (l++caps) H=some (enc r z,D9 Θ θ'):=by
 have one:∀{g:Nat} {cc:Ty} {s:BJ} {h:D (Bz a cc).1→D s.a} {hΘ:s.Θ=Θ} {hr:s.r=r} {x:D cc} {y:D a} {θ θ':HS Θ} {z:D r} {caps l:List CV} {H:Nat→Ob},X.TE g=some s→Bb (Bz a cc).1 s.a=some h→Lb s.fn hΘ hr (h ((Bz a cc).2 y x)) θ=some (z,θ')→Can cc x caps→Can a y l→Rep Θ θ {fr:=fun _=>.undef,ob:=H}→
   r.val=true∧r.ok=true∧∃e,E.ef g=some e∧e.T=A2 Θ∧e.fn (l++caps) H=some (enc r z,D9 Θ θ'):=by
  intro g cc s h hΘ hr x y θ θ' z caps l H hs hh hz hx hy hH;obtain⟨⟨s1,_⟩,s2,e,s3,s4,s5⟩:=hF g s hs;obtain⟨Θs,as,rs,fn⟩:=s;simp only at hΘ hr;subst hΘ;subst hr;exact⟨s1,s2,e,s3,s4,s5 _ _ θ H z θ' (BV _ _ hh (Gn hn hy hx)) hH hz⟩
 intro t
 induction t with
 |clo g cc _=>
  intro F x y θ θ' z c l H h hz hx hy hH;simp only[Hu]at h;split at h<;>(try cases h;done);rename_i s hs;split at h<;>(try cases h;done);rename_i hh h1;split at h<;>(try cases h;done);rename_i hΘ;split at h<;>(try cases h;done);rename_i hr;cases h;unfold Can at hx;obtain⟨caps,e,hx⟩:=hx;cases e;obtain⟨g1,g2,e,g3,g4,g5⟩:=one hs h1 hz hx hy hH;exact⟨g1,g2,g,caps,e,rfl,g3,g4,g5⟩
 |falt g cc l' _ ihl=>
  intro F x y θ θ' z c l H h hz hx hy hH;simp only[Hu]at h;split at h<;>(try cases h;done);rename_i s FF hs hFF;split at h<;>(try cases h;done);rename_i hh h1;split at h<;>(try cases h;done);rename_i hΘ;split at h<;>(try cases h;done);rename_i hr;cases h
  cases x with
  |inl w=>
   unfold Can at hx;obtain⟨caps,e,hx⟩:=hx;cases e;obtain⟨g1,g2,e,g3,g4,g5⟩:=one hs h1 hz hx hy hH;exact⟨g1,g2,g,caps,e,rfl,g3,g4,g5⟩
  |inr w=>
   unfold Can at hx;exact ihl hFF hz hx.2 hy hH
 |_=>intro F x y θ θ' z c l H h;cases h
theorem Jh(hT:TOk X E)(hF:BK X E){Γ:TC}{ρ:HS Γ}{st:St}(hr:Rep Γ ρ st){op:SOp}{q:EfD Γ}(h:efK X Γ op=some q)(ho:okΘ q.Θ=true){y:D q.r}{θ':HS q.Θ}(hy:q.d.val ρ=some (y,θ'))(rd:Nat→Ob)(d:Option Nat):
  q.r.val=true∧q.r.ok=true∧AB E rd st d op=some ((BY (A2 q.Θ) (D9 q.Θ θ') st).set d (.c (enc q.r y))):=by
 have part:∀{Θ:TC} {f:HS Γ→HS Θ},okΘ Θ=true→Cm Γ Θ=some f→Rep Θ (f ρ) {fr:=fun _=>.undef,ob:=Cc (A2 Θ) st.ob}:=by
  intro Θ f ho hf;have h1:=D3 hf hr;simp only[okΘ,Af]at ho;refine⟨fun i q hq=> ?_,fun id q hq=> ?_⟩
  ·have:=BW ho.2 (Bx hq);obtain⟨k,f'⟩:=q;cases k<;>cases this
  ·have hok:=BW ho.2 (Bx hq);have hid:(A2 Θ).contains id=true:=by simpa using Fo.2 (E7 (Bx hq))
   have r:=h1.o id _ hq;show RO Θ _ id q.1 _ (Cc (A2 Θ) st.ob id);unfold Cc;rw[if_pos hid];obtain⟨k,f'⟩:=q;cases k<;>(try cases hok;done)
   case box n=>
    obtain⟨cs,e1,hl,hc⟩:=r;rw[e1];refine⟨_,rfl,by simpa using hl,fun j q' hj hq'=> ?_⟩;obtain⟨sv,g1,g2⟩:=hc j q' hj hq';refine⟨FL (A2 Θ) sv,by rw[List.getElem?_map,g1];rfl, ?_⟩;simp only[okE,Af,List.all_eq_true,List.mem_range]at hok;have hcj:=hok.2 j hj;rw[Bx hq']at hcj;obtain⟨k',f''⟩:=q';cases k'<;>(try cases hcj;done)
    case v t=>obtain⟨c,rfl,hc'⟩:=g2;exact⟨c,rfl,hc'⟩
    case own K=>
     have e2:sv=.osl K:=g2;subst e2;simp only[okC,Af]at hcj;show FL (A2 Θ) (.osl K)=.osl K;simp only[FL,SV.ref];rw[if_pos hcj.1]
   case arr e size t=>obtain⟨es,e1,hc⟩:=r;rw[e1];exact⟨es,rfl,hc⟩
   case buf e=>
    have e1:st.ob id=.buf e (f' (f ρ)):=r;rw[e1];rfl
 cases op<;>(try cases h;done)
 case call f args=>
  simp only[efK]at h;split at h<;>(try cases h;done);rename_i s hs;split at h<;>(try cases h;done);rename_i p g hp hg;split at h<;>(try cases h;done);rename_i k hk;cases h;try dsimp only at hy ho y θ'⊢
  obtain⟨z,h1,h2⟩:=Dyn.comp_val hy;obtain⟨x,h3,h4⟩:=Dyn.map_val h1;subst h4;obtain⟨l,h5,h6⟩:=Hv (G:=E.G) hr hp h3;obtain⟨⟨s1,_⟩,s2,e,s3,s4,s5⟩:=hF f s hs;refine⟨s1,s2, ?_⟩;have h7:=s5 _ l (g ρ) _ y θ' (BV _ _ hk h6) (part ho hg) h2;simp only[AB,SOp.cls,s3,Dl,h5,Option.bind_some,List.append_nil,s4,h7]
 case callv f args=>
  simp only[efK]at h;split at h<;>(try cases h;done)
  ·rename_i g cc d' p hf hp;split at h<;>(try cases h;done);rename_i s hs;split at h<;>(try cases h;done);rename_i n k gθ hn hk hg;cases h;try dsimp only at hy ho y θ'⊢
   obtain⟨z,h1,h2⟩:=Dyn.comp_val hy;obtain⟨x,h3,h4⟩:=Dyn.map_val h1;obtain⟨h3,h3'⟩:=Dyn.both_val h3;subst h4;obtain⟨l,h5,h6⟩:=Hv (G:=E.G) hr hp h3;obtain⟨c,e1,e2⟩:=A4 (G:=E.G) hf hr h3';unfold Can at e2;obtain⟨caps,e3,e2⟩:=e2;cases e3;obtain⟨⟨s1,_⟩,s2,e,s3,s4,s5⟩:=hF g s hs;refine⟨s1,s2, ?_⟩;have h7:=s5 _ (l++caps) (gθ ρ) _ y θ' (BV _ _ hk (Gn hn h6 e2)) (part ho hg) h2;simp only[AB,SOp.cls,e1,s3,Dl,h5,Option.bind_some,s4,h7]
  ·rename_i g cc l' d' p hf hp;split at h<;>(try cases h;done);rename_i s hs;split at h<;>(try cases h;done);rename_i n gθ F hn hg hFF;cases h;try dsimp only at hy ho y θ'⊢
   obtain⟨z,h1,h2⟩:=Dyn.comp_val hy;obtain⟨x,h3,h4⟩:=Dyn.map_val h1;obtain⟨h3,h3'⟩:=Dyn.both_val h3;subst h4;obtain⟨l,h5,h6⟩:=Hv (G:=E.G) hr hp h3;obtain⟨c,e1,e2⟩:=A4 (G:=E.G) hf hr h3';obtain⟨s1,s2,g',caps,e,rfl,s3,s4,s5⟩:=RA hF hn hFF h2 e2 h6 (part ho hg);refine⟨s1,s2, ?_⟩;simp only[AB,SOp.cls,e1,s3,Dl,h5,Option.bind_some,s4,s5]
theorem K0{Γ Θ:TC}{ρ:HS Γ}{θ':HS Θ}{st:St}(ho:okΘ Θ=true)(hr:Rep Γ ρ st):Rep (Θ++Bu (A2 Θ) Γ) (Ce Θ θ' (B7 (A2 Θ) ρ)) (BY (A2 Θ) (D9 Θ θ') st):=
 hr.turned ho (SM ho θ' fun _=>.undef)
theorem S9{Γ:TC}{op:SOp}{q:EfD Γ}(h:efK X Γ op=some q):Cm Γ q.Θ=some q.θ:=by
 cases op<;>(try cases h;done)
 case call f args=>
  simp only[efK]at h;split at h<;>(try cases h;done);split at h<;>(try cases h;done);rename_i p g hp hg;split at h<;>(try cases h;done);cases h;exact hg
 case callv f args=>
  simp only[efK]at h;split at h<;>(try cases h;done)
  all_goals
   split at h<;>(try cases h;done);split at h<;>(try cases h;done)
  ·rename_i hg;cases h;exact hg
  ·rename_i hg _;cases h;exact hg
theorem S8{Γ:TC}{op:SOp}{q:EfD Γ}(h:efK X Γ op=some q):∃f,X.TE f≠none:=by
 cases op<;>(try cases h;done)
 case call f args=>
  simp only[efK]at h;split at h<;>(try cases h;done);rename_i s hs;exact⟨f,by rw[hs];simp⟩
 case callv f args=>
  simp only[efK]at h;split at h<;>(try cases h;done)
  all_goals
   split at h<;>(try cases h;done);rename_i s hs;exact⟨_,by rw[hs];simp⟩
theorem P5(hT:TOk X E)(hF:BK X E){Γ:TC}{ρ:HS Γ}{st:St}(hr:Rep Γ ρ st)(rd:Nat→Ob){l:SL}{o:OpD Γ}(h:FW X Γ l=some o){b:o.B}(hb:o.d.val ρ=some b):
  ∃st',B6 E rd l st=some st'∧Rep o.Γ' (o.up ρ b) st':=by
 unfold FW at h;split at h<;>(try cases h;done);rename_i e he;split at h<;>(try cases h;done);rename_i ho;obtain⟨dst,op,guard⟩:=l;simp only at he h;split at h
 ·rename_i d;cases h;obtain⟨y,θ'⟩:=b;obtain⟨v1,v2,v3⟩:=Jh hT hF hr he ho hb rd (some d);exact⟨_,by simp only[B6];exact v3,Rep.set (K0 ho hr) ⟨_,rfl,Can.enc y v1 v2⟩⟩
 ·cases h;obtain⟨y,θ'⟩:=b;obtain⟨v1,v2,v3⟩:=Jh hT hF hr he ho hb rd none;exact⟨_,by simp only[B6];exact v3,K0 ho hr⟩
 ·rename_i g want d;have hun:=hr.unturned ho (D3 (S9 he) hr);split at h<;>(try cases h;done)
  ·rename_i f hg;cases h;obtain⟨c,e1,e2⟩:=hr.s g _ hg;unfold Can at e2;cases e2;by_cases hw:f ρ=want
   ·have:∃y,e.d.val ρ=some y∧b=some y:=by
     cases hd:e.d with
     |tot k=>rw[hd]at hb;simp only[gD,Dyn.val,hw,if_true,Ac]at hb;exact⟨_,rfl,hb.symm⟩
     |par k=>
      rw[hd]at hb;simp only[gD,Dyn.val,hw,if_true]at hb;obtain⟨y,h1,h2⟩:=Aa.1 hb;exact⟨y,h1,h2.symm⟩
    obtain⟨⟨y,θ'⟩,hy,rfl⟩:=this;obtain⟨v1,v2,v3⟩:=Jh hT hF hr he ho hy rd (some d);exact⟨_,by simp only[B6,e1,hw,if_true];exact v3,Rep.set (k:=.opt (.v e.r)) (x:=some y) (K0 ho hr) ⟨_,rfl,Can.enc y v1 v2⟩⟩
   ·have:b=none:=by
     cases hd:e.d with
     |tot k=>rw[hd]at hb;simp only[gD,Dyn.val,hw,if_false,Ac]at hb;exact hb.symm
     |par k=>rw[hd]at hb;simp only[gD,Dyn.val,hw,if_false,Ac]at hb;exact hb.symm
    subst this;exact⟨st.set (some d) B8,by simp only[B6,e1,hw,if_false],Rep.set hun (k:=.opt (.v e.r)) (x:=none) rfl⟩
  ·rename_i f hg;cases h;have hs:=hr.s g _ hg;unfold RS at hs;by_cases hw:f ρ=some want
   ·simp only[hw]at hs;obtain⟨c,e1,e2⟩:=hs;unfold Can at e2;cases e2
    have:∃y,e.d.val ρ=some y∧b=some y:=by
     cases hd:e.d with
     |tot k=>rw[hd]at hb;simp only[gO,Dyn.val,hw,if_true,Ac]at hb;exact⟨_,rfl,hb.symm⟩
     |par k=>
      rw[hd]at hb;simp only[gO,Dyn.val,hw,if_true]at hb;obtain⟨y,h1,h2⟩:=Aa.1 hb;exact⟨y,h1,h2.symm⟩
    obtain⟨⟨y,θ'⟩,hy,rfl⟩:=this;obtain⟨v1,v2,v3⟩:=Jh hT hF hr he ho hy rd (some d);exact⟨_,by simp only[B6,e1,if_true];exact v3,Rep.set (k:=.opt (.v e.r)) (x:=some y) (K0 ho hr) ⟨_,rfl,Can.enc y v1 v2⟩⟩
   ·have:b=none:=by
     cases hd:e.d with
     |tot k=>rw[hd]at hb;simp only[gO,Dyn.val,hw,if_false,Ac]at hb;exact hb.symm
     |par k=>rw[hd]at hb;simp only[gO,Dyn.val,hw,if_false,Ac]at hb;exact hb.symm
    subst this
    cases hf:f ρ with
    |none=>
     simp only[hf]at hs;exact⟨st.set (some d) B8,by simp only[B6,hs,B8],Rep.set hun (k:=.opt (.v e.r)) (x:=none) rfl⟩
    |some b'=>
     simp only[hf]at hs;obtain⟨c,e1,e2⟩:=hs;unfold Can at e2;cases e2;have hne:b'≠want:=fun e=>hw (by rw[hf,e]);exact⟨st.set (some d) B8,by simp only[B6,e1,hne,if_false],Rep.set hun (k:=.opt (.v e.r)) (x:=none) rfl⟩
 ·cases h
theorem P6(hT:TOk X E){Γ:TC}{msk:List Nat}{ρ:HS Γ}{st:St}(hr:Rep Γ ρ st){rd:Nat→Ob}{l:SL}(hD:∀id,(hid l.op msk).contains id=false→rd id=st.ob id){o:OpD Γ}(h:FY X Γ msk l=some o){b:o.B}(hb:o.d.val ρ=some b):
  ∃st',B6 E rd l st=some st'∧Rep o.Γ' (o.up ρ b) st':=by
 obtain⟨dst,op,guard⟩:=l
 cases guard with
 |none=>
  simp only[FY]at h;split at h
  ·rename_i hcls;split at h<;>(try cases h;done);rename_i d;split at h<;>(try cases h;done);rename_i f hg;obtain⟨v,ob,h1,h2⟩:=U5 hr h hb;have hn:st.ob d=.none:=hr.o d _ hg;rw[←hT.G]at h1;exact⟨_,by simp[B6,AB,hcls,h1,BA,hn],h2⟩
  ·rename_i hcls;obtain⟨st',h1,h2⟩:=U4 hr h hb;rw[←hT.G]at h1;exact⟨st',by simp only[B6,AB,hcls,EU,h1],h2⟩
  ·obtain⟨st',h1,h2⟩:=U3 hT hr h hb rd;exact⟨st',h1,h2⟩
  ·split at h
   ·rename_i q hq;split at h
    ·rename_i d;cases h;obtain⟨sv,h1,h2⟩:=Kp hT hr hD hq hb (some d);exact⟨_,by simp only[B6,h1],Rep.set hr h2⟩
    ·cases h;obtain⟨sv,h1,h2⟩:=Kp hT hr hD hq hb none;exact⟨st,by simp only[B6,h1,St.set],hr⟩
   ·split at h<;>(try cases h;done);rename_i d;obtain⟨st',h1,h2⟩:=U2 hT hr hD h hb;exact⟨st',by simp only[B6,h1],h2⟩
 |some g=>
  obtain⟨g,want⟩:=g;simp only[FY]at h;split at h<;>(try cases h;done);rename_i q d hq;split at h<;>(try cases h;done)
  ·rename_i f hg;cases h;obtain⟨c,e1,e2⟩:=hr.s g _ hg;unfold Can at e2;cases e2;by_cases hw:f ρ=want
   ·have:∃y,q.2.val ρ=some y∧b=some y:=by
     cases hd:q.2 with
     |tot k=>rw[hd]at hb;simp only[gD,Dyn.val,hw,if_true,Ac]at hb;exact⟨_,rfl,hb.symm⟩
     |par k=>
      rw[hd]at hb;simp only[gD,Dyn.val,hw,if_true]at hb;obtain⟨y,h1,h2⟩:=Aa.1 hb;exact⟨y,h1,h2.symm⟩
    obtain⟨y,hy,rfl⟩:=this;obtain⟨sv,h1,h2⟩:=Kp hT hr hD hq hy (some d);refine⟨_,by simp only[B6,e1,hw,if_true];exact h1,Rep.set hr ?_⟩;exact h2
   ·have:b=none:=by
     cases hd:q.2 with
     |tot k=>rw[hd]at hb;simp only[gD,Dyn.val,hw,if_false,Ac]at hb;exact hb.symm
     |par k=>rw[hd]at hb;simp only[gD,Dyn.val,hw,if_false,Ac]at hb;exact hb.symm
    subst this;exact⟨st.set (some d) B8,by simp only[B6,e1,hw,if_false],Rep.set hr (k:=.opt q.1) (x:=none) rfl⟩
  ·rename_i f hg;cases h;have hs:=hr.s g _ hg;unfold RS at hs;by_cases hw:f ρ=some want
   ·simp only[hw]at hs;obtain⟨c,e1,e2⟩:=hs;unfold Can at e2;cases e2
    have:∃y,q.2.val ρ=some y∧b=some y:=by
     cases hd:q.2 with
     |tot k=>rw[hd]at hb;simp only[gO,Dyn.val,hw,if_true,Ac]at hb;exact⟨_,rfl,hb.symm⟩
     |par k=>
      rw[hd]at hb;simp only[gO,Dyn.val,hw,if_true]at hb;obtain⟨y,h1,h2⟩:=Aa.1 hb;exact⟨y,h1,h2.symm⟩
    obtain⟨y,hy,rfl⟩:=this;obtain⟨sv,h1,h2⟩:=Kp hT hr hD hq hy (some d);refine⟨_,by simp only[B6,e1,if_true];exact h1,Rep.set hr ?_⟩;exact h2
   ·have:b=none:=by
     cases hd:q.2 with
     |tot k=>rw[hd]at hb;simp only[gO,Dyn.val,hw,if_false,Ac]at hb;exact hb.symm
     |par k=>rw[hd]at hb;simp only[gO,Dyn.val,hw,if_false,Ac]at hb;exact hb.symm
    subst this
    cases hf:f ρ with
    |none=>
     simp only[hf]at hs;exact⟨st.set (some d) B8,by simp only[B6,hs,B8],Rep.set hr (k:=.opt q.1) (x:=none) rfl⟩
    |some b'=>
     simp only[hf]at hs;obtain⟨c,e1,e2⟩:=hs;unfold Can at e2;cases e2;have hne:b'≠want:=fun e=>hw (by rw[hf,e]);exact⟨st.set (some d) B8,by simp only[B6,e1,hne,if_false],Rep.set hr (k:=.opt q.1) (x:=none) rfl⟩
theorem P7(hT:TOk X E)(hF:BK X E){Γ:TC}{msk:List Nat}{ρ:HS Γ}{st:St}(hr:Rep Γ ρ st){D:Option (List Nat)}(hDn:D=none∨∀f,X.TE f=none){l:SL}(hD:∀id,(hid l.op msk).contains id=false→AQ (D.map (hid l.op)) st.ob id=st.ob id){o:OpD Γ}(h:opL X Γ msk l=some o){b:o.B}(hb:o.d.val ρ=some b):
  ∃st',AS E D l st=some st'∧Rep o.Γ' (o.up ρ b) st':=by
 cases hef:FW X Γ l with
 |some oe=>
  have h':(match FW X Γ l with
   |some o=>some o
   |none=>FY X Γ msk l)=some o:=h
  rw[hef]at h';cases h'
  have hD0:D=none:=by
   rcases hDn with h1|h1
   ·exact h1
   ·unfold FW at hef;split at hef<;>(try cases hef;done);rename_i e he;obtain⟨f,hf⟩:=S8 he;exact absurd (h1 f) hf
  subst hD0;exact P5 hT hF hr _ hef hb
 |none=>
  have h':FY X Γ msk l=some o:=by
   unfold opL at h;rw[hef]at h;exact h
  exact P6 (hT.at D) hr hD h' hb
theorem HC{X:TP}{E:Env}(hT:TOk X E)(hF:BK X E){A:Type}{msk:List Nat}{D:Option (List Nat)}(hDn:D=none∨∀f,X.TE f=none)(hD:∀(op:SOp) (ob:Nat→Ob) id,(hid op msk).contains id=false→AQ (D.map (hid op)) ob id=ob id):∀{ls:List SL} {Γ:TC} {q:LsD A Γ} {ρ:HS Γ} {st:St} {K:HS q.Γ'→Option A} {r:A},
  G0 A X msk ls Γ=some q→Rep Γ ρ st→q.run ρ K=some r→∃st',Dn E D ls st=some st'∧∃ρ',Rep q.Γ' ρ' st'∧K ρ'=some r
 | [],Γ,q,ρ,st,K,r,h,hr,hk=>by
  simp only[G0,Ac]at h;subst h;exact⟨st,rfl,ρ,hr,hk⟩
 |l::ls,Γ,q,ρ,st,K,r,h,hr,hk=>by
  simp only[G0]at h;split at h<;>(try cases h;done);rename_i o ho;split at h<;>(try cases h;done);rename_i p hp;cases h;have hk':o.d.app ρ (fun b=>p.run (o.up ρ b) K)=some r:=hk;obtain⟨b,h1,h2⟩:=Dyn.app_some hk';obtain⟨st1,h3,h4⟩:=P7 hT hF hr hDn (hD l.op st.ob) ho h1;obtain⟨st2,h5,h6⟩:=HC hT hF hDn hD hp h4 h2;exact⟨st2,by simp[Dn,h3,h5],h6⟩
theorem Lq(hT:TOk X E)(hF:BK X E){A:Type}{draw:Bool}{D:List Nat}{ls:List SL}{Γ:TC}{q:LsD A Γ}{ρ:HS Γ}{st:St}{K:HS q.Γ'→Option A}{r:A}(h:Fe A X draw D ls Γ=some q)(hr:Rep Γ ρ st)(hk:q.run ρ K=some r):
  ∃st',C2 E draw D ls st=some st'∧∃ρ',Rep q.Γ' ρ' st'∧K ρ'=some r:=by
 cases draw with
 |true=>
  cases D with
  |nil=>
   simp only[Fe,cond_true]at h;obtain⟨st',h1,h2⟩:=HC hT.noE (BK.noE X E) (D:=some []) (.inr fun _=>rfl) (fun op ob id _=>by simp[AQ,hid]) h hr hk;exact⟨st',by simpa[C2]using h1,h2⟩
  |cons d ds=>
   simp only[Fe,cond_true,if_true]at h;split at h<;>(try cases h;done);rename_i p hp;cases h
   obtain⟨st',h1,h2⟩:=HC hT.noE (BK.noE X E) (D:=some (d::ds)) (.inr fun _=>rfl) (fun op ob id hh=>by
    simp only[Option.map_some,AQ,hh,Ag,if_false]) hp (hr.kill (d::ds)) hk
   exact⟨st',by simpa[C2]using h1,h2⟩
 |false=>
  cases D with
  |nil=>
   simp only[Fe,cond_false]at h;obtain⟨st',h1,h2⟩:=HC hT hF (D:=none) (.inl rfl) (fun op ob id _=>rfl) h hr hk;exact⟨st',by simpa[C2]using h1,h2⟩
  |cons d ds=>
   simp only[Fe,cond_false,Ag,if_false]at h;split at h<;>(try cases h;done);rename_i p hp;cases h;obtain⟨st',h1,h2⟩:=HC hT hF (D:=none) (.inl rfl) (fun op ob id hh=>rfl) hp (hr.kill (d::ds)) hk;exact⟨st',by simpa[C2]using h1,h2⟩
theorem Ja(hT:TOk X E)(hF:BK X E){A:Type}:∀{gs:List GL} {Γ:TC} {q:LsD A Γ} {ρ:HS Γ} {st:St} {K:HS q.Γ'→Option A} {r:A} {Q:St→Prop},
  Fd A X gs Γ=some q→Rep Γ ρ st→q.run ρ K=some r→(∀st' ρ',Rep q.Γ' ρ' st'→K ρ'=some r→Q st')→EJ (E9 X.Θ) E (DY gs) Q st
 | [],Γ,q,ρ,st,K,r,Q,h,hr,hk,hQ=>by
  simp only[Fd,Ac]at h;subst h;exact⟨st,Aw.refl st,hQ _ _ hr hk⟩
 | .l l::gs,Γ,q,ρ,st,K,r,Q,h,hr,hk,hQ=>by
  simp only[Fd]at h;split at h<;>(try cases h;done);rename_i o ho;split at h<;>(try cases h;done);rename_i p hp;cases h;have hk':o.d.app ρ (fun b=>p.run (o.up ρ b) K)=some r:=hk;obtain⟨b,h1,h2⟩:=Dyn.app_some hk';obtain⟨st1,h3,h4⟩:=P7 hT hF hr (D:=none) (.inl rfl) (fun _ _=>rfl) ho h1;exact⟨st,Aw.refl st,st1,h3,Ja (gs:=gs) hT hF hp h4 h2 hQ⟩
 | .g g::gs,Γ,q,ρ,st,K,r,Q,h,hr,hk,hQ=>by
  simp only[Fd]at h;split at h<;>(try cases h;done);rename_i p hp;split at h<;>(try cases h;done);rename_i p' hp';cases h;obtain⟨st',h1,h2⟩:=LG hp hr;exact Vb h1 (Ja (gs:=gs) hT hF hp' h2 hk hQ)
theorem Oi(hT:TOk X E)(hF:BK X E){A:Type}{D:List Nat}{gs:List GL}{Γ:TC}{q:LsD A Γ}{ρ:HS Γ}{st:St}{K:HS q.Γ'→Option A}{r:A}{Q:Ex→St→Prop}(h:HD A X D gs Γ=some q)(hr:Rep Γ ρ st)(hk:q.run ρ K=some r)
  (hQ:∀st' ρ',Rep q.Γ' ρ' st'→K ρ'=some r→Q .normal st'):C6 (E9 X.Θ) E (.reg false D (DY gs)) Q st:=by
 cases D with
 |nil=>
  simp only[HD]at h;exact⟨st,Aw.refl st,Ja hT hF h hr hk hQ⟩
 |cons d ds=>
  simp only[HD]at h;split at h<;>(try cases h;done);rename_i p hp;cases h;exact⟨st,Aw.refl st,Ja hT hF hp (hr.kill (d::ds)) hk hQ⟩
theorem Mo{st:St}{k:Nat}{b:Ob}(hk:k<As):merge {low st with ob:=upd (low st).ob k b} st={st with ob:=upd st.ob k b}∧low {st with ob:=upd st.ob k b}={low st with ob:=upd (low st).ob k b}:=by
 constructor
 ·simp only[merge,low,St.mk.injEq,true_and];funext i;simp only[BZ,BM];by_cases h1:i=k
  ·subst h1;rw[if_pos rfl,if_neg (by omega),if_pos rfl]
  ·rw[if_neg h1,if_neg h1];split<;>rfl
 ·simp only[low,St.mk.injEq,true_and];funext i;simp only[BZ,BM];by_cases h1:i=k
  ·subst h1;rw[if_pos rfl,if_pos rfl,if_neg (by omega)]
  ·rw[if_neg h1,if_neg h1]
theorem Po(st:St):merge (low st) st=st:=by
 obtain⟨fr,ob⟩:=st;simp only[merge,low,St.mk.injEq,true_and];funext i;simp only[BM];split<;>rfl
theorem Pf{st:St}{id:Nat}{o:Ob}(h:(low st).ob id=o)(hn:o≠ .none):id<As∧st.ob id=o:=by
 have h':(if As≤id then Ob.none else st.ob id)=o:=h;by_cases hi:As≤id
 ·rw[if_pos hi]at h';exact absurd h'.symm hn
 ·rw[if_neg hi]at h';exact⟨by omega,h'⟩
theorem V1{d:Option Nat}{ρ:SO→SV}{st t:St}{n:Nat}{x y:SO}(h:AW d ρ (low st) (.store n x y)=some t):AW d ρ st (.store n x y)=some (merge t st)∧low (merge t st)=t:=by
 simp only[AW]at h⊢
 have hdr:deref st.ob (ρ x)=deref (low st).ob (ρ x)∨deref (low st).ob (ρ x)=.undef:=by
  generalize ρ x=q;cases q<;>try exact .inl rfl
  rename_i c;cases c<;>try exact .inl rfl
  rename_i N;simp only[deref];by_cases hN:As≤N
  ·right;rw[if_pos hN];have:(low st).ob N=.none:=by show(if As≤N then Ob.none else st.ob N)=_;rw[if_pos hN]
   rw[this]
  ·left;rw[if_neg hN,if_neg hN]
 rcases hdr with hdr|hdr
 ·rw[hdr];generalize deref (low st).ob (ρ x)=q at h⊢;cases q<;>(try cases h;done)
  ·rename_i cv;cases cv<;>(try cases h;done);rename_i cs
   cases cs with
   |nil=>cases h
   |cons c0 cs=>
    cases cs with
    |cons _ _=>cases c0<;>cases h
    |nil=>
     cases c0<;>(try cases h;done);cases hv:ρ y<;>simp only[hv]at h⊢ <;>(try cases h;done);rename_i c2;cases c2<;>(try cases h;done);simp only[Ad,Ac]at h⊢;obtain⟨hc,rfl⟩:=h;exact⟨⟨hc,(Po st).symm⟩,by rw[Po]⟩
  ·rename_i id o;simp only at h⊢;cases hob:(low st).ob id<;>rw[hob]at h<;>(try cases h;done);rename_i cs;obtain⟨hi,hob'⟩:=Pf hob (by simp);rw[hob'];simp only at h⊢;split at h
   ·split at h<;>(try cases h;done);rename_i hc;cases h;obtain⟨k1,k2⟩:=Mo (st:=st) (b:=.box (EN cs o (List.map SV.c ‹_›))) hi;rw[k1];exact⟨by rw[if_pos hc],k2⟩
   ·split at h<;>(try cases h;done);rename_i hc;cases h;obtain⟨k1,k2⟩:=Mo (st:=st) (b:=.box (cs.set o (ρ y))) hi;rw[k1];exact⟨by rw[if_pos hc],k2⟩
  ·rename_i id i size o;simp only at h⊢;split at h<;>(try cases h;done);rename_i e sz es v hob hv;obtain⟨hi,hob'⟩:=Pf hob (by simp);rw[hob',hv];simp only;split at h<;>(try cases h;done);rename_i hc;rw[if_pos hc];obtain⟨el,h1,h2⟩:=Ab.1 h;rw[h1,Option.bind_some];split at h2<;>(try cases h2;done);rename_i hc2;cases h2;obtain⟨k1,k2⟩:=Mo (st:=st) (b:=.arr e sz (es.set i (EG el o n v))) hi;rw[k1,if_pos hc2];exact⟨rfl,k2⟩
 ·rw[hdr]at h;cases h
theorem UK{E:Env}{D:List Nat}{l:SL}{st t:St}(hl:LY l=true)(h:B6 E.pois (AQ (some (hid l.op D)) (BM st.ob)) l (low st)=some t):C1 E D l st=some (merge t st)∧low (merge t st)=t:=by
 simp only[LY,Af,Aj,Bool.not_eq_true']at hl
 have hd:∀j,l.dst=some j→j<As:=fun j hj=>by
  have:=hl.2;rw[hj]at this;exact Nat.lt_of_succ_le (Ah this)
 unfold C1;rw[Lx]at h⊢;have hgd:gd l (low st).fr=gd l st.fr:=rfl;rw[hgd]at h
 cases hg:gd l st.fr with
 |none=>rw[hg]at h;cases h
 |some b=>
  rw[hg]at h
  cases b with
  |false=>
   simp only[Option.bind_some,Ag,if_false,Ac]at h⊢;have h':put (low st) l.dst (B8,none)=some t:=by rw[←h];rfl
   obtain⟨k1,k2⟩:=M9 hd h';exact⟨Option.some.inj k1,k2⟩
  |true=>
   simp only[Option.bind_some,if_true]at h⊢
   cases hh:l.op.hard with
   |true=>
    have hst:l.op.stores=true:=by
     rcases hl.1 with h1|h1
     ·rw[hh]at h1;cases h1
     ·exact h1
    cases hop:l.op<;>rw[hop]at hst<;>(try cases hst;done);rw[hop]at h;exact V1 (d:=l.dst) h
   |false=>
    have hnone:efL E l st.fr=none:=by
     cases hef:efL E l st.fr with
     |none=>rfl
     |some q=>
      exfalso;unfold efL at hef;split at hef<;>(try cases hef;done)
      ·rename_i f args ho;split at hef<;>(try cases hef;done);rename_i e he;have he':E.pois.ef f=some ⟨e.T,fun _ _=>none⟩:=by show(E.ef f).map _=_;rw[he];rfl
       rw[ho]at h;simp only[AB,SOp.cls,he',Dl]at h
       cases hal:Aq (fun x=>closed (so E.pois.G (low st).fr x)) args with
       |none=>rw[hal]at h;cases h
       |some v=>rw[hal]at h;cases h
      ·rename_i f args ho;split at hef<;>(try cases hef;done);rename_i g caps hfv;split at hef<;>(try cases hef;done);rename_i e he;have he':E.pois.ef g=some ⟨e.T,fun _ _=>none⟩:=by show(E.ef g).map _=_;rw[he];rfl
       have hfv':so E.pois.G (low st).fr f=.c (.fn g caps):=hfv;rw[ho]at h;simp only[AB,SOp.cls,hfv',he',Dl]at h
       cases hal:Aq (fun x=>closed (so E.pois.G (low st).fr x)) args with
       |none=>rw[hal]at h;cases h
       |some v=>rw[hal]at h;cases h
    have hnone':efL E.pois l (low st).fr=none:=by
     unfold efL at hnone⊢;cases ho:l.op<;>rw[ho]at hnone<;>try rfl
     ·rename_i f args;simp only at hnone⊢;split at hnone<;>(try cases hnone;done);rename_i he;have he':E.pois.ef f=none:=by show(E.ef f).map _=_;rw[he];rfl
      rw[he']
     ·rename_i f args;simp only at hnone⊢
      show(match so E.G st.fr f with
       | .c (.fn f caps)=>match E.pois.ef f with
        |some e=>some (e,args,caps)
        |none=>none
       |_=>none)=none
      split
      ·rename_i g caps hfv;rw[hfv]at hnone;simp only at hnone;split at hnone<;>(try cases hnone;done);rename_i he;have he':E.pois.ef g=none:=by show(E.ef g).map _=_;rw[he];rfl
       rw[he']
      ·rfl
    rw[M2 hnone',Hc hh,Ab]at h;obtain⟨p,h1,h2⟩:=h;obtain⟨k1,k2⟩:=M9 hd h2;refine⟨?_,k2⟩;rw[M2 hnone,Hc hh,Ab];exact⟨p,h1,k1⟩
theorem Fy{f:Key×EK→Bool}:∀{Γ:TC} {seen:List Key},(Df f Γ seen).all f=true
 | [],_=>rfl
 |e::Γ,seen=>by
  unfold Df
  cases seen.contains e.1 with
  |true=>exact Fy
  |false=>
   simp only
   cases hf:f e with
   |true=>simp only[List.all_cons,hf,Bool.true_and];exact Fy
   |false=>exact Fy
theorem Ia{N:Nat}(h:Ch (.o N)=true):N<As:=by
 simp only[Ch,Bool.not_eq_true']at h;exact Nat.lt_of_not_le fun hh=>by rw[Nat.ble_eq_true_of_le hh]at h;cases h
theorem Ug{N j:Nat}(h:Ch (.c N j)=true):N<As:=Ia h
theorem LI{N:Nat}(h:Ch (.o N)=false):As≤N:=by
 simp only[Ch,Bool.not_eq_false']at h;exact Ah h
section
variable {Γ:TC} {ρ:HS Γ} {st:St}
theorem Rep.low(h:Rep Γ ρ st)(hk:(Γ.all fun e=>Ch e.1)=true):Rep Γ ρ (WB.low st):=by
 refine⟨h.s,fun id q hq=> ?_⟩;have hid:=Ia (BW (pr:=fun e=>Ch e.1) hk (Bx hq));have e:(WB.low st).ob id=st.ob id:=by show(if As≤id then Ob.none else st.ob id)=_;rw[if_neg (by omega)]
 rw[e];exact h.o id q hq
theorem RS.clean{k:EK}{x:DK k}{sv:SV}(h:RS k x sv)(hn:∀id,k.refs=some id→id<As):RS k x (C9 sv):=by
 have key:∀(id:Nat) (s:SV),s.ref=some id→id<As→C9 s=s:=fun id s hs hid=>by
  unfold C9;rw[hs];simp only;rw[if_neg (by omega)]
 have keyc:∀s:SV,s.ref=none→C9 s=s:=fun s hs=>by unfold C9;rw[hs]
 induction k
 case v t=>obtain⟨c,rfl,hc⟩:=h;exact⟨c,rfl,hc⟩
 case opt k ih=>
  unfold RS at h⊢
  cases x with
  |none=>simp only at h;subst h;rfl
  |some y=>exact ih h hn
 case rp ex r=>obtain⟨cs,rest,rfl,hc⟩:=h;exact⟨cs,rest,rfl,hc⟩
 case undef=>trivial
 case ptr id o=>unfold RS at h;subst h;exact key id _ rfl (hn id rfl)
 case eptr id s o=>unfold RS at h;subst h;exact key id _ rfl (hn id rfl)
 case aptr id n o=>obtain⟨h,hi⟩:=h;subst h;exact⟨key id _ rfl (hn id rfl),hi⟩
 case own id=>unfold RS at h;subst h;exact key id _ rfl (hn id rfl)
 case mp id=>unfold RS at h;subst h;exact key id _ rfl (hn id rfl)
 case iter id=>unfold RS at h;subst h;exact key id _ rfl (hn id rfl)
 case ent id k v=>
  obtain⟨ck,cv,rfl,h1,h2⟩:=h;exact⟨ck,cv,key id _ rfl (hn id rfl),h1,h2⟩
 case stamp id k=>
  obtain⟨ck,rfl,h1⟩:=h;exact⟨ck,key id _ rfl (hn id rfl),h1⟩
 all_goals exact h
theorem JB{p:Key}{k:EK}(h:EB (p,k)=true):Ch p=true∧∀id,k.refs=some id→id<As:=by
 simp only[EB,Af]at h;refine⟨h.1,fun id hid=> ?_⟩;have h2:=h.2;rw[hid]at h2;exact Ia h2
theorem Rep.lowC(h:Rep Γ ρ st)(hk:Γ.all EB=true):Rep Γ ρ (WB.low (CK st)):=by
 refine⟨fun i q hq=>RS.clean (h.s i q hq) (JB (BW hk (Bx hq))).2,fun id q hq=> ?_⟩;have hid:=Ia (JB (BW hk (Bx hq))).1
 have e:(WB.low (CK st)).ob id=EZ (st.ob id):=by
  show(if As≤id then Ob.none else(if As≤id then st.ob id else EZ (st.ob id)))=_;rw[if_neg (by omega),if_neg (by omega)]
 rw[e];have hob:=h.o id q hq;obtain⟨k,f'⟩:=q;simp only at hob⊢;cases k<;>try exact hob
 ·obtain⟨cs,h7,h8,h9⟩:=hob;rw[h7];refine⟨cs.map C9,rfl,by simp[h8],fun j q' hj hq'=> ?_⟩;obtain⟨sv,g4,g5⟩:=h9 j _ hj hq';exact⟨C9 sv,by simp[g4],RS.clean g5 (JB (BW hk (Bx hq'))).2⟩
 all_goals first
  |(obtain⟨es,h7,h8⟩:=hob;rw[h7];exact⟨es,rfl,h8⟩)
  |(obtain⟨z,ks,vs,h7,h8⟩:=hob;rw[h7];exact⟨z,ks,vs,rfl,h8⟩)
  |(unfold RO at hob;rw[hob];rfl)
theorem Rep.highC(h:Rep Γ ρ st)(hk:Γ.all DB=true){st':St}(hob:∀i,As≤i→st'.ob i=st.ob i):Rep Γ ρ st':=by
 refine⟨fun i q hq=> ?_,fun id q hq=> ?_⟩
 ·have:=BW hk (Bx hq);cases this
 ·have hid:Ch (.o id)=false:=by simpa[DB]using BW hk (Bx hq)
  rw[hob id (LI hid)];exact h.o id q hq
theorem Rep.comb{Θ:TC}{θ:HS Θ}(hΘ:Rep Θ θ st)(h:Rep Γ ρ (WB.low st))(hk:(Γ.all fun e=>Ch e.1)=true)(hk':Θ.all DB=true):Rep (Θ++Γ) (Ce Θ θ ρ) st:=by
 refine⟨fun i q hq=> ?_,fun id q hq=> ?_⟩
 ·rcases Dp hq with⟨_,f,hf,e⟩|⟨_,f,hf,e⟩
  ·have:=BW hk' (Bx hf);cases this
  ·rw[e];exact h.s i _ hf
 ·rcases Dp hq with⟨h1,f,hf,e⟩|⟨h1,f,hf,e⟩
  ·rw[e];have hid:Ch (.o id)=false:=by simpa[DB]using BW hk' (Bx hf)
   have r:=hΘ.o id _ hf;obtain⟨k,f'⟩:=q;cases k<;>try exact r
   obtain⟨cs,e1,hl,hc⟩:=r;refine⟨cs,e1,hl,fun j q' hj hq'=> ?_⟩;rcases Dp hq' with⟨_,f2,hf2,e2⟩|⟨_,f2,hf2,e2⟩
   ·rw[e2];exact hc j _ hj hf2
   ·have:Ch (.c id j)=true:=BW (pr:=fun e=>Ch e.1) hk (Bx hf2);have:=Ug this;have:=LI hid;omega
  ·rw[e];have hid:=Ia (BW (pr:=fun e=>Ch e.1) hk (Bx hf));have e0:(WB.low st).ob id=st.ob id:=by show(if As≤id then Ob.none else st.ob id)=_;rw[if_neg (by omega)]
   have r:=h.o id _ hf;rw[e0]at r;obtain⟨k,f'⟩:=q;cases k<;>try exact r
   obtain⟨cs,e1,hl,hc⟩:=r;refine⟨cs,e1,hl,fun j q' hj hq'=> ?_⟩;rcases Dp hq' with⟨_,f2,hf2,e2⟩|⟨_,f2,hf2,e2⟩
   ·have hc':Ch (.c id j)=false:=by simpa[DB]using BW hk' (Bx hf2)
    have:=LI (N:=id) hc';omega
   ·rw[e2];exact hc j _ hj hf2
end
theorem SB{X:TP}{E:Env}(hT:TOk X E)(hF:BK X E){Γ Θ:TC}{ρ:HS Γ}{θ:HS Θ}{st:St}(hr:Rep Γ ρ (low st))(hΘ:Rep Θ θ st)(hh:Θ.all DB=true)(rd:Nat→Ob){l:SL}{o:OpD (Θ++Γ)}(h:efT X Γ Θ l=some o){b:o.B}(hb:o.d.val (Ce Θ θ ρ)=some b):
  ∃st',B6 E rd l st=some st'∧Rep o.Γ' (o.up (Ce Θ θ ρ) b) st':=by
 unfold efT at h;split at h<;>(try cases h;done);split at h<;>(try cases h;done);rename_i hk;exact P5 hT hF (Rep.comb hΘ hr hk hh) rd h hb
theorem Lo{X:TP}{E:Env}(hT:TOk X E)(hF:BK X E){A:Type}{D:List Nat}:∀{ls:List SL} {Γ Θ:TC} {q:Nu A Γ Θ} {ρ:HS Γ} {θ:HS Θ} {st:St} {K:HS q.Γ'→HS q.Θ'→Option A} {r:A},
  G1 A X D ls Γ Θ=some q→Rep Γ ρ (low st)→Rep Θ θ st→Θ.all DB=true→q.run ρ θ K=some r→∃st',Fi E.named D ls st=some st'∧∃ρ' θ',Rep q.Γ' ρ' (low st')∧Rep q.Θ' θ' st'∧q.Θ'.all DB=true∧K ρ' θ'=some r
 | [],Γ,Θ,q,ρ,θ,st,K,r,h,hr,hΘ,hh,hk=>by
  simp only[G1,Ac]at h;subst h;exact⟨st,rfl,ρ,θ,hr,hΘ,hh,hk⟩
 |l::ls,Γ,Θ,q,ρ,θ,st,K,r,h,hr,hΘ,hh,hk=>by
  simp only[G1]at h;split at h
  ·rename_i o ho;split at h<;>(try cases h;done);rename_i g f hg hf;split at h<;>(try cases h;done);rename_i p hp;cases h;have hk':o.d.app (Ce Θ θ ρ) (fun b=>p.run (g (o.up (Ce Θ θ ρ) b)) (f (o.up (Ce Θ θ ρ) b)) K)=some r:=hk;obtain⟨b,h1,h2⟩:=Dyn.app_some hk';obtain⟨st1,h3,h4⟩:=SB hT.named hF.named hr hΘ hh (AQ (some (hid l.op D)) (BM st.ob)) ho h1
   have hlow:((Df EB o.Γ' []).all fun e=>Ch e.1)=true:=by
    have:=Fy (f:=EB) (Γ:=o.Γ') (seen:= []);rw[List.all_eq_true]at this⊢;intro e he;exact(JB (p:=e.1) (k:=e.2) (this e he)).1
   obtain⟨st2,h5,h6⟩:=Lo hT hF hp (Rep.low (D3 hg h4) hlow) (D3 hf h4) Fy h2;exact⟨st2,by simp only[Fi,C1,h3,Option.bind_some];exact h5,h6⟩
  ·split at h<;>(try cases h;done);rename_i hl;split at h<;>(try cases h;done);rename_i o ho;split at h<;>(try cases h;done);rename_i p hp;cases h;have hk':o.d.app ρ (fun b=>p.run (o.up ρ b) θ K)=some r:=hk;obtain⟨b,h1,h2⟩:=Dyn.app_some hk'
   obtain⟨t,h3,h4⟩:=P6 hT.named.pois hr (rd:=AQ (some (hid l.op D)) (BM st.ob)) (fun id hid'=>by
    show(if(hid l.op D).contains id then Ob.none else BM st.ob id)=_
    rw[hid'];rfl) ho h1
   obtain⟨k1,k2⟩:=UK hl h3;have hΘ':Rep Θ θ (merge t st):=hΘ.highC hh fun i hi=>by show(if As≤i then st.ob i else t.ob i)=_;rw[if_pos hi]
   rw[←k2]at h4;obtain⟨st2,h5,h6⟩:=Lo hT hF hp h4 hΘ' hh h2;exact⟨st2,by simp only[Fi,k1,Option.bind_some];exact h5,h6⟩
theorem Sp{X:TP}{E:Env}(hT:TOk X E)(hF:BK X E){A:Type}{D:List Nat}{ls:List SL}{Γ:TC}{q:LsD A Γ}{ρ:HS Γ}{st:St}{K:HS q.Γ'→Option A}{r:A}(h:Lp A X D ls Γ=some q)(hr:Rep Γ ρ st)(hk:q.run ρ K=some r):
  ∃st',HJ E D ls st=some st'∧∃ρ',Rep q.Γ' ρ' st'∧K ρ'=some r:=by
 unfold Lp at h;split at h<;>(try cases h;done);rename_i g f hg hf;split at h<;>(try cases h;done);rename_i p hp;split at h<;>(try cases h;done);rename_i hall;cases h;have hr0:=hr.kill D;have h1:Rep _ (g (B7 D ρ)) (low (CK (WB.kill D st))):=Rep.lowC (D3 hg hr0) Fy;have h2:Rep _ (f (B7 D ρ)) (CK (WB.kill D st)):=Rep.highC (D3 hf hr0) Fy fun i hi=>by show(if As≤i then _ else _)=_;rw[if_pos hi]
 obtain⟨st',h3,ρ',θ',h4,h5,h6,h7⟩:=Lo hT hF hp h1 h2 Fy hk;exact⟨st',h3,_,Rep.comb h5 h4 hall h6,h7⟩
theorem PX{le:DM}{E:Env}{D:List Nat}{ls:List SL}{Q:Ex→St→Prop}{st st':St}(h:C2 E true D ls st=some st'∨HJ E D ls st=some st')(hq:Q .normal st'):C6 le E (.regE D ls) Q st:=⟨st,Aw.refl st,st',h,hq⟩
theorem Oj{X:TP}{E:Env}(hT:TOk X E)(hF:BK X E){A:Type}{e:Bool}{D:List Nat}{ls:List SL}{Γ:TC}{q:LsD A Γ}{ρ:HS Γ}{st:St}{K:HS q.Γ'→Option A}{r:A}(h:Lr A X e D ls Γ=some q)(hr:Rep Γ ρ st)(hk:q.run ρ K=some r):
  ∃st',(C2 E true D ls st=some st'∨HJ E D ls st=some st')∧∃ρ',Rep q.Γ' ρ' st'∧K ρ'=some r:=by
 cases e with
 |true=>
  obtain⟨st',h1,h2⟩:=Sp hT hF h hr hk;exact⟨st',.inr h1,h2⟩
 |false=>
  obtain⟨st',h1,h2⟩:=Lq hT hF h hr hk;exact⟨st',.inl h1,h2⟩
theorem Sq(hT:TOk X E)(hF:BK X E){A:Type}{Q:Ex→St→Prop}:∀{c:AC} {Γ:TC} {q:LsD A Γ} {ρ:HS Γ} {st:St} {K:HS q.Γ'→Option A} {r:A},Ff A X c Γ=some q→Rep Γ ρ st→q.run ρ K=some r→
  (∀st' ρ',Rep q.Γ' ρ' st'→K ρ'=some r→Q .normal st')→C6 (E9 X.Θ) E (BC c) Q st:=by
 intro c
 induction c generalizing Q with
 |skip=>
  intro Γ q ρ st K r h hr hk hQ;simp only[Ff,Ac]at h;subst h;exact⟨st,Aw.refl st,hQ _ _ hr hk⟩
 |reg draw D ls=>
  intro Γ q ρ st K r h hr hk hQ;obtain⟨st',h1,ρ',h2,h3⟩:=Lq hT hF (K:=K) h hr hk;exact PW h1 (hQ _ _ h2 h3)
 |rg D gs=>
  intro Γ q ρ st K r h hr hk hQ;exact Oi hT hF (K:=K) h hr hk hQ
 |regE e D ls=>
  intro Γ q ρ st K r h hr hk hQ;obtain⟨st',h1,ρ',h2,h3⟩:=Oj hT hF (K:=K) h hr hk;exact PX h1 (hQ _ _ h2 h3)
 |sq a b iha ihb=>
  intro Γ q ρ st K r h hr hk hQ;simp only[Ff]at h;split at h<;>(try cases h;done);rename_i p hp;split at h<;>(try cases h;done);rename_i p' hp';cases h;exact⟨st,Aw.refl st,iha hp hr hk fun st' ρ' h1 h2=>ihb hp' h1 h2 hQ⟩
 |gh g c ih=>
  intro Γ q ρ st K r h hr hk hQ;simp only[Ff]at h;split at h<;>(try cases h;done);rename_i p hp;split at h<;>(try cases h;done);rename_i p' hp';cases h;obtain⟨st',h1,h2⟩:=LG hp hr;exact PY h1 (ih hp' h2 hk hQ)
 |_=>intro Γ q ρ st K r h;cases h
theorem MC{Γ:TC}{ρ:HS Γ}{st:St}(hr:Rep Γ ρ st){x:B5}{q:Σ t:Ty,Dyn (HS Γ) (D t)}{y:D q.1}(h:GV X Γ x=some q)(hy:q.2.val ρ=some y):∃c,Ea st x=some c∧Can q.1 y [c]:=by
 cases x with
 |tmp t=>
  simp only[GV]at h;split at h<;>(try cases h;done);rename_i p hp;cases h;obtain⟨c,h1,h2,_⟩:=Ke (msk:= []) (rd:=st.ob) (G:=X.G) (fl:=p.1) (q:=p.2) hp hr (fun _ _=>rfl) hy;exact⟨c,h1,h2⟩
 |cell a sz=>
  simp only[GV]at h;split at h<;>(try cases h;done);rename_i k hk;split at h<;>(try cases h;done)
  ·rename_i t d hd;cases h;obtain⟨sv,h1,c,h2,h3⟩:=Mb (msk:= []) (rd:=st.ob) (sv:=deref st.ob (so X.G st.fr (.t a))) hr (fun _ _=>rfl) hd hy (fun x hx=>Jb hr (fun _ _=>rfl) (fun x hx=>Bo hk hr hx) hx (Ma hd));subst h2;refine⟨c, ?_,h3⟩;have h1':Bs st.ob sz (deref st.ob (st.fr a))=some (.c c):=h1;simp[Ea,h1',BU]
  ·rename_i id f hd;split at h<;>(try cases h;done);rename_i e size t xs ho;cases h;cases hy;obtain⟨sv,h1,h2⟩:=Mb (msk:= []) (rd:=st.ob) (sv:=deref st.ob (so X.G st.fr (.t a))) (y:=f ρ) hr (fun _ _=>rfl) hd rfl (fun x hx=>Jb hr (fun _ _=>rfl) (fun x hx=>Bo hk hr hx) hx (Ma hd));have h2':sv=.osl id:=h2;subst h2';obtain⟨es,h3,h4⟩:=hr.o id _ ho;refine⟨.sl none es, ?_,by unfold Can;exact⟨_,_,rfl,h4⟩⟩;have h1':Bs st.ob sz (deref st.ob (st.fr a))=some (.osl id):=h1;simp[Ea,h1',BU,h3]
theorem MB{Γ:TC}{ρ:HS Γ}{st:St}(hr:Rep Γ ρ st):∀{xs:List B5} {q:Σ t:Ty,Dyn (HS Γ) (D t)} {y:D q.1},GU X Γ xs=some q→q.2.val ρ=some y→∃l,Aq (Ea st) xs=some l∧Can q.1 y l
 | [],q,y,h,hy=>by
  simp only[GU,Ac]at h;subst h;exact⟨[],rfl,by unfold Can;rfl⟩
 | [x],q,y,h,hy=>by
  simp only[GU]at h;split at h<;>(try cases h;done);rename_i p hp;cases h;obtain⟨c,h1,h2⟩:=MC hr hp hy;exact⟨[c],by simp[Aq,h1],by unfold Can;exact⟨c,rfl,h2⟩⟩
 |x::z::xs,q,y,h,hy=>by
  simp only[GU]at h;split at h<;>(try cases h;done);rename_i p p' hp hp';cases h;obtain⟨g1,g2⟩:=Dyn.both_val hy;obtain⟨c,h1,h2⟩:=MC hr hp g1;obtain⟨l,h3,h4⟩:=MB hr hp' g2;refine⟨c::l, ?_,by unfold Can;exact⟨c,l,rfl,h2,h4⟩⟩;have e:Aq (Ea st) (x::z::xs)=(Ea st x).bind fun b=>(Aq (Ea st) (z::xs)).map fun bs=>b::bs:=rfl;rw[e,h1,h3];rfl
theorem UZ{Γ:TC}{ρ:HS Γ}{st:St}(hr:Rep Γ ρ st){xs:List B5}{q:Σ t:Ty,Dyn (HS Γ) (D t)}{y:D q.1}(h:Ki X Γ xs=some q)(hy:q.2.val ρ=some y):∃c,Du st xs=some c∧Can q.1 y [c]:=by
 match xs,h with
 | [x],h=>
  obtain⟨c,h1,h2⟩:=MC hr h hy;exact⟨c,by simp[Du,Aq,h1,GQ],h2⟩
 | [],h=>
  simp only[Ki]at h;split at h<;>(try cases h;done);rename_i p hp;cases h;obtain⟨l,h1,h2⟩:=MB hr hp hy;simp only[Aq,Ac]at h1;subst h1;exact⟨.tup [],rfl,by unfold Can;exact⟨[],rfl,h2⟩⟩
 |x::z::xs,h=>
  simp only[Ki]at h;split at h<;>(try cases h;done);rename_i p hp;cases h;obtain⟨l,h1,h2⟩:=MB hr hp hy;have hlen:=DO h1;refine⟨.tup l, ?_,by unfold Can;exact⟨l,rfl,h2⟩⟩;simp only[Du,h1,Option.map_some]
  match l,hlen with
  |c::d::l,_=>rfl
theorem OP{R A B:Type}{e:Nat×TC}{ys:XC}{rt:Bool}{f:Eh R (e::ys) rt→B}{ρ:HS e.2}{b:B}{ke:KE A (e::ys)}{kr:R→Option A}{r:A}(h:(keX (e::ys) rt f).1 ρ=some b)
  (hk:∀o,f o=b→elX (e::ys) rt ke kr o=some r):ke.1 ρ=some r:=by
 cases ys with
 |nil=>
  cases rt with
  |false=>exact hk ρ (Option.some.inj h)
  |true=>exact hk (.inl ρ) (Option.some.inj h)
 |cons e' ys=>exact hk (.inl ρ) (Option.some.inj h)
theorem LP{R A B:Type}:∀{ys:XC} {rt:Bool} {f:Eh R ys rt→B} {i:Nat} {Γi:TC} {s:KE B ys→HS Γi→Option B} {ρ:HS Γi} {b:B} {ke:KE A ys} {kr:R→Option A} {r:A},Do B ys i=some ⟨Γi,s⟩→s (keX ys rt f) ρ=some b→
  (∀o,f o=b→elX ys rt ke kr o=some r)→∃s',Do A ys i=some ⟨Γi,s'⟩∧s' ke ρ=some r
 | [],rt,f,i,Γi,s,ρ,b,ke,kr,r,h,_,_=>by cases h
 |e::ys,rt,f,i,Γi,s,ρ,b,ke,kr,r,h,hs,hk=>by
  simp only[Do]at h⊢;split at h
  ·rename_i hi;cases h;rw[if_pos hi];exact⟨_,rfl,OP hs hk⟩
  ·rename_i hi;rw[if_neg hi];split at h<;>(try cases h;done);rename_i q hq;cases h
   cases ys with
   |nil=>cases hq
   |cons e' ys=>
    obtain⟨s',h1,h2⟩:=LP (A:=A) (f:=fun o=>f (.inr o)) (ke:=ke.2) (kr:=kr) (r:=r) hq hs (fun o ho=>hk (.inr o) ho);rw[h1];exact⟨_,rfl,h2⟩
theorem TJ{R A B:Type}{e:Nat×TC}{ys:XC}{rt:Bool}{f:Eh R (e::ys) rt→B}{i:Nat}{Γi:TC}{s:KE B ys→HS Γi→Option B}{ρ:HS Γi}{b:B}{ke:KE A (e::ys)}{kr:R→Option A}{r:A}(h:Do B ys i=some ⟨Γi,s⟩)(hs:s (keX (e::ys) rt f).2 ρ=some b)
  (hk:∀o,f o=b→elX (e::ys) rt ke kr o=some r):∃s',Do A ys i=some ⟨Γi,s'⟩∧s' ke.2 ρ=some r:=by
 cases ys with
 |nil=>cases h
 |cons e' ys=>exact LP (A:=A) (f:=fun o=>f (.inr o)) (ke:=ke.2) (kr:=kr) (r:=r) h hs (fun o ho=>hk (.inr o) ho)
theorem ME{R A B:Type}:∀{ys:XC} {rt:Bool} {f:Eh R ys rt→B} {v:R} {b:B} {ke:KE A ys} {kr:R→Option A} {r:A},rtX ys rt f v=some b→(∀o,f o=b→elX ys rt ke kr o=some r)→kr v=some r
 | [],true,f,v,b,ke,kr,r,h,hk=>hk v (Option.some.inj h)
 | [],false,f,v,b,ke,kr,r,h,hk=>by cases h
 | [e],false,f,v,b,ke,kr,r,h,hk=>by cases h
 | [e],true,f,v,b,ke,kr,r,h,hk=>hk (.inr v) (Option.some.inj h)
 |e::e'::ys,rt,f,v,b,ke,kr,r,h,hk=>ME (f:=fun o=>f (.inr o)) (ke:=ke.2) h (fun o ho=>hk (.inr o) ho)
theorem ML{A:Type}{xs:XC}:∀{ys:XC} {g:KE A xs→KE A ys} {i:Nat} {Γi:TC} {s:KE A ys→HS Γi→Option A} {ke:KE A xs} {ρ:HS Γi} {r:A},Iy A xs ys=some g→Do A ys i=some ⟨Γi,s⟩→s (g ke) ρ=some r→∃s',Do A xs i=some ⟨Γi,s'⟩∧s' ke ρ=some r
 | [],g,i,Γi,s,ke,ρ,r,_,h,_=>by cases h
 |e::ys,g,i,Γi,s,ke,ρ,r,hg,h,hs=>by
  simp only[Iy]at hg;split at hg<;>(try cases hg;done);rename_i q g' hq hg';split at hg<;>(try cases hg;done);rename_i he;cases hg;obtain⟨Γq,f⟩:=q;simp only at he;subst he;simp only[Do]at h;split at h
  ·rename_i hi;subst hi;cases h;exact⟨f,hq,hs⟩
  ·split at h<;>(try cases h;done);rename_i q' hq';cases h;exact ML hg' hq' hs
def Ew(st:St)(rs:List B5):(Rt:Ty)→D Rt→Prop
 | .nw e size t,ys=>∃es,Ta rs (.arr e size es) .ret st∧Ap (fun x c=>Can t x [c]) ys es
 |Rt,v=>∃c,Du st rs=some c∧Can Rt v [c]
theorem Ew.val{st:St}{rs:List B5}{Rt:Ty}{v:D Rt}{c:CV}(h:Du st rs=some c)(hc:Can Rt v [c]):Ew st rs Rt v:=by
 cases Rt<;>first|exact⟨c,h,hc⟩|(unfold Can at hc;exact hc.elim)
theorem Ew.of{st:St}{rs:List B5}{Rt:Ty}{v:D Rt}(hv:Rt.val=true)(h:Ew st rs Rt v):∃c,Du st rs=some c∧Can Rt v [c]:=by
 cases Rt<;>first|exact h|cases hv
theorem Va{Γ:TC}{rs:List B5}{Rt:Ty}{g:HS Γ→D Rt}{ρ:HS Γ}{st:St}(h:MD Γ rs Rt=some g)(hr:Rep Γ ρ st):Ew st rs Rt (g ρ):=by
 unfold MD at h;split at h<;>(try cases h;done);rename_i i e size t;split at h<;>(try cases h;done)
 ·rename_i id f hg;split at h<;>(try cases h;done);rename_i e' size' t' xs ho;split at h<;>(try cases h;done);rename_i ht;split at h<;>(try cases h;done);rename_i he;subst ht;obtain⟨rfl,rfl⟩:=he;cases h;have h1:st.fr i=.osl id:=hr.s i _ hg;obtain⟨es,h2,h3⟩:=hr.o id _ ho;exact⟨es,⟨i,rfl,.inl ⟨id,.inl h1,h2,rfl⟩⟩,h3⟩
 ·rename_i f hg;cases h;obtain⟨c,e1,e2⟩:=hr.s i _ hg;unfold Can at e2;cases e2;exact⟨[],⟨i,rfl,.inr ⟨e1,_,_,rfl⟩⟩,rfl⟩
theorem UR{rs:List B5}{Rt:Ty}{Γ:TC}{q:RdD Γ (D Rt)}{ρ:HS Γ}{st:St}(h:rdT X rs Rt Γ=some q)(hr:Rep Γ ρ st){v:q.B}(hv:q.d.val ρ=some v):Ew st rs Rt (q.up ρ v):=by
 unfold rdT at h;split at h
 ·rename_i g hg;cases h;exact Va hg hr
 ·split at h<;>(try cases h;done);rename_i q' hq;split at h<;>(try cases h;done);rename_i g hg;cases h;obtain⟨c,h3,h4⟩:=UZ hr hq hv;exact Ew.val h3 (BV _ _ hg h4)
def Rp{A:Type}{xs:XC}{Γn:TC}{R:Type}(RP:St→R→Prop)(k:DKn A xs Γn R)(r:A):Ex→St→Prop
 | .normal,st=>∃ρ,Rep Γn ρ st∧k.n ρ=some r
 | .exit i,st=>∃Γi s ρ,Do A xs i=some ⟨Γi,s⟩∧Rep Γi ρ st∧s k.e ρ=some r
 | .ret,st=>∃v,RP st v∧k.r v=some r
theorem Sr(hT:TOk X E)(hF:BK X E){R:Type}{rd:(Γ:TC)→Option (RdD Γ R)}{RP:St→R→Prop}(hrd:∀{Γ:TC} {q:RdD Γ R} {ρ:HS Γ} {st:St},rd Γ=some q→Rep Γ ρ st→∀{v:q.B},q.d.val ρ=some v→RP st (q.up ρ v)):∀(c:AC) {A:Type} {xs:XC} {Γn Γ:TC} {d:HS Γ→DKn A xs Γn R→Option A} {ρ:HS Γ} {k:DKn A xs Γn R} {st:St} {r:A},
  den X R rd c A xs Γn Γ=some d→Rep Γ ρ st→d ρ k=some r→C6 (E9 X.Θ) E (BC c) (Rp RP k r) st:=by
 intro c
 induction c with
 |skip=>
  intro A xs Γn Γ d ρ k st r h hr hd;simp only[den]at h;split at h<;>(try cases h;done);rename_i f hf;cases h;exact⟨st,Aw.refl st,_,D3 hf hr,hd⟩
 |reg draw D ls=>
  intro A xs Γn Γ d ρ k st r h hr hd;simp only[den]at h;split at h<;>(try cases h;done);rename_i q hq;split at h<;>(try cases h;done);rename_i f hf;cases h;obtain⟨st',h1,ρ',h2,h3⟩:=Lq hT hF hq hr hd;exact PW h1 ⟨_,D3 hf h2,h3⟩
 |rg D gs=>
  intro A xs Γn Γ d ρ k st r h hr hd;simp only[den]at h;split at h<;>(try cases h;done);rename_i q hq;split at h<;>(try cases h;done);rename_i f hf;cases h;exact Oi hT hF hq hr hd fun st' ρ' h2 h3=>⟨_,D3 hf h2,h3⟩
 |regE e D ls=>
  intro A xs Γn Γ d ρ k st r h hr hd;simp only[den]at h;split at h<;>(try cases h;done);rename_i q hq;split at h<;>(try cases h;done);rename_i f hf;cases h;obtain⟨st',h1,ρ',h2,h3⟩:=Oj hT hF hq hr hd;exact PX h1 ⟨_,D3 hf h2,h3⟩
 |sq a b iha ihb=>
  intro A xs Γn Γ d ρ k st r h hr hd;simp only[den]at h;split at h<;>(try cases h;done);rename_i q hq;split at h<;>(try cases h;done);rename_i db hdb;cases h;exact⟨st,Aw.refl st,Sq hT hF hq hr hd fun st' ρ' h1 h2=>ihb hdb h1 h2⟩
 |seq Γm a b iha ihb=>
  intro A xs Γn Γ d ρ k st r h hr hd;simp only[den]at h;split at h<;>(try cases h;done);rename_i da db hda hdb;cases h;refine⟨st,Aw.refl st,Ee _ (fun e s hp=> ?_) (iha hda hr hd)⟩
  cases e with
  |normal=>
   obtain⟨ρ',h1,h2⟩:=hp;exact ihb hdb h1 h2
  |exit i=>exact hp
  |ret=>exact hp
 |join Γm ex rt a b iha ihb=>
  intro A xs Γn Γ d ρ k st r h hr hd;simp only[den]at h;split at h<;>(try cases h;done);rename_i ys hys;split at h<;>(try cases h;done);rename_i g da db hg hda hdb;cases h;obtain⟨o,h1,h2⟩:=Ab.1 hd;refine⟨st,Aw.refl st,Ee _ (fun e s hp=> ?_) (iha hda hr h1)⟩;have hk:∀o',o'=o→elX ((0,Γm)::ys) rt (fun ρm=>db ρm k,g k.e) k.r o'=some r:=fun o' ho=>ho▸h2
  cases e with
  |normal=>
   obtain⟨ρ',h3,h4⟩:=hp;exact ihb hdb h3 (OP (ke:=(fun ρm=>db ρm k,g k.e)) h4 hk)
  |exit i=>
   obtain⟨Γi,s',ρ',h3,h4,h5⟩:=hp;obtain⟨s2,h6,h7⟩:=TJ (A:=A) (ke:=(fun ρm=>db ρm k,g k.e)) h3 h5 hk;obtain⟨s3,h8,h9⟩:=ML hg h6 h7;exact⟨Γi,s3,ρ',h8,h4,h9⟩
  |ret=>
   obtain⟨v,h3,h5⟩:=hp;exact⟨v,h3,ME (ke:=(fun ρm=>db ρm k,g k.e)) h5 hk⟩
 |cond c x y ihx ihy=>
  intro A xs Γn Γ d ρ k st r h hr hd;simp only[den]at h;split at h<;>(try cases h;done);rename_i e dx dy he hdx hdy;cases h;obtain⟨b,h1,h2⟩:=Dyn.app_some hd;obtain⟨cv,e1,e2⟩:=A4 (G:=X.G) he hr h1;unfold Can at e2;cases e2;refine⟨st,Aw.refl st,b,by rw[hT.G];exact e1,fun hb=> ?_,fun hb=> ?_⟩
  ·rw[if_pos hb]at h2;exact ihx hdx hr h2
  ·rw[if_neg (by simp[hb])]at h2;exact ihy hdy hr h2
 |block id b ih=>
  intro A xs Γn Γ d ρ k st r h hr hd;simp only[den]at h;split at h<;>(try cases h;done);rename_i db hdb;cases h;refine⟨st,Aw.refl st,Ee _ (fun e s hp=> ?_) (ih hdb hr hd)⟩
  cases e with
  |normal=>exact hp
  |exit i=>
   obtain⟨Γi,s',ρ',h3,h4,h5⟩:=hp;simp only[Do]at h3;by_cases hi:i=id
   ·subst hi;simp only[if_true,Ac,Sigma.mk.injEq]at h3;obtain⟨rfl,h3⟩:=h3;cases eq_of_heq h3;simp only[if_true];exact⟨ρ',h4,h5⟩
   ·simp only[if_neg hi];rw[if_neg (fun e=>hi e.symm)]at h3;split at h3<;>(try cases h3;done);rename_i q hq;cases h3;exact⟨_,_,ρ',hq,h4,h5⟩
  |ret=>exact hp
 |loop Γh ex rt b ih=>
  intro A xs Γn Γ d ρ k st r h hr hd;simp only[den]at h;split at h<;>(try cases h;done);rename_i ys hys;split at h<;>(try cases h;done);rename_i g f db hg hf hdb;cases h;obtain⟨o,h1,h2⟩:=Ab.1 hd;obtain⟨n,hn⟩:=GB.1 h1;refine⟨st,Aw.refl st,fun m s=>∃ρ,Rep Γh ρ s∧Da (fun ρ=>db ρ ⟨fun ρ'=>some (.inl ρ'),keX ys rt Sum.inr,rtX ys rt Sum.inr⟩) m ρ=some o,⟨n,f ρ,D3 hf hr,hn⟩,fun m s hR=> ?_⟩;obtain⟨ρ1,hr1,hi⟩:=hR
  cases m with
  |zero=>cases hi
  |succ m=>
   simp only[Da]at hi;obtain⟨w,h3,h4⟩:=Ab.1 hi;refine Ee _ (fun e s' hp=> ?_) (ih hdb hr1 h3)
   have hk:∀o',Sum.inr o'=w→elX ys rt (g k.e) k.r o'=some r:=fun o' ho=>by
    subst ho;simp only[Ac]at h4;rw[h4];exact h2
   cases e with
   |normal=>
    obtain⟨ρ',h5,h6⟩:=hp;cases h6;exact⟨m,by omega,ρ',h5,h4⟩
   |exit i=>
    obtain⟨Γi,s2,ρ',h5,h6,h7⟩:=hp;obtain⟨s3,h8,h9⟩:=LP (A:=A) (ke:=g k.e) h5 h7 hk;obtain⟨s4,h10,h11⟩:=ML hg h8 h9;exact⟨Γi,s4,ρ',h10,h6,h11⟩
   |ret=>
    obtain⟨v,h5,h7⟩:=hp;exact⟨v,h5,ME (ke:=g k.e) h7 hk⟩
 |exit i=>
  intro A xs Γn Γ d ρ k st r h hr hd;simp only[den]at h;split at h<;>(try cases h;done);rename_i q hq;split at h<;>(try cases h;done);rename_i f hf;cases h;exact⟨st,Aw.refl st,q.1,q.2,_,hq,D3 hf hr,hd⟩
 |ret=>
  intro A xs Γn Γ d ρ k st r h hr hd;simp only[den]at h;split at h<;>(try cases h;done);rename_i q hq;cases h;obtain⟨v,h1,h2⟩:=Dyn.app_some hd;exact⟨st,Aw.refl st,_,hrd hq hr h1,h2⟩
 |raw c=>
  intro A xs Γn Γ d ρ k st r h hr hd;simp only[den,Ac]at h;subst h;cases hd
 |gh g c ih=>
  intro A xs Γn Γ d ρ k st r h hr hd;simp only[den]at h;split at h<;>(try cases h;done);rename_i p hp;split at h<;>(try cases h;done);rename_i dc hdc;cases h;obtain⟨st',h1,h2⟩:=LG hp hr;exact PY h1 (ih hdc h2 hd)
end
structure AF where
 n:Nat
 code:AC
 res:List B5
@[reducible] def Ge:Ty→Nat→TC
 | .one t,i=> [(.s i,.v t)]
 | .cons t r,i=>(.s i,.v t)::Ge r (i+1)
 |_,_=> []
def I3:(a:Ty)→(i:Nat)→D a→HS (Ge a i)
 | .one _,_,x=>(x,())
 | .cons _ r,i,x=>(x.1,I3 r (i+1) x.2)
 | .int _,_,_| .bool,_,_| .str,_,_| .err,_,_| .clo _ _,_,_| .falt _ _ _,_,_| .nfn,_,_| .nam _,_,_| .bptr _,_,_| .nilp,_,_| .pt _,_,_| .nw _ _ _,_,_| .nsl,_,_| .nmap,_,_| .agg _,_,_| .tup _,_,_| .sl _,_,_| .map _ _,_,_| .nil,_,_=>()
theorem MS:∀{a:Ty} {i:Nat} {x:D a} {l:List CV} {p:Key} {q:Σ k:EK,HS (Ge a i)→DK k},Can a x l→get (Ge a i) p=some q→∃j c,p=.s (i+j)∧l[j]? =some c∧RS q.1 (q.2 (I3 a i x)) (.c c)
 | .one t,i,x,l,p,q,hc,hg=>by
  unfold Can at hc;obtain⟨c,rfl,hc⟩:=hc;by_cases hp:Key.s i=p
  ·subst hp;have hg':get ((Key.s i,EK.v t):: []) (Key.s i)=some q:=hg;rw[Ct]at hg';cases hg';exact⟨0,c,rfl,rfl,c,rfl,hc⟩
  ·obtain⟨f,hf,_⟩:=BP hp hg;cases hf
 | .cons t r,i,x,l,p,q,hc,hg=>by
  unfold Can at hc;obtain⟨c,l',rfl,h1,h2⟩:=hc;by_cases hp:Key.s i=p
  ·subst hp;have hg':get ((Key.s i,EK.v t)::Ge r (i+1)) (Key.s i)=some q:=hg;rw[Ct]at hg';cases hg';exact⟨0,c,rfl,rfl,c,rfl,h1⟩
  ·obtain⟨f,hf,hx⟩:=BP hp hg;obtain⟨j,c',h3,h4,h5⟩:=MS (i:=i+1) h2 hf;refine⟨j+1,c',by rw[h3];congr 1;omega,by simpa using h4, ?_⟩;have e:=hx (I3 (.cons t r) i x);rw[e];exact h5
 | .int _,_,_,_,_,_,_,hg=>by cases hg
 | .bool,_,_,_,_,_,_,hg=>by cases hg
 | .str,_,_,_,_,_,_,hg=>by cases hg
 | .err,_,_,_,_,_,_,hg=>by cases hg
 | .clo _ _,_,_,_,_,_,_,hg=>by cases hg
 | .falt _ _ _,_,_,_,_,_,_,hg=>by cases hg
 | .nfn,_,_,_,_,_,_,hg=>by cases hg
 | .nam _,_,_,_,_,_,_,hg=>by cases hg
 | .bptr _,_,_,_,_,_,_,hg=>by cases hg
 | .nilp,_,_,_,_,_,_,hg=>by cases hg
 | .pt _,_,_,_,_,_,_,hg=>by cases hg
 | .nw _ _ _,_,_,_,_,_,_,hg=>by cases hg
 | .nsl,_,_,_,_,_,_,hg=>by cases hg
 | .nmap,_,_,_,_,_,_,hg=>by cases hg
 | .agg _,_,_,_,_,_,_,hg=>by cases hg
 | .tup _,_,_,_,_,_,_,hg=>by cases hg
 | .sl _,_,_,_,_,_,_,hg=>by cases hg
 | .map _ _,_,_,_,_,_,_,hg=>by cases hg
 | .nil,_,_,_,_,_,_,hg=>by cases hg
theorem TF{a:Ty}{x:D a}{l:List CV}(hc:Can a x l):Rep (Ge a 0) (I3 a 0 x) (FQ l):=by
 refine⟨fun i q hq=> ?_,fun id q hq=> ?_⟩
 ·obtain⟨j,c,h1,h2,h3⟩:=MS hc hq;simp only[Nat.zero_add,Key.s.injEq]at h1;subst h1;simp only[FQ,h2];exact h3
 ·obtain⟨j,c,h1,_⟩:=MS hc hq;cases h1
def kN:(rs:List B5)→(Rt:Ty)→Option (D Rt)
 | [],.tup .nil=>some ()
 |_,_=>none
theorem TI{rs:List B5}{Rt:Ty}{y:D Rt}(h:kN rs Rt=some y)(st:St):∃c,Du st rs=some c∧Can Rt y [c]:=by
 unfold kN at h;split at h
 ·exact⟨.tup [],rfl,by unfold Can;exact⟨[],rfl,by unfold Can;rfl⟩⟩
 ·cases h
theorem AU.plain{w:World}{M:MM}{size:Nat}{t:Ty}:∀{ys:List (D t)} {es:List CV} {xs:List Value},Ap (fun x c=>Can t x [c]) ys es→AU w M size es xs→AU w M size (ys.map (enc t)) xs
 | [],es,xs,h,hr=>by unfold Ap at h;subst h;exact hr
 |y::ys,es,xs,h,hr=>by
  obtain⟨c,es',rfl,h1,h2⟩:=h;obtain⟨v,xs',e,g1,g2,g3⟩:=hr;exact⟨v,xs',e,g1,RelC.enc h1 g2,AU.plain h2 g3⟩
section
variable {P:Program} {E:Env} {w0:WL} {M0:MM} {n:Nat} {st:St} {a:Act} {w w':World} {z:Cz}
def UX(st:St):B5→Option CV
 | .tmp t=>closed (st.fr t)
 | .cell a sz=>(Bs st.ob sz (deref st.ob (st.fr a))).bind closed
def UY(st:St)(rs:List B5):Option CV:=(Aq (UX st) rs).map GQ
def Lz(rs:List B5)(t:Ty)(y:D t)(Θ:TC)(θ:HS Θ)(e:Ex)(st:St):Prop:=
 match e with
 | .exit _=>False
 |_=>∃c,UY st rs=some c∧Can t y [c]∧Rep Θ θ st
theorem ID.to{G:Nat→List CV}{f:FuncId}{l:List CV}{r:CV}{H':Nat→Ob}(h:ID P G f [] l (fun _=>.none) r H')(hH:∀id,H' id=.none):CallsTo P G f l (.val r):=by
 intro w M vs hM hG hL;have hLies:Hk P w M (z0 undef M.al) [] fun _=>.none:=⟨fun _=>trivial,fun _ _ h=>absurd rfl h,fun _ _ _ _ h=>absurd rfl h,fun _ _ _ h=>(by cases h),fun _ h=>absurd rfl h,rfl⟩;refine(h w M _ vs hM hG hL hLies).mono fun e w' ⟨v,z',he,⟨h1,h2,h3,h4,h5⟩,_,_,hal,hr⟩=> ?_;refine⟨v,he,⟨h1,h2,h3,h4,fun g hg=>h5 g hg fun⟨id,hh,_⟩=>hh rfl⟩, ?_⟩;have hk:Bp w' (Am M z' H') w' M:=⟨Nat.le_refl _,fun _ _ _=>rfl,fun _ _ hg=>.inl hg,hal.symm⟩;exact RelC.keep hk _ _ hr
end
section
variable {X:TP}
end
end WB
